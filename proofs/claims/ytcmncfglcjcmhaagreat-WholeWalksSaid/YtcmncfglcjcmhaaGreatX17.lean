/- Texts that belong together, joined: Text17. No conditions. -/
import Derived.Test.YtcmncfglcjcmhaaGreatX0
/- The typed texts of the functions, printed by a program; each proved to imply the call. -/
set_option linter.unusedVariables false
set_option maxRecDepth 100000
set_option maxHeartbeats 4000000
namespace Go.Proofs.YtcmncfglcjcmhaaGreat
open Go.Den

def F_split_check (v0_s : Option Addr) (v1_id : Int) (K : (Int × Value) → World → Prop) (w0 : World) : Prop :=
C_avl_Balanced v0_s v1_id (fun x1 w1 =>
nilIfcK x1.2 fun b2 =>
gd (!b2) (
K ((0 : Int), x1.2) w1) (
gd (!x1.1) (
K ((0 : Int), .iface t_api_Errno (.int .i64 (4 : Int))) w1) (
C_split_size v0_s v1_id (fun x3 w2 =>
K (x3.1, x3.2) w2) w1))) w0
theorem S_split_check (v0_s : Option Addr) (v1_id : Int) (K : (Int × Value) → World → Prop) (w0 : World) (h : F_split_check v0_s v1_id K w0) : C_split_check v0_s v1_id K w0 := by
  have e : denFn P [] Tryz.f90 #[.pointer v0_s, .int .i64 v1_id] (.tup (.pair (.int .i64) .iface)) K w0 = F_split_check v0_s v1_id K w0 := by kernel_rfl
  exact fn_sound mixed (f := 90) Tryz.func90 (by kernel_rfl) (e.mpr h)

def F_split_section (v0_s : Option Addr) (v1_id : Int) (v2_from : Int) (v3_n : Int) (K : (Int × Value) → World → Prop) (w0 : World) : Prop :=
gd (v3_n == (0 : Int)) (
K ((0 : Int), .nilIface) w0) (
LoopP (X := Int × Int × Unit) (v1_id, v2_from, ()) w0 fun next2 x1 w1 => ∀ _ : Env,
C_split_size v0_s x1.1 (fun x3 w2 =>
nilIfcK x3.2 fun b4 =>
gd (!b4) (
K ((0 : Int), x3.2) w2) (
gd (v3_n == x3.1) (
K (x1.1, .nilIface) w2) (
C_intern_Store_Rule v0_s x1.1 (fun x5 w3 =>
allocK (.cells #[.int .i64 (0 : Int), .int .u8 (0 : Int), .int .i64 (0 : Int), .int .i64 (0 : Int), .int .i64 (0 : Int)] t_api_Rule) w3 fun a6 w4 =>
stK w4 a6 (cells yapi_Rule x5.1) fun w5 =>
nilIfcK x5.2 fun b7 =>
gd (!b7) (
K ((0 : Int), x5.2) w5) (
∃ x8 : Int, At w5 (a6.add 2) (cells (.int .i64) x8) ∧
C_split_size v0_s x8 (fun x9 w6 =>
nilIfcK x9.2 fun b10 =>
gd (!b10) (
K ((0 : Int), x9.2) w6) (
arith .i64 (x1.2.1 + v3_n) fun n11 =>
gd (decide (n11 ≤ x9.1)) (
∃ x12 : Int, At w6 (a6.add 2) (cells (.int .i64) x12) ∧
next2 (x12, x1.2.1, ()) w6) (
gd (decide (x9.1 ≤ x1.2.1)) (
∃ x13 : Int, At w6 (a6.add 3) (cells (.int .i64) x13) ∧
arith .i64 (x1.2.1 - x9.1) fun n14 =>
next2 (x13, n14, ()) w6) (
∃ x15 : Int, At w6 (a6.add 2) (cells (.int .i64) x15) ∧
C_split_rest v0_s x15 x1.2.1 (fun x16 w7 =>
nilIfcK x16.2 fun b17 =>
gd (!b17) (
K ((0 : Int), x16.2) w7) (
∃ x18 : Int, At w7 (a6.add 3) (cells (.int .i64) x18) ∧
arith .i64 (x1.2.1 + v3_n) fun n19 =>
arith .i64 (n19 - x9.1) fun n20 =>
C_split_front v0_s x18 n20 (fun x21 w8 =>
nilIfcK x21.2 fun b22 =>
gd (!b22) (
K ((0 : Int), x21.2) w8) (
C_avl_Join v0_s x16.1 x21.1 (fun x23 w9 =>
K (x23.1, x23.2) w9) w8)) w7)) w6)))) w5)) w2))) w1)
theorem S_split_section (v0_s : Option Addr) (v1_id : Int) (v2_from : Int) (v3_n : Int) (K : (Int × Value) → World → Prop) (w0 : World) (h : F_split_section v0_s v1_id v2_from v3_n K w0) : C_split_section v0_s v1_id v2_from v3_n K w0 := by
  have e : denFn P [(1003, [(1, .int .i64), (2, .int .i64)])] Tryz.f91 #[.pointer v0_s, .int .i64 v1_id, .int .i64 v2_from, .int .i64 v3_n] (.tup (.pair (.int .i64) .iface)) K w0 = F_split_section v0_s v1_id v2_from v3_n K w0 := by kernel_rfl
  exact fn_sound mixed (f := 91) Tryz.func91 (by kernel_rfl) (e.mpr h)

def F_split_front (v0_s : Option Addr) (v1_id : Int) (v2_n : Int) (K : (Int × Value) → World → Prop) (w0 : World) : Prop :=
gd (v2_n == (0 : Int)) (
K ((0 : Int), .nilIface) w0) (
C_split_size v0_s v1_id (fun x1 w1 =>
nilIfcK x1.2 fun b2 =>
gd (!b2) (
K ((0 : Int), x1.2) w1) (
gd (v2_n == x1.1) (
K (v1_id, .nilIface) w1) (
C_intern_Store_Rule v0_s v1_id (fun x3 w2 =>
allocK (.cells #[.int .i64 (0 : Int), .int .u8 (0 : Int), .int .i64 (0 : Int), .int .i64 (0 : Int), .int .i64 (0 : Int)] t_api_Rule) w2 fun a4 w3 =>
stK w3 a4 (cells yapi_Rule x3.1) fun w4 =>
nilIfcK x3.2 fun b5 =>
gd (!b5) (
K ((0 : Int), x3.2) w4) (
∃ x6 : Int, At w4 (a4.add 2) (cells (.int .i64) x6) ∧
C_split_size v0_s x6 (fun x7 w5 =>
nilIfcK x7.2 fun b8 =>
gd (!b8) (
K ((0 : Int), x7.2) w5) (
gd (decide (v2_n ≤ x7.1)) (
∃ x9 : Int, At w5 (a4.add 2) (cells (.int .i64) x9) ∧
C_split_front v0_s x9 v2_n (fun x10 w6 =>
K (x10.1, x10.2) w6) w5) (
∃ x11 : Int, At w5 (a4.add 3) (cells (.int .i64) x11) ∧
arith .i64 (v2_n - x7.1) fun n12 =>
C_split_front v0_s x11 n12 (fun x13 w7 =>
nilIfcK x13.2 fun b14 =>
gd (!b14) (
K ((0 : Int), x13.2) w7) (
∃ x15 : Int, At w7 (a4.add 2) (cells (.int .i64) x15) ∧
C_avl_Join v0_s x15 x13.1 (fun x16 w8 =>
K (x16.1, x16.2) w8) w7)) w5))) w4)) w1))) w0)
theorem S_split_front (v0_s : Option Addr) (v1_id : Int) (v2_n : Int) (K : (Int × Value) → World → Prop) (w0 : World) (h : F_split_front v0_s v1_id v2_n K w0) : C_split_front v0_s v1_id v2_n K w0 := by
  have e : denFn P [] Tryz.f92 #[.pointer v0_s, .int .i64 v1_id, .int .i64 v2_n] (.tup (.pair (.int .i64) .iface)) K w0 = F_split_front v0_s v1_id v2_n K w0 := by kernel_rfl
  exact fn_sound mixed (f := 92) Tryz.func92 (by kernel_rfl) (e.mpr h)

def F_split_rest (v0_s : Option Addr) (v1_id : Int) (v2_from : Int) (K : (Int × Value) → World → Prop) (w0 : World) : Prop :=
gd (v2_from == (0 : Int)) (
K (v1_id, .nilIface) w0) (
C_split_size v0_s v1_id (fun x1 w1 =>
JoinP (X := Bool × Unit) (fun R3 =>
nilIfcK x1.2 fun b4 =>
gd (!b4) (
R3 (true, ()) w1) (
R3 (v2_from == x1.1, ()) w1)) (fun x2 w2 => ∀ _ : Env,
gd x2.1 (
K ((0 : Int), x1.2) w2) (
C_intern_Store_Rule v0_s v1_id (fun x5 w3 =>
allocK (.cells #[.int .i64 (0 : Int), .int .u8 (0 : Int), .int .i64 (0 : Int), .int .i64 (0 : Int), .int .i64 (0 : Int)] t_api_Rule) w3 fun a6 w4 =>
stK w4 a6 (cells yapi_Rule x5.1) fun w5 =>
nilIfcK x5.2 fun b7 =>
gd (!b7) (
K ((0 : Int), x5.2) w5) (
∃ x8 : Int, At w5 (a6.add 2) (cells (.int .i64) x8) ∧
C_split_size v0_s x8 (fun x9 w6 =>
nilIfcK x9.2 fun b10 =>
gd (!b10) (
K ((0 : Int), x9.2) w6) (
gd (decide (x9.1 ≤ v2_from)) (
∃ x11 : Int, At w6 (a6.add 3) (cells (.int .i64) x11) ∧
arith .i64 (v2_from - x9.1) fun n12 =>
C_split_rest v0_s x11 n12 (fun x13 w7 =>
K (x13.1, x13.2) w7) w6) (
∃ x14 : Int, At w6 (a6.add 2) (cells (.int .i64) x14) ∧
C_split_rest v0_s x14 v2_from (fun x15 w8 =>
nilIfcK x15.2 fun b16 =>
gd (!b16) (
K ((0 : Int), x15.2) w8) (
∃ x17 : Int, At w8 (a6.add 3) (cells (.int .i64) x17) ∧
C_avl_Join v0_s x15.1 x17 (fun x18 w9 =>
K (x18.1, x18.2) w9) w8)) w6))) w5)) w2))) w0)
theorem S_split_rest (v0_s : Option Addr) (v1_id : Int) (v2_from : Int) (K : (Int × Value) → World → Prop) (w0 : World) (h : F_split_rest v0_s v1_id v2_from K w0) : C_split_rest v0_s v1_id v2_from K w0 := by
  have e : denFn P [(5, [(28, .bool)])] Tryz.f93 #[.pointer v0_s, .int .i64 v1_id, .int .i64 v2_from] (.tup (.pair (.int .i64) .iface)) K w0 = F_split_rest v0_s v1_id v2_from K w0 := by kernel_rfl
  exact fn_sound mixed (f := 93) Tryz.func93 (by kernel_rfl) (e.mpr h)

def F_intern_Store_find (v0_s : Option Addr) (v1_r : yapi_Rule.T) (K : (Int × Value) → World → Prop) (w0 : World) : Prop :=
allocK (.cells (cells yapi_Rule v1_r).toArray t_api_Rule) w0 fun a1 w1 =>
drawK w1 fun w2 =>
nonNil v0_s fun p2 =>
∃ x3 : Option Nat, At w2 (p2.add 2) (cells .map x3) ∧
∃ x4 : yapi_Rule.T, At w2 a1 (cells yapi_Rule x4) ∧
∃ (x5 : Int) (b6 : Bool), Lk2 P t_map_api_Rule_api_ID (.int .i64) (.map x3) (val yapi_Rule x4) x5 b6 w2 ∧
gd b6 (
K (x5, .nilIface) w2) (
drawK w2 fun w3 =>
nonNil v0_s fun p7 =>
∃ x8 : Sl, At w3 (p7.add 1) (cells .slice x8) ∧
nonNil v0_s fun p9 =>
∃ x10 : Int, At w3 (p9.add 0) (cells (.int .i64) x10) ∧
gd (decide (x10 ≤ (x8.len : Int))) (
K ((0 : Int), .iface t_api_Errno (.int .i64 (3 : Int))) w3) (
K ((0 : Int), .nilIface) w3))
theorem S_intern_Store_find (v0_s : Option Addr) (v1_r : yapi_Rule.T) (K : (Int × Value) → World → Prop) (w0 : World) (h : F_intern_Store_find v0_s v1_r K w0) : C_intern_Store_find v0_s v1_r K w0 := by
  have e : denFn P [] Tryz.f94 #[.pointer v0_s, val yapi_Rule v1_r] (.tup (.pair (.int .i64) .iface)) K w0 = F_intern_Store_find v0_s v1_r K w0 := by kernel_rfl
  exact fn_sound mixed (f := 94) Tryz.func94 (by kernel_rfl) (e.mpr h)

def F_intern_Store_add (v0_s : Option Addr) (v1_e : yintern_entry.T) (K : Int → World → Prop) (w0 : World) : Prop :=
allocK (.cells (cells yintern_entry v1_e).toArray t_intern_entry) w0 fun a1 w1 =>
drawK w1 fun w2 =>
nonNil v0_s fun p2 =>
∃ x3 : Sl, At w2 (p2.add 1) (cells .slice x3) ∧
∃ x4 : yintern_entry.T, At w2 a1 (cells yintern_entry x4) ∧
allocK (.cells (cells yintern_entry x4).toArray t_intern_entry) w2 fun a5 w3 =>
At w3 (p2.add 1) (cells .slice x3) ∧
appK t_intern_entry 13 104 #[.int .i64 (0 : Int), .int .u8 (0 : Int), .int .i64 (0 : Int), .int .i64 (0 : Int), .int .i64 (0 : Int), .int .i64 (0 : Int), .int .i64 (0 : Int), .int .i64 (0 : Int), .int .i64 (0 : Int), .int .u64 (0 : Int), .int .u64 (0 : Int), .int .i64 (0 : Int), .bool false] x3.a x3.len x3.cap (.slice (some a5) 1 1) 1 w3 fun s6 w4 =>
nonNil v0_s fun p7 =>
stK w4 (p7.add 1) ([.slice s6.a s6.len s6.cap]) fun w5 =>
nonNil v0_s fun p8 =>
∃ x9 : Sl, At w5 (p8.add 1) (cells .slice x9) ∧
drawK w5 fun w6 =>
nonNil v0_s fun p10 =>
∃ x11 : Option Nat, At w6 (p10.add 2) (cells .map x11) ∧
∃ x12 : yapi_Rule.T, At w6 (a1.add 0) (cells yapi_Rule x12) ∧
runU P (Instr.mapUpdate t_map_api_Rule_api_ID (.map x11) (val yapi_Rule x12) (.int .i64 (x9.len : Int))) w6 fun w7 =>
K (x9.len : Int) w7
theorem S_intern_Store_add (v0_s : Option Addr) (v1_e : yintern_entry.T) (K : Int → World → Prop) (w0 : World) (h : F_intern_Store_add v0_s v1_e K w0) : C_intern_Store_add v0_s v1_e K w0 := by
  have e : denFn P [] Tryz.f95 #[.pointer v0_s, val yintern_entry v1_e] (.int .i64) K w0 = F_intern_Store_add v0_s v1_e K w0 := by kernel_rfl
  exact fn_sound mixed (f := 95) Tryz.func95 (by kernel_rfl) (e.mpr h)

end Go.Proofs.YtcmncfglcjcmhaaGreat
