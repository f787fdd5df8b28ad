/- Texts that belong together, joined: Text15. No conditions. -/
import Derived.Test.YtcmncfglcjcmhaaGreatX0
/- The typed texts of the functions, printed by a program; each proved to imply the call. -/
set_option linter.unusedVariables false
set_option maxRecDepth 100000
set_option maxHeartbeats 4000000
namespace Go.Proofs.YtcmncfglcjcmhaaGreat
open Go.Den

def F_balance_Repeat (v0_s : Option Addr) (v1_id : Int) (v2_k : Int) (K : (Int × Value) → World → Prop) (w0 : World) : Prop :=
C_avl_Balanced v0_s v1_id (fun x1 w1 =>
nilIfcK x1.2 fun b2 =>
gd (!b2) (
K ((0 : Int), x1.2) w1) (
gd (!x1.1) (
K ((0 : Int), .iface t_api_Errno (.int .i64 (4 : Int))) w1) (
gd (decide (v2_k < (0 : Int))) (
K ((0 : Int), .iface t_api_Errno (.int .i64 (1 : Int))) w1) (
C_intern_Store_Weight v0_s v1_id (fun x3 w2 =>
allocK (.cells #[.int .i64 (0 : Int), .int .i64 (0 : Int), .int .i64 (0 : Int), .int .i64 (0 : Int), .int .u64 (0 : Int), .int .u64 (0 : Int)] t_api_Weight) w2 fun a4 w3 =>
stK w3 a4 (cells yapi_Weight x3.1) fun w4 =>
nilIfcK x3.2 fun b5 =>
gd (!b5) (
K ((0 : Int), x3.2) w4) (
∃ x6 : Int, At w4 (a4.add 0) (cells (.int .i64) x6) ∧
C_length_Mul x6 v2_k (fun x7 w5 =>
nilIfcK x7.2 fun b8 =>
gd (!b8) (
K ((0 : Int), .iface t_api_Errno (.int .i64 (2 : Int))) w5) (
JoinP (X := Bool × Unit) (fun R10 =>
gd (v2_k == (0 : Int)) (
R10 (true, ()) w5) (
R10 (v1_id == (0 : Int), ()) w5)) (fun x9 w6 => ∀ _ : Env,
gd x9.1 (
K ((0 : Int), .nilIface) w6) (
C_balance_repeat v0_s v1_id v2_k (fun x11 w7 =>
K (x11.1, x11.2) w7) w6)))) w4)) w1)))) w0
theorem S_balance_Repeat (v0_s : Option Addr) (v1_id : Int) (v2_k : Int) (K : (Int × Value) → World → Prop) (w0 : World) (h : F_balance_Repeat v0_s v1_id v2_k K w0) : C_balance_Repeat v0_s v1_id v2_k K w0 := by
  have e : denFn P [(15, [(52, .bool)])] Tryz.f76 #[.pointer v0_s, .int .i64 v1_id, .int .i64 v2_k] (.tup (.pair (.int .i64) .iface)) K w0 = F_balance_Repeat v0_s v1_id v2_k K w0 := by kernel_rfl
  exact fn_sound mixed (f := 76) Tryz.func76 (by kernel_rfl) (e.mpr h)

def F_split_Section (v0_s : Option Addr) (v1_id : Int) (v2_from : Int) (v3_n : Int) (K : (Int × Value) → World → Prop) (w0 : World) : Prop :=
C_split_check v0_s v1_id (fun x1 w1 =>
nilIfcK x1.2 fun b2 =>
gd (!b2) (
K ((0 : Int), x1.2) w1) (
C_length_Range v2_from v3_n x1.1 (fun x3 w2 =>
nilIfcK x3 fun b4 =>
gd (!b4) (
K ((0 : Int), x3) w2) (
C_split_section v0_s v1_id v2_from v3_n (fun x5 w3 =>
K (x5.1, x5.2) w3) w2)) w1)) w0
theorem S_split_Section (v0_s : Option Addr) (v1_id : Int) (v2_from : Int) (v3_n : Int) (K : (Int × Value) → World → Prop) (w0 : World) (h : F_split_Section v0_s v1_id v2_from v3_n K w0) : C_split_Section v0_s v1_id v2_from v3_n K w0 := by
  have e : denFn P [] Tryz.f77 #[.pointer v0_s, .int .i64 v1_id, .int .i64 v2_from, .int .i64 v3_n] (.tup (.pair (.int .i64) .iface)) K w0 = F_split_Section v0_s v1_id v2_from v3_n K w0 := by kernel_rfl
  exact fn_sound mixed (f := 77) Tryz.func77 (by kernel_rfl) (e.mpr h)

def F_split_Split (v0_s : Option Addr) (v1_id : Int) (v2_at : Int) (K : (Int × Int × Value) → World → Prop) (w0 : World) : Prop :=
C_split_check v0_s v1_id (fun x1 w1 =>
nilIfcK x1.2 fun b2 =>
gd (!b2) (
K ((0 : Int), (0 : Int), x1.2) w1) (
JoinP (X := Bool × Unit) (fun R4 =>
gd (decide (v2_at < (0 : Int))) (
R4 (true, ()) w1) (
R4 (decide (x1.1 < v2_at), ()) w1)) (fun x3 w2 => ∀ _ : Env,
gd x3.1 (
K ((0 : Int), (0 : Int), .iface t_api_Errno (.int .i64 (1 : Int))) w2) (
C_split_front v0_s v1_id v2_at (fun x5 w3 =>
nilIfcK x5.2 fun b6 =>
gd (!b6) (
K ((0 : Int), (0 : Int), x5.2) w3) (
C_split_rest v0_s v1_id v2_at (fun x7 w4 =>
nilIfcK x7.2 fun b8 =>
gd (!b8) (
K ((0 : Int), (0 : Int), x7.2) w4) (
K (x5.1, x7.1, .nilIface) w4)) w3)) w2)))) w0
theorem S_split_Split (v0_s : Option Addr) (v1_id : Int) (v2_at : Int) (K : (Int × Int × Value) → World → Prop) (w0 : World) (h : F_split_Split v0_s v1_id v2_at K w0) : C_split_Split v0_s v1_id v2_at K w0 := by
  have e : denFn P [(5, [(28, .bool)])] Tryz.f78 #[.pointer v0_s, .int .i64 v1_id, .int .i64 v2_at] (.tup (.pair (.int .i64) (.pair (.int .i64) .iface))) K w0 = F_split_Split v0_s v1_id v2_at K w0 := by kernel_rfl
  exact fn_sound mixed (f := 78) Tryz.func78 (by kernel_rfl) (e.mpr h)

def F_intern_Store_Power (v0_s : Option Addr) (v1_x : Int) (v2_k : Int) (K : (Int × Value) → World → Prop) (w0 : World) : Prop :=
gd v0_s.isNone (
K ((0 : Int), .iface t_api_Errno (.int .i64 (5 : Int))) w0) (
JoinP (X := Bool × Unit) (fun R2 =>
C_intern_Store_known v0_s v1_x (fun x3 w2 =>
gd (!x3) (
R2 (true, ()) w2) (
R2 (decide (v2_k < (0 : Int)), ()) w2)) w0) (fun x1 w1 => ∀ _ : Env,
gd x1.1 (
K ((0 : Int), .iface t_api_Errno (.int .i64 (1 : Int))) w1) (
JoinP (X := Bool × Unit) (fun R5 =>
gd (v2_k == (0 : Int)) (
R5 (true, ()) w1) (
R5 (v1_x == (0 : Int), ()) w1)) (fun x4 w3 => ∀ _ : Env,
gd x4.1 (
K ((0 : Int), .nilIface) w3) (
gd (v2_k == (1 : Int)) (
K (v1_x, .nilIface) w3) (
C_intern_Store_at v0_s v1_x (fun x6 w4 =>
allocK (.cells #[.int .i64 (0 : Int), .int .u8 (0 : Int), .int .i64 (0 : Int), .int .i64 (0 : Int), .int .i64 (0 : Int), .int .i64 (0 : Int), .int .i64 (0 : Int), .int .i64 (0 : Int), .int .i64 (0 : Int), .int .u64 (0 : Int), .int .u64 (0 : Int), .int .i64 (0 : Int), .bool false] t_intern_entry) w4 fun a7 w5 =>
stK w5 a7 (cells yintern_entry x6) fun w6 =>
∃ x8 : Int, At w6 ((a7.add 5).add 0) (cells (.int .i64) x8) ∧
C_length_Mul x8 v2_k (fun x9 w7 =>
nilIfcK x9.2 fun b10 =>
gd (!b10) (
K ((0 : Int), .iface t_api_Errno (.int .i64 (2 : Int))) w7) (
allocK (.cells #[.int .i64 (0 : Int), .int .u8 (0 : Int), .int .i64 (0 : Int), .int .i64 (0 : Int), .int .i64 (0 : Int)] t_api_Rule) w7 fun a11 w8 =>
stK w8 a11 ([.int .i64 (3 : Int), .int .u8 (0 : Int), .int .i64 v1_x, .int .i64 (0 : Int), .int .i64 v2_k]) fun w9 =>
∃ x12 : yapi_Rule.T, At w9 a11 (cells yapi_Rule x12) ∧
C_intern_Store_find v0_s x12 (fun x13 w10 =>
JoinP (X := Bool × Unit) (fun R15 =>
gd (x13.1 != (0 : Int)) (
R15 (true, ()) w10) (
nilIfcK x13.2 fun b16 =>
R15 (!b16, ()) w10)) (fun x14 w11 => ∀ _ : Env,
gd x14.1 (
K (x13.1, x13.2) w11) (
∃ x17 : yapi_Weight.T, At w11 (a7.add 5) (cells yapi_Weight x17) ∧
C_weight_Repeat x17 v2_k (fun x18 w12 =>
allocK (.cells #[.int .i64 (0 : Int), .int .i64 (0 : Int), .int .i64 (0 : Int), .int .i64 (0 : Int), .int .u64 (0 : Int), .int .u64 (0 : Int)] t_api_Weight) w12 fun a19 w13 =>
stK w13 a19 (cells yapi_Weight x18.1) fun w14 =>
nilIfcK x18.2 fun b20 =>
gd (!b20) (
K ((0 : Int), x18.2) w14) (
∃ x21 : yapi_Rule.T, At w14 a11 (cells yapi_Rule x21) ∧
∃ x22 : yapi_Weight.T, At w14 a19 (cells yapi_Weight x22) ∧
∃ x23 : Int, At w14 (a7.add 11) (cells (.int .i64) x23) ∧
arith .i64 ((1 : Int) + x23) fun n24 =>
C_intern_Store_add v0_s ((x21.1, (x21.2.1, (x21.2.2.1, (x21.2.2.2.1, x21.2.2.2.2)))), ((x22.1, (x22.2.1, (x22.2.2.1, (x22.2.2.2.1, (x22.2.2.2.2.1, x22.2.2.2.2.2))))), (n24, false))) (fun x25 w15 =>
K (x25, .nilIface) w15) w14)) w11))) w9)) w6) w3))))))
theorem S_intern_Store_Power (v0_s : Option Addr) (v1_x : Int) (v2_k : Int) (K : (Int × Value) → World → Prop) (w0 : World) (h : F_intern_Store_Power v0_s v1_x v2_k K w0) : C_intern_Store_Power v0_s v1_x v2_k K w0 := by
  have e : denFn P [(4, [(26, .bool)]), (6, [(33, .bool)]), (16, [(65, .bool)])] Tryz.f79 #[.pointer v0_s, .int .i64 v1_x, .int .i64 v2_k] (.tup (.pair (.int .i64) .iface)) K w0 = F_intern_Store_Power v0_s v1_x v2_k K w0 := by kernel_rfl
  exact fn_sound mixed (f := 79) Tryz.func79 (by kernel_rfl) (e.mpr h)

def F_balance_Of (v0_s : Option Addr) (v1_id : Int) (K : (Int × Value) → World → Prop) (w0 : World) : Prop :=
C_avl_Balanced v0_s v1_id (fun x1 w1 =>
nilIfcK x1.2 fun b2 =>
gd (!b2) (
K ((0 : Int), x1.2) w1) (
gd x1.1 (
K (v1_id, .nilIface) w1) (
allocK (.cells #[.int .i64 v1_id] t_api_ID) w1 fun a3 w2 =>
C_collect_Reach v0_s (⟨some a3, 1, 1⟩) (fun x4 w3 =>
nilIfcK x4.2 fun b5 =>
gd (!b5) (
K ((0 : Int), x4.2) w3) (
allocK (.map #[] 0) w3 fun a6 w4 =>
LoopP (X := Int × Unit) ((0 : Int), ()) w4 fun next8 x7 w5 => ∀ _ : Env,
gd (decide (x7.1 < (x4.1.len : Int))) (
idxK x4.1.a x4.1.len x7.1 1 fun p9 =>
∃ x10 : Int, At w5 p9 (cells (.int .i64) x10) ∧
C_balance_step v0_s x10 (some a6.block) (fun x11 w6 =>
runU P (Instr.mapUpdate t_map_api_ID_api_ID (.map (some a6.block)) (.int .i64 x10) (.int .i64 x11.1)) w6 fun w7 =>
nilIfcK x11.2 fun b12 =>
gd (!b12) (
K ((0 : Int), x11.2) w7) (
arith .i64 (x7.1 + (1 : Int)) fun n13 =>
next8 (n13, ()) w7)) w5) (
∃ x14 : Int, Lk1 P t_map_api_ID_api_ID (.int .i64) (.map (some a6.block)) (.int .i64 v1_id) x14 w5 ∧
K (x14, .nilIface) w5))) w2))) w0
theorem S_balance_Of (v0_s : Option Addr) (v1_id : Int) (K : (Int × Value) → World → Prop) (w0 : World) (h : F_balance_Of v0_s v1_id K w0) : C_balance_Of v0_s v1_id K w0 := by
  have e : denFn P [(1011, [(38, .int .i64)])] Tryz.f80 #[.pointer v0_s, .int .i64 v1_id] (.tup (.pair (.int .i64) .iface)) K w0 = F_balance_Of v0_s v1_id K w0 := by kernel_rfl
  exact fn_sound mixed (f := 80) Tryz.func80 (by kernel_rfl) (e.mpr h)

end Go.Proofs.YtcmncfglcjcmhaaGreat
