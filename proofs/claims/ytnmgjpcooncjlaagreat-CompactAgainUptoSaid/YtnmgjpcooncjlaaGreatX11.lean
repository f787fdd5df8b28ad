/- Texts that belong together, joined: Text11. No conditions. -/
import Derived.Test.YtnmgjpcooncjlaaGreatX0
/- The typed texts of the functions, printed by a program; each proved to imply the call. -/
set_option linter.unusedVariables false
set_option maxRecDepth 100000
set_option maxHeartbeats 4000000
namespace Go.Proofs.YtnmgjpcooncjlaaGreat
open Go.Den

def F_bits_Len (v0_x : Int) (K : Int → World → Prop) (w0 : World) : Prop :=
C_bits_Len64 v0_x (fun x1 w1 =>
K x1 w1) w0
theorem S_bits_Len (v0_x : Int) (K : Int → World → Prop) (w0 : World) (h : F_bits_Len v0_x K w0) : C_bits_Len v0_x K w0 := by
  have e : denFn P [] Tryz.f80 #[.int .u64 v0_x] (.int .i64) K w0 = F_bits_Len v0_x K w0 := by kernel_rfl
  exact fn_sound mixed (f := 80) Tryz.func80 (by kernel_rfl) (e.mpr h)

def F_collect_Reach_1 (v0_id : Int) (v1 : Addr) (v2 : Addr) (K : Unit → World → Prop) (w0 : World) : Prop :=
∃ x1 : Option Nat, At w0 v1 (cells .map x1) ∧
∃ x2 : Bool, Lk1 P t_map_api_ID_bool .bool (.map x1) (.int .i64 v0_id) x2 w0 ∧
gd (!x2) (
∃ x3 : Option Nat, At w0 v1 (cells .map x3) ∧
runU P (Instr.mapUpdate t_map_api_ID_bool (.map x3) (.int .i64 v0_id) (.bool true)) w0 fun w1 =>
∃ x4 : Sl, At w1 v2 (cells .slice x4) ∧
allocK (.cells #[.int .i64 v0_id] t_api_ID) w1 fun a5 w2 =>
appK t_api_ID 1 8 #[.int .i64 (0 : Int)] x4.a x4.len x4.cap (.slice (some a5) 1 1) 1 w2 fun s6 w3 =>
stK w3 v2 ([.slice s6.a s6.len s6.cap]) fun w4 =>
K () w4) (
K () w0)
theorem S_collect_Reach_1 (v0_id : Int) (v1 : Addr) (v2 : Addr) (K : Unit → World → Prop) (w0 : World) (h : F_collect_Reach_1 v0_id v1 v2 K w0) : C_collect_Reach_1 v0_id v1 v2 K w0 := by
  have e : denFn P [] Tryz.f81 #[.int .i64 v0_id, .pointer (some v1), .pointer (some v2)] (.tup .unit) K w0 = F_collect_Reach_1 v0_id v1 v2 K w0 := by kernel_rfl
  exact fn_sound mixed (f := 81) Tryz.func81 (by kernel_rfl) (e.mpr h)

def F_rule_Refs (v0_r : yapi_Rule.T) (K : Sl → World → Prop) (w0 : World) : Prop :=
allocK (.cells (cells yapi_Rule v0_r).toArray t_api_Rule) w0 fun a1 w1 =>
∃ x2 : Int, At w1 (a1.add 0) (cells (.int .i64) x2) ∧
gd (x2 == (2 : Int)) (
∃ x3 : Int, At w1 (a1.add 2) (cells (.int .i64) x3) ∧
∃ x4 : Int, At w1 (a1.add 3) (cells (.int .i64) x4) ∧
allocK (.cells #[.int .i64 x3, .int .i64 x4] t_api_ID) w1 fun a5 w2 =>
K (⟨some a5, 2, 2⟩) w2) (
gd (x2 == (3 : Int)) (
∃ x6 : Int, At w1 (a1.add 2) (cells (.int .i64) x6) ∧
allocK (.cells #[.int .i64 x6] t_api_ID) w1 fun a7 w3 =>
K (⟨some a7, 1, 1⟩) w3) (
K (⟨none, 0, 0⟩) w1))
theorem S_rule_Refs (v0_r : yapi_Rule.T) (K : Sl → World → Prop) (w0 : World) (h : F_rule_Refs v0_r K w0) : C_rule_Refs v0_r K w0 := by
  have e : denFn P [] Tryz.f82 #[val yapi_Rule v0_r] .slice K w0 = F_rule_Refs v0_r K w0 := by kernel_rfl
  exact fn_sound mixed (f := 82) Tryz.func82 (by kernel_rfl) (e.mpr h)

def F_slices_Index (v0_s : Sl) (v1_v : Int) (K : Int → World → Prop) (w0 : World) : Prop :=
LoopP (X := Int × Unit) ((0 : Int), ()) w0 fun next2 x1 w1 => ∀ _ : Env,
gd (decide (x1.1 < (v0_s.len : Int))) (
idxK v0_s.a v0_s.len x1.1 1 fun p3 =>
∃ x4 : Int, At w1 p3 (cells (.int .i64) x4) ∧
gd (v1_v == x4) (
K x1.1 w1) (
arith .i64 (x1.1 + (1 : Int)) fun n5 =>
next2 (n5, ()) w1)) (
K (-1 : Int) w1)
theorem S_slices_Index (v0_s : Sl) (v1_v : Int) (K : Int → World → Prop) (w0 : World) (h : F_slices_Index v0_s v1_v K w0) : C_slices_Index v0_s v1_v K w0 := by
  have e : denFn P [(1002, [(8, .int .i64)])] Tryz.f84 #[.slice v0_s.a v0_s.len v0_s.cap, .int .i64 v1_v] (.int .i64) K w0 = F_slices_Index v0_s v1_v K w0 := by kernel_rfl
  exact fn_sound mixed (f := 84) Tryz.func84 (by kernel_rfl) (e.mpr h)

def F_slices_Compact (v0_s : Sl) (K : Sl → World → Prop) (w0 : World) : Prop :=
gd (decide ((v0_s.len : Int) < (2 : Int))) (
K v0_s w0) (
LoopP (X := Int × Unit) ((1 : Int), ()) w0 fun next2 x1 w1 => ∀ _ : Env,
gd (decide (x1.1 < (v0_s.len : Int))) (
drawK w1 fun w2 =>
idxK v0_s.a v0_s.len x1.1 1 fun p3 =>
∃ x4 : Int, At w2 p3 (cells (.int .i64) x4) ∧
arith .i64 (x1.1 - (1 : Int)) fun n5 =>
idxK v0_s.a v0_s.len n5 1 fun p6 =>
∃ x7 : Int, At w2 p6 (cells (.int .i64) x7) ∧
gd (x4 == x7) (
slK 1 v0_s.a v0_s.len v0_s.cap (some x1.1) none fun s8 =>
LoopP (X := Int × Int × Unit) (x1.1, (1 : Int), ()) w2 fun next10 x9 w3 => ∀ _ : Env,
gd (decide (x9.2.1 < (s8.len : Int))) (
JoinP (X := Int × Unit) (fun R12 =>
drawK w3 fun w5 =>
idxK s8.a s8.len x9.2.1 1 fun p13 =>
∃ x14 : Int, At w5 p13 (cells (.int .i64) x14) ∧
arith .i64 (x9.2.1 - (1 : Int)) fun n15 =>
idxK s8.a s8.len n15 1 fun p16 =>
∃ x17 : Int, At w5 p16 (cells (.int .i64) x17) ∧
gd (x14 != x17) (
idxK s8.a s8.len x9.2.1 1 fun p18 =>
∃ x19 : Int, At w5 p18 (cells (.int .i64) x19) ∧
idxK v0_s.a v0_s.len x9.1 1 fun p20 =>
stK w5 p20 ([.int .i64 x19]) fun w6 =>
arith .i64 (x9.1 + (1 : Int)) fun n21 =>
R12 (n21, ()) w6) (
R12 (x9.1, ()) w5)) (fun x11 w4 => ∀ _ : Env,
arith .i64 (x9.2.1 + (1 : Int)) fun n22 =>
next10 (x11.1, n22, ()) w4)) (
slK 1 v0_s.a v0_s.len v0_s.cap (some x9.1) none fun s23 =>
runK P (.tup .unit) (Builtin.clear_ #[t_sl_int] t_ #[.slice s23.a s23.len s23.cap]) w3 fun u24 w7 =>
slK 1 v0_s.a v0_s.len v0_s.cap none (some x9.1) fun s25 =>
K s25 w7)) (
arith .i64 (x1.1 + (1 : Int)) fun n26 =>
next2 (n26, ()) w2)) (
K v0_s w1))
theorem S_slices_Compact (v0_s : Sl) (K : Sl → World → Prop) (w0 : World) (h : F_slices_Compact v0_s K w0) : C_slices_Compact v0_s K w0 := by
  have e : denFn P [(1004, [(3, .int .i64)]), (1009, [(3, .int .i64), (5, .int .i64)]), (10, [(3, .int .i64)])] Tryz.f86 #[.slice v0_s.a v0_s.len v0_s.cap] .slice K w0 = F_slices_Compact v0_s K w0 := by kernel_rfl
  exact fn_sound mixed (f := 86) Tryz.func86 (by kernel_rfl) (e.mpr h)

def F_intern_Store_at (v0_s : Option Addr) (v1_id : Int) (K : yintern_entry.T → World → Prop) (w0 : World) : Prop :=
allocK (.cells #[.int .i64 (0 : Int), .int .u8 (0 : Int), .int .i64 (0 : Int), .int .i64 (0 : Int), .int .i64 (0 : Int), .int .i64 (0 : Int), .int .i64 (0 : Int), .int .i64 (0 : Int), .int .i64 (0 : Int), .int .u64 (0 : Int), .int .u64 (0 : Int), .int .i64 (0 : Int), .bool false] t_intern_entry) w0 fun a1 w1 =>
gd (v1_id == (0 : Int)) (
C_weight_Unit  (fun x2 w2 =>
stK w2 a1 ([.int .i64 (0 : Int), .int .u8 (0 : Int), .int .i64 (0 : Int), .int .i64 (0 : Int), .int .i64 (0 : Int), .int .i64 x2.1, .int .i64 x2.2.1, .int .i64 x2.2.2.1, .int .i64 x2.2.2.2.1, .int .u64 x2.2.2.2.2.1, .int .u64 x2.2.2.2.2.2, .int .i64 (0 : Int), .bool true]) fun w3 =>
∃ x3 : yintern_entry.T, At w3 a1 (cells yintern_entry x3) ∧
K x3 w3) w1) (
nonNil v0_s fun p4 =>
∃ x5 : Sl, At w1 (p4.add 1) (cells .slice x5) ∧
arith .i64 (v1_id - (1 : Int)) fun n6 =>
idxK x5.a x5.len n6 13 fun p7 =>
∃ x8 : yintern_entry.T, At w1 p7 (cells yintern_entry x8) ∧
stK w1 a1 (cells yintern_entry x8) fun w4 =>
∃ x9 : yintern_entry.T, At w4 a1 (cells yintern_entry x9) ∧
K x9 w4)
theorem S_intern_Store_at (v0_s : Option Addr) (v1_id : Int) (K : yintern_entry.T → World → Prop) (w0 : World) (h : F_intern_Store_at v0_s v1_id K w0) : C_intern_Store_at v0_s v1_id K w0 := by
  have e : denFn P [] Tryz.f87 #[.pointer v0_s, .int .i64 v1_id] yintern_entry K w0 = F_intern_Store_at v0_s v1_id K w0 := by kernel_rfl
  exact fn_sound mixed (f := 87) Tryz.func87 (by kernel_rfl) (e.mpr h)

def F_intern_Store_reach (v0_s : Option Addr) (v1_id : Int) (K : Sl → World → Prop) (w0 : World) : Prop :=
gd (v1_id == (0 : Int)) (
K (⟨none, 0, 0⟩) w0) (
allocK (.cells #[.int .i64 v1_id] t_api_ID) w0 fun a1 w1 =>
allocK (.map #[] 0) w1 fun a2 w2 =>
runU P (Instr.mapUpdate t_map_api_ID_bool (.map (some a2.block)) (.int .i64 v1_id) (.bool true)) w2 fun w3 =>
LoopP (X := Sl × Int × Unit) (⟨some a1, 1, 1⟩, (0 : Int), ()) w3 fun next4 x3 w4 => ∀ _ : Env,
gd (decide (x3.2.1 < (x3.1.len : Int))) (
drawK w4 fun w5 =>
nonNil v0_s fun p5 =>
∃ x6 : Sl, At w5 (p5.add 1) (cells .slice x6) ∧
idxK x3.1.a x3.1.len x3.2.1 1 fun p7 =>
∃ x8 : Int, At w5 p7 (cells (.int .i64) x8) ∧
arith .i64 (x8 - (1 : Int)) fun n9 =>
idxK x6.a x6.len n9 13 fun p10 =>
∃ x11 : yapi_Rule.T, At w5 (p10.add 0) (cells yapi_Rule x11) ∧
C_rule_Refs x11 (fun x12 w6 =>
LoopP (X := Sl × Int × Unit) (x3.1, (0 : Int), ()) w6 fun next14 x13 w7 => ∀ _ : Env,
gd (decide (x13.2.1 < (x12.len : Int))) (
JoinP (X := Sl × Unit) (fun R16 =>
idxK x12.a x12.len x13.2.1 1 fun p17 =>
∃ x18 : Int, At w7 p17 (cells (.int .i64) x18) ∧
∃ x19 : Bool, Lk1 P t_map_api_ID_bool .bool (.map (some a2.block)) (.int .i64 x18) x19 w7 ∧
gd (!x19) (
runU P (Instr.mapUpdate t_map_api_ID_bool (.map (some a2.block)) (.int .i64 x18) (.bool true)) w7 fun w9 =>
allocK (.cells #[.int .i64 x18] t_api_ID) w9 fun a20 w10 =>
appK t_api_ID 1 8 #[.int .i64 (0 : Int)] x13.1.a x13.1.len x13.1.cap (.slice (some a20) 1 1) 1 w10 fun s21 w11 =>
R16 (s21, ()) w11) (
R16 (x13.1, ()) w7)) (fun x15 w8 => ∀ _ : Env,
arith .i64 (x13.2.1 + (1 : Int)) fun n22 =>
next14 (x15.1, n22, ()) w8)) (
arith .i64 (x3.2.1 + (1 : Int)) fun n23 =>
next4 (x13.1, n23, ()) w7)) w5) (
C_slices_Sort x3.1 (fun x24 w12 =>
K x3.1 w12) w4))
theorem S_intern_Store_reach (v0_s : Option Addr) (v1_id : Int) (K : Sl → World → Prop) (w0 : World) (h : F_intern_Store_reach v0_s v1_id K w0) : C_intern_Store_reach v0_s v1_id K w0 := by
  have e : denFn P [(1006, [(5, .slice), (7, .int .i64)]), (1009, [(5, .slice), (37, .int .i64)]), (14, [(5, .slice)])] Tryz.f88 #[.pointer v0_s, .int .i64 v1_id] .slice K w0 = F_intern_Store_reach v0_s v1_id K w0 := by kernel_rfl
  exact fn_sound mixed (f := 88) Tryz.func88 (by kernel_rfl) (e.mpr h)

def F_intern_Store_find (v0_s : Option Addr) (v1_r : yapi_Rule.T) (K : (Int × Value) → World → Prop) (w0 : World) : Prop :=
allocK (.cells (cells yapi_Rule v1_r).toArray t_api_Rule) w0 fun a1 w1 =>
drawK w1 fun w2 =>
nonNil v0_s fun p2 =>
∃ x3 : Option Nat, At w2 (p2.add 2) (cells .map x3) ∧
∃ x4 : yapi_Rule.T, At w2 a1 (cells yapi_Rule x4) ∧
∃ (x5 : Int) (b6 : Bool), Lk2 P t_map_api_Rule_api_ID (.int .i64) (.map x3) (val yapi_Rule x4) x5 b6 w2 ∧
gd b6 (
K (x5, .nilIface) w2) (
drawK w2 fun w3 =>
nonNil v0_s fun p7 =>
∃ x8 : Sl, At w3 (p7.add 1) (cells .slice x8) ∧
nonNil v0_s fun p9 =>
∃ x10 : Int, At w3 (p9.add 0) (cells (.int .i64) x10) ∧
gd (decide (x10 ≤ (x8.len : Int))) (
K ((0 : Int), .iface t_api_Errno (.int .i64 (3 : Int))) w3) (
K ((0 : Int), .nilIface) w3))
theorem S_intern_Store_find (v0_s : Option Addr) (v1_r : yapi_Rule.T) (K : (Int × Value) → World → Prop) (w0 : World) (h : F_intern_Store_find v0_s v1_r K w0) : C_intern_Store_find v0_s v1_r K w0 := by
  have e : denFn P [] Tryz.f89 #[.pointer v0_s, val yapi_Rule v1_r] (.tup (.pair (.int .i64) .iface)) K w0 = F_intern_Store_find v0_s v1_r K w0 := by kernel_rfl
  exact fn_sound mixed (f := 89) Tryz.func89 (by kernel_rfl) (e.mpr h)

def F_intern_Store_add (v0_s : Option Addr) (v1_e : yintern_entry.T) (K : Int → World → Prop) (w0 : World) : Prop :=
allocK (.cells (cells yintern_entry v1_e).toArray t_intern_entry) w0 fun a1 w1 =>
drawK w1 fun w2 =>
nonNil v0_s fun p2 =>
∃ x3 : Sl, At w2 (p2.add 1) (cells .slice x3) ∧
∃ x4 : yintern_entry.T, At w2 a1 (cells yintern_entry x4) ∧
allocK (.cells (cells yintern_entry x4).toArray t_intern_entry) w2 fun a5 w3 =>
At w3 (p2.add 1) (cells .slice x3) ∧
appK t_intern_entry 13 104 #[.int .i64 (0 : Int), .int .u8 (0 : Int), .int .i64 (0 : Int), .int .i64 (0 : Int), .int .i64 (0 : Int), .int .i64 (0 : Int), .int .i64 (0 : Int), .int .i64 (0 : Int), .int .i64 (0 : Int), .int .u64 (0 : Int), .int .u64 (0 : Int), .int .i64 (0 : Int), .bool false] x3.a x3.len x3.cap (.slice (some a5) 1 1) 1 w3 fun s6 w4 =>
nonNil v0_s fun p7 =>
stK w4 (p7.add 1) ([.slice s6.a s6.len s6.cap]) fun w5 =>
nonNil v0_s fun p8 =>
∃ x9 : Sl, At w5 (p8.add 1) (cells .slice x9) ∧
drawK w5 fun w6 =>
nonNil v0_s fun p10 =>
∃ x11 : Option Nat, At w6 (p10.add 2) (cells .map x11) ∧
∃ x12 : yapi_Rule.T, At w6 (a1.add 0) (cells yapi_Rule x12) ∧
runU P (Instr.mapUpdate t_map_api_Rule_api_ID (.map x11) (val yapi_Rule x12) (.int .i64 (x9.len : Int))) w6 fun w7 =>
K (x9.len : Int) w7
theorem S_intern_Store_add (v0_s : Option Addr) (v1_e : yintern_entry.T) (K : Int → World → Prop) (w0 : World) (h : F_intern_Store_add v0_s v1_e K w0) : C_intern_Store_add v0_s v1_e K w0 := by
  have e : denFn P [] Tryz.f90 #[.pointer v0_s, val yintern_entry v1_e] (.int .i64) K w0 = F_intern_Store_add v0_s v1_e K w0 := by kernel_rfl
  exact fn_sound mixed (f := 90) Tryz.func90 (by kernel_rfl) (e.mpr h)

def F_weight_Letter (v0_b : Int) (K : yapi_Weight.T → World → Prop) (w0 : World) : Prop :=
allocK (.cells #[.int .i64 (0 : Int), .int .i64 (0 : Int), .int .i64 (0 : Int), .int .i64 (0 : Int), .int .u64 (0 : Int), .int .u64 (0 : Int)] t_api_Weight) w0 fun a1 w1 =>
gd (v0_b == (10 : Int)) (
C_digest_Letter v0_b (fun x2 w2 =>
stK w2 a1 ([.int .i64 (1 : Int), .int .i64 (1 : Int), .int .i64 (0 : Int), .int .i64 (0 : Int), .int .u64 x2.1, .int .u64 x2.2]) fun w3 =>
∃ x3 : yapi_Weight.T, At w3 a1 (cells yapi_Weight x3) ∧
K x3 w3) w1) (
C_digest_Letter v0_b (fun x4 w4 =>
stK w4 a1 ([.int .i64 (1 : Int), .int .i64 (0 : Int), .int .i64 (1 : Int), .int .i64 (1 : Int), .int .u64 x4.1, .int .u64 x4.2]) fun w5 =>
∃ x5 : yapi_Weight.T, At w5 a1 (cells yapi_Weight x5) ∧
K x5 w5) w1)
theorem S_weight_Letter (v0_b : Int) (K : yapi_Weight.T → World → Prop) (w0 : World) (h : F_weight_Letter v0_b K w0) : C_weight_Letter v0_b K w0 := by
  have e : denFn P [] Tryz.f91 #[.int .u8 v0_b] yapi_Weight K w0 = F_weight_Letter v0_b K w0 := by kernel_rfl
  exact fn_sound mixed (f := 91) Tryz.func91 (by kernel_rfl) (e.mpr h)

def F_length_Mul (v0_a : Int) (v1_k : Int) (K : (Int × Value) → World → Prop) (w0 : World) : Prop :=
JoinP (X := Bool × Unit) (fun R2 =>
C_length_Valid v0_a (fun x3 w2 =>
gd (!x3) (
R2 (true, ()) w2) (
R2 (decide (v1_k < (0 : Int)), ()) w2)) w0) (fun x1 w1 => ∀ _ : Env,
gd x1.1 (
K ((0 : Int), .iface t_api_Errno (.int .i64 (1 : Int))) w1) (
gd (v0_a == (0 : Int)) (
K ((0 : Int), .nilIface) w1) (
v0_a ≠ 0 ∧
arith .i64 (Int.tdiv (1152921504606846976 : Int) v0_a) fun n4 =>
gd (decide (n4 < v1_k)) (
K ((0 : Int), .iface t_api_Errno (.int .i64 (2 : Int))) w1) (
arith .i64 (v0_a * v1_k) fun n5 =>
K (n5, .nilIface) w1))))
theorem S_length_Mul (v0_a : Int) (v1_k : Int) (K : (Int × Value) → World → Prop) (w0 : World) (h : F_length_Mul v0_a v1_k K w0) : C_length_Mul v0_a v1_k K w0 := by
  have e : denFn P [(2, [(12, .bool)])] Tryz.f92 #[.int .i64 v0_a, .int .i64 v1_k] (.tup (.pair (.int .i64) .iface)) K w0 = F_length_Mul v0_a v1_k K w0 := by kernel_rfl
  exact fn_sound mixed (f := 92) Tryz.func92 (by kernel_rfl) (e.mpr h)

end Go.Proofs.YtnmgjpcooncjlaaGreat
