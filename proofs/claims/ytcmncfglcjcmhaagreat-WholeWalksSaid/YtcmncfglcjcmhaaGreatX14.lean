/- Texts that belong together, joined: Text14. No conditions. -/
import Derived.Test.YtcmncfglcjcmhaaGreatX0
/- The typed texts of the functions, printed by a program; each proved to imply the call. -/
set_option linter.unusedVariables false
set_option maxRecDepth 100000
set_option maxHeartbeats 4000000
namespace Go.Proofs.YtcmncfglcjcmhaaGreat
open Go.Den

def F_length_Mul (v0_a : Int) (v1_k : Int) (K : (Int × Value) → World → Prop) (w0 : World) : Prop :=
JoinP (X := Bool × Unit) (fun R2 =>
C_length_Valid v0_a (fun x3 w2 =>
gd (!x3) (
R2 (true, ()) w2) (
R2 (decide (v1_k < (0 : Int)), ()) w2)) w0) (fun x1 w1 => ∀ _ : Env,
gd x1.1 (
K ((0 : Int), .iface t_api_Errno (.int .i64 (1 : Int))) w1) (
gd (v0_a == (0 : Int)) (
K ((0 : Int), .nilIface) w1) (
v0_a ≠ 0 ∧
arith .i64 (Int.tdiv (1152921504606846976 : Int) v0_a) fun n4 =>
gd (decide (n4 < v1_k)) (
K ((0 : Int), .iface t_api_Errno (.int .i64 (2 : Int))) w1) (
arith .i64 (v0_a * v1_k) fun n5 =>
K (n5, .nilIface) w1))))
theorem S_length_Mul (v0_a : Int) (v1_k : Int) (K : (Int × Value) → World → Prop) (w0 : World) (h : F_length_Mul v0_a v1_k K w0) : C_length_Mul v0_a v1_k K w0 := by
  have e : denFn P [(2, [(12, .bool)])] Tryz.f69 #[.int .i64 v0_a, .int .i64 v1_k] (.tup (.pair (.int .i64) .iface)) K w0 = F_length_Mul v0_a v1_k K w0 := by kernel_rfl
  exact fn_sound mixed (f := 69) Tryz.func69 (by kernel_rfl) (e.mpr h)

def F_digest_Repeat (v0_d : yapi_Digest.T) (v1_k : Int) (K : yapi_Digest.T → World → Prop) (w0 : World) : Prop :=
allocK (.cells (cells yapi_Digest v0_d).toArray t_api_Digest) w0 fun a1 w1 =>
allocK (.cells #[.int .u64 (0 : Int), .int .u64 (0 : Int)] t_api_Digest) w1 fun a2 w2 =>
C_digest_Unit  (fun x3 w3 =>
allocK (.cells #[.int .u64 (0 : Int), .int .u64 (0 : Int)] t_api_Digest) w3 fun a4 w4 =>
stK w4 a4 (cells yapi_Digest x3) fun w5 =>
LoopP (X := Int × Unit) (v1_k, ()) w5 fun next6 x5 w6 => ∀ _ : Env,
gd (decide ((0 : Int) < x5.1)) (
JoinP (X := Unit) (fun R8 =>
(2 : Int) ≠ 0 ∧
letZ (Int.tmod x5.1 (2 : Int)) fun n9 =>
gd (n9 == (1 : Int)) (
∃ x10 : yapi_Digest.T, At w6 a4 (cells yapi_Digest x10) ∧
∃ x11 : yapi_Digest.T, At w6 a1 (cells yapi_Digest x11) ∧
C_digest_Join x10 x11 (fun x12 w8 =>
stK w8 a4 (cells yapi_Digest x12) fun w9 =>
R8 () w9) w6) (
R8 () w6)) (fun x7 w7 => ∀ _ : Env,
∃ x13 : yapi_Digest.T, At w7 a1 (cells yapi_Digest x13) ∧
∃ x14 : yapi_Digest.T, At w7 a1 (cells yapi_Digest x14) ∧
C_digest_Join x13 x14 (fun x15 w10 =>
stK w10 a1 (cells yapi_Digest x15) fun w11 =>
(2 : Int) ≠ 0 ∧
arith .i64 (Int.tdiv x5.1 (2 : Int)) fun n16 =>
next6 (n16, ()) w11) w7)) (
∃ x17 : yapi_Digest.T, At w6 a4 (cells yapi_Digest x17) ∧
stK w6 a2 (cells yapi_Digest x17) fun w12 =>
∃ x18 : yapi_Digest.T, At w12 a2 (cells yapi_Digest x18) ∧
K x18 w12)) w2
theorem S_digest_Repeat (v0_d : yapi_Digest.T) (v1_k : Int) (K : yapi_Digest.T → World → Prop) (w0 : World) (h : F_digest_Repeat v0_d v1_k K w0) : C_digest_Repeat v0_d v1_k K w0 := by
  have e : denFn P [(1002, [(1, .int .i64)]), (6, [])] Tryz.f70 #[val yapi_Digest v0_d, .int .i64 v1_k] yapi_Digest K w0 = F_digest_Repeat v0_d v1_k K w0 := by kernel_rfl
  exact fn_sound mixed (f := 70) Tryz.func70 (by kernel_rfl) (e.mpr h)

def F_digest_Join (v0_a : yapi_Digest.T) (v1_b : yapi_Digest.T) (K : yapi_Digest.T → World → Prop) (w0 : World) : Prop :=
allocK (.cells (cells yapi_Digest v0_a).toArray t_api_Digest) w0 fun a1 w1 =>
allocK (.cells (cells yapi_Digest v1_b).toArray t_api_Digest) w1 fun a2 w2 =>
allocK (.cells #[.int .u64 (0 : Int), .int .u64 (0 : Int)] t_api_Digest) w2 fun a3 w3 =>
drawK w3 fun w4 =>
∃ x4 : Int, At w4 (a1.add 0) (cells (.int .u64) x4) ∧
∃ x5 : Int, At w4 (a2.add 1) (cells (.int .u64) x5) ∧
∃ x6 : Int, At w4 (a2.add 0) (cells (.int .u64) x6) ∧
∃ x7 : Int, At w4 (a1.add 1) (cells (.int .u64) x7) ∧
∃ x8 : Int, At w4 (a2.add 1) (cells (.int .u64) x8) ∧
C_modular_Mul x4 x5 (fun x9 w5 =>
At w5 (a2.add 1) (cells (.int .u64) x8) ∧
At w5 (a1.add 1) (cells (.int .u64) x7) ∧
At w5 (a2.add 0) (cells (.int .u64) x6) ∧
C_modular_Add x9 x6 (fun x10 w6 =>
At w6 (a2.add 1) (cells (.int .u64) x8) ∧
At w6 (a1.add 1) (cells (.int .u64) x7) ∧
C_modular_Mul x7 x8 (fun x11 w7 =>
stK w7 a3 ([.int .u64 x10, .int .u64 x11]) fun w8 =>
∃ x12 : yapi_Digest.T, At w8 a3 (cells yapi_Digest x12) ∧
K x12 w8) w6) w5) w4
theorem S_digest_Join (v0_a : yapi_Digest.T) (v1_b : yapi_Digest.T) (K : yapi_Digest.T → World → Prop) (w0 : World) (h : F_digest_Join v0_a v1_b K w0) : C_digest_Join v0_a v1_b K w0 := by
  have e : denFn P [] Tryz.f71 #[val yapi_Digest v0_a, val yapi_Digest v1_b] yapi_Digest K w0 = F_digest_Join v0_a v1_b K w0 := by kernel_rfl
  exact fn_sound mixed (f := 71) Tryz.func71 (by kernel_rfl) (e.mpr h)

def F_intern_Store_reach (v0_s : Option Addr) (v1_id : Int) (K : Sl → World → Prop) (w0 : World) : Prop :=
gd (v1_id == (0 : Int)) (
K (⟨none, 0, 0⟩) w0) (
allocK (.cells #[.int .i64 v1_id] t_api_ID) w0 fun a1 w1 =>
allocK (.map #[] 0) w1 fun a2 w2 =>
runU P (Instr.mapUpdate t_map_api_ID_bool (.map (some a2.block)) (.int .i64 v1_id) (.bool true)) w2 fun w3 =>
LoopP (X := Sl × Int × Unit) (⟨some a1, 1, 1⟩, (0 : Int), ()) w3 fun next4 x3 w4 => ∀ _ : Env,
gd (decide (x3.2.1 < (x3.1.len : Int))) (
drawK w4 fun w5 =>
nonNil v0_s fun p5 =>
∃ x6 : Sl, At w5 (p5.add 1) (cells .slice x6) ∧
idxK x3.1.a x3.1.len x3.2.1 1 fun p7 =>
∃ x8 : Int, At w5 p7 (cells (.int .i64) x8) ∧
arith .i64 (x8 - (1 : Int)) fun n9 =>
idxK x6.a x6.len n9 13 fun p10 =>
∃ x11 : yapi_Rule.T, At w5 (p10.add 0) (cells yapi_Rule x11) ∧
C_rule_Refs x11 (fun x12 w6 =>
LoopP (X := Sl × Int × Unit) (x3.1, (0 : Int), ()) w6 fun next14 x13 w7 => ∀ _ : Env,
gd (decide (x13.2.1 < (x12.len : Int))) (
JoinP (X := Sl × Unit) (fun R16 =>
idxK x12.a x12.len x13.2.1 1 fun p17 =>
∃ x18 : Int, At w7 p17 (cells (.int .i64) x18) ∧
∃ x19 : Bool, Lk1 P t_map_api_ID_bool .bool (.map (some a2.block)) (.int .i64 x18) x19 w7 ∧
gd (!x19) (
runU P (Instr.mapUpdate t_map_api_ID_bool (.map (some a2.block)) (.int .i64 x18) (.bool true)) w7 fun w9 =>
allocK (.cells #[.int .i64 x18] t_api_ID) w9 fun a20 w10 =>
appK t_api_ID 1 8 #[.int .i64 (0 : Int)] x13.1.a x13.1.len x13.1.cap (.slice (some a20) 1 1) 1 w10 fun s21 w11 =>
R16 (s21, ()) w11) (
R16 (x13.1, ()) w7)) (fun x15 w8 => ∀ _ : Env,
arith .i64 (x13.2.1 + (1 : Int)) fun n22 =>
next14 (x15.1, n22, ()) w8)) (
arith .i64 (x3.2.1 + (1 : Int)) fun n23 =>
next4 (x13.1, n23, ()) w7)) w5) (
C_slices_Sort x3.1 (fun x24 w12 =>
K x3.1 w12) w4))
theorem S_intern_Store_reach (v0_s : Option Addr) (v1_id : Int) (K : Sl → World → Prop) (w0 : World) (h : F_intern_Store_reach v0_s v1_id K w0) : C_intern_Store_reach v0_s v1_id K w0 := by
  have e : denFn P [(1006, [(5, .slice), (7, .int .i64)]), (1009, [(5, .slice), (37, .int .i64)]), (14, [(5, .slice)])] Tryz.f72 #[.pointer v0_s, .int .i64 v1_id] .slice K w0 = F_intern_Store_reach v0_s v1_id K w0 := by kernel_rfl
  exact fn_sound mixed (f := 72) Tryz.func72 (by kernel_rfl) (e.mpr h)

def F_digest_Letter (v0_b : Int) (K : yapi_Digest.T → World → Prop) (w0 : World) : Prop :=
allocK (.cells #[.int .u64 (0 : Int), .int .u64 (0 : Int)] t_api_Digest) w0 fun a1 w1 =>
arith .u64 (v0_b) fun n2 =>
arith .u64 (n2 + (1 : Int)) fun n3 =>
stK w1 a1 ([.int .u64 n3, .int .u64 (1103515245 : Int)]) fun w2 =>
∃ x4 : yapi_Digest.T, At w2 a1 (cells yapi_Digest x4) ∧
K x4 w2
theorem S_digest_Letter (v0_b : Int) (K : yapi_Digest.T → World → Prop) (w0 : World) (h : F_digest_Letter v0_b K w0) : C_digest_Letter v0_b K w0 := by
  have e : denFn P [] Tryz.f73 #[.int .u8 v0_b] yapi_Digest K w0 = F_digest_Letter v0_b K w0 := by kernel_rfl
  exact fn_sound mixed (f := 73) Tryz.func73 (by kernel_rfl) (e.mpr h)

def F_balance_Text (v0_s : Option Addr) (v1_b : Sl) (K : (Int × Value) → World → Prop) (w0 : World) : Prop :=
gd v0_s.isNone (
K ((0 : Int), .iface t_api_Errno (.int .i64 (5 : Int))) w0) (
gd (decide ((65536 : Int) < (v1_b.len : Int))) (
K ((0 : Int), .iface t_api_Errno (.int .i64 (9 : Int))) w0) (
gd ((v1_b.len : Int) == (0 : Int)) (
K ((0 : Int), .nilIface) w0) (
C_balance_text v0_s v1_b (fun x1 w1 =>
K (x1.1, x1.2) w1) w0)))
theorem S_balance_Text (v0_s : Option Addr) (v1_b : Sl) (K : (Int × Value) → World → Prop) (w0 : World) (h : F_balance_Text v0_s v1_b K w0) : C_balance_Text v0_s v1_b K w0 := by
  have e : denFn P [] Tryz.f74 #[.pointer v0_s, .slice v1_b.a v1_b.len v1_b.cap] (.tup (.pair (.int .i64) .iface)) K w0 = F_balance_Text v0_s v1_b K w0 := by kernel_rfl
  exact fn_sound mixed (f := 74) Tryz.func74 (by kernel_rfl) (e.mpr h)

def F_avl_Join (v0_s : Option Addr) (v1_a : Int) (v2_b : Int) (K : (Int × Value) → World → Prop) (w0 : World) : Prop :=
C_intern_Store_Weight v0_s v1_a (fun x1 w1 =>
allocK (.cells #[.int .i64 (0 : Int), .int .i64 (0 : Int), .int .i64 (0 : Int), .int .i64 (0 : Int), .int .u64 (0 : Int), .int .u64 (0 : Int)] t_api_Weight) w1 fun a2 w2 =>
stK w2 a2 (cells yapi_Weight x1.1) fun w3 =>
nilIfcK x1.2 fun b3 =>
gd (!b3) (
K ((0 : Int), x1.2) w3) (
C_intern_Store_Weight v0_s v2_b (fun x4 w4 =>
allocK (.cells #[.int .i64 (0 : Int), .int .i64 (0 : Int), .int .i64 (0 : Int), .int .i64 (0 : Int), .int .u64 (0 : Int), .int .u64 (0 : Int)] t_api_Weight) w4 fun a5 w5 =>
stK w5 a5 (cells yapi_Weight x4.1) fun w6 =>
nilIfcK x4.2 fun b6 =>
gd (!b6) (
K ((0 : Int), x4.2) w6) (
JoinP (X := Bool × Unit) (fun R8 =>
C_intern_Store_Even v0_s v1_a (fun x9 w8 =>
gd (!x9) (
R8 (true, ()) w8) (
C_intern_Store_Even v0_s v2_b (fun x10 w9 =>
R8 (!x10, ()) w9) w8)) w6) (fun x7 w7 => ∀ _ : Env,
gd x7.1 (
K ((0 : Int), .iface t_api_Errno (.int .i64 (4 : Int))) w7) (
∃ x11 : Int, At w7 (a2.add 0) (cells (.int .i64) x11) ∧
∃ x12 : Int, At w7 (a5.add 0) (cells (.int .i64) x12) ∧
C_length_Add x11 x12 (fun x13 w10 =>
nilIfcK x13.2 fun b14 =>
gd (!b14) (
K ((0 : Int), .iface t_api_Errno (.int .i64 (2 : Int))) w10) (
gd (v1_a == (0 : Int)) (
K (v2_b, .nilIface) w10) (
gd (v2_b == (0 : Int)) (
K (v1_a, .nilIface) w10) (
C_avl_join v0_s v1_a v2_b (fun x15 w11 =>
K (x15.1, x15.2) w11) w10)))) w7)))) w3)) w0
theorem S_avl_Join (v0_s : Option Addr) (v1_a : Int) (v2_b : Int) (K : (Int × Value) → World → Prop) (w0 : World) (h : F_avl_Join v0_s v1_a v2_b K w0) : C_avl_Join v0_s v1_a v2_b K w0 := by
  have e : denFn P [(8, [(40, .bool)])] Tryz.f75 #[.pointer v0_s, .int .i64 v1_a, .int .i64 v2_b] (.tup (.pair (.int .i64) .iface)) K w0 = F_avl_Join v0_s v1_a v2_b K w0 := by kernel_rfl
  exact fn_sound mixed (f := 75) Tryz.func75 (by kernel_rfl) (e.mpr h)

end Go.Proofs.YtcmncfglcjcmhaaGreat
