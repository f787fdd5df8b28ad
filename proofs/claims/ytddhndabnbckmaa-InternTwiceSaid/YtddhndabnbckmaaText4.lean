/- The typed texts of the functions, printed by a program; each proved to imply the call. -/
import Derived.Test.YtddhndabnbckmaaTextC
set_option linter.unusedVariables false
set_option maxRecDepth 100000
set_option maxHeartbeats 4000000
namespace Go.Proofs.Ytddhndabnbckmaa
open Go.Den

def F_digest_Join (v0_a : yapi_Digest.T) (v1_b : yapi_Digest.T) (K : yapi_Digest.T → World → Prop) (w0 : World) : Prop :=
allocK (.cells (cells yapi_Digest v0_a).toArray t_api_Digest) w0 fun a1 w1 =>
allocK (.cells (cells yapi_Digest v1_b).toArray t_api_Digest) w1 fun a2 w2 =>
allocK (.cells #[.int .u64 (0 : Int), .int .u64 (0 : Int)] t_api_Digest) w2 fun a3 w3 =>
drawK w3 fun w4 =>
∃ x4 : Int, At w4 (a1.add 0) (cells (.int .u64) x4) ∧
∃ x5 : Int, At w4 (a2.add 1) (cells (.int .u64) x5) ∧
∃ x6 : Int, At w4 (a2.add 0) (cells (.int .u64) x6) ∧
∃ x7 : Int, At w4 (a1.add 1) (cells (.int .u64) x7) ∧
∃ x8 : Int, At w4 (a2.add 1) (cells (.int .u64) x8) ∧
C_modular_Mul x4 x5 (fun x9 w5 =>
At w5 (a2.add 1) (cells (.int .u64) x8) ∧
At w5 (a1.add 1) (cells (.int .u64) x7) ∧
At w5 (a2.add 0) (cells (.int .u64) x6) ∧
C_modular_Add x9 x6 (fun x10 w6 =>
At w6 (a2.add 1) (cells (.int .u64) x8) ∧
At w6 (a1.add 1) (cells (.int .u64) x7) ∧
C_modular_Mul x7 x8 (fun x11 w7 =>
stK w7 a3 ([.int .u64 x10, .int .u64 x11]) fun w8 =>
∃ x12 : yapi_Digest.T, At w8 a3 (cells yapi_Digest x12) ∧
K x12 w8) w6) w5) w4
theorem S_digest_Join (v0_a : yapi_Digest.T) (v1_b : yapi_Digest.T) (K : yapi_Digest.T → World → Prop) (w0 : World) (h : F_digest_Join v0_a v1_b K w0) : C_digest_Join v0_a v1_b K w0 := by
  have e : denFn P [] Try.f58 #[val yapi_Digest v0_a, val yapi_Digest v1_b] yapi_Digest K w0 = F_digest_Join v0_a v1_b K w0 := by kernel_rfl
  exact fn_sound mixed (f := 58) Try.func58 (by kernel_rfl) (e.mpr h)

def F_weight_Unit  (K : yapi_Weight.T → World → Prop) (w0 : World) : Prop :=
allocK (.cells #[.int .i64 (0 : Int), .int .i64 (0 : Int), .int .i64 (0 : Int), .int .i64 (0 : Int), .int .u64 (0 : Int), .int .u64 (0 : Int)] t_api_Weight) w0 fun a1 w1 =>
C_digest_Unit  (fun x2 w2 =>
stK w2 a1 ([.int .i64 (0 : Int), .int .i64 (0 : Int), .int .i64 (0 : Int), .int .i64 (0 : Int), .int .u64 x2.1, .int .u64 x2.2]) fun w3 =>
∃ x3 : yapi_Weight.T, At w3 a1 (cells yapi_Weight x3) ∧
K x3 w3) w1
theorem S_weight_Unit  (K : yapi_Weight.T → World → Prop) (w0 : World) (h : F_weight_Unit  K w0) : C_weight_Unit  K w0 := by
  have e : denFn P [] Try.f59 #[] yapi_Weight K w0 = F_weight_Unit  K w0 := by kernel_rfl
  exact fn_sound mixed (f := 59) Try.func59 (by kernel_rfl) (e.mpr h)

def F_digest_Repeat (v0_d : yapi_Digest.T) (v1_k : Int) (K : yapi_Digest.T → World → Prop) (w0 : World) : Prop :=
allocK (.cells (cells yapi_Digest v0_d).toArray t_api_Digest) w0 fun a1 w1 =>
allocK (.cells #[.int .u64 (0 : Int), .int .u64 (0 : Int)] t_api_Digest) w1 fun a2 w2 =>
C_digest_Unit  (fun x3 w3 =>
allocK (.cells #[.int .u64 (0 : Int), .int .u64 (0 : Int)] t_api_Digest) w3 fun a4 w4 =>
stK w4 a4 (cells yapi_Digest x3) fun w5 =>
LoopP (X := Int × Unit) (v1_k, ()) w5 fun next6 x5 w6 => ∀ _ : Env,
gd (decide ((0 : Int) < x5.1)) (
JoinP (X := Unit) (fun R8 =>
(2 : Int) ≠ 0 ∧
letZ (Int.tmod x5.1 (2 : Int)) fun n9 =>
gd (n9 == (1 : Int)) (
∃ x10 : yapi_Digest.T, At w6 a4 (cells yapi_Digest x10) ∧
∃ x11 : yapi_Digest.T, At w6 a1 (cells yapi_Digest x11) ∧
C_digest_Join x10 x11 (fun x12 w8 =>
stK w8 a4 (cells yapi_Digest x12) fun w9 =>
R8 () w9) w6) (
R8 () w6)) (fun x7 w7 => ∀ _ : Env,
∃ x13 : yapi_Digest.T, At w7 a1 (cells yapi_Digest x13) ∧
∃ x14 : yapi_Digest.T, At w7 a1 (cells yapi_Digest x14) ∧
C_digest_Join x13 x14 (fun x15 w10 =>
stK w10 a1 (cells yapi_Digest x15) fun w11 =>
(2 : Int) ≠ 0 ∧
arith .i64 (Int.tdiv x5.1 (2 : Int)) fun n16 =>
next6 (n16, ()) w11) w7)) (
∃ x17 : yapi_Digest.T, At w6 a4 (cells yapi_Digest x17) ∧
stK w6 a2 (cells yapi_Digest x17) fun w12 =>
∃ x18 : yapi_Digest.T, At w12 a2 (cells yapi_Digest x18) ∧
K x18 w12)) w2
theorem S_digest_Repeat (v0_d : yapi_Digest.T) (v1_k : Int) (K : yapi_Digest.T → World → Prop) (w0 : World) (h : F_digest_Repeat v0_d v1_k K w0) : C_digest_Repeat v0_d v1_k K w0 := by
  have e : denFn P [(1002, [(1, .int .i64)]), (6, [])] Try.f60 #[val yapi_Digest v0_d, .int .i64 v1_k] yapi_Digest K w0 = F_digest_Repeat v0_d v1_k K w0 := by kernel_rfl
  exact fn_sound mixed (f := 60) Try.func60 (by kernel_rfl) (e.mpr h)

def F_rule_Check (v0_r : yapi_Rule.T) (v1_n : Int) (K : Value → World → Prop) (w0 : World) : Prop :=
allocK (.cells (cells yapi_Rule v0_r).toArray t_api_Rule) w0 fun a1 w1 =>
JoinP (X := Bool × Unit) (fun R3 =>
∃ x4 : Int, At w1 (a1.add 0) (cells (.int .i64) x4) ∧
gd (x4 == (1 : Int)) (
∃ x5 : Int, At w1 (a1.add 2) (cells (.int .i64) x5) ∧
gd (x5 == (0 : Int)) (
∃ x6 : Int, At w1 (a1.add 3) (cells (.int .i64) x6) ∧
gd (x6 == (0 : Int)) (
∃ x7 : Int, At w1 (a1.add 4) (cells (.int .i64) x7) ∧
R3 (x7 == (0 : Int), ()) w1) (
R3 (false, ()) w1)) (
R3 (false, ()) w1)) (
gd (x4 == (2 : Int)) (
∃ x8 : Int, At w1 (a1.add 1) (cells (.int .u8) x8) ∧
gd (x8 == (0 : Int)) (
∃ x9 : Int, At w1 (a1.add 4) (cells (.int .i64) x9) ∧
R3 (x9 == (0 : Int), ()) w1) (
R3 (false, ()) w1)) (
gd (x4 == (3 : Int)) (
∃ x10 : Int, At w1 (a1.add 1) (cells (.int .u8) x10) ∧
gd (x10 == (0 : Int)) (
∃ x11 : Int, At w1 (a1.add 3) (cells (.int .i64) x11) ∧
gd (x11 == (0 : Int)) (
∃ x12 : Int, At w1 (a1.add 4) (cells (.int .i64) x12) ∧
R3 (decide ((2 : Int) ≤ x12), ()) w1) (
R3 (false, ()) w1)) (
R3 (false, ()) w1)) (
R3 (false, ()) w1)))) (fun x2 w2 => ∀ _ : Env,
gd (!x2.1) (
K (.iface t_api_Errno (.int .i64 (4 : Int))) w2) (
∃ x13 : yapi_Rule.T, At w2 a1 (cells yapi_Rule x13) ∧
C_rule_place x13 v1_n (fun x14 w3 =>
K x14 w3) w2))
theorem S_rule_Check (v0_r : yapi_Rule.T) (v1_n : Int) (K : Value → World → Prop) (w0 : World) (h : F_rule_Check v0_r v1_n K w0) : C_rule_Check v0_r v1_n K w0 := by
  have e : denFn P [(9, [(5, .bool)])] Try.f61 #[val yapi_Rule v0_r, .int .i64 v1_n] .iface K w0 = F_rule_Check v0_r v1_n K w0 := by kernel_rfl
  exact fn_sound mixed (f := 61) Try.func61 (by kernel_rfl) (e.mpr h)

def F_intern_Store_put (v0_s : Option Addr) (v1_r : yapi_Rule.T) (v2_to : Sl) (K : (Int × Value) → World → Prop) (w0 : World) : Prop :=
allocK (.cells (cells yapi_Rule v1_r).toArray t_api_Rule) w0 fun a1 w1 =>
∃ x2 : Int, At w1 (a1.add 0) (cells (.int .i64) x2) ∧
gd (x2 == (1 : Int)) (
∃ x3 : Int, At w1 (a1.add 1) (cells (.int .u8) x3) ∧
C_intern_Store_Letter v0_s x3 (fun x4 w2 =>
K (x4.1, x4.2) w2) w1) (
gd (x2 == (2 : Int)) (
drawK w1 fun w3 =>
∃ x5 : Int, At w3 (a1.add 2) (cells (.int .i64) x5) ∧
idxK v2_to.a v2_to.len x5 1 fun p6 =>
∃ x7 : Int, At w3 p6 (cells (.int .i64) x7) ∧
∃ x8 : Int, At w3 (a1.add 3) (cells (.int .i64) x8) ∧
idxK v2_to.a v2_to.len x8 1 fun p9 =>
∃ x10 : Int, At w3 p9 (cells (.int .i64) x10) ∧
C_intern_Store_Pair v0_s x7 x10 (fun x11 w4 =>
K (x11.1, x11.2) w4) w3) (
drawK w1 fun w5 =>
∃ x12 : Int, At w5 (a1.add 2) (cells (.int .i64) x12) ∧
idxK v2_to.a v2_to.len x12 1 fun p13 =>
∃ x14 : Int, At w5 p13 (cells (.int .i64) x14) ∧
∃ x15 : Int, At w5 (a1.add 4) (cells (.int .i64) x15) ∧
C_intern_Store_Power v0_s x14 x15 (fun x16 w6 =>
K (x16.1, x16.2) w6) w5))
theorem S_intern_Store_put (v0_s : Option Addr) (v1_r : yapi_Rule.T) (v2_to : Sl) (K : (Int × Value) → World → Prop) (w0 : World) (h : F_intern_Store_put v0_s v1_r v2_to K w0) : C_intern_Store_put v0_s v1_r v2_to K w0 := by
  have e : denFn P [] Try.f62 #[.pointer v0_s, val yapi_Rule v1_r, .slice v2_to.a v2_to.len v2_to.cap] (.tup (.pair (.int .i64) .iface)) K w0 = F_intern_Store_put v0_s v1_r v2_to K w0 := by kernel_rfl
  exact fn_sound mixed (f := 62) Try.func62 (by kernel_rfl) (e.mpr h)

def F_ref10_Check (v0_r : yapi_Rule.T) (v1_n : Int) (K : Int → World → Prop) (w0 : World) : Prop :=
allocK (.cells (cells yapi_Rule v0_r).toArray t_api_Rule) w0 fun a1 w1 =>
JoinP (X := Bool × Unit) (fun R3 =>
∃ x4 : Int, At w1 (a1.add 0) (cells (.int .i64) x4) ∧
gd (x4 == (1 : Int)) (
∃ x5 : Int, At w1 (a1.add 2) (cells (.int .i64) x5) ∧
gd (x5 == (0 : Int)) (
∃ x6 : Int, At w1 (a1.add 3) (cells (.int .i64) x6) ∧
gd (x6 == (0 : Int)) (
∃ x7 : Int, At w1 (a1.add 4) (cells (.int .i64) x7) ∧
R3 (x7 == (0 : Int), ()) w1) (
R3 (false, ()) w1)) (
R3 (false, ()) w1)) (
gd (x4 == (2 : Int)) (
∃ x8 : Int, At w1 (a1.add 1) (cells (.int .u8) x8) ∧
gd (x8 == (0 : Int)) (
∃ x9 : Int, At w1 (a1.add 4) (cells (.int .i64) x9) ∧
R3 (x9 == (0 : Int), ()) w1) (
R3 (false, ()) w1)) (
gd (x4 == (3 : Int)) (
∃ x10 : Int, At w1 (a1.add 1) (cells (.int .u8) x10) ∧
gd (x10 == (0 : Int)) (
∃ x11 : Int, At w1 (a1.add 3) (cells (.int .i64) x11) ∧
gd (x11 == (0 : Int)) (
∃ x12 : Int, At w1 (a1.add 4) (cells (.int .i64) x12) ∧
R3 (decide ((2 : Int) ≤ x12), ()) w1) (
R3 (false, ()) w1)) (
R3 (false, ()) w1)) (
R3 (false, ()) w1)))) (fun x2 w2 => ∀ _ : Env,
gd (!x2.1) (
K (4 : Int) w2) (
JoinP (X := Bool × Unit) (fun R14 =>
gd (decide (v1_n < (1 : Int))) (
R14 (true, ()) w2) (
∃ x15 : Int, At w2 (a1.add 0) (cells (.int .i64) x15) ∧
gd (x15 != (1 : Int)) (
∃ x16 : Int, At w2 (a1.add 2) (cells (.int .i64) x16) ∧
gd (decide (x16 < (1 : Int))) (
R14 (true, ()) w2) (
∃ x17 : Int, At w2 (a1.add 2) (cells (.int .i64) x17) ∧
gd (decide (v1_n ≤ x17)) (
R14 (true, ()) w2) (
∃ x18 : Int, At w2 (a1.add 0) (cells (.int .i64) x18) ∧
gd (x18 == (2 : Int)) (
∃ x19 : Int, At w2 (a1.add 3) (cells (.int .i64) x19) ∧
gd (decide (x19 < (1 : Int))) (
R14 (true, ()) w2) (
∃ x20 : Int, At w2 (a1.add 3) (cells (.int .i64) x20) ∧
R14 (decide (v1_n ≤ x20), ()) w2)) (
R14 (false, ()) w2)))) (
∃ x21 : Int, At w2 (a1.add 0) (cells (.int .i64) x21) ∧
gd (x21 == (2 : Int)) (
∃ x22 : Int, At w2 (a1.add 3) (cells (.int .i64) x22) ∧
gd (decide (x22 < (1 : Int))) (
R14 (true, ()) w2) (
∃ x23 : Int, At w2 (a1.add 3) (cells (.int .i64) x23) ∧
R14 (decide (v1_n ≤ x23), ()) w2)) (
R14 (false, ()) w2)))) (fun x13 w3 => ∀ _ : Env,
gd x13.1 (
K (1 : Int) w3) (
K (0 : Int) w3))))
theorem S_ref10_Check (v0_r : yapi_Rule.T) (v1_n : Int) (K : Int → World → Prop) (w0 : World) (h : F_ref10_Check v0_r v1_n K w0) : C_ref10_Check v0_r v1_n K w0 := by
  have e : denFn P [(9, [(5, .bool)]), (12, [(83, .bool)])] Try.f63 #[val yapi_Rule v0_r, .int .i64 v1_n] (.int .i64) K w0 = F_ref10_Check v0_r v1_n K w0 := by kernel_rfl
  exact fn_sound mixed (f := 63) Try.func63 (by kernel_rfl) (e.mpr h)

def F_intern_Store_reach (v0_s : Option Addr) (v1_id : Int) (K : Sl → World → Prop) (w0 : World) : Prop :=
gd (v1_id == (0 : Int)) (
K (⟨none, 0, 0⟩) w0) (
allocK (.cells #[.int .i64 v1_id] t_api_ID) w0 fun a1 w1 =>
allocK (.map #[] 0) w1 fun a2 w2 =>
runU P (Instr.mapUpdate t_map_api_ID_bool (.map (some a2.block)) (.int .i64 v1_id) (.bool true)) w2 fun w3 =>
LoopP (X := Sl × Int × Unit) (⟨some a1, 1, 1⟩, (0 : Int), ()) w3 fun next4 x3 w4 => ∀ _ : Env,
gd (decide (x3.2.1 < (x3.1.len : Int))) (
drawK w4 fun w5 =>
nonNil v0_s fun p5 =>
∃ x6 : Sl, At w5 (p5.add 1) (cells .slice x6) ∧
idxK x3.1.a x3.1.len x3.2.1 1 fun p7 =>
∃ x8 : Int, At w5 p7 (cells (.int .i64) x8) ∧
arith .i64 (x8 - (1 : Int)) fun n9 =>
idxK x6.a x6.len n9 13 fun p10 =>
∃ x11 : yapi_Rule.T, At w5 (p10.add 0) (cells yapi_Rule x11) ∧
C_rule_Refs x11 (fun x12 w6 =>
LoopP (X := Sl × Int × Unit) (x3.1, (0 : Int), ()) w6 fun next14 x13 w7 => ∀ _ : Env,
gd (decide (x13.2.1 < (x12.len : Int))) (
JoinP (X := Sl × Unit) (fun R16 =>
idxK x12.a x12.len x13.2.1 1 fun p17 =>
∃ x18 : Int, At w7 p17 (cells (.int .i64) x18) ∧
∃ x19 : Bool, Lk1 P t_map_api_ID_bool .bool (.map (some a2.block)) (.int .i64 x18) x19 w7 ∧
gd (!x19) (
runU P (Instr.mapUpdate t_map_api_ID_bool (.map (some a2.block)) (.int .i64 x18) (.bool true)) w7 fun w9 =>
allocK (.cells #[.int .i64 x18] t_api_ID) w9 fun a20 w10 =>
appK t_api_ID 1 8 #[.int .i64 (0 : Int)] x13.1.a x13.1.len x13.1.cap (.slice (some a20) 1 1) 1 w10 fun s21 w11 =>
R16 (s21, ()) w11) (
R16 (x13.1, ()) w7)) (fun x15 w8 => ∀ _ : Env,
arith .i64 (x13.2.1 + (1 : Int)) fun n22 =>
next14 (x15.1, n22, ()) w8)) (
arith .i64 (x3.2.1 + (1 : Int)) fun n23 =>
next4 (x13.1, n23, ()) w7)) w5) (
C_slices_Sort x3.1 (fun x24 w12 =>
K x3.1 w12) w4))
theorem S_intern_Store_reach (v0_s : Option Addr) (v1_id : Int) (K : Sl → World → Prop) (w0 : World) (h : F_intern_Store_reach v0_s v1_id K w0) : C_intern_Store_reach v0_s v1_id K w0 := by
  have e : denFn P [(1006, [(5, .slice), (7, .int .i64)]), (1009, [(5, .slice), (37, .int .i64)]), (14, [(5, .slice)])] Try.f64 #[.pointer v0_s, .int .i64 v1_id] .slice K w0 = F_intern_Store_reach v0_s v1_id K w0 := by kernel_rfl
  exact fn_sound mixed (f := 64) Try.func64 (by kernel_rfl) (e.mpr h)

def F_ref10_Reached (v0_s : yevergreenref10_S.T) (v1_id : Int) (K : Sl → World → Prop) (w0 : World) : Prop :=
allocK (.cells (cells yevergreenref10_S v0_s).toArray t_evergreenref10_S) w0 fun a1 w1 =>
∃ x2 : Sl, At w1 (a1.add 1) (cells .slice x2) ∧
arith .i64 ((x2.len : Int) + (1 : Int)) fun n3 =>
0 ≤ n3 ∧ n3 ≤ n3 ∧ n3 ≤ 9223372036854775807 ∧ 1 * n3 ≤ 281474976710656 ∧
allocK (.cells (zrow #[.bool false] (n3.toNat * 1)) t_bool) w1 fun a4 w2 =>
JoinP (X := Unit) (fun R6 =>
gd (decide ((0 : Int) < v1_id)) (
idxK (some a4) n3.toNat v1_id 1 fun p7 =>
stK w2 p7 ([.bool true]) fun w4 =>
R6 () w4) (
R6 () w2)) (fun x5 w3 => ∀ _ : Env,
∃ x8 : Sl, At w3 (a1.add 1) (cells .slice x8) ∧
LoopP (X := Int × Unit) ((x8.len : Int), ()) w3 fun next10 x9 w5 => ∀ _ : Env,
gd (decide ((0 : Int) < x9.1)) (
JoinP (X := Unit) (fun R12 =>
idxK (some a4) n3.toNat x9.1 1 fun p13 =>
∃ x14 : Bool, At w5 p13 (cells .bool x14) ∧
gd x14 (
∃ x15 : Sl, At w5 (a1.add 1) (cells .slice x15) ∧
arith .i64 (x9.1 - (1 : Int)) fun n16 =>
idxK x15.a x15.len n16 5 fun p17 =>
∃ x18 : yapi_Rule.T, At w5 p17 (cells yapi_Rule x18) ∧
allocK (.cells #[.int .i64 (0 : Int), .int .u8 (0 : Int), .int .i64 (0 : Int), .int .i64 (0 : Int), .int .i64 (0 : Int)] t_api_Rule) w5 fun a19 w7 =>
stK w7 a19 (cells yapi_Rule x18) fun w8 =>
∃ x20 : Int, At w8 (a19.add 2) (cells (.int .i64) x20) ∧
idxK (some a4) n3.toNat x20 1 fun p21 =>
stK w8 p21 ([.bool true]) fun w9 =>
∃ x22 : Int, At w9 (a19.add 3) (cells (.int .i64) x22) ∧
idxK (some a4) n3.toNat x22 1 fun p23 =>
stK w9 p23 ([.bool true]) fun w10 =>
R12 () w10) (
R12 () w5)) (fun x11 w6 => ∀ _ : Env,
arith .i64 (x9.1 - (1 : Int)) fun n24 =>
next10 (n24, ()) w6)) (
idxK (some a4) n3.toNat (0 : Int) 1 fun p25 =>
stK w5 p25 ([.bool false]) fun w11 =>
K (⟨some a4, n3.toNat, n3.toNat⟩) w11))
theorem S_ref10_Reached (v0_s : yevergreenref10_S.T) (v1_id : Int) (K : Sl → World → Prop) (w0 : World) (h : F_ref10_Reached v0_s v1_id K w0) : C_ref10_Reached v0_s v1_id K w0 := by
  have e : denFn P [(4, []), (1005, [(6, .int .i64)]), (6, [])] Try.f65 #[val yevergreenref10_S v0_s, .int .i64 v1_id] .slice K w0 = F_ref10_Reached v0_s v1_id K w0 := by kernel_rfl
  exact fn_sound mixed (f := 65) Try.func65 (by kernel_rfl) (e.mpr h)

def F_length_Valid (v0_n : Int) (K : Bool → World → Prop) (w0 : World) : Prop :=
gd (decide ((0 : Int) ≤ v0_n)) (
K (decide (v0_n ≤ (1152921504606846976 : Int))) w0) (
K false w0)
theorem S_length_Valid (v0_n : Int) (K : Bool → World → Prop) (w0 : World) (h : F_length_Valid v0_n K w0) : C_length_Valid v0_n K w0 := by
  have e : denFn P [] Try.f66 #[.int .i64 v0_n] .bool K w0 = F_length_Valid v0_n K w0 := by kernel_rfl
  exact fn_sound mixed (f := 66) Try.func66 (by kernel_rfl) (e.mpr h)

def F_ref10_intern (v0_s : yevergreenref10_S.T) (v1_r : yapi_Rule.T) (v2_length : Int) (v3_depth : Int) (K : (yevergreenref10_S.T × Int × Int) → World → Prop) (w0 : World) : Prop :=
allocK (.cells (cells yevergreenref10_S v0_s).toArray t_evergreenref10_S) w0 fun a1 w1 =>
allocK (.cells (cells yapi_Rule v1_r).toArray t_api_Rule) w1 fun a2 w2 =>
allocK (.cells #[.int .i64 (0 : Int), .slice none 0 0, .slice none 0 0, .slice none 0 0] t_evergreenref10_S) w2 fun a3 w3 =>
∃ x4 : yevergreenref10_S.T, At w3 a1 (cells yevergreenref10_S x4) ∧
∃ x5 : yapi_Rule.T, At w3 a2 (cells yapi_Rule x5) ∧
C_ref10_Find x4 x5 (fun x6 w4 =>
gd (x6 != (0 : Int)) (
∃ x7 : yevergreenref10_S.T, At w4 a1 (cells yevergreenref10_S x7) ∧
stK w4 a3 (cells yevergreenref10_S x7) fun w5 =>
∃ x8 : yevergreenref10_S.T, At w5 a3 (cells yevergreenref10_S x8) ∧
K (x8, x6, (0 : Int)) w5) (
∃ x9 : Sl, At w4 (a1.add 1) (cells .slice x9) ∧
∃ x10 : Int, At w4 (a1.add 0) (cells (.int .i64) x10) ∧
gd (decide (x10 ≤ (x9.len : Int))) (
∃ x11 : yevergreenref10_S.T, At w4 a1 (cells yevergreenref10_S x11) ∧
stK w4 a3 (cells yevergreenref10_S x11) fun w6 =>
∃ x12 : yevergreenref10_S.T, At w6 a3 (cells yevergreenref10_S x12) ∧
K (x12, (0 : Int), (3 : Int)) w6) (
JoinP (X := Unit) (fun R14 =>
drawK w4 fun w8 =>
∃ x15 : Sl, At w8 (a1.add 1) (cells .slice x15) ∧
∃ x16 : yapi_Rule.T, At w8 a2 (cells yapi_Rule x16) ∧
(allocK (.cells #[] t_api_Rule) w8 fun a17 w9 =>
At w9 a2 (cells yapi_Rule x16) ∧
At w9 (a1.add 1) (cells .slice x15) ∧
(appK t_api_Rule 5 40 #[.int .i64 (0 : Int), .int .u8 (0 : Int), .int .i64 (0 : Int), .int .i64 (0 : Int), .int .i64 (0 : Int)] (some a17) 0 0 (.slice x15.a x15.len x15.cap) x15.len w9 fun s18 w10 =>
At w10 a2 (cells yapi_Rule x16) ∧
allocK (.cells (cells yapi_Rule x16).toArray t_api_Rule) w10 fun a19 w11 =>
appK t_api_Rule 5 40 #[.int .i64 (0 : Int), .int .u8 (0 : Int), .int .i64 (0 : Int), .int .i64 (0 : Int), .int .i64 (0 : Int)] s18.a s18.len s18.cap (.slice (some a19) 1 1) 1 w11 fun s20 w12 =>
stK w12 (a1.add 1) ([.slice s20.a s20.len s20.cap]) fun w13 =>
R14 () w13) ∧
(allocK (.cells (cells yapi_Rule x16).toArray t_api_Rule) w9 fun a21 w14 =>
At w14 (a1.add 1) (cells .slice x15) ∧
appK t_api_Rule 5 40 #[.int .i64 (0 : Int), .int .u8 (0 : Int), .int .i64 (0 : Int), .int .i64 (0 : Int), .int .i64 (0 : Int)] (some a17) 0 0 (.slice x15.a x15.len x15.cap) x15.len w14 fun s22 w15 =>
appK t_api_Rule 5 40 #[.int .i64 (0 : Int), .int .u8 (0 : Int), .int .i64 (0 : Int), .int .i64 (0 : Int), .int .i64 (0 : Int)] s22.a s22.len s22.cap (.slice (some a21) 1 1) 1 w15 fun s23 w16 =>
stK w16 (a1.add 1) ([.slice s23.a s23.len s23.cap]) fun w17 =>
R14 () w17)) ∧
(allocK (.cells (cells yapi_Rule x16).toArray t_api_Rule) w8 fun a24 w18 =>
At w18 (a1.add 1) (cells .slice x15) ∧
allocK (.cells #[] t_api_Rule) w18 fun a25 w19 =>
At w19 (a1.add 1) (cells .slice x15) ∧
appK t_api_Rule 5 40 #[.int .i64 (0 : Int), .int .u8 (0 : Int), .int .i64 (0 : Int), .int .i64 (0 : Int), .int .i64 (0 : Int)] (some a25) 0 0 (.slice x15.a x15.len x15.cap) x15.len w19 fun s26 w20 =>
appK t_api_Rule 5 40 #[.int .i64 (0 : Int), .int .u8 (0 : Int), .int .i64 (0 : Int), .int .i64 (0 : Int), .int .i64 (0 : Int)] s26.a s26.len s26.cap (.slice (some a24) 1 1) 1 w20 fun s27 w21 =>
stK w21 (a1.add 1) ([.slice s27.a s27.len s27.cap]) fun w22 =>
R14 () w22)) (fun x13 w7 => ∀ _ : Env,
allocK (.cells #[] t_int) w7 fun a28 w23 =>
∃ x29 : Sl, At w23 (a1.add 2) (cells .slice x29) ∧
appK t_int 1 8 #[.int .i64 (0 : Int)] (some a28) 0 0 (.slice x29.a x29.len x29.cap) x29.len w23 fun s30 w24 =>
allocK (.cells #[.int .i64 v2_length] t_int) w24 fun a31 w25 =>
appK t_int 1 8 #[.int .i64 (0 : Int)] s30.a s30.len s30.cap (.slice (some a31) 1 1) 1 w25 fun s32 w26 =>
stK w26 (a1.add 2) ([.slice s32.a s32.len s32.cap]) fun w27 =>
allocK (.cells #[] t_int) w27 fun a33 w28 =>
∃ x34 : Sl, At w28 (a1.add 3) (cells .slice x34) ∧
appK t_int 1 8 #[.int .i64 (0 : Int)] (some a33) 0 0 (.slice x34.a x34.len x34.cap) x34.len w28 fun s35 w29 =>
allocK (.cells #[.int .i64 v3_depth] t_int) w29 fun a36 w30 =>
appK t_int 1 8 #[.int .i64 (0 : Int)] s35.a s35.len s35.cap (.slice (some a36) 1 1) 1 w30 fun s37 w31 =>
stK w31 (a1.add 3) ([.slice s37.a s37.len s37.cap]) fun w32 =>
drawK w32 fun w33 =>
∃ x38 : yevergreenref10_S.T, At w33 a1 (cells yevergreenref10_S x38) ∧
∃ x39 : Sl, At w33 (a1.add 1) (cells .slice x39) ∧
stK w33 a3 (cells yevergreenref10_S x38) fun w34 =>
At w34 (a1.add 1) (cells .slice x39) ∧
∃ x40 : yevergreenref10_S.T, At w34 a3 (cells yevergreenref10_S x40) ∧
K (x40, (x39.len : Int), (0 : Int)) w34)))) w3
theorem S_ref10_intern (v0_s : yevergreenref10_S.T) (v1_r : yapi_Rule.T) (v2_length : Int) (v3_depth : Int) (K : (yevergreenref10_S.T × Int × Int) → World → Prop) (w0 : World) (h : F_ref10_intern v0_s v1_r v2_length v3_depth K w0) : C_ref10_intern v0_s v1_r v2_length v3_depth K w0 := by
  have e : denFn P [(7, [])] Try.f67 #[val yevergreenref10_S v0_s, val yapi_Rule v1_r, .int .i64 v2_length, .int .i64 v3_depth] (.tup (.pair yevergreenref10_S (.pair (.int .i64) (.int .i64)))) K w0 = F_ref10_intern v0_s v1_r v2_length v3_depth K w0 := by kernel_rfl
  exact fn_sound mixed (f := 67) Try.func67 (by kernel_rfl) (e.mpr h)

def F_ref10_Depth (v0_s : yevergreenref10_S.T) (v1_id : Int) (K : Int → World → Prop) (w0 : World) : Prop :=
allocK (.cells (cells yevergreenref10_S v0_s).toArray t_evergreenref10_S) w0 fun a1 w1 =>
gd (v1_id == (0 : Int)) (
K (0 : Int) w1) (
∃ x2 : Sl, At w1 (a1.add 3) (cells .slice x2) ∧
arith .i64 (v1_id - (1 : Int)) fun n3 =>
idxK x2.a x2.len n3 1 fun p4 =>
∃ x5 : Int, At w1 p4 (cells (.int .i64) x5) ∧
K x5 w1)
theorem S_ref10_Depth (v0_s : yevergreenref10_S.T) (v1_id : Int) (K : Int → World → Prop) (w0 : World) (h : F_ref10_Depth v0_s v1_id K w0) : C_ref10_Depth v0_s v1_id K w0 := by
  have e : denFn P [] Try.f68 #[val yevergreenref10_S v0_s, .int .i64 v1_id] (.int .i64) K w0 = F_ref10_Depth v0_s v1_id K w0 := by kernel_rfl
  exact fn_sound mixed (f := 68) Try.func68 (by kernel_rfl) (e.mpr h)

def F_modular_Pow (v0_a : Int) (v1_n : Int) (K : Int → World → Prop) (w0 : World) : Prop :=
C_modular_Reduce v0_a (fun x1 w1 =>
LoopP (X := Int × Int × Int × Unit) (x1, v1_n, (1 : Int), ()) w1 fun next3 x2 w2 => ∀ _ : Env,
gd (decide ((0 : Int) < x2.2.1)) (
JoinP (X := Int × Unit) (fun R5 =>
(2 : Int) ≠ 0 ∧
letZ (Int.tmod x2.2.1 (2 : Int)) fun n6 =>
gd (n6 == (1 : Int)) (
C_modular_Mul x2.2.2.1 x2.1 (fun x7 w4 =>
R5 (x7, ()) w4) w2) (
R5 (x2.2.2.1, ()) w2)) (fun x4 w3 => ∀ _ : Env,
C_modular_Mul x2.1 x2.1 (fun x8 w5 =>
(2 : Int) ≠ 0 ∧
arith .u64 (Int.tdiv x2.2.1 (2 : Int)) fun n9 =>
next3 (x8, n9, x4.1, ()) w5) w3)) (
K x2.2.2.1 w2)) w0
theorem S_modular_Pow (v0_a : Int) (v1_n : Int) (K : Int → World → Prop) (w0 : World) (h : F_modular_Pow v0_a v1_n K w0) : C_modular_Pow v0_a v1_n K w0 := by
  have e : denFn P [(1003, [(0, .int .u64), (1, .int .u64), (5, .int .u64)]), (7, [(5, .int .u64)])] Try.f69 #[.int .u64 v0_a, .int .u64 v1_n] (.int .u64) K w0 = F_modular_Pow v0_a v1_n K w0 := by kernel_rfl
  exact fn_sound mixed (f := 69) Try.func69 (by kernel_rfl) (e.mpr h)

def F_modular_Add (v0_a : Int) (v1_b : Int) (K : Int → World → Prop) (w0 : World) : Prop :=
C_modular_Reduce v0_a (fun x1 w1 =>
C_modular_Reduce v1_b (fun x2 w2 =>
arith .u64 (x1 + x2) fun n3 =>
C_modular_Reduce n3 (fun x4 w3 =>
K x4 w3) w2) w1) w0
theorem S_modular_Add (v0_a : Int) (v1_b : Int) (K : Int → World → Prop) (w0 : World) (h : F_modular_Add v0_a v1_b K w0) : C_modular_Add v0_a v1_b K w0 := by
  have e : denFn P [] Try.f70 #[.int .u64 v0_a, .int .u64 v1_b] (.int .u64) K w0 = F_modular_Add v0_a v1_b K w0 := by kernel_rfl
  exact fn_sound mixed (f := 70) Try.func70 (by kernel_rfl) (e.mpr h)

def F_modular_Mul (v0_a : Int) (v1_b : Int) (K : Int → World → Prop) (w0 : World) : Prop :=
C_modular_Reduce v0_a (fun x1 w1 =>
C_modular_Reduce v1_b (fun x2 w2 =>
C_bits_Mul64 x1 x2 (fun x3 w3 =>
0 ≤ (3 : Int) ∧
arith .u64 (x3.1 * 2 ^ min (Int.toNat (3 : Int)) (IntKind.bits .u64)) fun n4 =>
0 ≤ (61 : Int) ∧
letZ (Int.fdiv x3.2 (2 ^ min (Int.toNat (61 : Int)) (IntKind.bits .u64))) fun n5 =>
arith .u64 (n4 + n5) fun n6 =>
arith .u64 ((BitVec.ofInt (IntKind.bits .u64) x3.2 &&& BitVec.ofInt (IntKind.bits .u64) (2305843009213693951 : Int)).toNat) fun n7 =>
arith .u64 (n6 + n7) fun n8 =>
C_modular_Reduce n8 (fun x9 w4 =>
K x9 w4) w3) w2) w1) w0
theorem S_modular_Mul (v0_a : Int) (v1_b : Int) (K : Int → World → Prop) (w0 : World) (h : F_modular_Mul v0_a v1_b K w0) : C_modular_Mul v0_a v1_b K w0 := by
  have e : denFn P [] Try.f71 #[.int .u64 v0_a, .int .u64 v1_b] (.int .u64) K w0 = F_modular_Mul v0_a v1_b K w0 := by kernel_rfl
  exact fn_sound mixed (f := 71) Try.func71 (by kernel_rfl) (e.mpr h)

def F_digest_Unit  (K : yapi_Digest.T → World → Prop) (w0 : World) : Prop :=
allocK (.cells #[.int .u64 (0 : Int), .int .u64 (0 : Int)] t_api_Digest) w0 fun a1 w1 =>
stK w1 a1 ([.int .u64 (0 : Int), .int .u64 (1 : Int)]) fun w2 =>
∃ x2 : yapi_Digest.T, At w2 a1 (cells yapi_Digest x2) ∧
K x2 w2
theorem S_digest_Unit  (K : yapi_Digest.T → World → Prop) (w0 : World) (h : F_digest_Unit  K w0) : C_digest_Unit  K w0 := by
  have e : denFn P [] Try.f72 #[] yapi_Digest K w0 = F_digest_Unit  K w0 := by kernel_rfl
  exact fn_sound mixed (f := 72) Try.func72 (by kernel_rfl) (e.mpr h)

def F_rule_place (v0_r : yapi_Rule.T) (v1_n : Int) (K : Value → World → Prop) (w0 : World) : Prop :=
allocK (.cells (cells yapi_Rule v0_r).toArray t_api_Rule) w0 fun a1 w1 =>
gd (decide (v1_n < (1 : Int))) (
K (.iface t_api_Errno (.int .i64 (1 : Int))) w1) (
∃ x2 : yapi_Rule.T, At w1 a1 (cells yapi_Rule x2) ∧
C_rule_Refs x2 (fun x3 w2 =>
LoopP (X := Int × Unit) ((0 : Int), ()) w2 fun next5 x4 w3 => ∀ _ : Env,
gd (decide (x4.1 < (x3.len : Int))) (
idxK x3.a x3.len x4.1 1 fun p6 =>
∃ x7 : Int, At w3 p6 (cells (.int .i64) x7) ∧
JoinP (X := Bool × Unit) (fun R9 =>
gd (decide (x7 < (1 : Int))) (
R9 (true, ()) w3) (
arith .i64 (v1_n - (1 : Int)) fun n10 =>
R9 (decide (n10 < x7), ()) w3)) (fun x8 w4 => ∀ _ : Env,
gd x8.1 (
K (.iface t_api_Errno (.int .i64 (1 : Int))) w4) (
arith .i64 (x4.1 + (1 : Int)) fun n11 =>
next5 (n11, ()) w4))) (
K .nilIface w3)) w1)
theorem S_rule_place (v0_r : yapi_Rule.T) (v1_n : Int) (K : Value → World → Prop) (w0 : World) (h : F_rule_place v0_r v1_n K w0) : C_rule_place v0_r v1_n K w0 := by
  have e : denFn P [(1004, [(13, .int .i64)]), (7, [(24, .bool)])] Try.f73 #[val yapi_Rule v0_r, .int .i64 v1_n] .iface K w0 = F_rule_place v0_r v1_n K w0 := by kernel_rfl
  exact fn_sound mixed (f := 73) Try.func73 (by kernel_rfl) (e.mpr h)

def F_rule_Refs (v0_r : yapi_Rule.T) (K : Sl → World → Prop) (w0 : World) : Prop :=
allocK (.cells (cells yapi_Rule v0_r).toArray t_api_Rule) w0 fun a1 w1 =>
∃ x2 : Int, At w1 (a1.add 0) (cells (.int .i64) x2) ∧
gd (x2 == (2 : Int)) (
∃ x3 : Int, At w1 (a1.add 2) (cells (.int .i64) x3) ∧
∃ x4 : Int, At w1 (a1.add 3) (cells (.int .i64) x4) ∧
allocK (.cells #[.int .i64 x3, .int .i64 x4] t_api_ID) w1 fun a5 w2 =>
K (⟨some a5, 2, 2⟩) w2) (
gd (x2 == (3 : Int)) (
∃ x6 : Int, At w1 (a1.add 2) (cells (.int .i64) x6) ∧
allocK (.cells #[.int .i64 x6] t_api_ID) w1 fun a7 w3 =>
K (⟨some a7, 1, 1⟩) w3) (
K (⟨none, 0, 0⟩) w1))
theorem S_rule_Refs (v0_r : yapi_Rule.T) (K : Sl → World → Prop) (w0 : World) (h : F_rule_Refs v0_r K w0) : C_rule_Refs v0_r K w0 := by
  have e : denFn P [] Try.f74 #[val yapi_Rule v0_r] .slice K w0 = F_rule_Refs v0_r K w0 := by kernel_rfl
  exact fn_sound mixed (f := 74) Try.func74 (by kernel_rfl) (e.mpr h)

def F_modular_Reduce (v0_x : Int) (K : Int → World → Prop) (w0 : World) : Prop :=
arith .u64 ((BitVec.ofInt (IntKind.bits .u64) v0_x &&& BitVec.ofInt (IntKind.bits .u64) (2305843009213693951 : Int)).toNat) fun n1 =>
0 ≤ (61 : Int) ∧
letZ (Int.fdiv v0_x (2 ^ min (Int.toNat (61 : Int)) (IntKind.bits .u64))) fun n2 =>
arith .u64 (n1 + n2) fun n3 =>
JoinP (X := Int × Unit) (fun R5 =>
gd (decide ((2305843009213693951 : Int) ≤ n3)) (
arith .u64 (n3 - (2305843009213693951 : Int)) fun n6 =>
R5 (n6, ()) w0) (
R5 (n3, ()) w0)) (fun x4 w1 => ∀ _ : Env,
K x4.1 w1)
theorem S_modular_Reduce (v0_x : Int) (K : Int → World → Prop) (w0 : World) (h : F_modular_Reduce v0_x K w0) : C_modular_Reduce v0_x K w0 := by
  have e : denFn P [(4, [(0, .int .u64)])] Try.f76 #[.int .u64 v0_x] (.int .u64) K w0 = F_modular_Reduce v0_x K w0 := by kernel_rfl
  exact fn_sound mixed (f := 76) Try.func76 (by kernel_rfl) (e.mpr h)

def F_bits_Mul64 (v0_x : Int) (v1_y : Int) (K : (Int × Int) → World → Prop) (w0 : World) : Prop :=
arith .u64 ((BitVec.ofInt (IntKind.bits .u64) v0_x &&& BitVec.ofInt (IntKind.bits .u64) (4294967295 : Int)).toNat) fun n1 =>
0 ≤ (32 : Int) ∧
letZ (Int.fdiv v0_x (2 ^ min (Int.toNat (32 : Int)) (IntKind.bits .u64))) fun n2 =>
arith .u64 ((BitVec.ofInt (IntKind.bits .u64) v1_y &&& BitVec.ofInt (IntKind.bits .u64) (4294967295 : Int)).toNat) fun n3 =>
0 ≤ (32 : Int) ∧
letZ (Int.fdiv v1_y (2 ^ min (Int.toNat (32 : Int)) (IntKind.bits .u64))) fun n4 =>
arith .u64 (n1 * n3) fun n5 =>
arith .u64 (n2 * n3) fun n6 =>
0 ≤ (32 : Int) ∧
letZ (Int.fdiv n5 (2 ^ min (Int.toNat (32 : Int)) (IntKind.bits .u64))) fun n7 =>
arith .u64 (n6 + n7) fun n8 =>
arith .u64 ((BitVec.ofInt (IntKind.bits .u64) n8 &&& BitVec.ofInt (IntKind.bits .u64) (4294967295 : Int)).toNat) fun n9 =>
0 ≤ (32 : Int) ∧
letZ (Int.fdiv n8 (2 ^ min (Int.toNat (32 : Int)) (IntKind.bits .u64))) fun n10 =>
arith .u64 (n1 * n4) fun n11 =>
arith .u64 (n9 + n11) fun n12 =>
arith .u64 (n2 * n4) fun n13 =>
arith .u64 (n13 + n10) fun n14 =>
0 ≤ (32 : Int) ∧
letZ (Int.fdiv n12 (2 ^ min (Int.toNat (32 : Int)) (IntKind.bits .u64))) fun n15 =>
arith .u64 (n14 + n15) fun n16 =>
arith .u64 (v0_x * v1_y) fun n17 =>
K (n16, n17) w0
theorem S_bits_Mul64 (v0_x : Int) (v1_y : Int) (K : (Int × Int) → World → Prop) (w0 : World) (h : F_bits_Mul64 v0_x v1_y K w0) : C_bits_Mul64 v0_x v1_y K w0 := by
  have e : denFn P [] Try.f77 #[.int .u64 v0_x, .int .u64 v1_y] (.tup (.pair (.int .u64) (.int .u64))) K w0 = F_bits_Mul64 v0_x v1_y K w0 := by kernel_rfl
  exact fn_sound mixed (f := 77) Try.func77 (by kernel_rfl) (e.mpr h)

def F_bits_Len (v0_x : Int) (K : Int → World → Prop) (w0 : World) : Prop :=
C_bits_Len64 v0_x (fun x1 w1 =>
K x1 w1) w0
theorem S_bits_Len (v0_x : Int) (K : Int → World → Prop) (w0 : World) (h : F_bits_Len v0_x K w0) : C_bits_Len v0_x K w0 := by
  have e : denFn P [] Try.f79 #[.int .u64 v0_x] (.int .i64) K w0 = F_bits_Len v0_x K w0 := by kernel_rfl
  exact fn_sound mixed (f := 79) Try.func79 (by kernel_rfl) (e.mpr h)

def F_bits_Len32 (v0_x : Int) (K : Int → World → Prop) (w0 : World) : Prop :=
JoinP (X := Int × Int × Unit) (fun R2 =>
gd (decide ((65536 : Int) ≤ v0_x)) (
0 ≤ (16 : Int) ∧
letZ (Int.fdiv v0_x (2 ^ min (Int.toNat (16 : Int)) (IntKind.bits .u32))) fun n3 =>
R2 (n3, (16 : Int), ()) w0) (
R2 (v0_x, (0 : Int), ()) w0)) (fun x1 w1 => ∀ _ : Env,
JoinP (X := Int × Int × Unit) (fun R5 =>
gd (decide ((256 : Int) ≤ x1.1)) (
0 ≤ (8 : Int) ∧
letZ (Int.fdiv x1.1 (2 ^ min (Int.toNat (8 : Int)) (IntKind.bits .u32))) fun n6 =>
arith .i64 (x1.2.1 + (8 : Int)) fun n7 =>
R5 (n6, n7, ()) w1) (
R5 (x1.1, x1.2.1, ()) w1)) (fun x4 w2 => ∀ _ : Env,
arith .u8 (x4.1) fun n8 =>
0 ≤ n8 ∧ ∃ hx : n8.toNat < (⟨#[0, 1, 2, 2, 3, 3, 3, 3, 4, 4, 4, 4, 4, 4, 4, 4, 5, 5, 5, 5, 5, 5, 5, 5, 5, 5, 5, 5, 5, 5, 5, 5, 6, 6, 6, 6, 6, 6, 6, 6, 6, 6, 6, 6, 6, 6, 6, 6, 6, 6, 6, 6, 6, 6, 6, 6, 6, 6, 6, 6, 6, 6, 6, 6, 7, 7, 7, 7, 7, 7, 7, 7, 7, 7, 7, 7, 7, 7, 7, 7, 7, 7, 7, 7, 7, 7, 7, 7, 7, 7, 7, 7, 7, 7, 7, 7, 7, 7, 7, 7, 7, 7, 7, 7, 7, 7, 7, 7, 7, 7, 7, 7, 7, 7, 7, 7, 7, 7, 7, 7, 7, 7, 7, 7, 7, 7, 7, 7, 8, 8, 8, 8, 8, 8, 8, 8, 8, 8, 8, 8, 8, 8, 8, 8, 8, 8, 8, 8, 8, 8, 8, 8, 8, 8, 8, 8, 8, 8, 8, 8, 8, 8, 8, 8, 8, 8, 8, 8, 8, 8, 8, 8, 8, 8, 8, 8, 8, 8, 8, 8, 8, 8, 8, 8, 8, 8, 8, 8, 8, 8, 8, 8, 8, 8, 8, 8, 8, 8, 8, 8, 8, 8, 8, 8, 8, 8, 8, 8, 8, 8, 8, 8, 8, 8, 8, 8, 8, 8, 8, 8, 8, 8, 8, 8, 8, 8, 8, 8, 8, 8, 8, 8, 8, 8, 8, 8, 8, 8, 8, 8, 8, 8, 8, 8, 8, 8, 8, 8, 8, 8, 8, 8, 8, 8, 8, 8]⟩ : ByteArray).size,
arith .i64 ((((⟨#[0, 1, 2, 2, 3, 3, 3, 3, 4, 4, 4, 4, 4, 4, 4, 4, 5, 5, 5, 5, 5, 5, 5, 5, 5, 5, 5, 5, 5, 5, 5, 5, 6, 6, 6, 6, 6, 6, 6, 6, 6, 6, 6, 6, 6, 6, 6, 6, 6, 6, 6, 6, 6, 6, 6, 6, 6, 6, 6, 6, 6, 6, 6, 6, 7, 7, 7, 7, 7, 7, 7, 7, 7, 7, 7, 7, 7, 7, 7, 7, 7, 7, 7, 7, 7, 7, 7, 7, 7, 7, 7, 7, 7, 7, 7, 7, 7, 7, 7, 7, 7, 7, 7, 7, 7, 7, 7, 7, 7, 7, 7, 7, 7, 7, 7, 7, 7, 7, 7, 7, 7, 7, 7, 7, 7, 7, 7, 7, 8, 8, 8, 8, 8, 8, 8, 8, 8, 8, 8, 8, 8, 8, 8, 8, 8, 8, 8, 8, 8, 8, 8, 8, 8, 8, 8, 8, 8, 8, 8, 8, 8, 8, 8, 8, 8, 8, 8, 8, 8, 8, 8, 8, 8, 8, 8, 8, 8, 8, 8, 8, 8, 8, 8, 8, 8, 8, 8, 8, 8, 8, 8, 8, 8, 8, 8, 8, 8, 8, 8, 8, 8, 8, 8, 8, 8, 8, 8, 8, 8, 8, 8, 8, 8, 8, 8, 8, 8, 8, 8, 8, 8, 8, 8, 8, 8, 8, 8, 8, 8, 8, 8, 8, 8, 8, 8, 8, 8, 8, 8, 8, 8, 8, 8, 8, 8, 8, 8, 8, 8, 8, 8, 8, 8, 8, 8, 8]⟩ : ByteArray)[n8.toNat]).toNat : Int)) fun n9 =>
arith .i64 (x4.2.1 + n9) fun n10 =>
K n10 w2))
theorem S_bits_Len32 (v0_x : Int) (K : Int → World → Prop) (w0 : World) (h : F_bits_Len32 v0_x K w0) : C_bits_Len32 v0_x K w0 := by
  have e : denFn P [(4, [(0, .int .u32), (2, .int .i64)]), (7, [(0, .int .u32), (2, .int .i64)])] Try.f89 #[.int .u32 v0_x] (.int .i64) K w0 = F_bits_Len32 v0_x K w0 := by kernel_rfl
  exact fn_sound mixed (f := 89) Try.func89 (by kernel_rfl) (e.mpr h)

def F_bits_Len64 (v0_x : Int) (K : Int → World → Prop) (w0 : World) : Prop :=
JoinP (X := Int × Int × Unit) (fun R2 =>
gd (decide ((4294967296 : Int) ≤ v0_x)) (
0 ≤ (32 : Int) ∧
letZ (Int.fdiv v0_x (2 ^ min (Int.toNat (32 : Int)) (IntKind.bits .u64))) fun n3 =>
R2 (n3, (32 : Int), ()) w0) (
R2 (v0_x, (0 : Int), ()) w0)) (fun x1 w1 => ∀ _ : Env,
JoinP (X := Int × Int × Unit) (fun R5 =>
gd (decide ((65536 : Int) ≤ x1.1)) (
0 ≤ (16 : Int) ∧
letZ (Int.fdiv x1.1 (2 ^ min (Int.toNat (16 : Int)) (IntKind.bits .u64))) fun n6 =>
arith .i64 (x1.2.1 + (16 : Int)) fun n7 =>
R5 (n6, n7, ()) w1) (
R5 (x1.1, x1.2.1, ()) w1)) (fun x4 w2 => ∀ _ : Env,
JoinP (X := Int × Int × Unit) (fun R9 =>
gd (decide ((256 : Int) ≤ x4.1)) (
0 ≤ (8 : Int) ∧
letZ (Int.fdiv x4.1 (2 ^ min (Int.toNat (8 : Int)) (IntKind.bits .u64))) fun n10 =>
arith .i64 (x4.2.1 + (8 : Int)) fun n11 =>
R9 (n10, n11, ()) w2) (
R9 (x4.1, x4.2.1, ()) w2)) (fun x8 w3 => ∀ _ : Env,
arith .u8 (x8.1) fun n12 =>
0 ≤ n12 ∧ ∃ hx : n12.toNat < (⟨#[0, 1, 2, 2, 3, 3, 3, 3, 4, 4, 4, 4, 4, 4, 4, 4, 5, 5, 5, 5, 5, 5, 5, 5, 5, 5, 5, 5, 5, 5, 5, 5, 6, 6, 6, 6, 6, 6, 6, 6, 6, 6, 6, 6, 6, 6, 6, 6, 6, 6, 6, 6, 6, 6, 6, 6, 6, 6, 6, 6, 6, 6, 6, 6, 7, 7, 7, 7, 7, 7, 7, 7, 7, 7, 7, 7, 7, 7, 7, 7, 7, 7, 7, 7, 7, 7, 7, 7, 7, 7, 7, 7, 7, 7, 7, 7, 7, 7, 7, 7, 7, 7, 7, 7, 7, 7, 7, 7, 7, 7, 7, 7, 7, 7, 7, 7, 7, 7, 7, 7, 7, 7, 7, 7, 7, 7, 7, 7, 8, 8, 8, 8, 8, 8, 8, 8, 8, 8, 8, 8, 8, 8, 8, 8, 8, 8, 8, 8, 8, 8, 8, 8, 8, 8, 8, 8, 8, 8, 8, 8, 8, 8, 8, 8, 8, 8, 8, 8, 8, 8, 8, 8, 8, 8, 8, 8, 8, 8, 8, 8, 8, 8, 8, 8, 8, 8, 8, 8, 8, 8, 8, 8, 8, 8, 8, 8, 8, 8, 8, 8, 8, 8, 8, 8, 8, 8, 8, 8, 8, 8, 8, 8, 8, 8, 8, 8, 8, 8, 8, 8, 8, 8, 8, 8, 8, 8, 8, 8, 8, 8, 8, 8, 8, 8, 8, 8, 8, 8, 8, 8, 8, 8, 8, 8, 8, 8, 8, 8, 8, 8, 8, 8, 8, 8, 8, 8]⟩ : ByteArray).size,
arith .i64 ((((⟨#[0, 1, 2, 2, 3, 3, 3, 3, 4, 4, 4, 4, 4, 4, 4, 4, 5, 5, 5, 5, 5, 5, 5, 5, 5, 5, 5, 5, 5, 5, 5, 5, 6, 6, 6, 6, 6, 6, 6, 6, 6, 6, 6, 6, 6, 6, 6, 6, 6, 6, 6, 6, 6, 6, 6, 6, 6, 6, 6, 6, 6, 6, 6, 6, 7, 7, 7, 7, 7, 7, 7, 7, 7, 7, 7, 7, 7, 7, 7, 7, 7, 7, 7, 7, 7, 7, 7, 7, 7, 7, 7, 7, 7, 7, 7, 7, 7, 7, 7, 7, 7, 7, 7, 7, 7, 7, 7, 7, 7, 7, 7, 7, 7, 7, 7, 7, 7, 7, 7, 7, 7, 7, 7, 7, 7, 7, 7, 7, 8, 8, 8, 8, 8, 8, 8, 8, 8, 8, 8, 8, 8, 8, 8, 8, 8, 8, 8, 8, 8, 8, 8, 8, 8, 8, 8, 8, 8, 8, 8, 8, 8, 8, 8, 8, 8, 8, 8, 8, 8, 8, 8, 8, 8, 8, 8, 8, 8, 8, 8, 8, 8, 8, 8, 8, 8, 8, 8, 8, 8, 8, 8, 8, 8, 8, 8, 8, 8, 8, 8, 8, 8, 8, 8, 8, 8, 8, 8, 8, 8, 8, 8, 8, 8, 8, 8, 8, 8, 8, 8, 8, 8, 8, 8, 8, 8, 8, 8, 8, 8, 8, 8, 8, 8, 8, 8, 8, 8, 8, 8, 8, 8, 8, 8, 8, 8, 8, 8, 8, 8, 8, 8, 8, 8, 8, 8, 8]⟩ : ByteArray)[n12.toNat]).toNat : Int)) fun n13 =>
arith .i64 (x8.2.1 + n13) fun n14 =>
K n14 w3)))
theorem S_bits_Len64 (v0_x : Int) (K : Int → World → Prop) (w0 : World) (h : F_bits_Len64 v0_x K w0) : C_bits_Len64 v0_x K w0 := by
  have e : denFn P [(4, [(0, .int .u64), (2, .int .i64)]), (7, [(0, .int .u64), (2, .int .i64)]), (10, [(0, .int .u64), (2, .int .i64)])] Try.f90 #[.int .u64 v0_x] (.int .i64) K w0 = F_bits_Len64 v0_x K w0 := by kernel_rfl
  exact fn_sound mixed (f := 90) Try.func90 (by kernel_rfl) (e.mpr h)

end Go.Proofs.Ytddhndabnbckmaa
