/- Texts that belong together, joined: Text14. No conditions. -/
import Derived.Test.YtnmgjpcooncjlaaGreatX0
/- The typed texts of the functions, printed by a program; each proved to imply the call. -/
set_option linter.unusedVariables false
set_option maxRecDepth 100000
set_option maxHeartbeats 4000000
namespace Go.Proofs.YtnmgjpcooncjlaaGreat
open Go.Den

def F_digest_Repeat (v0_d : yapi_Digest.T) (v1_k : Int) (K : yapi_Digest.T → World → Prop) (w0 : World) : Prop :=
allocK (.cells (cells yapi_Digest v0_d).toArray t_api_Digest) w0 fun a1 w1 =>
allocK (.cells #[.int .u64 (0 : Int), .int .u64 (0 : Int)] t_api_Digest) w1 fun a2 w2 =>
C_digest_Unit  (fun x3 w3 =>
allocK (.cells #[.int .u64 (0 : Int), .int .u64 (0 : Int)] t_api_Digest) w3 fun a4 w4 =>
stK w4 a4 (cells yapi_Digest x3) fun w5 =>
LoopP (X := Int × Unit) (v1_k, ()) w5 fun next6 x5 w6 => ∀ _ : Env,
gd (decide ((0 : Int) < x5.1)) (
JoinP (X := Unit) (fun R8 =>
(2 : Int) ≠ 0 ∧
letZ (Int.tmod x5.1 (2 : Int)) fun n9 =>
gd (n9 == (1 : Int)) (
∃ x10 : yapi_Digest.T, At w6 a4 (cells yapi_Digest x10) ∧
∃ x11 : yapi_Digest.T, At w6 a1 (cells yapi_Digest x11) ∧
C_digest_Join x10 x11 (fun x12 w8 =>
stK w8 a4 (cells yapi_Digest x12) fun w9 =>
R8 () w9) w6) (
R8 () w6)) (fun x7 w7 => ∀ _ : Env,
∃ x13 : yapi_Digest.T, At w7 a1 (cells yapi_Digest x13) ∧
∃ x14 : yapi_Digest.T, At w7 a1 (cells yapi_Digest x14) ∧
C_digest_Join x13 x14 (fun x15 w10 =>
stK w10 a1 (cells yapi_Digest x15) fun w11 =>
(2 : Int) ≠ 0 ∧
arith .i64 (Int.tdiv x5.1 (2 : Int)) fun n16 =>
next6 (n16, ()) w11) w7)) (
∃ x17 : yapi_Digest.T, At w6 a4 (cells yapi_Digest x17) ∧
stK w6 a2 (cells yapi_Digest x17) fun w12 =>
∃ x18 : yapi_Digest.T, At w12 a2 (cells yapi_Digest x18) ∧
K x18 w12)) w2
theorem S_digest_Repeat (v0_d : yapi_Digest.T) (v1_k : Int) (K : yapi_Digest.T → World → Prop) (w0 : World) (h : F_digest_Repeat v0_d v1_k K w0) : C_digest_Repeat v0_d v1_k K w0 := by
  have e : denFn P [(1002, [(1, .int .i64)]), (6, [])] Tryz.f118 #[val yapi_Digest v0_d, .int .i64 v1_k] yapi_Digest K w0 = F_digest_Repeat v0_d v1_k K w0 := by kernel_rfl
  exact fn_sound mixed (f := 118) Tryz.func118 (by kernel_rfl) (e.mpr h)

def F_digest_Join (v0_a : yapi_Digest.T) (v1_b : yapi_Digest.T) (K : yapi_Digest.T → World → Prop) (w0 : World) : Prop :=
allocK (.cells (cells yapi_Digest v0_a).toArray t_api_Digest) w0 fun a1 w1 =>
allocK (.cells (cells yapi_Digest v1_b).toArray t_api_Digest) w1 fun a2 w2 =>
allocK (.cells #[.int .u64 (0 : Int), .int .u64 (0 : Int)] t_api_Digest) w2 fun a3 w3 =>
drawK w3 fun w4 =>
∃ x4 : Int, At w4 (a1.add 0) (cells (.int .u64) x4) ∧
∃ x5 : Int, At w4 (a2.add 1) (cells (.int .u64) x5) ∧
∃ x6 : Int, At w4 (a2.add 0) (cells (.int .u64) x6) ∧
∃ x7 : Int, At w4 (a1.add 1) (cells (.int .u64) x7) ∧
∃ x8 : Int, At w4 (a2.add 1) (cells (.int .u64) x8) ∧
C_modular_Mul x4 x5 (fun x9 w5 =>
At w5 (a2.add 1) (cells (.int .u64) x8) ∧
At w5 (a1.add 1) (cells (.int .u64) x7) ∧
At w5 (a2.add 0) (cells (.int .u64) x6) ∧
C_modular_Add x9 x6 (fun x10 w6 =>
At w6 (a2.add 1) (cells (.int .u64) x8) ∧
At w6 (a1.add 1) (cells (.int .u64) x7) ∧
C_modular_Mul x7 x8 (fun x11 w7 =>
stK w7 a3 ([.int .u64 x10, .int .u64 x11]) fun w8 =>
∃ x12 : yapi_Digest.T, At w8 a3 (cells yapi_Digest x12) ∧
K x12 w8) w6) w5) w4
theorem S_digest_Join (v0_a : yapi_Digest.T) (v1_b : yapi_Digest.T) (K : yapi_Digest.T → World → Prop) (w0 : World) (h : F_digest_Join v0_a v1_b K w0) : C_digest_Join v0_a v1_b K w0 := by
  have e : denFn P [] Tryz.f119 #[val yapi_Digest v0_a, val yapi_Digest v1_b] yapi_Digest K w0 = F_digest_Join v0_a v1_b K w0 := by kernel_rfl
  exact fn_sound mixed (f := 119) Tryz.func119 (by kernel_rfl) (e.mpr h)

def F_rule_place (v0_r : yapi_Rule.T) (v1_n : Int) (K : Value → World → Prop) (w0 : World) : Prop :=
allocK (.cells (cells yapi_Rule v0_r).toArray t_api_Rule) w0 fun a1 w1 =>
gd (decide (v1_n < (1 : Int))) (
K (.iface t_api_Errno (.int .i64 (1 : Int))) w1) (
∃ x2 : yapi_Rule.T, At w1 a1 (cells yapi_Rule x2) ∧
C_rule_Refs x2 (fun x3 w2 =>
LoopP (X := Int × Unit) ((0 : Int), ()) w2 fun next5 x4 w3 => ∀ _ : Env,
gd (decide (x4.1 < (x3.len : Int))) (
idxK x3.a x3.len x4.1 1 fun p6 =>
∃ x7 : Int, At w3 p6 (cells (.int .i64) x7) ∧
JoinP (X := Bool × Unit) (fun R9 =>
gd (decide (x7 < (1 : Int))) (
R9 (true, ()) w3) (
arith .i64 (v1_n - (1 : Int)) fun n10 =>
R9 (decide (n10 < x7), ()) w3)) (fun x8 w4 => ∀ _ : Env,
gd x8.1 (
K (.iface t_api_Errno (.int .i64 (1 : Int))) w4) (
arith .i64 (x4.1 + (1 : Int)) fun n11 =>
next5 (n11, ()) w4))) (
K .nilIface w3)) w1)
theorem S_rule_place (v0_r : yapi_Rule.T) (v1_n : Int) (K : Value → World → Prop) (w0 : World) (h : F_rule_place v0_r v1_n K w0) : C_rule_place v0_r v1_n K w0 := by
  have e : denFn P [(1004, [(13, .int .i64)]), (7, [(24, .bool)])] Tryz.f120 #[val yapi_Rule v0_r, .int .i64 v1_n] .iface K w0 = F_rule_place v0_r v1_n K w0 := by kernel_rfl
  exact fn_sound mixed (f := 120) Tryz.func120 (by kernel_rfl) (e.mpr h)

def F_digest_Unit  (K : yapi_Digest.T → World → Prop) (w0 : World) : Prop :=
allocK (.cells #[.int .u64 (0 : Int), .int .u64 (0 : Int)] t_api_Digest) w0 fun a1 w1 =>
stK w1 a1 ([.int .u64 (0 : Int), .int .u64 (1 : Int)]) fun w2 =>
∃ x2 : yapi_Digest.T, At w2 a1 (cells yapi_Digest x2) ∧
K x2 w2
theorem S_digest_Unit  (K : yapi_Digest.T → World → Prop) (w0 : World) (h : F_digest_Unit  K w0) : C_digest_Unit  K w0 := by
  have e : denFn P [] Tryz.f145 #[] yapi_Digest K w0 = F_digest_Unit  K w0 := by kernel_rfl
  exact fn_sound mixed (f := 145) Tryz.func145 (by kernel_rfl) (e.mpr h)

def F_modular_Pow (v0_a : Int) (v1_n : Int) (K : Int → World → Prop) (w0 : World) : Prop :=
C_modular_Reduce v0_a (fun x1 w1 =>
LoopP (X := Int × Int × Int × Unit) (x1, v1_n, (1 : Int), ()) w1 fun next3 x2 w2 => ∀ _ : Env,
gd (decide ((0 : Int) < x2.2.1)) (
JoinP (X := Int × Unit) (fun R5 =>
(2 : Int) ≠ 0 ∧
letZ (Int.tmod x2.2.1 (2 : Int)) fun n6 =>
gd (n6 == (1 : Int)) (
C_modular_Mul x2.2.2.1 x2.1 (fun x7 w4 =>
R5 (x7, ()) w4) w2) (
R5 (x2.2.2.1, ()) w2)) (fun x4 w3 => ∀ _ : Env,
C_modular_Mul x2.1 x2.1 (fun x8 w5 =>
(2 : Int) ≠ 0 ∧
arith .u64 (Int.tdiv x2.2.1 (2 : Int)) fun n9 =>
next3 (x8, n9, x4.1, ()) w5) w3)) (
K x2.2.2.1 w2)) w0
theorem S_modular_Pow (v0_a : Int) (v1_n : Int) (K : Int → World → Prop) (w0 : World) (h : F_modular_Pow v0_a v1_n K w0) : C_modular_Pow v0_a v1_n K w0 := by
  have e : denFn P [(1003, [(0, .int .u64), (1, .int .u64), (5, .int .u64)]), (7, [(5, .int .u64)])] Tryz.f146 #[.int .u64 v0_a, .int .u64 v1_n] (.int .u64) K w0 = F_modular_Pow v0_a v1_n K w0 := by kernel_rfl
  exact fn_sound mixed (f := 146) Tryz.func146 (by kernel_rfl) (e.mpr h)

def F_modular_Add (v0_a : Int) (v1_b : Int) (K : Int → World → Prop) (w0 : World) : Prop :=
C_modular_Reduce v0_a (fun x1 w1 =>
C_modular_Reduce v1_b (fun x2 w2 =>
arith .u64 (x1 + x2) fun n3 =>
C_modular_Reduce n3 (fun x4 w3 =>
K x4 w3) w2) w1) w0
theorem S_modular_Add (v0_a : Int) (v1_b : Int) (K : Int → World → Prop) (w0 : World) (h : F_modular_Add v0_a v1_b K w0) : C_modular_Add v0_a v1_b K w0 := by
  have e : denFn P [] Tryz.f147 #[.int .u64 v0_a, .int .u64 v1_b] (.int .u64) K w0 = F_modular_Add v0_a v1_b K w0 := by kernel_rfl
  exact fn_sound mixed (f := 147) Tryz.func147 (by kernel_rfl) (e.mpr h)

def F_modular_Mul (v0_a : Int) (v1_b : Int) (K : Int → World → Prop) (w0 : World) : Prop :=
C_modular_Reduce v0_a (fun x1 w1 =>
C_modular_Reduce v1_b (fun x2 w2 =>
C_bits_Mul64 x1 x2 (fun x3 w3 =>
0 ≤ (3 : Int) ∧
arith .u64 (x3.1 * 2 ^ min (Int.toNat (3 : Int)) (IntKind.bits .u64)) fun n4 =>
0 ≤ (61 : Int) ∧
letZ (Int.fdiv x3.2 (2 ^ min (Int.toNat (61 : Int)) (IntKind.bits .u64))) fun n5 =>
arith .u64 (n4 + n5) fun n6 =>
arith .u64 ((BitVec.ofInt (IntKind.bits .u64) x3.2 &&& BitVec.ofInt (IntKind.bits .u64) (2305843009213693951 : Int)).toNat) fun n7 =>
arith .u64 (n6 + n7) fun n8 =>
C_modular_Reduce n8 (fun x9 w4 =>
K x9 w4) w3) w2) w1) w0
theorem S_modular_Mul (v0_a : Int) (v1_b : Int) (K : Int → World → Prop) (w0 : World) (h : F_modular_Mul v0_a v1_b K w0) : C_modular_Mul v0_a v1_b K w0 := by
  have e : denFn P [] Tryz.f148 #[.int .u64 v0_a, .int .u64 v1_b] (.int .u64) K w0 = F_modular_Mul v0_a v1_b K w0 := by kernel_rfl
  exact fn_sound mixed (f := 148) Tryz.func148 (by kernel_rfl) (e.mpr h)

def F_modular_Reduce (v0_x : Int) (K : Int → World → Prop) (w0 : World) : Prop :=
arith .u64 ((BitVec.ofInt (IntKind.bits .u64) v0_x &&& BitVec.ofInt (IntKind.bits .u64) (2305843009213693951 : Int)).toNat) fun n1 =>
0 ≤ (61 : Int) ∧
letZ (Int.fdiv v0_x (2 ^ min (Int.toNat (61 : Int)) (IntKind.bits .u64))) fun n2 =>
arith .u64 (n1 + n2) fun n3 =>
JoinP (X := Int × Unit) (fun R5 =>
gd (decide ((2305843009213693951 : Int) ≤ n3)) (
arith .u64 (n3 - (2305843009213693951 : Int)) fun n6 =>
R5 (n6, ()) w0) (
R5 (n3, ()) w0)) (fun x4 w1 => ∀ _ : Env,
K x4.1 w1)
theorem S_modular_Reduce (v0_x : Int) (K : Int → World → Prop) (w0 : World) (h : F_modular_Reduce v0_x K w0) : C_modular_Reduce v0_x K w0 := by
  have e : denFn P [(4, [(0, .int .u64)])] Tryz.f158 #[.int .u64 v0_x] (.int .u64) K w0 = F_modular_Reduce v0_x K w0 := by kernel_rfl
  exact fn_sound mixed (f := 158) Tryz.func158 (by kernel_rfl) (e.mpr h)

def F_bits_Mul64 (v0_x : Int) (v1_y : Int) (K : (Int × Int) → World → Prop) (w0 : World) : Prop :=
arith .u64 ((BitVec.ofInt (IntKind.bits .u64) v0_x &&& BitVec.ofInt (IntKind.bits .u64) (4294967295 : Int)).toNat) fun n1 =>
0 ≤ (32 : Int) ∧
letZ (Int.fdiv v0_x (2 ^ min (Int.toNat (32 : Int)) (IntKind.bits .u64))) fun n2 =>
arith .u64 ((BitVec.ofInt (IntKind.bits .u64) v1_y &&& BitVec.ofInt (IntKind.bits .u64) (4294967295 : Int)).toNat) fun n3 =>
0 ≤ (32 : Int) ∧
letZ (Int.fdiv v1_y (2 ^ min (Int.toNat (32 : Int)) (IntKind.bits .u64))) fun n4 =>
arith .u64 (n1 * n3) fun n5 =>
arith .u64 (n2 * n3) fun n6 =>
0 ≤ (32 : Int) ∧
letZ (Int.fdiv n5 (2 ^ min (Int.toNat (32 : Int)) (IntKind.bits .u64))) fun n7 =>
arith .u64 (n6 + n7) fun n8 =>
arith .u64 ((BitVec.ofInt (IntKind.bits .u64) n8 &&& BitVec.ofInt (IntKind.bits .u64) (4294967295 : Int)).toNat) fun n9 =>
0 ≤ (32 : Int) ∧
letZ (Int.fdiv n8 (2 ^ min (Int.toNat (32 : Int)) (IntKind.bits .u64))) fun n10 =>
arith .u64 (n1 * n4) fun n11 =>
arith .u64 (n9 + n11) fun n12 =>
arith .u64 (n2 * n4) fun n13 =>
arith .u64 (n13 + n10) fun n14 =>
0 ≤ (32 : Int) ∧
letZ (Int.fdiv n12 (2 ^ min (Int.toNat (32 : Int)) (IntKind.bits .u64))) fun n15 =>
arith .u64 (n14 + n15) fun n16 =>
arith .u64 (v0_x * v1_y) fun n17 =>
K (n16, n17) w0
theorem S_bits_Mul64 (v0_x : Int) (v1_y : Int) (K : (Int × Int) → World → Prop) (w0 : World) (h : F_bits_Mul64 v0_x v1_y K w0) : C_bits_Mul64 v0_x v1_y K w0 := by
  have e : denFn P [] Tryz.f159 #[.int .u64 v0_x, .int .u64 v1_y] (.tup (.pair (.int .u64) (.int .u64))) K w0 = F_bits_Mul64 v0_x v1_y K w0 := by kernel_rfl
  exact fn_sound mixed (f := 159) Tryz.func159 (by kernel_rfl) (e.mpr h)

end Go.Proofs.YtnmgjpcooncjlaaGreat
