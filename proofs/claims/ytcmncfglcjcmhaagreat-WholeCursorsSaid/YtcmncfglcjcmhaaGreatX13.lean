/- Texts that belong together, joined: Text13. No conditions. -/
import Derived.Test.YtcmncfglcjcmhaaGreatX0
/- The typed texts of the functions, printed by a program; each proved to imply the call. -/
set_option linter.unusedVariables false
set_option maxRecDepth 100000
set_option maxHeartbeats 4000000
namespace Go.Proofs.YtcmncfglcjcmhaaGreat
open Go.Den

def F_access_divide (v0_todo : Sl) (v1_r : yapi_Rule.T) (v2_left : Int) (v3_x : yaccess_span.T) (K : Sl → World → Prop) (w0 : World) : Prop :=
allocK (.cells (cells yapi_Rule v1_r).toArray t_api_Rule) w0 fun a1 w1 =>
allocK (.cells (cells yaccess_span v3_x).toArray t_access_span) w1 fun a2 w2 =>
∃ x3 : Int, At w2 (a2.add 1) (cells (.int .i64) x3) ∧
v2_left ≠ 0 ∧
letZ (Int.tmod x3 v2_left) fun n4 =>
∃ x5 : Int, At w2 (a2.add 2) (cells (.int .i64) x5) ∧
arith .i64 (n4 + x5) fun n6 =>
gd (decide (n6 ≤ v2_left)) (
∃ x7 : Int, At w2 (a1.add 2) (cells (.int .i64) x7) ∧
∃ x8 : Int, At w2 (a2.add 2) (cells (.int .i64) x8) ∧
allocK (.cells #[.int .i64 x7, .int .i64 n4, .int .i64 x8, .int .i64 (1 : Int)] t_access_span) w2 fun a9 w3 =>
appK t_access_span 4 32 #[.int .i64 (0 : Int), .int .i64 (0 : Int), .int .i64 (0 : Int), .int .i64 (0 : Int)] v0_todo.a v0_todo.len v0_todo.cap (.slice (some a9) 1 1) 1 w3 fun s10 w4 =>
K s10 w4) (
arith .i64 (v2_left - n4) fun n11 =>
v2_left ≠ 0 ∧
letZ (Int.tmod n11 v2_left) fun n12 =>
∃ x13 : Int, At w2 (a2.add 2) (cells (.int .i64) x13) ∧
arith .i64 (x13 - n12) fun n14 =>
drawK w2 fun w5 =>
∃ x15 : Int, At w5 (a1.add 2) (cells (.int .i64) x15) ∧
v2_left ≠ 0 ∧
letZ (Int.tmod n14 v2_left) fun n16 =>
∃ x17 : Int, At w5 (a1.add 2) (cells (.int .i64) x17) ∧
v2_left ≠ 0 ∧
arith .i64 (Int.tdiv n14 v2_left) fun n18 =>
∃ x19 : Int, At w5 (a1.add 2) (cells (.int .i64) x19) ∧
allocK (.cells #[.int .i64 x15, .int .i64 (0 : Int), .int .i64 n16, .int .i64 (1 : Int), .int .i64 x17, .int .i64 (0 : Int), .int .i64 v2_left, .int .i64 n18, .int .i64 x19, .int .i64 n4, .int .i64 n12, .int .i64 (1 : Int)] t_access_span) w5 fun a20 w6 =>
appK t_access_span 4 32 #[.int .i64 (0 : Int), .int .i64 (0 : Int), .int .i64 (0 : Int), .int .i64 (0 : Int)] v0_todo.a v0_todo.len v0_todo.cap (.slice (some a20) 3 3) 3 w6 fun s21 w7 =>
K s21 w7)
theorem S_access_divide (v0_todo : Sl) (v1_r : yapi_Rule.T) (v2_left : Int) (v3_x : yaccess_span.T) (K : Sl → World → Prop) (w0 : World) (h : F_access_divide v0_todo v1_r v2_left v3_x K w0) : C_access_divide v0_todo v1_r v2_left v3_x K w0 := by
  have e : denFn P [] Tryz.f66 #[.slice v0_todo.a v0_todo.len v0_todo.cap, val yapi_Rule v1_r, .int .i64 v2_left, val yaccess_span v3_x] .slice K w0 = F_access_divide v0_todo v1_r v2_left v3_x K w0 := by kernel_rfl
  exact fn_sound mixed (f := 66) Tryz.func66 (by kernel_rfl) (e.mpr h)

def F_digest_Unit  (K : yapi_Digest.T → World → Prop) (w0 : World) : Prop :=
allocK (.cells #[.int .u64 (0 : Int), .int .u64 (0 : Int)] t_api_Digest) w0 fun a1 w1 =>
stK w1 a1 ([.int .u64 (0 : Int), .int .u64 (1 : Int)]) fun w2 =>
∃ x2 : yapi_Digest.T, At w2 a1 (cells yapi_Digest x2) ∧
K x2 w2
theorem S_digest_Unit  (K : yapi_Digest.T → World → Prop) (w0 : World) (h : F_digest_Unit  K w0) : C_digest_Unit  K w0 := by
  have e : denFn P [] Tryz.f67 #[] yapi_Digest K w0 = F_digest_Unit  K w0 := by kernel_rfl
  exact fn_sound mixed (f := 67) Tryz.func67 (by kernel_rfl) (e.mpr h)

def F_weight_Valid (v0_w : yapi_Weight.T) (K : Bool → World → Prop) (w0 : World) : Prop :=
allocK (.cells (cells yapi_Weight v0_w).toArray t_api_Weight) w0 fun a1 w1 =>
JoinP (X := Bool × Unit) (fun R3 =>
∃ x4 : Int, At w1 (a1.add 0) (cells (.int .i64) x4) ∧
C_length_Valid x4 (fun x5 w3 =>
gd (!x5) (
R3 (true, ()) w3) (
∃ x6 : Int, At w3 (a1.add 1) (cells (.int .i64) x6) ∧
R3 (decide (x6 < (0 : Int)), ()) w3)) w1) (fun x2 w2 => ∀ _ : Env,
gd x2.1 (
K false w2) (
JoinP (X := Unit) (fun R8 =>
∃ x9 : Int, At w2 (a1.add 1) (cells (.int .i64) x9) ∧
gd (x9 == (0 : Int)) (
JoinP (X := Bool × Unit) (fun R11 =>
∃ x12 : Int, At w2 (a1.add 2) (cells (.int .i64) x12) ∧
∃ x13 : Int, At w2 (a1.add 0) (cells (.int .i64) x13) ∧
gd (x12 != x13) (
R11 (true, ()) w2) (
∃ x14 : Int, At w2 (a1.add 3) (cells (.int .i64) x14) ∧
∃ x15 : Int, At w2 (a1.add 0) (cells (.int .i64) x15) ∧
R11 (x14 != x15, ()) w2)) (fun x10 w5 => ∀ _ : Env,
gd x10.1 (
K false w5) (
R8 () w5))) (
JoinP (X := Bool × Unit) (fun R17 =>
∃ x18 : Int, At w2 (a1.add 2) (cells (.int .i64) x18) ∧
gd (decide (x18 < (0 : Int))) (
R17 (true, ()) w2) (
∃ x19 : Int, At w2 (a1.add 2) (cells (.int .i64) x19) ∧
∃ x20 : Int, At w2 (a1.add 0) (cells (.int .i64) x20) ∧
gd (decide (x20 < x19)) (
R17 (true, ()) w2) (
∃ x21 : Int, At w2 (a1.add 3) (cells (.int .i64) x21) ∧
gd (decide (x21 < (0 : Int))) (
R17 (true, ()) w2) (
∃ x22 : Int, At w2 (a1.add 3) (cells (.int .i64) x22) ∧
∃ x23 : Int, At w2 (a1.add 0) (cells (.int .i64) x23) ∧
∃ x24 : Int, At w2 (a1.add 2) (cells (.int .i64) x24) ∧
arith .i64 (x23 - x24) fun n25 =>
R17 (decide (n25 < x22), ()) w2)))) (fun x16 w6 => ∀ _ : Env,
gd x16.1 (
K false w6) (
∃ x26 : Int, At w6 (a1.add 0) (cells (.int .i64) x26) ∧
∃ x27 : Int, At w6 (a1.add 2) (cells (.int .i64) x27) ∧
arith .i64 (x26 - x27) fun n28 =>
∃ x29 : Int, At w6 (a1.add 3) (cells (.int .i64) x29) ∧
arith .i64 (n28 - x29) fun n30 =>
JoinP (X := Bool × Unit) (fun R32 =>
∃ x33 : Int, At w6 (a1.add 1) (cells (.int .i64) x33) ∧
gd (decide (n30 < x33)) (
R32 (true, ()) w6) (
∃ x34 : Int, At w6 (a1.add 1) (cells (.int .i64) x34) ∧
gd (x34 == (1 : Int)) (
R32 (n30 != (1 : Int), ()) w6) (
R32 (false, ()) w6))) (fun x31 w7 => ∀ _ : Env,
gd x31.1 (
K false w7) (
R8 () w7)))))) (fun x7 w4 => ∀ _ : Env,
JoinP (X := Bool × Unit) (fun R36 =>
∃ x37 : Int, At w4 ((a1.add 4).add 0) (cells (.int .u64) x37) ∧
gd (decide ((2305843009213693951 : Int) ≤ x37)) (
R36 (true, ()) w4) (
∃ x38 : Int, At w4 (a1.add 0) (cells (.int .i64) x38) ∧
gd (x38 == (0 : Int)) (
∃ x39 : Int, At w4 ((a1.add 4).add 0) (cells (.int .u64) x39) ∧
R36 (x39 != (0 : Int), ()) w4) (
R36 (false, ()) w4))) (fun x35 w8 => ∀ _ : Env,
gd x35.1 (
K false w8) (
drawK w8 fun w9 =>
∃ x40 : Int, At w9 ((a1.add 4).add 1) (cells (.int .u64) x40) ∧
∃ x41 : Int, At w9 (a1.add 0) (cells (.int .i64) x41) ∧
arith .u64 (x41) fun n42 =>
C_modular_Pow (1103515245 : Int) n42 (fun x43 w10 =>
At w10 ((a1.add 4).add 1) (cells (.int .u64) x40) ∧
K (x40 == x43) w10) w9)))))
theorem S_weight_Valid (v0_w : yapi_Weight.T) (K : Bool → World → Prop) (w0 : World) (h : F_weight_Valid v0_w K w0) : C_weight_Valid v0_w K w0 := by
  have e : denFn P [(2, [(12, .bool)]), (11, []), (5, [(27, .bool)]), (7, [(52, .bool)]), (10, [(73, .bool)]), (12, [(88, .bool)])] Tryz.f68 #[val yapi_Weight v0_w] .bool K w0 = F_weight_Valid v0_w K w0 := by kernel_rfl
  exact fn_sound mixed (f := 68) Tryz.func68 (by kernel_rfl) (e.mpr h)

def F_length_Mul (v0_a : Int) (v1_k : Int) (K : (Int × Value) → World → Prop) (w0 : World) : Prop :=
JoinP (X := Bool × Unit) (fun R2 =>
C_length_Valid v0_a (fun x3 w2 =>
gd (!x3) (
R2 (true, ()) w2) (
R2 (decide (v1_k < (0 : Int)), ()) w2)) w0) (fun x1 w1 => ∀ _ : Env,
gd x1.1 (
K ((0 : Int), .iface t_api_Errno (.int .i64 (1 : Int))) w1) (
gd (v0_a == (0 : Int)) (
K ((0 : Int), .nilIface) w1) (
v0_a ≠ 0 ∧
arith .i64 (Int.tdiv (1152921504606846976 : Int) v0_a) fun n4 =>
gd (decide (n4 < v1_k)) (
K ((0 : Int), .iface t_api_Errno (.int .i64 (2 : Int))) w1) (
arith .i64 (v0_a * v1_k) fun n5 =>
K (n5, .nilIface) w1))))
theorem S_length_Mul (v0_a : Int) (v1_k : Int) (K : (Int × Value) → World → Prop) (w0 : World) (h : F_length_Mul v0_a v1_k K w0) : C_length_Mul v0_a v1_k K w0 := by
  have e : denFn P [(2, [(12, .bool)])] Tryz.f69 #[.int .i64 v0_a, .int .i64 v1_k] (.tup (.pair (.int .i64) .iface)) K w0 = F_length_Mul v0_a v1_k K w0 := by kernel_rfl
  exact fn_sound mixed (f := 69) Tryz.func69 (by kernel_rfl) (e.mpr h)

def F_digest_Repeat (v0_d : yapi_Digest.T) (v1_k : Int) (K : yapi_Digest.T → World → Prop) (w0 : World) : Prop :=
allocK (.cells (cells yapi_Digest v0_d).toArray t_api_Digest) w0 fun a1 w1 =>
allocK (.cells #[.int .u64 (0 : Int), .int .u64 (0 : Int)] t_api_Digest) w1 fun a2 w2 =>
C_digest_Unit  (fun x3 w3 =>
allocK (.cells #[.int .u64 (0 : Int), .int .u64 (0 : Int)] t_api_Digest) w3 fun a4 w4 =>
stK w4 a4 (cells yapi_Digest x3) fun w5 =>
LoopP (X := Int × Unit) (v1_k, ()) w5 fun next6 x5 w6 => ∀ _ : Env,
gd (decide ((0 : Int) < x5.1)) (
JoinP (X := Unit) (fun R8 =>
(2 : Int) ≠ 0 ∧
letZ (Int.tmod x5.1 (2 : Int)) fun n9 =>
gd (n9 == (1 : Int)) (
∃ x10 : yapi_Digest.T, At w6 a4 (cells yapi_Digest x10) ∧
∃ x11 : yapi_Digest.T, At w6 a1 (cells yapi_Digest x11) ∧
C_digest_Join x10 x11 (fun x12 w8 =>
stK w8 a4 (cells yapi_Digest x12) fun w9 =>
R8 () w9) w6) (
R8 () w6)) (fun x7 w7 => ∀ _ : Env,
∃ x13 : yapi_Digest.T, At w7 a1 (cells yapi_Digest x13) ∧
∃ x14 : yapi_Digest.T, At w7 a1 (cells yapi_Digest x14) ∧
C_digest_Join x13 x14 (fun x15 w10 =>
stK w10 a1 (cells yapi_Digest x15) fun w11 =>
(2 : Int) ≠ 0 ∧
arith .i64 (Int.tdiv x5.1 (2 : Int)) fun n16 =>
next6 (n16, ()) w11) w7)) (
∃ x17 : yapi_Digest.T, At w6 a4 (cells yapi_Digest x17) ∧
stK w6 a2 (cells yapi_Digest x17) fun w12 =>
∃ x18 : yapi_Digest.T, At w12 a2 (cells yapi_Digest x18) ∧
K x18 w12)) w2
theorem S_digest_Repeat (v0_d : yapi_Digest.T) (v1_k : Int) (K : yapi_Digest.T → World → Prop) (w0 : World) (h : F_digest_Repeat v0_d v1_k K w0) : C_digest_Repeat v0_d v1_k K w0 := by
  have e : denFn P [(1002, [(1, .int .i64)]), (6, [])] Tryz.f70 #[val yapi_Digest v0_d, .int .i64 v1_k] yapi_Digest K w0 = F_digest_Repeat v0_d v1_k K w0 := by kernel_rfl
  exact fn_sound mixed (f := 70) Tryz.func70 (by kernel_rfl) (e.mpr h)

end Go.Proofs.YtcmncfglcjcmhaaGreat
