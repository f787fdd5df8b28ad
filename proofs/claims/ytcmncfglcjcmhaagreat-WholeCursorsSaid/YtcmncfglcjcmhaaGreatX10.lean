/- Texts that belong together, joined: Text10. No conditions. -/
import Derived.Test.YtcmncfglcjcmhaaGreatX0
/- The typed texts of the functions, printed by a program; each proved to imply the call. -/
set_option linter.unusedVariables false
set_option maxRecDepth 100000
set_option maxHeartbeats 4000000
namespace Go.Proofs.YtcmncfglcjcmhaaGreat
open Go.Den

def F_weight_Unit  (K : yapi_Weight.T → World → Prop) (w0 : World) : Prop :=
allocK (.cells #[.int .i64 (0 : Int), .int .i64 (0 : Int), .int .i64 (0 : Int), .int .i64 (0 : Int), .int .u64 (0 : Int), .int .u64 (0 : Int)] t_api_Weight) w0 fun a1 w1 =>
C_digest_Unit  (fun x2 w2 =>
stK w2 a1 ([.int .i64 (0 : Int), .int .i64 (0 : Int), .int .i64 (0 : Int), .int .i64 (0 : Int), .int .u64 x2.1, .int .u64 x2.2]) fun w3 =>
∃ x3 : yapi_Weight.T, At w3 a1 (cells yapi_Weight x3) ∧
K x3 w3) w1
theorem S_weight_Unit  (K : yapi_Weight.T → World → Prop) (w0 : World) (h : F_weight_Unit  K w0) : C_weight_Unit  K w0 := by
  have e : denFn P [] Tryz.f52 #[] yapi_Weight K w0 = F_weight_Unit  K w0 := by kernel_rfl
  exact fn_sound mixed (f := 52) Tryz.func52 (by kernel_rfl) (e.mpr h)

def F_access_Weight_1 (v0_x : Int) (v1_times : Int) (v2 : Addr) (v3 : Addr) (K : Value → World → Prop) (w0 : World) : Prop :=
∃ x1 : Option Addr, At w0 v2 (cells .ptr x1) ∧
C_intern_Store_Weight x1 v0_x (fun x2 w1 =>
allocK (.cells #[.int .i64 (0 : Int), .int .i64 (0 : Int), .int .i64 (0 : Int), .int .i64 (0 : Int), .int .u64 (0 : Int), .int .u64 (0 : Int)] t_api_Weight) w1 fun a3 w2 =>
stK w2 a3 (cells yapi_Weight x2.1) fun w3 =>
nilIfcK x2.2 fun b4 =>
gd (!b4) (
K x2.2 w3) (
JoinP (X := Unit) (fun R6 =>
gd (decide ((1 : Int) < v1_times)) (
∃ x7 : yapi_Weight.T, At w3 a3 (cells yapi_Weight x7) ∧
C_weight_Repeat x7 v1_times (fun x8 w5 =>
stK w5 a3 (cells yapi_Weight x8.1) fun w6 =>
nilIfcK x8.2 fun b9 =>
gd (!b9) (
K x8.2 w6) (
R6 () w6)) w3) (
R6 () w3)) (fun x5 w4 => ∀ _ : Env,
∃ x10 : yapi_Weight.T, At w4 v3 (cells yapi_Weight x10) ∧
∃ x11 : yapi_Weight.T, At w4 a3 (cells yapi_Weight x11) ∧
C_access_join x10 x11 (fun x12 w7 =>
stK w7 v3 (cells yapi_Weight x12) fun w8 =>
K .nilIface w8) w4))) w0
theorem S_access_Weight_1 (v0_x : Int) (v1_times : Int) (v2 : Addr) (v3 : Addr) (K : Value → World → Prop) (w0 : World) (h : F_access_Weight_1 v0_x v1_times v2 v3 K w0) : C_access_Weight_1 v0_x v1_times v2 v3 K w0 := by
  have e : denFn P [(8, [])] Tryz.f53 #[.int .i64 v0_x, .int .i64 v1_times, .pointer (some v2), .pointer (some v3)] .iface K w0 = F_access_Weight_1 v0_x v1_times v2 v3 K w0 := by kernel_rfl
  exact fn_sound mixed (f := 53) Tryz.func53 (by kernel_rfl) (e.mpr h)

def F_weight_Repeat (v0_w : yapi_Weight.T) (v1_k : Int) (K : (yapi_Weight.T × Value) → World → Prop) (w0 : World) : Prop :=
allocK (.cells (cells yapi_Weight v0_w).toArray t_api_Weight) w0 fun a1 w1 =>
allocK (.cells #[.int .i64 (0 : Int), .int .i64 (0 : Int), .int .i64 (0 : Int), .int .i64 (0 : Int), .int .u64 (0 : Int), .int .u64 (0 : Int)] t_api_Weight) w1 fun a2 w2 =>
∃ x3 : yapi_Weight.T, At w2 a1 (cells yapi_Weight x3) ∧
C_weight_Valid x3 (fun x4 w3 =>
gd (!x4) (
stK w3 a2 ([.int .i64 (0 : Int), .int .i64 (0 : Int), .int .i64 (0 : Int), .int .i64 (0 : Int), .int .u64 (0 : Int), .int .u64 (0 : Int)]) fun w4 =>
∃ x5 : yapi_Weight.T, At w4 a2 (cells yapi_Weight x5) ∧
K (x5, .iface t_api_Errno (.int .i64 (4 : Int))) w4) (
gd (decide (v1_k < (0 : Int))) (
stK w3 a2 ([.int .i64 (0 : Int), .int .i64 (0 : Int), .int .i64 (0 : Int), .int .i64 (0 : Int), .int .u64 (0 : Int), .int .u64 (0 : Int)]) fun w5 =>
∃ x6 : yapi_Weight.T, At w5 a2 (cells yapi_Weight x6) ∧
K (x6, .iface t_api_Errno (.int .i64 (1 : Int))) w5) (
∃ x7 : Int, At w3 (a1.add 0) (cells (.int .i64) x7) ∧
C_length_Mul x7 v1_k (fun x8 w6 =>
nilIfcK x8.2 fun b9 =>
gd (!b9) (
stK w6 a2 ([.int .i64 (0 : Int), .int .i64 (0 : Int), .int .i64 (0 : Int), .int .i64 (0 : Int), .int .u64 (0 : Int), .int .u64 (0 : Int)]) fun w7 =>
∃ x10 : yapi_Weight.T, At w7 a2 (cells yapi_Weight x10) ∧
K (x10, .iface t_api_Errno (.int .i64 (2 : Int))) w7) (
gd (x8.1 == (0 : Int)) (
C_weight_Unit  (fun x11 w8 =>
stK w8 a2 (cells yapi_Weight x11) fun w9 =>
∃ x12 : yapi_Weight.T, At w9 a2 (cells yapi_Weight x12) ∧
K (x12, .nilIface) w9) w6) (
JoinP (X := Addr × Unit) (fun R14 =>
drawK w6 fun w11 =>
∃ x15 : Int, At w11 (a1.add 1) (cells (.int .i64) x15) ∧
arith .i64 (x15 * v1_k) fun n16 =>
∃ x17 : Int, At w11 (a1.add 2) (cells (.int .i64) x17) ∧
∃ x18 : Int, At w11 (a1.add 3) (cells (.int .i64) x18) ∧
∃ x19 : yapi_Digest.T, At w11 (a1.add 4) (cells yapi_Digest x19) ∧
(C_digest_Repeat x19 v1_k (fun x20 w12 =>
At w12 (a1.add 3) (cells (.int .i64) x18) ∧
At w12 (a1.add 2) (cells (.int .i64) x17) ∧
At w12 (a1.add 1) (cells (.int .i64) x15) ∧
allocK (.cells #[.int .i64 (0 : Int), .int .i64 (0 : Int), .int .i64 (0 : Int), .int .i64 (0 : Int), .int .u64 (0 : Int), .int .u64 (0 : Int)] t_api_Weight) w12 fun a21 w13 =>
At w13 (a1.add 3) (cells (.int .i64) x18) ∧
At w13 (a1.add 2) (cells (.int .i64) x17) ∧
At w13 (a1.add 1) (cells (.int .i64) x15) ∧
stK w13 a21 ([.int .i64 x8.1, .int .i64 n16, .int .i64 x17, .int .i64 x18, .int .u64 x20.1, .int .u64 x20.2]) fun w14 =>
R14 (a21, ()) w14) w11) ∧
(allocK (.cells #[.int .i64 (0 : Int), .int .i64 (0 : Int), .int .i64 (0 : Int), .int .i64 (0 : Int), .int .u64 (0 : Int), .int .u64 (0 : Int)] t_api_Weight) w11 fun a22 w15 =>
At w15 (a1.add 4) (cells yapi_Digest x19) ∧
At w15 (a1.add 3) (cells (.int .i64) x18) ∧
At w15 (a1.add 2) (cells (.int .i64) x17) ∧
At w15 (a1.add 1) (cells (.int .i64) x15) ∧
C_digest_Repeat x19 v1_k (fun x23 w16 =>
At w16 (a1.add 3) (cells (.int .i64) x18) ∧
At w16 (a1.add 2) (cells (.int .i64) x17) ∧
At w16 (a1.add 1) (cells (.int .i64) x15) ∧
stK w16 a22 ([.int .i64 x8.1, .int .i64 n16, .int .i64 x17, .int .i64 x18, .int .u64 x23.1, .int .u64 x23.2]) fun w17 =>
R14 (a22, ()) w17) w15)) (fun x13 w10 => ∀ _ : Env,
JoinP (X := Unit) (fun R25 =>
∃ x26 : Int, At w10 (a1.add 1) (cells (.int .i64) x26) ∧
gd (x26 == (0 : Int)) (
stK w10 (x13.1.add 2) ([.int .i64 x8.1]) fun w19 =>
stK w19 (x13.1.add 3) ([.int .i64 x8.1]) fun w20 =>
R25 () w20) (
R25 () w10)) (fun x24 w18 => ∀ _ : Env,
∃ x27 : yapi_Weight.T, At w18 x13.1 (cells yapi_Weight x27) ∧
stK w18 a2 (cells yapi_Weight x27) fun w21 =>
∃ x28 : yapi_Weight.T, At w21 a2 (cells yapi_Weight x28) ∧
K (x28, .nilIface) w21))))) w3))) w2
theorem S_weight_Repeat (v0_w : yapi_Weight.T) (v1_k : Int) (K : (yapi_Weight.T × Value) → World → Prop) (w0 : World) (h : F_weight_Repeat v0_w v1_k K w0) : C_weight_Repeat v0_w v1_k K w0 := by
  have e : denFn P [(11, [(8, .addr)]), (13, [])] Tryz.f54 #[val yapi_Weight v0_w, .int .i64 v1_k] (.tup (.pair yapi_Weight .iface)) K w0 = F_weight_Repeat v0_w v1_k K w0 := by kernel_rfl
  exact fn_sound mixed (f := 54) Tryz.func54 (by kernel_rfl) (e.mpr h)

def F_access_join (v0_a : yapi_Weight.T) (v1_b : yapi_Weight.T) (K : yapi_Weight.T → World → Prop) (w0 : World) : Prop :=
allocK (.cells (cells yapi_Weight v0_a).toArray t_api_Weight) w0 fun a1 w1 =>
allocK (.cells (cells yapi_Weight v1_b).toArray t_api_Weight) w1 fun a2 w2 =>
allocK (.cells #[.int .i64 (0 : Int), .int .i64 (0 : Int), .int .i64 (0 : Int), .int .i64 (0 : Int), .int .u64 (0 : Int), .int .u64 (0 : Int)] t_api_Weight) w2 fun a3 w3 =>
JoinP (X := Addr × Unit) (fun R5 =>
drawK w3 fun w5 =>
∃ x6 : Int, At w5 (a1.add 0) (cells (.int .i64) x6) ∧
∃ x7 : Int, At w5 (a2.add 0) (cells (.int .i64) x7) ∧
arith .i64 (x6 + x7) fun n8 =>
∃ x9 : Int, At w5 (a1.add 1) (cells (.int .i64) x9) ∧
∃ x10 : Int, At w5 (a2.add 1) (cells (.int .i64) x10) ∧
arith .i64 (x9 + x10) fun n11 =>
∃ x12 : Int, At w5 (a1.add 2) (cells (.int .i64) x12) ∧
∃ x13 : Int, At w5 (a2.add 3) (cells (.int .i64) x13) ∧
∃ x14 : yapi_Digest.T, At w5 (a1.add 4) (cells yapi_Digest x14) ∧
∃ x15 : yapi_Digest.T, At w5 (a2.add 4) (cells yapi_Digest x15) ∧
(C_digest_Join x14 x15 (fun x16 w6 =>
At w6 (a2.add 3) (cells (.int .i64) x13) ∧
At w6 (a1.add 2) (cells (.int .i64) x12) ∧
At w6 (a2.add 1) (cells (.int .i64) x10) ∧
At w6 (a1.add 1) (cells (.int .i64) x9) ∧
At w6 (a2.add 0) (cells (.int .i64) x7) ∧
At w6 (a1.add 0) (cells (.int .i64) x6) ∧
allocK (.cells #[.int .i64 (0 : Int), .int .i64 (0 : Int), .int .i64 (0 : Int), .int .i64 (0 : Int), .int .u64 (0 : Int), .int .u64 (0 : Int)] t_api_Weight) w6 fun a17 w7 =>
At w7 (a2.add 3) (cells (.int .i64) x13) ∧
At w7 (a1.add 2) (cells (.int .i64) x12) ∧
At w7 (a2.add 1) (cells (.int .i64) x10) ∧
At w7 (a1.add 1) (cells (.int .i64) x9) ∧
At w7 (a2.add 0) (cells (.int .i64) x7) ∧
At w7 (a1.add 0) (cells (.int .i64) x6) ∧
stK w7 a17 ([.int .i64 n8, .int .i64 n11, .int .i64 x12, .int .i64 x13, .int .u64 x16.1, .int .u64 x16.2]) fun w8 =>
R5 (a17, ()) w8) w5) ∧
(allocK (.cells #[.int .i64 (0 : Int), .int .i64 (0 : Int), .int .i64 (0 : Int), .int .i64 (0 : Int), .int .u64 (0 : Int), .int .u64 (0 : Int)] t_api_Weight) w5 fun a18 w9 =>
At w9 (a2.add 4) (cells yapi_Digest x15) ∧
At w9 (a1.add 4) (cells yapi_Digest x14) ∧
At w9 (a2.add 3) (cells (.int .i64) x13) ∧
At w9 (a1.add 2) (cells (.int .i64) x12) ∧
At w9 (a2.add 1) (cells (.int .i64) x10) ∧
At w9 (a1.add 1) (cells (.int .i64) x9) ∧
At w9 (a2.add 0) (cells (.int .i64) x7) ∧
At w9 (a1.add 0) (cells (.int .i64) x6) ∧
C_digest_Join x14 x15 (fun x19 w10 =>
At w10 (a2.add 3) (cells (.int .i64) x13) ∧
At w10 (a1.add 2) (cells (.int .i64) x12) ∧
At w10 (a2.add 1) (cells (.int .i64) x10) ∧
At w10 (a1.add 1) (cells (.int .i64) x9) ∧
At w10 (a2.add 0) (cells (.int .i64) x7) ∧
At w10 (a1.add 0) (cells (.int .i64) x6) ∧
stK w10 a18 ([.int .i64 n8, .int .i64 n11, .int .i64 x12, .int .i64 x13, .int .u64 x19.1, .int .u64 x19.2]) fun w11 =>
R5 (a18, ()) w11) w9)) (fun x4 w4 => ∀ _ : Env,
JoinP (X := Unit) (fun R21 =>
∃ x22 : Int, At w4 (a1.add 1) (cells (.int .i64) x22) ∧
gd (x22 == (0 : Int)) (
∃ x23 : Int, At w4 (a1.add 0) (cells (.int .i64) x23) ∧
∃ x24 : Int, At w4 (a2.add 2) (cells (.int .i64) x24) ∧
arith .i64 (x23 + x24) fun n25 =>
stK w4 (x4.1.add 2) ([.int .i64 n25]) fun w13 =>
R21 () w13) (
R21 () w4)) (fun x20 w12 => ∀ _ : Env,
JoinP (X := Unit) (fun R27 =>
∃ x28 : Int, At w12 (a2.add 1) (cells (.int .i64) x28) ∧
gd (x28 == (0 : Int)) (
∃ x29 : Int, At w12 (a2.add 0) (cells (.int .i64) x29) ∧
∃ x30 : Int, At w12 (a1.add 3) (cells (.int .i64) x30) ∧
arith .i64 (x29 + x30) fun n31 =>
stK w12 (x4.1.add 3) ([.int .i64 n31]) fun w15 =>
R27 () w15) (
R27 () w12)) (fun x26 w14 => ∀ _ : Env,
∃ x32 : yapi_Weight.T, At w14 x4.1 (cells yapi_Weight x32) ∧
stK w14 a3 (cells yapi_Weight x32) fun w16 =>
∃ x33 : yapi_Weight.T, At w16 a3 (cells yapi_Weight x33) ∧
K x33 w16)))
theorem S_access_join (v0_a : yapi_Weight.T) (v1_b : yapi_Weight.T) (K : yapi_Weight.T → World → Prop) (w0 : World) (h : F_access_join v0_a v1_b K w0) : C_access_join v0_a v1_b K w0 := by
  have e : denFn P [(2, [(5, .addr)]), (4, []), (6, [])] Tryz.f55 #[val yapi_Weight v0_a, val yapi_Weight v1_b] yapi_Weight K w0 = F_access_join v0_a v1_b K w0 := by kernel_rfl
  exact fn_sound mixed (f := 55) Tryz.func55 (by kernel_rfl) (e.mpr h)

end Go.Proofs.YtcmncfglcjcmhaaGreat
