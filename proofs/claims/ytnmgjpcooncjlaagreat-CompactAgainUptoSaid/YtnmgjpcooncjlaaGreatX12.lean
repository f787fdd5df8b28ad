/- Texts that belong together, joined: Text12. No conditions. -/
import Derived.Test.YtnmgjpcooncjlaaGreatX0
/- The typed texts of the functions, printed by a program; each proved to imply the call. -/
set_option linter.unusedVariables false
set_option maxRecDepth 100000
set_option maxHeartbeats 4000000
namespace Go.Proofs.YtnmgjpcooncjlaaGreat
open Go.Den

def F_weight_Repeat (v0_w : yapi_Weight.T) (v1_k : Int) (K : (yapi_Weight.T × Value) → World → Prop) (w0 : World) : Prop :=
allocK (.cells (cells yapi_Weight v0_w).toArray t_api_Weight) w0 fun a1 w1 =>
allocK (.cells #[.int .i64 (0 : Int), .int .i64 (0 : Int), .int .i64 (0 : Int), .int .i64 (0 : Int), .int .u64 (0 : Int), .int .u64 (0 : Int)] t_api_Weight) w1 fun a2 w2 =>
∃ x3 : yapi_Weight.T, At w2 a1 (cells yapi_Weight x3) ∧
C_weight_Valid x3 (fun x4 w3 =>
gd (!x4) (
stK w3 a2 ([.int .i64 (0 : Int), .int .i64 (0 : Int), .int .i64 (0 : Int), .int .i64 (0 : Int), .int .u64 (0 : Int), .int .u64 (0 : Int)]) fun w4 =>
∃ x5 : yapi_Weight.T, At w4 a2 (cells yapi_Weight x5) ∧
K (x5, .iface t_api_Errno (.int .i64 (4 : Int))) w4) (
gd (decide (v1_k < (0 : Int))) (
stK w3 a2 ([.int .i64 (0 : Int), .int .i64 (0 : Int), .int .i64 (0 : Int), .int .i64 (0 : Int), .int .u64 (0 : Int), .int .u64 (0 : Int)]) fun w5 =>
∃ x6 : yapi_Weight.T, At w5 a2 (cells yapi_Weight x6) ∧
K (x6, .iface t_api_Errno (.int .i64 (1 : Int))) w5) (
∃ x7 : Int, At w3 (a1.add 0) (cells (.int .i64) x7) ∧
C_length_Mul x7 v1_k (fun x8 w6 =>
nilIfcK x8.2 fun b9 =>
gd (!b9) (
stK w6 a2 ([.int .i64 (0 : Int), .int .i64 (0 : Int), .int .i64 (0 : Int), .int .i64 (0 : Int), .int .u64 (0 : Int), .int .u64 (0 : Int)]) fun w7 =>
∃ x10 : yapi_Weight.T, At w7 a2 (cells yapi_Weight x10) ∧
K (x10, .iface t_api_Errno (.int .i64 (2 : Int))) w7) (
gd (x8.1 == (0 : Int)) (
C_weight_Unit  (fun x11 w8 =>
stK w8 a2 (cells yapi_Weight x11) fun w9 =>
∃ x12 : yapi_Weight.T, At w9 a2 (cells yapi_Weight x12) ∧
K (x12, .nilIface) w9) w6) (
JoinP (X := Addr × Unit) (fun R14 =>
drawK w6 fun w11 =>
∃ x15 : Int, At w11 (a1.add 1) (cells (.int .i64) x15) ∧
arith .i64 (x15 * v1_k) fun n16 =>
∃ x17 : Int, At w11 (a1.add 2) (cells (.int .i64) x17) ∧
∃ x18 : Int, At w11 (a1.add 3) (cells (.int .i64) x18) ∧
∃ x19 : yapi_Digest.T, At w11 (a1.add 4) (cells yapi_Digest x19) ∧
(C_digest_Repeat x19 v1_k (fun x20 w12 =>
At w12 (a1.add 3) (cells (.int .i64) x18) ∧
At w12 (a1.add 2) (cells (.int .i64) x17) ∧
At w12 (a1.add 1) (cells (.int .i64) x15) ∧
allocK (.cells #[.int .i64 (0 : Int), .int .i64 (0 : Int), .int .i64 (0 : Int), .int .i64 (0 : Int), .int .u64 (0 : Int), .int .u64 (0 : Int)] t_api_Weight) w12 fun a21 w13 =>
At w13 (a1.add 3) (cells (.int .i64) x18) ∧
At w13 (a1.add 2) (cells (.int .i64) x17) ∧
At w13 (a1.add 1) (cells (.int .i64) x15) ∧
stK w13 a21 ([.int .i64 x8.1, .int .i64 n16, .int .i64 x17, .int .i64 x18, .int .u64 x20.1, .int .u64 x20.2]) fun w14 =>
R14 (a21, ()) w14) w11) ∧
(allocK (.cells #[.int .i64 (0 : Int), .int .i64 (0 : Int), .int .i64 (0 : Int), .int .i64 (0 : Int), .int .u64 (0 : Int), .int .u64 (0 : Int)] t_api_Weight) w11 fun a22 w15 =>
At w15 (a1.add 4) (cells yapi_Digest x19) ∧
At w15 (a1.add 3) (cells (.int .i64) x18) ∧
At w15 (a1.add 2) (cells (.int .i64) x17) ∧
At w15 (a1.add 1) (cells (.int .i64) x15) ∧
C_digest_Repeat x19 v1_k (fun x23 w16 =>
At w16 (a1.add 3) (cells (.int .i64) x18) ∧
At w16 (a1.add 2) (cells (.int .i64) x17) ∧
At w16 (a1.add 1) (cells (.int .i64) x15) ∧
stK w16 a22 ([.int .i64 x8.1, .int .i64 n16, .int .i64 x17, .int .i64 x18, .int .u64 x23.1, .int .u64 x23.2]) fun w17 =>
R14 (a22, ()) w17) w15)) (fun x13 w10 => ∀ _ : Env,
JoinP (X := Unit) (fun R25 =>
∃ x26 : Int, At w10 (a1.add 1) (cells (.int .i64) x26) ∧
gd (x26 == (0 : Int)) (
stK w10 (x13.1.add 2) ([.int .i64 x8.1]) fun w19 =>
stK w19 (x13.1.add 3) ([.int .i64 x8.1]) fun w20 =>
R25 () w20) (
R25 () w10)) (fun x24 w18 => ∀ _ : Env,
∃ x27 : yapi_Weight.T, At w18 x13.1 (cells yapi_Weight x27) ∧
stK w18 a2 (cells yapi_Weight x27) fun w21 =>
∃ x28 : yapi_Weight.T, At w21 a2 (cells yapi_Weight x28) ∧
K (x28, .nilIface) w21))))) w3))) w2
theorem S_weight_Repeat (v0_w : yapi_Weight.T) (v1_k : Int) (K : (yapi_Weight.T × Value) → World → Prop) (w0 : World) (h : F_weight_Repeat v0_w v1_k K w0) : C_weight_Repeat v0_w v1_k K w0 := by
  have e : denFn P [(11, [(8, .addr)]), (13, [])] Tryz.f93 #[val yapi_Weight v0_w, .int .i64 v1_k] (.tup (.pair yapi_Weight .iface)) K w0 = F_weight_Repeat v0_w v1_k K w0 := by kernel_rfl
  exact fn_sound mixed (f := 93) Tryz.func93 (by kernel_rfl) (e.mpr h)

def F_length_Add (v0_a : Int) (v1_b : Int) (K : (Int × Value) → World → Prop) (w0 : World) : Prop :=
JoinP (X := Bool × Unit) (fun R2 =>
C_length_Valid v0_a (fun x3 w2 =>
gd (!x3) (
R2 (true, ()) w2) (
C_length_Valid v1_b (fun x4 w3 =>
R2 (!x4, ()) w3) w2)) w0) (fun x1 w1 => ∀ _ : Env,
gd x1.1 (
K ((0 : Int), .iface t_api_Errno (.int .i64 (1 : Int))) w1) (
arith .i64 ((1152921504606846976 : Int) - v1_b) fun n5 =>
gd (decide (n5 < v0_a)) (
K ((0 : Int), .iface t_api_Errno (.int .i64 (2 : Int))) w1) (
arith .i64 (v0_a + v1_b) fun n6 =>
K (n6, .nilIface) w1)))
theorem S_length_Add (v0_a : Int) (v1_b : Int) (K : (Int × Value) → World → Prop) (w0 : World) (h : F_length_Add v0_a v1_b K w0) : C_length_Add v0_a v1_b K w0 := by
  have e : denFn P [(2, [(13, .bool)])] Tryz.f94 #[.int .i64 v0_a, .int .i64 v1_b] (.tup (.pair (.int .i64) .iface)) K w0 = F_length_Add v0_a v1_b K w0 := by kernel_rfl
  exact fn_sound mixed (f := 94) Tryz.func94 (by kernel_rfl) (e.mpr h)

def F_weight_Join (v0_a : yapi_Weight.T) (v1_b : yapi_Weight.T) (K : (yapi_Weight.T × Value) → World → Prop) (w0 : World) : Prop :=
allocK (.cells (cells yapi_Weight v0_a).toArray t_api_Weight) w0 fun a1 w1 =>
allocK (.cells (cells yapi_Weight v1_b).toArray t_api_Weight) w1 fun a2 w2 =>
allocK (.cells #[.int .i64 (0 : Int), .int .i64 (0 : Int), .int .i64 (0 : Int), .int .i64 (0 : Int), .int .u64 (0 : Int), .int .u64 (0 : Int)] t_api_Weight) w2 fun a3 w3 =>
JoinP (X := Bool × Unit) (fun R5 =>
∃ x6 : yapi_Weight.T, At w3 a1 (cells yapi_Weight x6) ∧
C_weight_Valid x6 (fun x7 w5 =>
gd (!x7) (
R5 (true, ()) w5) (
∃ x8 : yapi_Weight.T, At w5 a2 (cells yapi_Weight x8) ∧
C_weight_Valid x8 (fun x9 w6 =>
R5 (!x9, ()) w6) w5)) w3) (fun x4 w4 => ∀ _ : Env,
gd x4.1 (
stK w4 a3 ([.int .i64 (0 : Int), .int .i64 (0 : Int), .int .i64 (0 : Int), .int .i64 (0 : Int), .int .u64 (0 : Int), .int .u64 (0 : Int)]) fun w7 =>
∃ x10 : yapi_Weight.T, At w7 a3 (cells yapi_Weight x10) ∧
K (x10, .iface t_api_Errno (.int .i64 (4 : Int))) w7) (
∃ x11 : Int, At w4 (a1.add 0) (cells (.int .i64) x11) ∧
∃ x12 : Int, At w4 (a2.add 0) (cells (.int .i64) x12) ∧
C_length_Add x11 x12 (fun x13 w8 =>
nilIfcK x13.2 fun b14 =>
gd (!b14) (
stK w8 a3 ([.int .i64 (0 : Int), .int .i64 (0 : Int), .int .i64 (0 : Int), .int .i64 (0 : Int), .int .u64 (0 : Int), .int .u64 (0 : Int)]) fun w9 =>
∃ x15 : yapi_Weight.T, At w9 a3 (cells yapi_Weight x15) ∧
K (x15, .iface t_api_Errno (.int .i64 (2 : Int))) w9) (
JoinP (X := Addr × Unit) (fun R17 =>
drawK w8 fun w11 =>
∃ x18 : Int, At w11 (a1.add 1) (cells (.int .i64) x18) ∧
∃ x19 : Int, At w11 (a2.add 1) (cells (.int .i64) x19) ∧
arith .i64 (x18 + x19) fun n20 =>
∃ x21 : Int, At w11 (a1.add 2) (cells (.int .i64) x21) ∧
∃ x22 : Int, At w11 (a2.add 3) (cells (.int .i64) x22) ∧
∃ x23 : yapi_Digest.T, At w11 (a1.add 4) (cells yapi_Digest x23) ∧
∃ x24 : yapi_Digest.T, At w11 (a2.add 4) (cells yapi_Digest x24) ∧
(C_digest_Join x23 x24 (fun x25 w12 =>
At w12 (a2.add 3) (cells (.int .i64) x22) ∧
At w12 (a1.add 2) (cells (.int .i64) x21) ∧
At w12 (a2.add 1) (cells (.int .i64) x19) ∧
At w12 (a1.add 1) (cells (.int .i64) x18) ∧
allocK (.cells #[.int .i64 (0 : Int), .int .i64 (0 : Int), .int .i64 (0 : Int), .int .i64 (0 : Int), .int .u64 (0 : Int), .int .u64 (0 : Int)] t_api_Weight) w12 fun a26 w13 =>
At w13 (a2.add 3) (cells (.int .i64) x22) ∧
At w13 (a1.add 2) (cells (.int .i64) x21) ∧
At w13 (a2.add 1) (cells (.int .i64) x19) ∧
At w13 (a1.add 1) (cells (.int .i64) x18) ∧
stK w13 a26 ([.int .i64 x13.1, .int .i64 n20, .int .i64 x21, .int .i64 x22, .int .u64 x25.1, .int .u64 x25.2]) fun w14 =>
R17 (a26, ()) w14) w11) ∧
(allocK (.cells #[.int .i64 (0 : Int), .int .i64 (0 : Int), .int .i64 (0 : Int), .int .i64 (0 : Int), .int .u64 (0 : Int), .int .u64 (0 : Int)] t_api_Weight) w11 fun a27 w15 =>
At w15 (a2.add 4) (cells yapi_Digest x24) ∧
At w15 (a1.add 4) (cells yapi_Digest x23) ∧
At w15 (a2.add 3) (cells (.int .i64) x22) ∧
At w15 (a1.add 2) (cells (.int .i64) x21) ∧
At w15 (a2.add 1) (cells (.int .i64) x19) ∧
At w15 (a1.add 1) (cells (.int .i64) x18) ∧
C_digest_Join x23 x24 (fun x28 w16 =>
At w16 (a2.add 3) (cells (.int .i64) x22) ∧
At w16 (a1.add 2) (cells (.int .i64) x21) ∧
At w16 (a2.add 1) (cells (.int .i64) x19) ∧
At w16 (a1.add 1) (cells (.int .i64) x18) ∧
stK w16 a27 ([.int .i64 x13.1, .int .i64 n20, .int .i64 x21, .int .i64 x22, .int .u64 x28.1, .int .u64 x28.2]) fun w17 =>
R17 (a27, ()) w17) w15)) (fun x16 w10 => ∀ _ : Env,
JoinP (X := Unit) (fun R30 =>
∃ x31 : Int, At w10 (a1.add 1) (cells (.int .i64) x31) ∧
gd (x31 == (0 : Int)) (
∃ x32 : Int, At w10 (a1.add 0) (cells (.int .i64) x32) ∧
∃ x33 : Int, At w10 (a2.add 2) (cells (.int .i64) x33) ∧
arith .i64 (x32 + x33) fun n34 =>
stK w10 (x16.1.add 2) ([.int .i64 n34]) fun w19 =>
R30 () w19) (
R30 () w10)) (fun x29 w18 => ∀ _ : Env,
JoinP (X := Unit) (fun R36 =>
∃ x37 : Int, At w18 (a2.add 1) (cells (.int .i64) x37) ∧
gd (x37 == (0 : Int)) (
∃ x38 : Int, At w18 (a2.add 0) (cells (.int .i64) x38) ∧
∃ x39 : Int, At w18 (a1.add 3) (cells (.int .i64) x39) ∧
arith .i64 (x38 + x39) fun n40 =>
stK w18 (x16.1.add 3) ([.int .i64 n40]) fun w21 =>
R36 () w21) (
R36 () w18)) (fun x35 w20 => ∀ _ : Env,
∃ x41 : yapi_Weight.T, At w20 x16.1 (cells yapi_Weight x41) ∧
stK w20 a3 (cells yapi_Weight x41) fun w22 =>
∃ x42 : yapi_Weight.T, At w22 a3 (cells yapi_Weight x42) ∧
K (x42, .nilIface) w22))))) w4))
theorem S_weight_Join (v0_a : yapi_Weight.T) (v1_b : yapi_Weight.T) (K : (yapi_Weight.T × Value) → World → Prop) (w0 : World) (h : F_weight_Join v0_a v1_b K w0) : C_weight_Join v0_a v1_b K w0 := by
  have e : denFn P [(2, [(16, .bool)]), (7, [(8, .addr)]), (9, []), (11, [])] Tryz.f95 #[val yapi_Weight v0_a, val yapi_Weight v1_b] (.tup (.pair yapi_Weight .iface)) K w0 = F_weight_Join v0_a v1_b K w0 := by kernel_rfl
  exact fn_sound mixed (f := 95) Tryz.func95 (by kernel_rfl) (e.mpr h)

def F_ref12_Add (v0_s : yevergreenref12_Store.T) (v1_r : yapi_Rule.T) (v2_length : Int) (K : (yevergreenref12_Store.T × Int) → World → Prop) (w0 : World) : Prop :=
allocK (.cells (cells yevergreenref12_Store v0_s).toArray t_evergreenref12_Store) w0 fun a1 w1 =>
allocK (.cells (cells yapi_Rule v1_r).toArray t_api_Rule) w1 fun a2 w2 =>
allocK (.cells #[.slice none 0 0, .slice none 0 0] t_evergreenref12_Store) w2 fun a3 w3 =>
LoopP (X := Int × Unit) ((0 : Int), ()) w3 fun next5 x4 w4 => ∀ _ : Env,
∃ x6 : Sl, At w4 (a1.add 0) (cells .slice x6) ∧
gd (decide (x4.1 < (x6.len : Int))) (
drawK w4 fun w5 =>
∃ x7 : Sl, At w5 (a1.add 0) (cells .slice x7) ∧
idxK x7.a x7.len x4.1 5 fun p8 =>
∃ x9 : yapi_Rule.T, At w5 p8 (cells yapi_Rule x9) ∧
∃ x10 : yapi_Rule.T, At w5 a2 (cells yapi_Rule x10) ∧
testK P (do eqGuard .eql t_api_Rule (.tmp 20) (.tmp 21) (val yapi_Rule x9) (val yapi_Rule x10); binOp .eql t_api_Rule (val yapi_Rule x9) (val yapi_Rule x10)) fun b11 =>
gd b11 (
∃ x12 : yevergreenref12_Store.T, At w5 a1 (cells yevergreenref12_Store x12) ∧
arith .i64 (x4.1 + (1 : Int)) fun n13 =>
stK w5 a3 (cells yevergreenref12_Store x12) fun w6 =>
∃ x14 : yevergreenref12_Store.T, At w6 a3 (cells yevergreenref12_Store x14) ∧
K (x14, n13) w6) (
arith .i64 (x4.1 + (1 : Int)) fun n15 =>
next5 (n15, ()) w5)) (
drawK w4 fun w7 =>
∃ x16 : Sl, At w7 (a1.add 0) (cells .slice x16) ∧
∃ x17 : yapi_Rule.T, At w7 a2 (cells yapi_Rule x17) ∧
∃ x18 : Sl, At w7 (a1.add 1) (cells .slice x18) ∧
∃ x19 : Sl, At w7 (a1.add 0) (cells .slice x19) ∧
arith .i64 ((x19.len : Int) + (1 : Int)) fun n20 =>
(allocK (.cells #[] t_api_Rule) w7 fun a21 w8 =>
At w8 (a1.add 0) (cells .slice x19) ∧
At w8 (a1.add 1) (cells .slice x18) ∧
At w8 a2 (cells yapi_Rule x17) ∧
At w8 (a1.add 0) (cells .slice x16) ∧
(appK t_api_Rule 5 40 #[.int .i64 (0 : Int), .int .u8 (0 : Int), .int .i64 (0 : Int), .int .i64 (0 : Int), .int .i64 (0 : Int)] (some a21) 0 0 (.slice x16.a x16.len x16.cap) x16.len w8 fun s22 w9 =>
At w9 (a1.add 0) (cells .slice x19) ∧
At w9 (a1.add 1) (cells .slice x18) ∧
At w9 a2 (cells yapi_Rule x17) ∧
(allocK (.cells (cells yapi_Rule x17).toArray t_api_Rule) w9 fun a23 w10 =>
At w10 (a1.add 0) (cells .slice x19) ∧
At w10 (a1.add 1) (cells .slice x18) ∧
(appK t_api_Rule 5 40 #[.int .i64 (0 : Int), .int .u8 (0 : Int), .int .i64 (0 : Int), .int .i64 (0 : Int), .int .i64 (0 : Int)] s22.a s22.len s22.cap (.slice (some a23) 1 1) 1 w10 fun s24 w11 =>
At w11 (a1.add 0) (cells .slice x19) ∧
At w11 (a1.add 1) (cells .slice x18) ∧
(allocK (.cells #[] t_int) w11 fun a25 w12 =>
At w12 (a1.add 0) (cells .slice x19) ∧
At w12 (a1.add 1) (cells .slice x18) ∧
(appK t_int 1 8 #[.int .i64 (0 : Int)] (some a25) 0 0 (.slice x18.a x18.len x18.cap) x18.len w12 fun s26 w13 =>
At w13 (a1.add 0) (cells .slice x19) ∧
allocK (.cells #[.int .i64 v2_length] t_int) w13 fun a27 w14 =>
At w14 (a1.add 0) (cells .slice x19) ∧
appK t_int 1 8 #[.int .i64 (0 : Int)] s26.a s26.len s26.cap (.slice (some a27) 1 1) 1 w14 fun s28 w15 =>
At w15 (a1.add 0) (cells .slice x19) ∧
stK w15 a3 ([.slice s24.a s24.len s24.cap, .slice s28.a s28.len s28.cap]) fun w16 =>
At w16 (a1.add 0) (cells .slice x19) ∧
∃ x29 : yevergreenref12_Store.T, At w16 a3 (cells yevergreenref12_Store x29) ∧
K (x29, n20) w16) ∧
(allocK (.cells #[.int .i64 v2_length] t_int) w12 fun a30 w17 =>
At w17 (a1.add 0) (cells .slice x19) ∧
At w17 (a1.add 1) (cells .slice x18) ∧
appK t_int 1 8 #[.int .i64 (0 : Int)] (some a25) 0 0 (.slice x18.a x18.len x18.cap) x18.len w17 fun s31 w18 =>
At w18 (a1.add 0) (cells .slice x19) ∧
appK t_int 1 8 #[.int .i64 (0 : Int)] s31.a s31.len s31.cap (.slice (some a30) 1 1) 1 w18 fun s32 w19 =>
At w19 (a1.add 0) (cells .slice x19) ∧
stK w19 a3 ([.slice s24.a s24.len s24.cap, .slice s32.a s32.len s32.cap]) fun w20 =>
At w20 (a1.add 0) (cells .slice x19) ∧
∃ x33 : yevergreenref12_Store.T, At w20 a3 (cells yevergreenref12_Store x33) ∧
K (x33, n20) w20)) ∧
(allocK (.cells #[.int .i64 v2_length] t_int) w11 fun a34 w21 =>
At w21 (a1.add 0) (cells .slice x19) ∧
At w21 (a1.add 1) (cells .slice x18) ∧
allocK (.cells #[] t_int) w21 fun a35 w22 =>
At w22 (a1.add 0) (cells .slice x19) ∧
At w22 (a1.add 1) (cells .slice x18) ∧
appK t_int 1 8 #[.int .i64 (0 : Int)] (some a35) 0 0 (.slice x18.a x18.len x18.cap) x18.len w22 fun s36 w23 =>
At w23 (a1.add 0) (cells .slice x19) ∧
appK t_int 1 8 #[.int .i64 (0 : Int)] s36.a s36.len s36.cap (.slice (some a34) 1 1) 1 w23 fun s37 w24 =>
At w24 (a1.add 0) (cells .slice x19) ∧
stK w24 a3 ([.slice s24.a s24.len s24.cap, .slice s37.a s37.len s37.cap]) fun w25 =>
At w25 (a1.add 0) (cells .slice x19) ∧
∃ x38 : yevergreenref12_Store.T, At w25 a3 (cells yevergreenref12_Store x38) ∧
K (x38, n20) w25)) ∧
(allocK (.cells #[] t_int) w10 fun a39 w26 =>
At w26 (a1.add 0) (cells .slice x19) ∧
At w26 (a1.add 1) (cells .slice x18) ∧
(appK t_api_Rule 5 40 #[.int .i64 (0 : Int), .int .u8 (0 : Int), .int .i64 (0 : Int), .int .i64 (0 : Int), .int .i64 (0 : Int)] s22.a s22.len s22.cap (.slice (some a23) 1 1) 1 w26 fun s40 w27 =>
At w27 (a1.add 0) (cells .slice x19) ∧
At w27 (a1.add 1) (cells .slice x18) ∧
(appK t_int 1 8 #[.int .i64 (0 : Int)] (some a39) 0 0 (.slice x18.a x18.len x18.cap) x18.len w27 fun s41 w28 =>
At w28 (a1.add 0) (cells .slice x19) ∧
allocK (.cells #[.int .i64 v2_length] t_int) w28 fun a42 w29 =>
At w29 (a1.add 0) (cells .slice x19) ∧
appK t_int 1 8 #[.int .i64 (0 : Int)] s41.a s41.len s41.cap (.slice (some a42) 1 1) 1 w29 fun s43 w30 =>
At w30 (a1.add 0) (cells .slice x19) ∧
stK w30 a3 ([.slice s40.a s40.len s40.cap, .slice s43.a s43.len s43.cap]) fun w31 =>
At w31 (a1.add 0) (cells .slice x19) ∧
∃ x44 : yevergreenref12_Store.T, At w31 a3 (cells yevergreenref12_Store x44) ∧
K (x44, n20) w31) ∧
(allocK (.cells #[.int .i64 v2_length] t_int) w27 fun a45 w32 =>
At w32 (a1.add 0) (cells .slice x19) ∧
At w32 (a1.add 1) (cells .slice x18) ∧
appK t_int 1 8 #[.int .i64 (0 : Int)] (some a39) 0 0 (.slice x18.a x18.len x18.cap) x18.len w32 fun s46 w33 =>
At w33 (a1.add 0) (cells .slice x19) ∧
appK t_int 1 8 #[.int .i64 (0 : Int)] s46.a s46.len s46.cap (.slice (some a45) 1 1) 1 w33 fun s47 w34 =>
At w34 (a1.add 0) (cells .slice x19) ∧
stK w34 a3 ([.slice s40.a s40.len s40.cap, .slice s47.a s47.len s47.cap]) fun w35 =>
At w35 (a1.add 0) (cells .slice x19) ∧
∃ x48 : yevergreenref12_Store.T, At w35 a3 (cells yevergreenref12_Store x48) ∧
K (x48, n20) w35)) ∧
(allocK (.cells #[.int .i64 v2_length] t_int) w26 fun a49 w36 =>
At w36 (a1.add 0) (cells .slice x19) ∧
At w36 (a1.add 1) (cells .slice x18) ∧
appK t_api_Rule 5 40 #[.int .i64 (0 : Int), .int .u8 (0 : Int), .int .i64 (0 : Int), .int .i64 (0 : Int), .int .i64 (0 : Int)] s22.a s22.len s22.cap (.slice (some a23) 1 1) 1 w36 fun s50 w37 =>
At w37 (a1.add 0) (cells .slice x19) ∧
At w37 (a1.add 1) (cells .slice x18) ∧
appK t_int 1 8 #[.int .i64 (0 : Int)] (some a39) 0 0 (.slice x18.a x18.len x18.cap) x18.len w37 fun s51 w38 =>
At w38 (a1.add 0) (cells .slice x19) ∧
appK t_int 1 8 #[.int .i64 (0 : Int)] s51.a s51.len s51.cap (.slice (some a49) 1 1) 1 w38 fun s52 w39 =>
At w39 (a1.add 0) (cells .slice x19) ∧
stK w39 a3 ([.slice s50.a s50.len s50.cap, .slice s52.a s52.len s52.cap]) fun w40 =>
At w40 (a1.add 0) (cells .slice x19) ∧
∃ x53 : yevergreenref12_Store.T, At w40 a3 (cells yevergreenref12_Store x53) ∧
K (x53, n20) w40)) ∧
(allocK (.cells #[.int .i64 v2_length] t_int) w10 fun a54 w41 =>
At w41 (a1.add 0) (cells .slice x19) ∧
At w41 (a1.add 1) (cells .slice x18) ∧
(appK t_api_Rule 5 40 #[.int .i64 (0 : Int), .int .u8 (0 : Int), .int .i64 (0 : Int), .int .i64 (0 : Int), .int .i64 (0 : Int)] s22.a s22.len s22.cap (.slice (some a23) 1 1) 1 w41 fun s55 w42 =>
At w42 (a1.add 0) (cells .slice x19) ∧
At w42 (a1.add 1) (cells .slice x18) ∧
allocK (.cells #[] t_int) w42 fun a56 w43 =>
At w43 (a1.add 0) (cells .slice x19) ∧
At w43 (a1.add 1) (cells .slice x18) ∧
appK t_int 1 8 #[.int .i64 (0 : Int)] (some a56) 0 0 (.slice x18.a x18.len x18.cap) x18.len w43 fun s57 w44 =>
At w44 (a1.add 0) (cells .slice x19) ∧
appK t_int 1 8 #[.int .i64 (0 : Int)] s57.a s57.len s57.cap (.slice (some a54) 1 1) 1 w44 fun s58 w45 =>
At w45 (a1.add 0) (cells .slice x19) ∧
stK w45 a3 ([.slice s55.a s55.len s55.cap, .slice s58.a s58.len s58.cap]) fun w46 =>
At w46 (a1.add 0) (cells .slice x19) ∧
∃ x59 : yevergreenref12_Store.T, At w46 a3 (cells yevergreenref12_Store x59) ∧
K (x59, n20) w46) ∧
(allocK (.cells #[] t_int) w41 fun a60 w47 =>
At w47 (a1.add 0) (cells .slice x19) ∧
At w47 (a1.add 1) (cells .slice x18) ∧
appK t_api_Rule 5 40 #[.int .i64 (0 : Int), .int .u8 (0 : Int), .int .i64 (0 : Int), .int .i64 (0 : Int), .int .i64 (0 : Int)] s22.a s22.len s22.cap (.slice (some a23) 1 1) 1 w47 fun s61 w48 =>
At w48 (a1.add 0) (cells .slice x19) ∧
At w48 (a1.add 1) (cells .slice x18) ∧
appK t_int 1 8 #[.int .i64 (0 : Int)] (some a60) 0 0 (.slice x18.a x18.len x18.cap) x18.len w48 fun s62 w49 =>
At w49 (a1.add 0) (cells .slice x19) ∧
appK t_int 1 8 #[.int .i64 (0 : Int)] s62.a s62.len s62.cap (.slice (some a54) 1 1) 1 w49 fun s63 w50 =>
At w50 (a1.add 0) (cells .slice x19) ∧
stK w50 a3 ([.slice s61.a s61.len s61.cap, .slice s63.a s63.len s63.cap]) fun w51 =>
At w51 (a1.add 0) (cells .slice x19) ∧
∃ x64 : yevergreenref12_Store.T, At w51 a3 (cells yevergreenref12_Store x64) ∧
K (x64, n20) w51))) ∧
(allocK (.cells #[] t_int) w9 fun a65 w52 =>
At w52 (a1.add 0) (cells .slice x19) ∧
At w52 (a1.add 1) (cells .slice x18) ∧
At w52 a2 (cells yapi_Rule x17) ∧
(allocK (.cells (cells yapi_Rule x17).toArray t_api_Rule) w52 fun a66 w53 =>
At w53 (a1.add 0) (cells .slice x19) ∧
At w53 (a1.add 1) (cells .slice x18) ∧
(appK t_api_Rule 5 40 #[.int .i64 (0 : Int), .int .u8 (0 : Int), .int .i64 (0 : Int), .int .i64 (0 : Int), .int .i64 (0 : Int)] s22.a s22.len s22.cap (.slice (some a66) 1 1) 1 w53 fun s67 w54 =>
At w54 (a1.add 0) (cells .slice x19) ∧
At w54 (a1.add 1) (cells .slice x18) ∧
(appK t_int 1 8 #[.int .i64 (0 : Int)] (some a65) 0 0 (.slice x18.a x18.len x18.cap) x18.len w54 fun s68 w55 =>
At w55 (a1.add 0) (cells .slice x19) ∧
allocK (.cells #[.int .i64 v2_length] t_int) w55 fun a69 w56 =>
At w56 (a1.add 0) (cells .slice x19) ∧
appK t_int 1 8 #[.int .i64 (0 : Int)] s68.a s68.len s68.cap (.slice (some a69) 1 1) 1 w56 fun s70 w57 =>
At w57 (a1.add 0) (cells .slice x19) ∧
stK w57 a3 ([.slice s67.a s67.len s67.cap, .slice s70.a s70.len s70.cap]) fun w58 =>
At w58 (a1.add 0) (cells .slice x19) ∧
∃ x71 : yevergreenref12_Store.T, At w58 a3 (cells yevergreenref12_Store x71) ∧
K (x71, n20) w58) ∧
(allocK (.cells #[.int .i64 v2_length] t_int) w54 fun a72 w59 =>
At w59 (a1.add 0) (cells .slice x19) ∧
At w59 (a1.add 1) (cells .slice x18) ∧
appK t_int 1 8 #[.int .i64 (0 : Int)] (some a65) 0 0 (.slice x18.a x18.len x18.cap) x18.len w59 fun s73 w60 =>
At w60 (a1.add 0) (cells .slice x19) ∧
appK t_int 1 8 #[.int .i64 (0 : Int)] s73.a s73.len s73.cap (.slice (some a72) 1 1) 1 w60 fun s74 w61 =>
At w61 (a1.add 0) (cells .slice x19) ∧
stK w61 a3 ([.slice s67.a s67.len s67.cap, .slice s74.a s74.len s74.cap]) fun w62 =>
At w62 (a1.add 0) (cells .slice x19) ∧
∃ x75 : yevergreenref12_Store.T, At w62 a3 (cells yevergreenref12_Store x75) ∧
K (x75, n20) w62)) ∧
(allocK (.cells #[.int .i64 v2_length] t_int) w53 fun a76 w63 =>
At w63 (a1.add 0) (cells .slice x19) ∧
At w63 (a1.add 1) (cells .slice x18) ∧
appK t_api_Rule 5 40 #[.int .i64 (0 : Int), .int .u8 (0 : Int), .int .i64 (0 : Int), .int .i64 (0 : Int), .int .i64 (0 : Int)] s22.a s22.len s22.cap (.slice (some a66) 1 1) 1 w63 fun s77 w64 =>
At w64 (a1.add 0) (cells .slice x19) ∧
At w64 (a1.add 1) (cells .slice x18) ∧
appK t_int 1 8 #[.int .i64 (0 : Int)] (some a65) 0 0 (.slice x18.a x18.len x18.cap) x18.len w64 fun s78 w65 =>
At w65 (a1.add 0) (cells .slice x19) ∧
appK t_int 1 8 #[.int .i64 (0 : Int)] s78.a s78.len s78.cap (.slice (some a76) 1 1) 1 w65 fun s79 w66 =>
At w66 (a1.add 0) (cells .slice x19) ∧
stK w66 a3 ([.slice s77.a s77.len s77.cap, .slice s79.a s79.len s79.cap]) fun w67 =>
At w67 (a1.add 0) (cells .slice x19) ∧
∃ x80 : yevergreenref12_Store.T, At w67 a3 (cells yevergreenref12_Store x80) ∧
K (x80, n20) w67)) ∧
(allocK (.cells #[.int .i64 v2_length] t_int) w52 fun a81 w68 =>
At w68 (a1.add 0) (cells .slice x19) ∧
At w68 (a1.add 1) (cells .slice x18) ∧
At w68 a2 (cells yapi_Rule x17) ∧
allocK (.cells (cells yapi_Rule x17).toArray t_api_Rule) w68 fun a82 w69 =>
At w69 (a1.add 0) (cells .slice x19) ∧
At w69 (a1.add 1) (cells .slice x18) ∧
appK t_api_Rule 5 40 #[.int .i64 (0 : Int), .int .u8 (0 : Int), .int .i64 (0 : Int), .int .i64 (0 : Int), .int .i64 (0 : Int)] s22.a s22.len s22.cap (.slice (some a82) 1 1) 1 w69 fun s83 w70 =>
At w70 (a1.add 0) (cells .slice x19) ∧
At w70 (a1.add 1) (cells .slice x18) ∧
appK t_int 1 8 #[.int .i64 (0 : Int)] (some a65) 0 0 (.slice x18.a x18.len x18.cap) x18.len w70 fun s84 w71 =>
At w71 (a1.add 0) (cells .slice x19) ∧
appK t_int 1 8 #[.int .i64 (0 : Int)] s84.a s84.len s84.cap (.slice (some a81) 1 1) 1 w71 fun s85 w72 =>
At w72 (a1.add 0) (cells .slice x19) ∧
stK w72 a3 ([.slice s83.a s83.len s83.cap, .slice s85.a s85.len s85.cap]) fun w73 =>
At w73 (a1.add 0) (cells .slice x19) ∧
∃ x86 : yevergreenref12_Store.T, At w73 a3 (cells yevergreenref12_Store x86) ∧
K (x86, n20) w73)) ∧
(allocK (.cells #[.int .i64 v2_length] t_int) w9 fun a87 w74 =>
At w74 (a1.add 0) (cells .slice x19) ∧
At w74 (a1.add 1) (cells .slice x18) ∧
At w74 a2 (cells yapi_Rule x17) ∧
(allocK (.cells (cells yapi_Rule x17).toArray t_api_Rule) w74 fun a88 w75 =>
At w75 (a1.add 0) (cells .slice x19) ∧
At w75 (a1.add 1) (cells .slice x18) ∧
(appK t_api_Rule 5 40 #[.int .i64 (0 : Int), .int .u8 (0 : Int), .int .i64 (0 : Int), .int .i64 (0 : Int), .int .i64 (0 : Int)] s22.a s22.len s22.cap (.slice (some a88) 1 1) 1 w75 fun s89 w76 =>
At w76 (a1.add 0) (cells .slice x19) ∧
At w76 (a1.add 1) (cells .slice x18) ∧
allocK (.cells #[] t_int) w76 fun a90 w77 =>
At w77 (a1.add 0) (cells .slice x19) ∧
At w77 (a1.add 1) (cells .slice x18) ∧
appK t_int 1 8 #[.int .i64 (0 : Int)] (some a90) 0 0 (.slice x18.a x18.len x18.cap) x18.len w77 fun s91 w78 =>
At w78 (a1.add 0) (cells .slice x19) ∧
appK t_int 1 8 #[.int .i64 (0 : Int)] s91.a s91.len s91.cap (.slice (some a87) 1 1) 1 w78 fun s92 w79 =>
At w79 (a1.add 0) (cells .slice x19) ∧
stK w79 a3 ([.slice s89.a s89.len s89.cap, .slice s92.a s92.len s92.cap]) fun w80 =>
At w80 (a1.add 0) (cells .slice x19) ∧
∃ x93 : yevergreenref12_Store.T, At w80 a3 (cells yevergreenref12_Store x93) ∧
K (x93, n20) w80) ∧
(allocK (.cells #[] t_int) w75 fun a94 w81 =>
At w81 (a1.add 0) (cells .slice x19) ∧
At w81 (a1.add 1) (cells .slice x18) ∧
appK t_api_Rule 5 40 #[.int .i64 (0 : Int), .int .u8 (0 : Int), .int .i64 (0 : Int), .int .i64 (0 : Int), .int .i64 (0 : Int)] s22.a s22.len s22.cap (.slice (some a88) 1 1) 1 w81 fun s95 w82 =>
At w82 (a1.add 0) (cells .slice x19) ∧
At w82 (a1.add 1) (cells .slice x18) ∧
appK t_int 1 8 #[.int .i64 (0 : Int)] (some a94) 0 0 (.slice x18.a x18.len x18.cap) x18.len w82 fun s96 w83 =>
At w83 (a1.add 0) (cells .slice x19) ∧
appK t_int 1 8 #[.int .i64 (0 : Int)] s96.a s96.len s96.cap (.slice (some a87) 1 1) 1 w83 fun s97 w84 =>
At w84 (a1.add 0) (cells .slice x19) ∧
stK w84 a3 ([.slice s95.a s95.len s95.cap, .slice s97.a s97.len s97.cap]) fun w85 =>
At w85 (a1.add 0) (cells .slice x19) ∧
∃ x98 : yevergreenref12_Store.T, At w85 a3 (cells yevergreenref12_Store x98) ∧
K (x98, n20) w85)) ∧
(allocK (.cells #[] t_int) w74 fun a99 w86 =>
At w86 (a1.add 0) (cells .slice x19) ∧
At w86 (a1.add 1) (cells .slice x18) ∧
At w86 a2 (cells yapi_Rule x17) ∧
allocK (.cells (cells yapi_Rule x17).toArray t_api_Rule) w86 fun a100 w87 =>
At w87 (a1.add 0) (cells .slice x19) ∧
At w87 (a1.add 1) (cells .slice x18) ∧
appK t_api_Rule 5 40 #[.int .i64 (0 : Int), .int .u8 (0 : Int), .int .i64 (0 : Int), .int .i64 (0 : Int), .int .i64 (0 : Int)] s22.a s22.len s22.cap (.slice (some a100) 1 1) 1 w87 fun s101 w88 =>
At w88 (a1.add 0) (cells .slice x19) ∧
At w88 (a1.add 1) (cells .slice x18) ∧
appK t_int 1 8 #[.int .i64 (0 : Int)] (some a99) 0 0 (.slice x18.a x18.len x18.cap) x18.len w88 fun s102 w89 =>
At w89 (a1.add 0) (cells .slice x19) ∧
appK t_int 1 8 #[.int .i64 (0 : Int)] s102.a s102.len s102.cap (.slice (some a87) 1 1) 1 w89 fun s103 w90 =>
At w90 (a1.add 0) (cells .slice x19) ∧
stK w90 a3 ([.slice s101.a s101.len s101.cap, .slice s103.a s103.len s103.cap]) fun w91 =>
At w91 (a1.add 0) (cells .slice x19) ∧
∃ x104 : yevergreenref12_Store.T, At w91 a3 (cells yevergreenref12_Store x104) ∧
K (x104, n20) w91))) ∧
(allocK (.cells (cells yapi_Rule x17).toArray t_api_Rule) w8 fun a105 w92 =>
At w92 (a1.add 0) (cells .slice x19) ∧
At w92 (a1.add 1) (cells .slice x18) ∧
At w92 (a1.add 0) (cells .slice x16) ∧
(appK t_api_Rule 5 40 #[.int .i64 (0 : Int), .int .u8 (0 : Int), .int .i64 (0 : Int), .int .i64 (0 : Int), .int .i64 (0 : Int)] (some a21) 0 0 (.slice x16.a x16.len x16.cap) x16.len w92 fun s106 w93 =>
At w93 (a1.add 0) (cells .slice x19) ∧
At w93 (a1.add 1) (cells .slice x18) ∧
(appK t_api_Rule 5 40 #[.int .i64 (0 : Int), .int .u8 (0 : Int), .int .i64 (0 : Int), .int .i64 (0 : Int), .int .i64 (0 : Int)] s106.a s106.len s106.cap (.slice (some a105) 1 1) 1 w93 fun s107 w94 =>
At w94 (a1.add 0) (cells .slice x19) ∧
At w94 (a1.add 1) (cells .slice x18) ∧
(allocK (.cells #[] t_int) w94 fun a108 w95 =>
At w95 (a1.add 0) (cells .slice x19) ∧
At w95 (a1.add 1) (cells .slice x18) ∧
(appK t_int 1 8 #[.int .i64 (0 : Int)] (some a108) 0 0 (.slice x18.a x18.len x18.cap) x18.len w95 fun s109 w96 =>
At w96 (a1.add 0) (cells .slice x19) ∧
allocK (.cells #[.int .i64 v2_length] t_int) w96 fun a110 w97 =>
At w97 (a1.add 0) (cells .slice x19) ∧
appK t_int 1 8 #[.int .i64 (0 : Int)] s109.a s109.len s109.cap (.slice (some a110) 1 1) 1 w97 fun s111 w98 =>
At w98 (a1.add 0) (cells .slice x19) ∧
stK w98 a3 ([.slice s107.a s107.len s107.cap, .slice s111.a s111.len s111.cap]) fun w99 =>
At w99 (a1.add 0) (cells .slice x19) ∧
∃ x112 : yevergreenref12_Store.T, At w99 a3 (cells yevergreenref12_Store x112) ∧
K (x112, n20) w99) ∧
(allocK (.cells #[.int .i64 v2_length] t_int) w95 fun a113 w100 =>
At w100 (a1.add 0) (cells .slice x19) ∧
At w100 (a1.add 1) (cells .slice x18) ∧
appK t_int 1 8 #[.int .i64 (0 : Int)] (some a108) 0 0 (.slice x18.a x18.len x18.cap) x18.len w100 fun s114 w101 =>
At w101 (a1.add 0) (cells .slice x19) ∧
appK t_int 1 8 #[.int .i64 (0 : Int)] s114.a s114.len s114.cap (.slice (some a113) 1 1) 1 w101 fun s115 w102 =>
At w102 (a1.add 0) (cells .slice x19) ∧
stK w102 a3 ([.slice s107.a s107.len s107.cap, .slice s115.a s115.len s115.cap]) fun w103 =>
At w103 (a1.add 0) (cells .slice x19) ∧
∃ x116 : yevergreenref12_Store.T, At w103 a3 (cells yevergreenref12_Store x116) ∧
K (x116, n20) w103)) ∧
(allocK (.cells #[.int .i64 v2_length] t_int) w94 fun a117 w104 =>
At w104 (a1.add 0) (cells .slice x19) ∧
At w104 (a1.add 1) (cells .slice x18) ∧
allocK (.cells #[] t_int) w104 fun a118 w105 =>
At w105 (a1.add 0) (cells .slice x19) ∧
At w105 (a1.add 1) (cells .slice x18) ∧
appK t_int 1 8 #[.int .i64 (0 : Int)] (some a118) 0 0 (.slice x18.a x18.len x18.cap) x18.len w105 fun s119 w106 =>
At w106 (a1.add 0) (cells .slice x19) ∧
appK t_int 1 8 #[.int .i64 (0 : Int)] s119.a s119.len s119.cap (.slice (some a117) 1 1) 1 w106 fun s120 w107 =>
At w107 (a1.add 0) (cells .slice x19) ∧
stK w107 a3 ([.slice s107.a s107.len s107.cap, .slice s120.a s120.len s120.cap]) fun w108 =>
At w108 (a1.add 0) (cells .slice x19) ∧
∃ x121 : yevergreenref12_Store.T, At w108 a3 (cells yevergreenref12_Store x121) ∧
K (x121, n20) w108)) ∧
(allocK (.cells #[] t_int) w93 fun a122 w109 =>
At w109 (a1.add 0) (cells .slice x19) ∧
At w109 (a1.add 1) (cells .slice x18) ∧
(appK t_api_Rule 5 40 #[.int .i64 (0 : Int), .int .u8 (0 : Int), .int .i64 (0 : Int), .int .i64 (0 : Int), .int .i64 (0 : Int)] s106.a s106.len s106.cap (.slice (some a105) 1 1) 1 w109 fun s123 w110 =>
At w110 (a1.add 0) (cells .slice x19) ∧
At w110 (a1.add 1) (cells .slice x18) ∧
(appK t_int 1 8 #[.int .i64 (0 : Int)] (some a122) 0 0 (.slice x18.a x18.len x18.cap) x18.len w110 fun s124 w111 =>
At w111 (a1.add 0) (cells .slice x19) ∧
allocK (.cells #[.int .i64 v2_length] t_int) w111 fun a125 w112 =>
At w112 (a1.add 0) (cells .slice x19) ∧
appK t_int 1 8 #[.int .i64 (0 : Int)] s124.a s124.len s124.cap (.slice (some a125) 1 1) 1 w112 fun s126 w113 =>
At w113 (a1.add 0) (cells .slice x19) ∧
stK w113 a3 ([.slice s123.a s123.len s123.cap, .slice s126.a s126.len s126.cap]) fun w114 =>
At w114 (a1.add 0) (cells .slice x19) ∧
∃ x127 : yevergreenref12_Store.T, At w114 a3 (cells yevergreenref12_Store x127) ∧
K (x127, n20) w114) ∧
(allocK (.cells #[.int .i64 v2_length] t_int) w110 fun a128 w115 =>
At w115 (a1.add 0) (cells .slice x19) ∧
At w115 (a1.add 1) (cells .slice x18) ∧
appK t_int 1 8 #[.int .i64 (0 : Int)] (some a122) 0 0 (.slice x18.a x18.len x18.cap) x18.len w115 fun s129 w116 =>
At w116 (a1.add 0) (cells .slice x19) ∧
appK t_int 1 8 #[.int .i64 (0 : Int)] s129.a s129.len s129.cap (.slice (some a128) 1 1) 1 w116 fun s130 w117 =>
At w117 (a1.add 0) (cells .slice x19) ∧
stK w117 a3 ([.slice s123.a s123.len s123.cap, .slice s130.a s130.len s130.cap]) fun w118 =>
At w118 (a1.add 0) (cells .slice x19) ∧
∃ x131 : yevergreenref12_Store.T, At w118 a3 (cells yevergreenref12_Store x131) ∧
K (x131, n20) w118)) ∧
(allocK (.cells #[.int .i64 v2_length] t_int) w109 fun a132 w119 =>
At w119 (a1.add 0) (cells .slice x19) ∧
At w119 (a1.add 1) (cells .slice x18) ∧
appK t_api_Rule 5 40 #[.int .i64 (0 : Int), .int .u8 (0 : Int), .int .i64 (0 : Int), .int .i64 (0 : Int), .int .i64 (0 : Int)] s106.a s106.len s106.cap (.slice (some a105) 1 1) 1 w119 fun s133 w120 =>
At w120 (a1.add 0) (cells .slice x19) ∧
At w120 (a1.add 1) (cells .slice x18) ∧
appK t_int 1 8 #[.int .i64 (0 : Int)] (some a122) 0 0 (.slice x18.a x18.len x18.cap) x18.len w120 fun s134 w121 =>
At w121 (a1.add 0) (cells .slice x19) ∧
appK t_int 1 8 #[.int .i64 (0 : Int)] s134.a s134.len s134.cap (.slice (some a132) 1 1) 1 w121 fun s135 w122 =>
At w122 (a1.add 0) (cells .slice x19) ∧
stK w122 a3 ([.slice s133.a s133.len s133.cap, .slice s135.a s135.len s135.cap]) fun w123 =>
At w123 (a1.add 0) (cells .slice x19) ∧
∃ x136 : yevergreenref12_Store.T, At w123 a3 (cells yevergreenref12_Store x136) ∧
K (x136, n20) w123)) ∧
(allocK (.cells #[.int .i64 v2_length] t_int) w93 fun a137 w124 =>
At w124 (a1.add 0) (cells .slice x19) ∧
At w124 (a1.add 1) (cells .slice x18) ∧
(appK t_api_Rule 5 40 #[.int .i64 (0 : Int), .int .u8 (0 : Int), .int .i64 (0 : Int), .int .i64 (0 : Int), .int .i64 (0 : Int)] s106.a s106.len s106.cap (.slice (some a105) 1 1) 1 w124 fun s138 w125 =>
At w125 (a1.add 0) (cells .slice x19) ∧
At w125 (a1.add 1) (cells .slice x18) ∧
allocK (.cells #[] t_int) w125 fun a139 w126 =>
At w126 (a1.add 0) (cells .slice x19) ∧
At w126 (a1.add 1) (cells .slice x18) ∧
appK t_int 1 8 #[.int .i64 (0 : Int)] (some a139) 0 0 (.slice x18.a x18.len x18.cap) x18.len w126 fun s140 w127 =>
At w127 (a1.add 0) (cells .slice x19) ∧
appK t_int 1 8 #[.int .i64 (0 : Int)] s140.a s140.len s140.cap (.slice (some a137) 1 1) 1 w127 fun s141 w128 =>
At w128 (a1.add 0) (cells .slice x19) ∧
stK w128 a3 ([.slice s138.a s138.len s138.cap, .slice s141.a s141.len s141.cap]) fun w129 =>
At w129 (a1.add 0) (cells .slice x19) ∧
∃ x142 : yevergreenref12_Store.T, At w129 a3 (cells yevergreenref12_Store x142) ∧
K (x142, n20) w129) ∧
(allocK (.cells #[] t_int) w124 fun a143 w130 =>
At w130 (a1.add 0) (cells .slice x19) ∧
At w130 (a1.add 1) (cells .slice x18) ∧
appK t_api_Rule 5 40 #[.int .i64 (0 : Int), .int .u8 (0 : Int), .int .i64 (0 : Int), .int .i64 (0 : Int), .int .i64 (0 : Int)] s106.a s106.len s106.cap (.slice (some a105) 1 1) 1 w130 fun s144 w131 =>
At w131 (a1.add 0) (cells .slice x19) ∧
At w131 (a1.add 1) (cells .slice x18) ∧
appK t_int 1 8 #[.int .i64 (0 : Int)] (some a143) 0 0 (.slice x18.a x18.len x18.cap) x18.len w131 fun s145 w132 =>
At w132 (a1.add 0) (cells .slice x19) ∧
appK t_int 1 8 #[.int .i64 (0 : Int)] s145.a s145.len s145.cap (.slice (some a137) 1 1) 1 w132 fun s146 w133 =>
At w133 (a1.add 0) (cells .slice x19) ∧
stK w133 a3 ([.slice s144.a s144.len s144.cap, .slice s146.a s146.len s146.cap]) fun w134 =>
At w134 (a1.add 0) (cells .slice x19) ∧
∃ x147 : yevergreenref12_Store.T, At w134 a3 (cells yevergreenref12_Store x147) ∧
K (x147, n20) w134))) ∧
(allocK (.cells #[] t_int) w92 fun a148 w135 =>
At w135 (a1.add 0) (cells .slice x19) ∧
At w135 (a1.add 1) (cells .slice x18) ∧
At w135 (a1.add 0) (cells .slice x16) ∧
(appK t_api_Rule 5 40 #[.int .i64 (0 : Int), .int .u8 (0 : Int), .int .i64 (0 : Int), .int .i64 (0 : Int), .int .i64 (0 : Int)] (some a21) 0 0 (.slice x16.a x16.len x16.cap) x16.len w135 fun s149 w136 =>
At w136 (a1.add 0) (cells .slice x19) ∧
At w136 (a1.add 1) (cells .slice x18) ∧
(appK t_api_Rule 5 40 #[.int .i64 (0 : Int), .int .u8 (0 : Int), .int .i64 (0 : Int), .int .i64 (0 : Int), .int .i64 (0 : Int)] s149.a s149.len s149.cap (.slice (some a105) 1 1) 1 w136 fun s150 w137 =>
At w137 (a1.add 0) (cells .slice x19) ∧
At w137 (a1.add 1) (cells .slice x18) ∧
(appK t_int 1 8 #[.int .i64 (0 : Int)] (some a148) 0 0 (.slice x18.a x18.len x18.cap) x18.len w137 fun s151 w138 =>
At w138 (a1.add 0) (cells .slice x19) ∧
allocK (.cells #[.int .i64 v2_length] t_int) w138 fun a152 w139 =>
At w139 (a1.add 0) (cells .slice x19) ∧
appK t_int 1 8 #[.int .i64 (0 : Int)] s151.a s151.len s151.cap (.slice (some a152) 1 1) 1 w139 fun s153 w140 =>
At w140 (a1.add 0) (cells .slice x19) ∧
stK w140 a3 ([.slice s150.a s150.len s150.cap, .slice s153.a s153.len s153.cap]) fun w141 =>
At w141 (a1.add 0) (cells .slice x19) ∧
∃ x154 : yevergreenref12_Store.T, At w141 a3 (cells yevergreenref12_Store x154) ∧
K (x154, n20) w141) ∧
(allocK (.cells #[.int .i64 v2_length] t_int) w137 fun a155 w142 =>
At w142 (a1.add 0) (cells .slice x19) ∧
At w142 (a1.add 1) (cells .slice x18) ∧
appK t_int 1 8 #[.int .i64 (0 : Int)] (some a148) 0 0 (.slice x18.a x18.len x18.cap) x18.len w142 fun s156 w143 =>
At w143 (a1.add 0) (cells .slice x19) ∧
appK t_int 1 8 #[.int .i64 (0 : Int)] s156.a s156.len s156.cap (.slice (some a155) 1 1) 1 w143 fun s157 w144 =>
At w144 (a1.add 0) (cells .slice x19) ∧
stK w144 a3 ([.slice s150.a s150.len s150.cap, .slice s157.a s157.len s157.cap]) fun w145 =>
At w145 (a1.add 0) (cells .slice x19) ∧
∃ x158 : yevergreenref12_Store.T, At w145 a3 (cells yevergreenref12_Store x158) ∧
K (x158, n20) w145)) ∧
(allocK (.cells #[.int .i64 v2_length] t_int) w136 fun a159 w146 =>
At w146 (a1.add 0) (cells .slice x19) ∧
At w146 (a1.add 1) (cells .slice x18) ∧
appK t_api_Rule 5 40 #[.int .i64 (0 : Int), .int .u8 (0 : Int), .int .i64 (0 : Int), .int .i64 (0 : Int), .int .i64 (0 : Int)] s149.a s149.len s149.cap (.slice (some a105) 1 1) 1 w146 fun s160 w147 =>
At w147 (a1.add 0) (cells .slice x19) ∧
At w147 (a1.add 1) (cells .slice x18) ∧
appK t_int 1 8 #[.int .i64 (0 : Int)] (some a148) 0 0 (.slice x18.a x18.len x18.cap) x18.len w147 fun s161 w148 =>
At w148 (a1.add 0) (cells .slice x19) ∧
appK t_int 1 8 #[.int .i64 (0 : Int)] s161.a s161.len s161.cap (.slice (some a159) 1 1) 1 w148 fun s162 w149 =>
At w149 (a1.add 0) (cells .slice x19) ∧
stK w149 a3 ([.slice s160.a s160.len s160.cap, .slice s162.a s162.len s162.cap]) fun w150 =>
At w150 (a1.add 0) (cells .slice x19) ∧
∃ x163 : yevergreenref12_Store.T, At w150 a3 (cells yevergreenref12_Store x163) ∧
K (x163, n20) w150)) ∧
(allocK (.cells #[.int .i64 v2_length] t_int) w135 fun a164 w151 =>
At w151 (a1.add 0) (cells .slice x19) ∧
At w151 (a1.add 1) (cells .slice x18) ∧
At w151 (a1.add 0) (cells .slice x16) ∧
appK t_api_Rule 5 40 #[.int .i64 (0 : Int), .int .u8 (0 : Int), .int .i64 (0 : Int), .int .i64 (0 : Int), .int .i64 (0 : Int)] (some a21) 0 0 (.slice x16.a x16.len x16.cap) x16.len w151 fun s165 w152 =>
At w152 (a1.add 0) (cells .slice x19) ∧
At w152 (a1.add 1) (cells .slice x18) ∧
appK t_api_Rule 5 40 #[.int .i64 (0 : Int), .int .u8 (0 : Int), .int .i64 (0 : Int), .int .i64 (0 : Int), .int .i64 (0 : Int)] s165.a s165.len s165.cap (.slice (some a105) 1 1) 1 w152 fun s166 w153 =>
At w153 (a1.add 0) (cells .slice x19) ∧
At w153 (a1.add 1) (cells .slice x18) ∧
appK t_int 1 8 #[.int .i64 (0 : Int)] (some a148) 0 0 (.slice x18.a x18.len x18.cap) x18.len w153 fun s167 w154 =>
At w154 (a1.add 0) (cells .slice x19) ∧
appK t_int 1 8 #[.int .i64 (0 : Int)] s167.a s167.len s167.cap (.slice (some a164) 1 1) 1 w154 fun s168 w155 =>
At w155 (a1.add 0) (cells .slice x19) ∧
stK w155 a3 ([.slice s166.a s166.len s166.cap, .slice s168.a s168.len s168.cap]) fun w156 =>
At w156 (a1.add 0) (cells .slice x19) ∧
∃ x169 : yevergreenref12_Store.T, At w156 a3 (cells yevergreenref12_Store x169) ∧
K (x169, n20) w156)) ∧
(allocK (.cells #[.int .i64 v2_length] t_int) w92 fun a170 w157 =>
At w157 (a1.add 0) (cells .slice x19) ∧
At w157 (a1.add 1) (cells .slice x18) ∧
At w157 (a1.add 0) (cells .slice x16) ∧
(appK t_api_Rule 5 40 #[.int .i64 (0 : Int), .int .u8 (0 : Int), .int .i64 (0 : Int), .int .i64 (0 : Int), .int .i64 (0 : Int)] (some a21) 0 0 (.slice x16.a x16.len x16.cap) x16.len w157 fun s171 w158 =>
At w158 (a1.add 0) (cells .slice x19) ∧
At w158 (a1.add 1) (cells .slice x18) ∧
(appK t_api_Rule 5 40 #[.int .i64 (0 : Int), .int .u8 (0 : Int), .int .i64 (0 : Int), .int .i64 (0 : Int), .int .i64 (0 : Int)] s171.a s171.len s171.cap (.slice (some a105) 1 1) 1 w158 fun s172 w159 =>
At w159 (a1.add 0) (cells .slice x19) ∧
At w159 (a1.add 1) (cells .slice x18) ∧
allocK (.cells #[] t_int) w159 fun a173 w160 =>
At w160 (a1.add 0) (cells .slice x19) ∧
At w160 (a1.add 1) (cells .slice x18) ∧
appK t_int 1 8 #[.int .i64 (0 : Int)] (some a173) 0 0 (.slice x18.a x18.len x18.cap) x18.len w160 fun s174 w161 =>
At w161 (a1.add 0) (cells .slice x19) ∧
appK t_int 1 8 #[.int .i64 (0 : Int)] s174.a s174.len s174.cap (.slice (some a170) 1 1) 1 w161 fun s175 w162 =>
At w162 (a1.add 0) (cells .slice x19) ∧
stK w162 a3 ([.slice s172.a s172.len s172.cap, .slice s175.a s175.len s175.cap]) fun w163 =>
At w163 (a1.add 0) (cells .slice x19) ∧
∃ x176 : yevergreenref12_Store.T, At w163 a3 (cells yevergreenref12_Store x176) ∧
K (x176, n20) w163) ∧
(allocK (.cells #[] t_int) w158 fun a177 w164 =>
At w164 (a1.add 0) (cells .slice x19) ∧
At w164 (a1.add 1) (cells .slice x18) ∧
appK t_api_Rule 5 40 #[.int .i64 (0 : Int), .int .u8 (0 : Int), .int .i64 (0 : Int), .int .i64 (0 : Int), .int .i64 (0 : Int)] s171.a s171.len s171.cap (.slice (some a105) 1 1) 1 w164 fun s178 w165 =>
At w165 (a1.add 0) (cells .slice x19) ∧
At w165 (a1.add 1) (cells .slice x18) ∧
appK t_int 1 8 #[.int .i64 (0 : Int)] (some a177) 0 0 (.slice x18.a x18.len x18.cap) x18.len w165 fun s179 w166 =>
At w166 (a1.add 0) (cells .slice x19) ∧
appK t_int 1 8 #[.int .i64 (0 : Int)] s179.a s179.len s179.cap (.slice (some a170) 1 1) 1 w166 fun s180 w167 =>
At w167 (a1.add 0) (cells .slice x19) ∧
stK w167 a3 ([.slice s178.a s178.len s178.cap, .slice s180.a s180.len s180.cap]) fun w168 =>
At w168 (a1.add 0) (cells .slice x19) ∧
∃ x181 : yevergreenref12_Store.T, At w168 a3 (cells yevergreenref12_Store x181) ∧
K (x181, n20) w168)) ∧
(allocK (.cells #[] t_int) w157 fun a182 w169 =>
At w169 (a1.add 0) (cells .slice x19) ∧
At w169 (a1.add 1) (cells .slice x18) ∧
At w169 (a1.add 0) (cells .slice x16) ∧
appK t_api_Rule 5 40 #[.int .i64 (0 : Int), .int .u8 (0 : Int), .int .i64 (0 : Int), .int .i64 (0 : Int), .int .i64 (0 : Int)] (some a21) 0 0 (.slice x16.a x16.len x16.cap) x16.len w169 fun s183 w170 =>
At w170 (a1.add 0) (cells .slice x19) ∧
At w170 (a1.add 1) (cells .slice x18) ∧
appK t_api_Rule 5 40 #[.int .i64 (0 : Int), .int .u8 (0 : Int), .int .i64 (0 : Int), .int .i64 (0 : Int), .int .i64 (0 : Int)] s183.a s183.len s183.cap (.slice (some a105) 1 1) 1 w170 fun s184 w171 =>
At w171 (a1.add 0) (cells .slice x19) ∧
At w171 (a1.add 1) (cells .slice x18) ∧
appK t_int 1 8 #[.int .i64 (0 : Int)] (some a182) 0 0 (.slice x18.a x18.len x18.cap) x18.len w171 fun s185 w172 =>
At w172 (a1.add 0) (cells .slice x19) ∧
appK t_int 1 8 #[.int .i64 (0 : Int)] s185.a s185.len s185.cap (.slice (some a170) 1 1) 1 w172 fun s186 w173 =>
At w173 (a1.add 0) (cells .slice x19) ∧
stK w173 a3 ([.slice s184.a s184.len s184.cap, .slice s186.a s186.len s186.cap]) fun w174 =>
At w174 (a1.add 0) (cells .slice x19) ∧
∃ x187 : yevergreenref12_Store.T, At w174 a3 (cells yevergreenref12_Store x187) ∧
K (x187, n20) w174))) ∧
(allocK (.cells #[] t_int) w8 fun a188 w175 =>
At w175 (a1.add 0) (cells .slice x19) ∧
At w175 (a1.add 1) (cells .slice x18) ∧
At w175 a2 (cells yapi_Rule x17) ∧
At w175 (a1.add 0) (cells .slice x16) ∧
(appK t_api_Rule 5 40 #[.int .i64 (0 : Int), .int .u8 (0 : Int), .int .i64 (0 : Int), .int .i64 (0 : Int), .int .i64 (0 : Int)] (some a21) 0 0 (.slice x16.a x16.len x16.cap) x16.len w175 fun s189 w176 =>
At w176 (a1.add 0) (cells .slice x19) ∧
At w176 (a1.add 1) (cells .slice x18) ∧
At w176 a2 (cells yapi_Rule x17) ∧
(allocK (.cells (cells yapi_Rule x17).toArray t_api_Rule) w176 fun a190 w177 =>
At w177 (a1.add 0) (cells .slice x19) ∧
At w177 (a1.add 1) (cells .slice x18) ∧
(appK t_api_Rule 5 40 #[.int .i64 (0 : Int), .int .u8 (0 : Int), .int .i64 (0 : Int), .int .i64 (0 : Int), .int .i64 (0 : Int)] s189.a s189.len s189.cap (.slice (some a190) 1 1) 1 w177 fun s191 w178 =>
At w178 (a1.add 0) (cells .slice x19) ∧
At w178 (a1.add 1) (cells .slice x18) ∧
(appK t_int 1 8 #[.int .i64 (0 : Int)] (some a188) 0 0 (.slice x18.a x18.len x18.cap) x18.len w178 fun s192 w179 =>
At w179 (a1.add 0) (cells .slice x19) ∧
allocK (.cells #[.int .i64 v2_length] t_int) w179 fun a193 w180 =>
At w180 (a1.add 0) (cells .slice x19) ∧
appK t_int 1 8 #[.int .i64 (0 : Int)] s192.a s192.len s192.cap (.slice (some a193) 1 1) 1 w180 fun s194 w181 =>
At w181 (a1.add 0) (cells .slice x19) ∧
stK w181 a3 ([.slice s191.a s191.len s191.cap, .slice s194.a s194.len s194.cap]) fun w182 =>
At w182 (a1.add 0) (cells .slice x19) ∧
∃ x195 : yevergreenref12_Store.T, At w182 a3 (cells yevergreenref12_Store x195) ∧
K (x195, n20) w182) ∧
(allocK (.cells #[.int .i64 v2_length] t_int) w178 fun a196 w183 =>
At w183 (a1.add 0) (cells .slice x19) ∧
At w183 (a1.add 1) (cells .slice x18) ∧
appK t_int 1 8 #[.int .i64 (0 : Int)] (some a188) 0 0 (.slice x18.a x18.len x18.cap) x18.len w183 fun s197 w184 =>
At w184 (a1.add 0) (cells .slice x19) ∧
appK t_int 1 8 #[.int .i64 (0 : Int)] s197.a s197.len s197.cap (.slice (some a196) 1 1) 1 w184 fun s198 w185 =>
At w185 (a1.add 0) (cells .slice x19) ∧
stK w185 a3 ([.slice s191.a s191.len s191.cap, .slice s198.a s198.len s198.cap]) fun w186 =>
At w186 (a1.add 0) (cells .slice x19) ∧
∃ x199 : yevergreenref12_Store.T, At w186 a3 (cells yevergreenref12_Store x199) ∧
K (x199, n20) w186)) ∧
(allocK (.cells #[.int .i64 v2_length] t_int) w177 fun a200 w187 =>
At w187 (a1.add 0) (cells .slice x19) ∧
At w187 (a1.add 1) (cells .slice x18) ∧
appK t_api_Rule 5 40 #[.int .i64 (0 : Int), .int .u8 (0 : Int), .int .i64 (0 : Int), .int .i64 (0 : Int), .int .i64 (0 : Int)] s189.a s189.len s189.cap (.slice (some a190) 1 1) 1 w187 fun s201 w188 =>
At w188 (a1.add 0) (cells .slice x19) ∧
At w188 (a1.add 1) (cells .slice x18) ∧
appK t_int 1 8 #[.int .i64 (0 : Int)] (some a188) 0 0 (.slice x18.a x18.len x18.cap) x18.len w188 fun s202 w189 =>
At w189 (a1.add 0) (cells .slice x19) ∧
appK t_int 1 8 #[.int .i64 (0 : Int)] s202.a s202.len s202.cap (.slice (some a200) 1 1) 1 w189 fun s203 w190 =>
At w190 (a1.add 0) (cells .slice x19) ∧
stK w190 a3 ([.slice s201.a s201.len s201.cap, .slice s203.a s203.len s203.cap]) fun w191 =>
At w191 (a1.add 0) (cells .slice x19) ∧
∃ x204 : yevergreenref12_Store.T, At w191 a3 (cells yevergreenref12_Store x204) ∧
K (x204, n20) w191)) ∧
(allocK (.cells #[.int .i64 v2_length] t_int) w176 fun a205 w192 =>
At w192 (a1.add 0) (cells .slice x19) ∧
At w192 (a1.add 1) (cells .slice x18) ∧
At w192 a2 (cells yapi_Rule x17) ∧
allocK (.cells (cells yapi_Rule x17).toArray t_api_Rule) w192 fun a206 w193 =>
At w193 (a1.add 0) (cells .slice x19) ∧
At w193 (a1.add 1) (cells .slice x18) ∧
appK t_api_Rule 5 40 #[.int .i64 (0 : Int), .int .u8 (0 : Int), .int .i64 (0 : Int), .int .i64 (0 : Int), .int .i64 (0 : Int)] s189.a s189.len s189.cap (.slice (some a206) 1 1) 1 w193 fun s207 w194 =>
At w194 (a1.add 0) (cells .slice x19) ∧
At w194 (a1.add 1) (cells .slice x18) ∧
appK t_int 1 8 #[.int .i64 (0 : Int)] (some a188) 0 0 (.slice x18.a x18.len x18.cap) x18.len w194 fun s208 w195 =>
At w195 (a1.add 0) (cells .slice x19) ∧
appK t_int 1 8 #[.int .i64 (0 : Int)] s208.a s208.len s208.cap (.slice (some a205) 1 1) 1 w195 fun s209 w196 =>
At w196 (a1.add 0) (cells .slice x19) ∧
stK w196 a3 ([.slice s207.a s207.len s207.cap, .slice s209.a s209.len s209.cap]) fun w197 =>
At w197 (a1.add 0) (cells .slice x19) ∧
∃ x210 : yevergreenref12_Store.T, At w197 a3 (cells yevergreenref12_Store x210) ∧
K (x210, n20) w197)) ∧
(allocK (.cells (cells yapi_Rule x17).toArray t_api_Rule) w175 fun a211 w198 =>
At w198 (a1.add 0) (cells .slice x19) ∧
At w198 (a1.add 1) (cells .slice x18) ∧
At w198 (a1.add 0) (cells .slice x16) ∧
(appK t_api_Rule 5 40 #[.int .i64 (0 : Int), .int .u8 (0 : Int), .int .i64 (0 : Int), .int .i64 (0 : Int), .int .i64 (0 : Int)] (some a21) 0 0 (.slice x16.a x16.len x16.cap) x16.len w198 fun s212 w199 =>
At w199 (a1.add 0) (cells .slice x19) ∧
At w199 (a1.add 1) (cells .slice x18) ∧
(appK t_api_Rule 5 40 #[.int .i64 (0 : Int), .int .u8 (0 : Int), .int .i64 (0 : Int), .int .i64 (0 : Int), .int .i64 (0 : Int)] s212.a s212.len s212.cap (.slice (some a211) 1 1) 1 w199 fun s213 w200 =>
At w200 (a1.add 0) (cells .slice x19) ∧
At w200 (a1.add 1) (cells .slice x18) ∧
(appK t_int 1 8 #[.int .i64 (0 : Int)] (some a188) 0 0 (.slice x18.a x18.len x18.cap) x18.len w200 fun s214 w201 =>
At w201 (a1.add 0) (cells .slice x19) ∧
allocK (.cells #[.int .i64 v2_length] t_int) w201 fun a215 w202 =>
At w202 (a1.add 0) (cells .slice x19) ∧
appK t_int 1 8 #[.int .i64 (0 : Int)] s214.a s214.len s214.cap (.slice (some a215) 1 1) 1 w202 fun s216 w203 =>
At w203 (a1.add 0) (cells .slice x19) ∧
stK w203 a3 ([.slice s213.a s213.len s213.cap, .slice s216.a s216.len s216.cap]) fun w204 =>
At w204 (a1.add 0) (cells .slice x19) ∧
∃ x217 : yevergreenref12_Store.T, At w204 a3 (cells yevergreenref12_Store x217) ∧
K (x217, n20) w204) ∧
(allocK (.cells #[.int .i64 v2_length] t_int) w200 fun a218 w205 =>
At w205 (a1.add 0) (cells .slice x19) ∧
At w205 (a1.add 1) (cells .slice x18) ∧
appK t_int 1 8 #[.int .i64 (0 : Int)] (some a188) 0 0 (.slice x18.a x18.len x18.cap) x18.len w205 fun s219 w206 =>
At w206 (a1.add 0) (cells .slice x19) ∧
appK t_int 1 8 #[.int .i64 (0 : Int)] s219.a s219.len s219.cap (.slice (some a218) 1 1) 1 w206 fun s220 w207 =>
At w207 (a1.add 0) (cells .slice x19) ∧
stK w207 a3 ([.slice s213.a s213.len s213.cap, .slice s220.a s220.len s220.cap]) fun w208 =>
At w208 (a1.add 0) (cells .slice x19) ∧
∃ x221 : yevergreenref12_Store.T, At w208 a3 (cells yevergreenref12_Store x221) ∧
K (x221, n20) w208)) ∧
(allocK (.cells #[.int .i64 v2_length] t_int) w199 fun a222 w209 =>
At w209 (a1.add 0) (cells .slice x19) ∧
At w209 (a1.add 1) (cells .slice x18) ∧
appK t_api_Rule 5 40 #[.int .i64 (0 : Int), .int .u8 (0 : Int), .int .i64 (0 : Int), .int .i64 (0 : Int), .int .i64 (0 : Int)] s212.a s212.len s212.cap (.slice (some a211) 1 1) 1 w209 fun s223 w210 =>
At w210 (a1.add 0) (cells .slice x19) ∧
At w210 (a1.add 1) (cells .slice x18) ∧
appK t_int 1 8 #[.int .i64 (0 : Int)] (some a188) 0 0 (.slice x18.a x18.len x18.cap) x18.len w210 fun s224 w211 =>
At w211 (a1.add 0) (cells .slice x19) ∧
appK t_int 1 8 #[.int .i64 (0 : Int)] s224.a s224.len s224.cap (.slice (some a222) 1 1) 1 w211 fun s225 w212 =>
At w212 (a1.add 0) (cells .slice x19) ∧
stK w212 a3 ([.slice s223.a s223.len s223.cap, .slice s225.a s225.len s225.cap]) fun w213 =>
At w213 (a1.add 0) (cells .slice x19) ∧
∃ x226 : yevergreenref12_Store.T, At w213 a3 (cells yevergreenref12_Store x226) ∧
K (x226, n20) w213)) ∧
(allocK (.cells #[.int .i64 v2_length] t_int) w198 fun a227 w214 =>
At w214 (a1.add 0) (cells .slice x19) ∧
At w214 (a1.add 1) (cells .slice x18) ∧
At w214 (a1.add 0) (cells .slice x16) ∧
appK t_api_Rule 5 40 #[.int .i64 (0 : Int), .int .u8 (0 : Int), .int .i64 (0 : Int), .int .i64 (0 : Int), .int .i64 (0 : Int)] (some a21) 0 0 (.slice x16.a x16.len x16.cap) x16.len w214 fun s228 w215 =>
At w215 (a1.add 0) (cells .slice x19) ∧
At w215 (a1.add 1) (cells .slice x18) ∧
appK t_api_Rule 5 40 #[.int .i64 (0 : Int), .int .u8 (0 : Int), .int .i64 (0 : Int), .int .i64 (0 : Int), .int .i64 (0 : Int)] s228.a s228.len s228.cap (.slice (some a211) 1 1) 1 w215 fun s229 w216 =>
At w216 (a1.add 0) (cells .slice x19) ∧
At w216 (a1.add 1) (cells .slice x18) ∧
appK t_int 1 8 #[.int .i64 (0 : Int)] (some a188) 0 0 (.slice x18.a x18.len x18.cap) x18.len w216 fun s230 w217 =>
At w217 (a1.add 0) (cells .slice x19) ∧
appK t_int 1 8 #[.int .i64 (0 : Int)] s230.a s230.len s230.cap (.slice (some a227) 1 1) 1 w217 fun s231 w218 =>
At w218 (a1.add 0) (cells .slice x19) ∧
stK w218 a3 ([.slice s229.a s229.len s229.cap, .slice s231.a s231.len s231.cap]) fun w219 =>
At w219 (a1.add 0) (cells .slice x19) ∧
∃ x232 : yevergreenref12_Store.T, At w219 a3 (cells yevergreenref12_Store x232) ∧
K (x232, n20) w219)) ∧
(allocK (.cells #[.int .i64 v2_length] t_int) w175 fun a233 w220 =>
At w220 (a1.add 0) (cells .slice x19) ∧
At w220 (a1.add 1) (cells .slice x18) ∧
At w220 a2 (cells yapi_Rule x17) ∧
At w220 (a1.add 0) (cells .slice x16) ∧
(appK t_api_Rule 5 40 #[.int .i64 (0 : Int), .int .u8 (0 : Int), .int .i64 (0 : Int), .int .i64 (0 : Int), .int .i64 (0 : Int)] (some a21) 0 0 (.slice x16.a x16.len x16.cap) x16.len w220 fun s234 w221 =>
At w221 (a1.add 0) (cells .slice x19) ∧
At w221 (a1.add 1) (cells .slice x18) ∧
At w221 a2 (cells yapi_Rule x17) ∧
allocK (.cells (cells yapi_Rule x17).toArray t_api_Rule) w221 fun a235 w222 =>
At w222 (a1.add 0) (cells .slice x19) ∧
At w222 (a1.add 1) (cells .slice x18) ∧
appK t_api_Rule 5 40 #[.int .i64 (0 : Int), .int .u8 (0 : Int), .int .i64 (0 : Int), .int .i64 (0 : Int), .int .i64 (0 : Int)] s234.a s234.len s234.cap (.slice (some a235) 1 1) 1 w222 fun s236 w223 =>
At w223 (a1.add 0) (cells .slice x19) ∧
At w223 (a1.add 1) (cells .slice x18) ∧
appK t_int 1 8 #[.int .i64 (0 : Int)] (some a188) 0 0 (.slice x18.a x18.len x18.cap) x18.len w223 fun s237 w224 =>
At w224 (a1.add 0) (cells .slice x19) ∧
appK t_int 1 8 #[.int .i64 (0 : Int)] s237.a s237.len s237.cap (.slice (some a233) 1 1) 1 w224 fun s238 w225 =>
At w225 (a1.add 0) (cells .slice x19) ∧
stK w225 a3 ([.slice s236.a s236.len s236.cap, .slice s238.a s238.len s238.cap]) fun w226 =>
At w226 (a1.add 0) (cells .slice x19) ∧
∃ x239 : yevergreenref12_Store.T, At w226 a3 (cells yevergreenref12_Store x239) ∧
K (x239, n20) w226) ∧
(allocK (.cells (cells yapi_Rule x17).toArray t_api_Rule) w220 fun a240 w227 =>
At w227 (a1.add 0) (cells .slice x19) ∧
At w227 (a1.add 1) (cells .slice x18) ∧
At w227 (a1.add 0) (cells .slice x16) ∧
appK t_api_Rule 5 40 #[.int .i64 (0 : Int), .int .u8 (0 : Int), .int .i64 (0 : Int), .int .i64 (0 : Int), .int .i64 (0 : Int)] (some a21) 0 0 (.slice x16.a x16.len x16.cap) x16.len w227 fun s241 w228 =>
At w228 (a1.add 0) (cells .slice x19) ∧
At w228 (a1.add 1) (cells .slice x18) ∧
appK t_api_Rule 5 40 #[.int .i64 (0 : Int), .int .u8 (0 : Int), .int .i64 (0 : Int), .int .i64 (0 : Int), .int .i64 (0 : Int)] s241.a s241.len s241.cap (.slice (some a240) 1 1) 1 w228 fun s242 w229 =>
At w229 (a1.add 0) (cells .slice x19) ∧
At w229 (a1.add 1) (cells .slice x18) ∧
appK t_int 1 8 #[.int .i64 (0 : Int)] (some a188) 0 0 (.slice x18.a x18.len x18.cap) x18.len w229 fun s243 w230 =>
At w230 (a1.add 0) (cells .slice x19) ∧
appK t_int 1 8 #[.int .i64 (0 : Int)] s243.a s243.len s243.cap (.slice (some a233) 1 1) 1 w230 fun s244 w231 =>
At w231 (a1.add 0) (cells .slice x19) ∧
stK w231 a3 ([.slice s242.a s242.len s242.cap, .slice s244.a s244.len s244.cap]) fun w232 =>
At w232 (a1.add 0) (cells .slice x19) ∧
∃ x245 : yevergreenref12_Store.T, At w232 a3 (cells yevergreenref12_Store x245) ∧
K (x245, n20) w232))) ∧
(allocK (.cells #[.int .i64 v2_length] t_int) w8 fun a246 w233 =>
At w233 (a1.add 0) (cells .slice x19) ∧
At w233 (a1.add 1) (cells .slice x18) ∧
At w233 a2 (cells yapi_Rule x17) ∧
At w233 (a1.add 0) (cells .slice x16) ∧
(appK t_api_Rule 5 40 #[.int .i64 (0 : Int), .int .u8 (0 : Int), .int .i64 (0 : Int), .int .i64 (0 : Int), .int .i64 (0 : Int)] (some a21) 0 0 (.slice x16.a x16.len x16.cap) x16.len w233 fun s247 w234 =>
At w234 (a1.add 0) (cells .slice x19) ∧
At w234 (a1.add 1) (cells .slice x18) ∧
At w234 a2 (cells yapi_Rule x17) ∧
(allocK (.cells (cells yapi_Rule x17).toArray t_api_Rule) w234 fun a248 w235 =>
At w235 (a1.add 0) (cells .slice x19) ∧
At w235 (a1.add 1) (cells .slice x18) ∧
(appK t_api_Rule 5 40 #[.int .i64 (0 : Int), .int .u8 (0 : Int), .int .i64 (0 : Int), .int .i64 (0 : Int), .int .i64 (0 : Int)] s247.a s247.len s247.cap (.slice (some a248) 1 1) 1 w235 fun s249 w236 =>
At w236 (a1.add 0) (cells .slice x19) ∧
At w236 (a1.add 1) (cells .slice x18) ∧
allocK (.cells #[] t_int) w236 fun a250 w237 =>
At w237 (a1.add 0) (cells .slice x19) ∧
At w237 (a1.add 1) (cells .slice x18) ∧
appK t_int 1 8 #[.int .i64 (0 : Int)] (some a250) 0 0 (.slice x18.a x18.len x18.cap) x18.len w237 fun s251 w238 =>
At w238 (a1.add 0) (cells .slice x19) ∧
appK t_int 1 8 #[.int .i64 (0 : Int)] s251.a s251.len s251.cap (.slice (some a246) 1 1) 1 w238 fun s252 w239 =>
At w239 (a1.add 0) (cells .slice x19) ∧
stK w239 a3 ([.slice s249.a s249.len s249.cap, .slice s252.a s252.len s252.cap]) fun w240 =>
At w240 (a1.add 0) (cells .slice x19) ∧
∃ x253 : yevergreenref12_Store.T, At w240 a3 (cells yevergreenref12_Store x253) ∧
K (x253, n20) w240) ∧
(allocK (.cells #[] t_int) w235 fun a254 w241 =>
At w241 (a1.add 0) (cells .slice x19) ∧
At w241 (a1.add 1) (cells .slice x18) ∧
appK t_api_Rule 5 40 #[.int .i64 (0 : Int), .int .u8 (0 : Int), .int .i64 (0 : Int), .int .i64 (0 : Int), .int .i64 (0 : Int)] s247.a s247.len s247.cap (.slice (some a248) 1 1) 1 w241 fun s255 w242 =>
At w242 (a1.add 0) (cells .slice x19) ∧
At w242 (a1.add 1) (cells .slice x18) ∧
appK t_int 1 8 #[.int .i64 (0 : Int)] (some a254) 0 0 (.slice x18.a x18.len x18.cap) x18.len w242 fun s256 w243 =>
At w243 (a1.add 0) (cells .slice x19) ∧
appK t_int 1 8 #[.int .i64 (0 : Int)] s256.a s256.len s256.cap (.slice (some a246) 1 1) 1 w243 fun s257 w244 =>
At w244 (a1.add 0) (cells .slice x19) ∧
stK w244 a3 ([.slice s255.a s255.len s255.cap, .slice s257.a s257.len s257.cap]) fun w245 =>
At w245 (a1.add 0) (cells .slice x19) ∧
∃ x258 : yevergreenref12_Store.T, At w245 a3 (cells yevergreenref12_Store x258) ∧
K (x258, n20) w245)) ∧
(allocK (.cells #[] t_int) w234 fun a259 w246 =>
At w246 (a1.add 0) (cells .slice x19) ∧
At w246 (a1.add 1) (cells .slice x18) ∧
At w246 a2 (cells yapi_Rule x17) ∧
allocK (.cells (cells yapi_Rule x17).toArray t_api_Rule) w246 fun a260 w247 =>
At w247 (a1.add 0) (cells .slice x19) ∧
At w247 (a1.add 1) (cells .slice x18) ∧
appK t_api_Rule 5 40 #[.int .i64 (0 : Int), .int .u8 (0 : Int), .int .i64 (0 : Int), .int .i64 (0 : Int), .int .i64 (0 : Int)] s247.a s247.len s247.cap (.slice (some a260) 1 1) 1 w247 fun s261 w248 =>
At w248 (a1.add 0) (cells .slice x19) ∧
At w248 (a1.add 1) (cells .slice x18) ∧
appK t_int 1 8 #[.int .i64 (0 : Int)] (some a259) 0 0 (.slice x18.a x18.len x18.cap) x18.len w248 fun s262 w249 =>
At w249 (a1.add 0) (cells .slice x19) ∧
appK t_int 1 8 #[.int .i64 (0 : Int)] s262.a s262.len s262.cap (.slice (some a246) 1 1) 1 w249 fun s263 w250 =>
At w250 (a1.add 0) (cells .slice x19) ∧
stK w250 a3 ([.slice s261.a s261.len s261.cap, .slice s263.a s263.len s263.cap]) fun w251 =>
At w251 (a1.add 0) (cells .slice x19) ∧
∃ x264 : yevergreenref12_Store.T, At w251 a3 (cells yevergreenref12_Store x264) ∧
K (x264, n20) w251)) ∧
(allocK (.cells (cells yapi_Rule x17).toArray t_api_Rule) w233 fun a265 w252 =>
At w252 (a1.add 0) (cells .slice x19) ∧
At w252 (a1.add 1) (cells .slice x18) ∧
At w252 (a1.add 0) (cells .slice x16) ∧
(appK t_api_Rule 5 40 #[.int .i64 (0 : Int), .int .u8 (0 : Int), .int .i64 (0 : Int), .int .i64 (0 : Int), .int .i64 (0 : Int)] (some a21) 0 0 (.slice x16.a x16.len x16.cap) x16.len w252 fun s266 w253 =>
At w253 (a1.add 0) (cells .slice x19) ∧
At w253 (a1.add 1) (cells .slice x18) ∧
(appK t_api_Rule 5 40 #[.int .i64 (0 : Int), .int .u8 (0 : Int), .int .i64 (0 : Int), .int .i64 (0 : Int), .int .i64 (0 : Int)] s266.a s266.len s266.cap (.slice (some a265) 1 1) 1 w253 fun s267 w254 =>
At w254 (a1.add 0) (cells .slice x19) ∧
At w254 (a1.add 1) (cells .slice x18) ∧
allocK (.cells #[] t_int) w254 fun a268 w255 =>
At w255 (a1.add 0) (cells .slice x19) ∧
At w255 (a1.add 1) (cells .slice x18) ∧
appK t_int 1 8 #[.int .i64 (0 : Int)] (some a268) 0 0 (.slice x18.a x18.len x18.cap) x18.len w255 fun s269 w256 =>
At w256 (a1.add 0) (cells .slice x19) ∧
appK t_int 1 8 #[.int .i64 (0 : Int)] s269.a s269.len s269.cap (.slice (some a246) 1 1) 1 w256 fun s270 w257 =>
At w257 (a1.add 0) (cells .slice x19) ∧
stK w257 a3 ([.slice s267.a s267.len s267.cap, .slice s270.a s270.len s270.cap]) fun w258 =>
At w258 (a1.add 0) (cells .slice x19) ∧
∃ x271 : yevergreenref12_Store.T, At w258 a3 (cells yevergreenref12_Store x271) ∧
K (x271, n20) w258) ∧
(allocK (.cells #[] t_int) w253 fun a272 w259 =>
At w259 (a1.add 0) (cells .slice x19) ∧
At w259 (a1.add 1) (cells .slice x18) ∧
appK t_api_Rule 5 40 #[.int .i64 (0 : Int), .int .u8 (0 : Int), .int .i64 (0 : Int), .int .i64 (0 : Int), .int .i64 (0 : Int)] s266.a s266.len s266.cap (.slice (some a265) 1 1) 1 w259 fun s273 w260 =>
At w260 (a1.add 0) (cells .slice x19) ∧
At w260 (a1.add 1) (cells .slice x18) ∧
appK t_int 1 8 #[.int .i64 (0 : Int)] (some a272) 0 0 (.slice x18.a x18.len x18.cap) x18.len w260 fun s274 w261 =>
At w261 (a1.add 0) (cells .slice x19) ∧
appK t_int 1 8 #[.int .i64 (0 : Int)] s274.a s274.len s274.cap (.slice (some a246) 1 1) 1 w261 fun s275 w262 =>
At w262 (a1.add 0) (cells .slice x19) ∧
stK w262 a3 ([.slice s273.a s273.len s273.cap, .slice s275.a s275.len s275.cap]) fun w263 =>
At w263 (a1.add 0) (cells .slice x19) ∧
∃ x276 : yevergreenref12_Store.T, At w263 a3 (cells yevergreenref12_Store x276) ∧
K (x276, n20) w263)) ∧
(allocK (.cells #[] t_int) w252 fun a277 w264 =>
At w264 (a1.add 0) (cells .slice x19) ∧
At w264 (a1.add 1) (cells .slice x18) ∧
At w264 (a1.add 0) (cells .slice x16) ∧
appK t_api_Rule 5 40 #[.int .i64 (0 : Int), .int .u8 (0 : Int), .int .i64 (0 : Int), .int .i64 (0 : Int), .int .i64 (0 : Int)] (some a21) 0 0 (.slice x16.a x16.len x16.cap) x16.len w264 fun s278 w265 =>
At w265 (a1.add 0) (cells .slice x19) ∧
At w265 (a1.add 1) (cells .slice x18) ∧
appK t_api_Rule 5 40 #[.int .i64 (0 : Int), .int .u8 (0 : Int), .int .i64 (0 : Int), .int .i64 (0 : Int), .int .i64 (0 : Int)] s278.a s278.len s278.cap (.slice (some a265) 1 1) 1 w265 fun s279 w266 =>
At w266 (a1.add 0) (cells .slice x19) ∧
At w266 (a1.add 1) (cells .slice x18) ∧
appK t_int 1 8 #[.int .i64 (0 : Int)] (some a277) 0 0 (.slice x18.a x18.len x18.cap) x18.len w266 fun s280 w267 =>
At w267 (a1.add 0) (cells .slice x19) ∧
appK t_int 1 8 #[.int .i64 (0 : Int)] s280.a s280.len s280.cap (.slice (some a246) 1 1) 1 w267 fun s281 w268 =>
At w268 (a1.add 0) (cells .slice x19) ∧
stK w268 a3 ([.slice s279.a s279.len s279.cap, .slice s281.a s281.len s281.cap]) fun w269 =>
At w269 (a1.add 0) (cells .slice x19) ∧
∃ x282 : yevergreenref12_Store.T, At w269 a3 (cells yevergreenref12_Store x282) ∧
K (x282, n20) w269)) ∧
(allocK (.cells #[] t_int) w233 fun a283 w270 =>
At w270 (a1.add 0) (cells .slice x19) ∧
At w270 (a1.add 1) (cells .slice x18) ∧
At w270 a2 (cells yapi_Rule x17) ∧
At w270 (a1.add 0) (cells .slice x16) ∧
(appK t_api_Rule 5 40 #[.int .i64 (0 : Int), .int .u8 (0 : Int), .int .i64 (0 : Int), .int .i64 (0 : Int), .int .i64 (0 : Int)] (some a21) 0 0 (.slice x16.a x16.len x16.cap) x16.len w270 fun s284 w271 =>
At w271 (a1.add 0) (cells .slice x19) ∧
At w271 (a1.add 1) (cells .slice x18) ∧
At w271 a2 (cells yapi_Rule x17) ∧
allocK (.cells (cells yapi_Rule x17).toArray t_api_Rule) w271 fun a285 w272 =>
At w272 (a1.add 0) (cells .slice x19) ∧
At w272 (a1.add 1) (cells .slice x18) ∧
appK t_api_Rule 5 40 #[.int .i64 (0 : Int), .int .u8 (0 : Int), .int .i64 (0 : Int), .int .i64 (0 : Int), .int .i64 (0 : Int)] s284.a s284.len s284.cap (.slice (some a285) 1 1) 1 w272 fun s286 w273 =>
At w273 (a1.add 0) (cells .slice x19) ∧
At w273 (a1.add 1) (cells .slice x18) ∧
appK t_int 1 8 #[.int .i64 (0 : Int)] (some a283) 0 0 (.slice x18.a x18.len x18.cap) x18.len w273 fun s287 w274 =>
At w274 (a1.add 0) (cells .slice x19) ∧
appK t_int 1 8 #[.int .i64 (0 : Int)] s287.a s287.len s287.cap (.slice (some a246) 1 1) 1 w274 fun s288 w275 =>
At w275 (a1.add 0) (cells .slice x19) ∧
stK w275 a3 ([.slice s286.a s286.len s286.cap, .slice s288.a s288.len s288.cap]) fun w276 =>
At w276 (a1.add 0) (cells .slice x19) ∧
∃ x289 : yevergreenref12_Store.T, At w276 a3 (cells yevergreenref12_Store x289) ∧
K (x289, n20) w276) ∧
(allocK (.cells (cells yapi_Rule x17).toArray t_api_Rule) w270 fun a290 w277 =>
At w277 (a1.add 0) (cells .slice x19) ∧
At w277 (a1.add 1) (cells .slice x18) ∧
At w277 (a1.add 0) (cells .slice x16) ∧
appK t_api_Rule 5 40 #[.int .i64 (0 : Int), .int .u8 (0 : Int), .int .i64 (0 : Int), .int .i64 (0 : Int), .int .i64 (0 : Int)] (some a21) 0 0 (.slice x16.a x16.len x16.cap) x16.len w277 fun s291 w278 =>
At w278 (a1.add 0) (cells .slice x19) ∧
At w278 (a1.add 1) (cells .slice x18) ∧
appK t_api_Rule 5 40 #[.int .i64 (0 : Int), .int .u8 (0 : Int), .int .i64 (0 : Int), .int .i64 (0 : Int), .int .i64 (0 : Int)] s291.a s291.len s291.cap (.slice (some a290) 1 1) 1 w278 fun s292 w279 =>
At w279 (a1.add 0) (cells .slice x19) ∧
At w279 (a1.add 1) (cells .slice x18) ∧
appK t_int 1 8 #[.int .i64 (0 : Int)] (some a283) 0 0 (.slice x18.a x18.len x18.cap) x18.len w279 fun s293 w280 =>
At w280 (a1.add 0) (cells .slice x19) ∧
appK t_int 1 8 #[.int .i64 (0 : Int)] s293.a s293.len s293.cap (.slice (some a246) 1 1) 1 w280 fun s294 w281 =>
At w281 (a1.add 0) (cells .slice x19) ∧
stK w281 a3 ([.slice s292.a s292.len s292.cap, .slice s294.a s294.len s294.cap]) fun w282 =>
At w282 (a1.add 0) (cells .slice x19) ∧
∃ x295 : yevergreenref12_Store.T, At w282 a3 (cells yevergreenref12_Store x295) ∧
K (x295, n20) w282)))) ∧
(allocK (.cells (cells yapi_Rule x17).toArray t_api_Rule) w7 fun a296 w283 =>
At w283 (a1.add 0) (cells .slice x19) ∧
At w283 (a1.add 1) (cells .slice x18) ∧
At w283 (a1.add 0) (cells .slice x16) ∧
(allocK (.cells #[] t_api_Rule) w283 fun a297 w284 =>
At w284 (a1.add 0) (cells .slice x19) ∧
At w284 (a1.add 1) (cells .slice x18) ∧
At w284 (a1.add 0) (cells .slice x16) ∧
(appK t_api_Rule 5 40 #[.int .i64 (0 : Int), .int .u8 (0 : Int), .int .i64 (0 : Int), .int .i64 (0 : Int), .int .i64 (0 : Int)] (some a297) 0 0 (.slice x16.a x16.len x16.cap) x16.len w284 fun s298 w285 =>
At w285 (a1.add 0) (cells .slice x19) ∧
At w285 (a1.add 1) (cells .slice x18) ∧
(appK t_api_Rule 5 40 #[.int .i64 (0 : Int), .int .u8 (0 : Int), .int .i64 (0 : Int), .int .i64 (0 : Int), .int .i64 (0 : Int)] s298.a s298.len s298.cap (.slice (some a296) 1 1) 1 w285 fun s299 w286 =>
At w286 (a1.add 0) (cells .slice x19) ∧
At w286 (a1.add 1) (cells .slice x18) ∧
(allocK (.cells #[] t_int) w286 fun a300 w287 =>
At w287 (a1.add 0) (cells .slice x19) ∧
At w287 (a1.add 1) (cells .slice x18) ∧
(appK t_int 1 8 #[.int .i64 (0 : Int)] (some a300) 0 0 (.slice x18.a x18.len x18.cap) x18.len w287 fun s301 w288 =>
At w288 (a1.add 0) (cells .slice x19) ∧
allocK (.cells #[.int .i64 v2_length] t_int) w288 fun a302 w289 =>
At w289 (a1.add 0) (cells .slice x19) ∧
appK t_int 1 8 #[.int .i64 (0 : Int)] s301.a s301.len s301.cap (.slice (some a302) 1 1) 1 w289 fun s303 w290 =>
At w290 (a1.add 0) (cells .slice x19) ∧
stK w290 a3 ([.slice s299.a s299.len s299.cap, .slice s303.a s303.len s303.cap]) fun w291 =>
At w291 (a1.add 0) (cells .slice x19) ∧
∃ x304 : yevergreenref12_Store.T, At w291 a3 (cells yevergreenref12_Store x304) ∧
K (x304, n20) w291) ∧
(allocK (.cells #[.int .i64 v2_length] t_int) w287 fun a305 w292 =>
At w292 (a1.add 0) (cells .slice x19) ∧
At w292 (a1.add 1) (cells .slice x18) ∧
appK t_int 1 8 #[.int .i64 (0 : Int)] (some a300) 0 0 (.slice x18.a x18.len x18.cap) x18.len w292 fun s306 w293 =>
At w293 (a1.add 0) (cells .slice x19) ∧
appK t_int 1 8 #[.int .i64 (0 : Int)] s306.a s306.len s306.cap (.slice (some a305) 1 1) 1 w293 fun s307 w294 =>
At w294 (a1.add 0) (cells .slice x19) ∧
stK w294 a3 ([.slice s299.a s299.len s299.cap, .slice s307.a s307.len s307.cap]) fun w295 =>
At w295 (a1.add 0) (cells .slice x19) ∧
∃ x308 : yevergreenref12_Store.T, At w295 a3 (cells yevergreenref12_Store x308) ∧
K (x308, n20) w295)) ∧
(allocK (.cells #[.int .i64 v2_length] t_int) w286 fun a309 w296 =>
At w296 (a1.add 0) (cells .slice x19) ∧
At w296 (a1.add 1) (cells .slice x18) ∧
allocK (.cells #[] t_int) w296 fun a310 w297 =>
At w297 (a1.add 0) (cells .slice x19) ∧
At w297 (a1.add 1) (cells .slice x18) ∧
appK t_int 1 8 #[.int .i64 (0 : Int)] (some a310) 0 0 (.slice x18.a x18.len x18.cap) x18.len w297 fun s311 w298 =>
At w298 (a1.add 0) (cells .slice x19) ∧
appK t_int 1 8 #[.int .i64 (0 : Int)] s311.a s311.len s311.cap (.slice (some a309) 1 1) 1 w298 fun s312 w299 =>
At w299 (a1.add 0) (cells .slice x19) ∧
stK w299 a3 ([.slice s299.a s299.len s299.cap, .slice s312.a s312.len s312.cap]) fun w300 =>
At w300 (a1.add 0) (cells .slice x19) ∧
∃ x313 : yevergreenref12_Store.T, At w300 a3 (cells yevergreenref12_Store x313) ∧
K (x313, n20) w300)) ∧
(allocK (.cells #[] t_int) w285 fun a314 w301 =>
At w301 (a1.add 0) (cells .slice x19) ∧
At w301 (a1.add 1) (cells .slice x18) ∧
(appK t_api_Rule 5 40 #[.int .i64 (0 : Int), .int .u8 (0 : Int), .int .i64 (0 : Int), .int .i64 (0 : Int), .int .i64 (0 : Int)] s298.a s298.len s298.cap (.slice (some a296) 1 1) 1 w301 fun s315 w302 =>
At w302 (a1.add 0) (cells .slice x19) ∧
At w302 (a1.add 1) (cells .slice x18) ∧
(appK t_int 1 8 #[.int .i64 (0 : Int)] (some a314) 0 0 (.slice x18.a x18.len x18.cap) x18.len w302 fun s316 w303 =>
At w303 (a1.add 0) (cells .slice x19) ∧
allocK (.cells #[.int .i64 v2_length] t_int) w303 fun a317 w304 =>
At w304 (a1.add 0) (cells .slice x19) ∧
appK t_int 1 8 #[.int .i64 (0 : Int)] s316.a s316.len s316.cap (.slice (some a317) 1 1) 1 w304 fun s318 w305 =>
At w305 (a1.add 0) (cells .slice x19) ∧
stK w305 a3 ([.slice s315.a s315.len s315.cap, .slice s318.a s318.len s318.cap]) fun w306 =>
At w306 (a1.add 0) (cells .slice x19) ∧
∃ x319 : yevergreenref12_Store.T, At w306 a3 (cells yevergreenref12_Store x319) ∧
K (x319, n20) w306) ∧
(allocK (.cells #[.int .i64 v2_length] t_int) w302 fun a320 w307 =>
At w307 (a1.add 0) (cells .slice x19) ∧
At w307 (a1.add 1) (cells .slice x18) ∧
appK t_int 1 8 #[.int .i64 (0 : Int)] (some a314) 0 0 (.slice x18.a x18.len x18.cap) x18.len w307 fun s321 w308 =>
At w308 (a1.add 0) (cells .slice x19) ∧
appK t_int 1 8 #[.int .i64 (0 : Int)] s321.a s321.len s321.cap (.slice (some a320) 1 1) 1 w308 fun s322 w309 =>
At w309 (a1.add 0) (cells .slice x19) ∧
stK w309 a3 ([.slice s315.a s315.len s315.cap, .slice s322.a s322.len s322.cap]) fun w310 =>
At w310 (a1.add 0) (cells .slice x19) ∧
∃ x323 : yevergreenref12_Store.T, At w310 a3 (cells yevergreenref12_Store x323) ∧
K (x323, n20) w310)) ∧
(allocK (.cells #[.int .i64 v2_length] t_int) w301 fun a324 w311 =>
At w311 (a1.add 0) (cells .slice x19) ∧
At w311 (a1.add 1) (cells .slice x18) ∧
appK t_api_Rule 5 40 #[.int .i64 (0 : Int), .int .u8 (0 : Int), .int .i64 (0 : Int), .int .i64 (0 : Int), .int .i64 (0 : Int)] s298.a s298.len s298.cap (.slice (some a296) 1 1) 1 w311 fun s325 w312 =>
At w312 (a1.add 0) (cells .slice x19) ∧
At w312 (a1.add 1) (cells .slice x18) ∧
appK t_int 1 8 #[.int .i64 (0 : Int)] (some a314) 0 0 (.slice x18.a x18.len x18.cap) x18.len w312 fun s326 w313 =>
At w313 (a1.add 0) (cells .slice x19) ∧
appK t_int 1 8 #[.int .i64 (0 : Int)] s326.a s326.len s326.cap (.slice (some a324) 1 1) 1 w313 fun s327 w314 =>
At w314 (a1.add 0) (cells .slice x19) ∧
stK w314 a3 ([.slice s325.a s325.len s325.cap, .slice s327.a s327.len s327.cap]) fun w315 =>
At w315 (a1.add 0) (cells .slice x19) ∧
∃ x328 : yevergreenref12_Store.T, At w315 a3 (cells yevergreenref12_Store x328) ∧
K (x328, n20) w315)) ∧
(allocK (.cells #[.int .i64 v2_length] t_int) w285 fun a329 w316 =>
At w316 (a1.add 0) (cells .slice x19) ∧
At w316 (a1.add 1) (cells .slice x18) ∧
(appK t_api_Rule 5 40 #[.int .i64 (0 : Int), .int .u8 (0 : Int), .int .i64 (0 : Int), .int .i64 (0 : Int), .int .i64 (0 : Int)] s298.a s298.len s298.cap (.slice (some a296) 1 1) 1 w316 fun s330 w317 =>
At w317 (a1.add 0) (cells .slice x19) ∧
At w317 (a1.add 1) (cells .slice x18) ∧
allocK (.cells #[] t_int) w317 fun a331 w318 =>
At w318 (a1.add 0) (cells .slice x19) ∧
At w318 (a1.add 1) (cells .slice x18) ∧
appK t_int 1 8 #[.int .i64 (0 : Int)] (some a331) 0 0 (.slice x18.a x18.len x18.cap) x18.len w318 fun s332 w319 =>
At w319 (a1.add 0) (cells .slice x19) ∧
appK t_int 1 8 #[.int .i64 (0 : Int)] s332.a s332.len s332.cap (.slice (some a329) 1 1) 1 w319 fun s333 w320 =>
At w320 (a1.add 0) (cells .slice x19) ∧
stK w320 a3 ([.slice s330.a s330.len s330.cap, .slice s333.a s333.len s333.cap]) fun w321 =>
At w321 (a1.add 0) (cells .slice x19) ∧
∃ x334 : yevergreenref12_Store.T, At w321 a3 (cells yevergreenref12_Store x334) ∧
K (x334, n20) w321) ∧
(allocK (.cells #[] t_int) w316 fun a335 w322 =>
At w322 (a1.add 0) (cells .slice x19) ∧
At w322 (a1.add 1) (cells .slice x18) ∧
appK t_api_Rule 5 40 #[.int .i64 (0 : Int), .int .u8 (0 : Int), .int .i64 (0 : Int), .int .i64 (0 : Int), .int .i64 (0 : Int)] s298.a s298.len s298.cap (.slice (some a296) 1 1) 1 w322 fun s336 w323 =>
At w323 (a1.add 0) (cells .slice x19) ∧
At w323 (a1.add 1) (cells .slice x18) ∧
appK t_int 1 8 #[.int .i64 (0 : Int)] (some a335) 0 0 (.slice x18.a x18.len x18.cap) x18.len w323 fun s337 w324 =>
At w324 (a1.add 0) (cells .slice x19) ∧
appK t_int 1 8 #[.int .i64 (0 : Int)] s337.a s337.len s337.cap (.slice (some a329) 1 1) 1 w324 fun s338 w325 =>
At w325 (a1.add 0) (cells .slice x19) ∧
stK w325 a3 ([.slice s336.a s336.len s336.cap, .slice s338.a s338.len s338.cap]) fun w326 =>
At w326 (a1.add 0) (cells .slice x19) ∧
∃ x339 : yevergreenref12_Store.T, At w326 a3 (cells yevergreenref12_Store x339) ∧
K (x339, n20) w326))) ∧
(allocK (.cells #[] t_int) w284 fun a340 w327 =>
At w327 (a1.add 0) (cells .slice x19) ∧
At w327 (a1.add 1) (cells .slice x18) ∧
At w327 (a1.add 0) (cells .slice x16) ∧
(appK t_api_Rule 5 40 #[.int .i64 (0 : Int), .int .u8 (0 : Int), .int .i64 (0 : Int), .int .i64 (0 : Int), .int .i64 (0 : Int)] (some a297) 0 0 (.slice x16.a x16.len x16.cap) x16.len w327 fun s341 w328 =>
At w328 (a1.add 0) (cells .slice x19) ∧
At w328 (a1.add 1) (cells .slice x18) ∧
(appK t_api_Rule 5 40 #[.int .i64 (0 : Int), .int .u8 (0 : Int), .int .i64 (0 : Int), .int .i64 (0 : Int), .int .i64 (0 : Int)] s341.a s341.len s341.cap (.slice (some a296) 1 1) 1 w328 fun s342 w329 =>
At w329 (a1.add 0) (cells .slice x19) ∧
At w329 (a1.add 1) (cells .slice x18) ∧
(appK t_int 1 8 #[.int .i64 (0 : Int)] (some a340) 0 0 (.slice x18.a x18.len x18.cap) x18.len w329 fun s343 w330 =>
At w330 (a1.add 0) (cells .slice x19) ∧
allocK (.cells #[.int .i64 v2_length] t_int) w330 fun a344 w331 =>
At w331 (a1.add 0) (cells .slice x19) ∧
appK t_int 1 8 #[.int .i64 (0 : Int)] s343.a s343.len s343.cap (.slice (some a344) 1 1) 1 w331 fun s345 w332 =>
At w332 (a1.add 0) (cells .slice x19) ∧
stK w332 a3 ([.slice s342.a s342.len s342.cap, .slice s345.a s345.len s345.cap]) fun w333 =>
At w333 (a1.add 0) (cells .slice x19) ∧
∃ x346 : yevergreenref12_Store.T, At w333 a3 (cells yevergreenref12_Store x346) ∧
K (x346, n20) w333) ∧
(allocK (.cells #[.int .i64 v2_length] t_int) w329 fun a347 w334 =>
At w334 (a1.add 0) (cells .slice x19) ∧
At w334 (a1.add 1) (cells .slice x18) ∧
appK t_int 1 8 #[.int .i64 (0 : Int)] (some a340) 0 0 (.slice x18.a x18.len x18.cap) x18.len w334 fun s348 w335 =>
At w335 (a1.add 0) (cells .slice x19) ∧
appK t_int 1 8 #[.int .i64 (0 : Int)] s348.a s348.len s348.cap (.slice (some a347) 1 1) 1 w335 fun s349 w336 =>
At w336 (a1.add 0) (cells .slice x19) ∧
stK w336 a3 ([.slice s342.a s342.len s342.cap, .slice s349.a s349.len s349.cap]) fun w337 =>
At w337 (a1.add 0) (cells .slice x19) ∧
∃ x350 : yevergreenref12_Store.T, At w337 a3 (cells yevergreenref12_Store x350) ∧
K (x350, n20) w337)) ∧
(allocK (.cells #[.int .i64 v2_length] t_int) w328 fun a351 w338 =>
At w338 (a1.add 0) (cells .slice x19) ∧
At w338 (a1.add 1) (cells .slice x18) ∧
appK t_api_Rule 5 40 #[.int .i64 (0 : Int), .int .u8 (0 : Int), .int .i64 (0 : Int), .int .i64 (0 : Int), .int .i64 (0 : Int)] s341.a s341.len s341.cap (.slice (some a296) 1 1) 1 w338 fun s352 w339 =>
At w339 (a1.add 0) (cells .slice x19) ∧
At w339 (a1.add 1) (cells .slice x18) ∧
appK t_int 1 8 #[.int .i64 (0 : Int)] (some a340) 0 0 (.slice x18.a x18.len x18.cap) x18.len w339 fun s353 w340 =>
At w340 (a1.add 0) (cells .slice x19) ∧
appK t_int 1 8 #[.int .i64 (0 : Int)] s353.a s353.len s353.cap (.slice (some a351) 1 1) 1 w340 fun s354 w341 =>
At w341 (a1.add 0) (cells .slice x19) ∧
stK w341 a3 ([.slice s352.a s352.len s352.cap, .slice s354.a s354.len s354.cap]) fun w342 =>
At w342 (a1.add 0) (cells .slice x19) ∧
∃ x355 : yevergreenref12_Store.T, At w342 a3 (cells yevergreenref12_Store x355) ∧
K (x355, n20) w342)) ∧
(allocK (.cells #[.int .i64 v2_length] t_int) w327 fun a356 w343 =>
At w343 (a1.add 0) (cells .slice x19) ∧
At w343 (a1.add 1) (cells .slice x18) ∧
At w343 (a1.add 0) (cells .slice x16) ∧
appK t_api_Rule 5 40 #[.int .i64 (0 : Int), .int .u8 (0 : Int), .int .i64 (0 : Int), .int .i64 (0 : Int), .int .i64 (0 : Int)] (some a297) 0 0 (.slice x16.a x16.len x16.cap) x16.len w343 fun s357 w344 =>
At w344 (a1.add 0) (cells .slice x19) ∧
At w344 (a1.add 1) (cells .slice x18) ∧
appK t_api_Rule 5 40 #[.int .i64 (0 : Int), .int .u8 (0 : Int), .int .i64 (0 : Int), .int .i64 (0 : Int), .int .i64 (0 : Int)] s357.a s357.len s357.cap (.slice (some a296) 1 1) 1 w344 fun s358 w345 =>
At w345 (a1.add 0) (cells .slice x19) ∧
At w345 (a1.add 1) (cells .slice x18) ∧
appK t_int 1 8 #[.int .i64 (0 : Int)] (some a340) 0 0 (.slice x18.a x18.len x18.cap) x18.len w345 fun s359 w346 =>
At w346 (a1.add 0) (cells .slice x19) ∧
appK t_int 1 8 #[.int .i64 (0 : Int)] s359.a s359.len s359.cap (.slice (some a356) 1 1) 1 w346 fun s360 w347 =>
At w347 (a1.add 0) (cells .slice x19) ∧
stK w347 a3 ([.slice s358.a s358.len s358.cap, .slice s360.a s360.len s360.cap]) fun w348 =>
At w348 (a1.add 0) (cells .slice x19) ∧
∃ x361 : yevergreenref12_Store.T, At w348 a3 (cells yevergreenref12_Store x361) ∧
K (x361, n20) w348)) ∧
(allocK (.cells #[.int .i64 v2_length] t_int) w284 fun a362 w349 =>
At w349 (a1.add 0) (cells .slice x19) ∧
At w349 (a1.add 1) (cells .slice x18) ∧
At w349 (a1.add 0) (cells .slice x16) ∧
(appK t_api_Rule 5 40 #[.int .i64 (0 : Int), .int .u8 (0 : Int), .int .i64 (0 : Int), .int .i64 (0 : Int), .int .i64 (0 : Int)] (some a297) 0 0 (.slice x16.a x16.len x16.cap) x16.len w349 fun s363 w350 =>
At w350 (a1.add 0) (cells .slice x19) ∧
At w350 (a1.add 1) (cells .slice x18) ∧
(appK t_api_Rule 5 40 #[.int .i64 (0 : Int), .int .u8 (0 : Int), .int .i64 (0 : Int), .int .i64 (0 : Int), .int .i64 (0 : Int)] s363.a s363.len s363.cap (.slice (some a296) 1 1) 1 w350 fun s364 w351 =>
At w351 (a1.add 0) (cells .slice x19) ∧
At w351 (a1.add 1) (cells .slice x18) ∧
allocK (.cells #[] t_int) w351 fun a365 w352 =>
At w352 (a1.add 0) (cells .slice x19) ∧
At w352 (a1.add 1) (cells .slice x18) ∧
appK t_int 1 8 #[.int .i64 (0 : Int)] (some a365) 0 0 (.slice x18.a x18.len x18.cap) x18.len w352 fun s366 w353 =>
At w353 (a1.add 0) (cells .slice x19) ∧
appK t_int 1 8 #[.int .i64 (0 : Int)] s366.a s366.len s366.cap (.slice (some a362) 1 1) 1 w353 fun s367 w354 =>
At w354 (a1.add 0) (cells .slice x19) ∧
stK w354 a3 ([.slice s364.a s364.len s364.cap, .slice s367.a s367.len s367.cap]) fun w355 =>
At w355 (a1.add 0) (cells .slice x19) ∧
∃ x368 : yevergreenref12_Store.T, At w355 a3 (cells yevergreenref12_Store x368) ∧
K (x368, n20) w355) ∧
(allocK (.cells #[] t_int) w350 fun a369 w356 =>
At w356 (a1.add 0) (cells .slice x19) ∧
At w356 (a1.add 1) (cells .slice x18) ∧
appK t_api_Rule 5 40 #[.int .i64 (0 : Int), .int .u8 (0 : Int), .int .i64 (0 : Int), .int .i64 (0 : Int), .int .i64 (0 : Int)] s363.a s363.len s363.cap (.slice (some a296) 1 1) 1 w356 fun s370 w357 =>
At w357 (a1.add 0) (cells .slice x19) ∧
At w357 (a1.add 1) (cells .slice x18) ∧
appK t_int 1 8 #[.int .i64 (0 : Int)] (some a369) 0 0 (.slice x18.a x18.len x18.cap) x18.len w357 fun s371 w358 =>
At w358 (a1.add 0) (cells .slice x19) ∧
appK t_int 1 8 #[.int .i64 (0 : Int)] s371.a s371.len s371.cap (.slice (some a362) 1 1) 1 w358 fun s372 w359 =>
At w359 (a1.add 0) (cells .slice x19) ∧
stK w359 a3 ([.slice s370.a s370.len s370.cap, .slice s372.a s372.len s372.cap]) fun w360 =>
At w360 (a1.add 0) (cells .slice x19) ∧
∃ x373 : yevergreenref12_Store.T, At w360 a3 (cells yevergreenref12_Store x373) ∧
K (x373, n20) w360)) ∧
(allocK (.cells #[] t_int) w349 fun a374 w361 =>
At w361 (a1.add 0) (cells .slice x19) ∧
At w361 (a1.add 1) (cells .slice x18) ∧
At w361 (a1.add 0) (cells .slice x16) ∧
appK t_api_Rule 5 40 #[.int .i64 (0 : Int), .int .u8 (0 : Int), .int .i64 (0 : Int), .int .i64 (0 : Int), .int .i64 (0 : Int)] (some a297) 0 0 (.slice x16.a x16.len x16.cap) x16.len w361 fun s375 w362 =>
At w362 (a1.add 0) (cells .slice x19) ∧
At w362 (a1.add 1) (cells .slice x18) ∧
appK t_api_Rule 5 40 #[.int .i64 (0 : Int), .int .u8 (0 : Int), .int .i64 (0 : Int), .int .i64 (0 : Int), .int .i64 (0 : Int)] s375.a s375.len s375.cap (.slice (some a296) 1 1) 1 w362 fun s376 w363 =>
At w363 (a1.add 0) (cells .slice x19) ∧
At w363 (a1.add 1) (cells .slice x18) ∧
appK t_int 1 8 #[.int .i64 (0 : Int)] (some a374) 0 0 (.slice x18.a x18.len x18.cap) x18.len w363 fun s377 w364 =>
At w364 (a1.add 0) (cells .slice x19) ∧
appK t_int 1 8 #[.int .i64 (0 : Int)] s377.a s377.len s377.cap (.slice (some a362) 1 1) 1 w364 fun s378 w365 =>
At w365 (a1.add 0) (cells .slice x19) ∧
stK w365 a3 ([.slice s376.a s376.len s376.cap, .slice s378.a s378.len s378.cap]) fun w366 =>
At w366 (a1.add 0) (cells .slice x19) ∧
∃ x379 : yevergreenref12_Store.T, At w366 a3 (cells yevergreenref12_Store x379) ∧
K (x379, n20) w366))) ∧
(allocK (.cells #[] t_int) w283 fun a380 w367 =>
At w367 (a1.add 0) (cells .slice x19) ∧
At w367 (a1.add 1) (cells .slice x18) ∧
At w367 (a1.add 0) (cells .slice x16) ∧
(allocK (.cells #[] t_api_Rule) w367 fun a381 w368 =>
At w368 (a1.add 0) (cells .slice x19) ∧
At w368 (a1.add 1) (cells .slice x18) ∧
At w368 (a1.add 0) (cells .slice x16) ∧
(appK t_api_Rule 5 40 #[.int .i64 (0 : Int), .int .u8 (0 : Int), .int .i64 (0 : Int), .int .i64 (0 : Int), .int .i64 (0 : Int)] (some a381) 0 0 (.slice x16.a x16.len x16.cap) x16.len w368 fun s382 w369 =>
At w369 (a1.add 0) (cells .slice x19) ∧
At w369 (a1.add 1) (cells .slice x18) ∧
(appK t_api_Rule 5 40 #[.int .i64 (0 : Int), .int .u8 (0 : Int), .int .i64 (0 : Int), .int .i64 (0 : Int), .int .i64 (0 : Int)] s382.a s382.len s382.cap (.slice (some a296) 1 1) 1 w369 fun s383 w370 =>
At w370 (a1.add 0) (cells .slice x19) ∧
At w370 (a1.add 1) (cells .slice x18) ∧
(appK t_int 1 8 #[.int .i64 (0 : Int)] (some a380) 0 0 (.slice x18.a x18.len x18.cap) x18.len w370 fun s384 w371 =>
At w371 (a1.add 0) (cells .slice x19) ∧
allocK (.cells #[.int .i64 v2_length] t_int) w371 fun a385 w372 =>
At w372 (a1.add 0) (cells .slice x19) ∧
appK t_int 1 8 #[.int .i64 (0 : Int)] s384.a s384.len s384.cap (.slice (some a385) 1 1) 1 w372 fun s386 w373 =>
At w373 (a1.add 0) (cells .slice x19) ∧
stK w373 a3 ([.slice s383.a s383.len s383.cap, .slice s386.a s386.len s386.cap]) fun w374 =>
At w374 (a1.add 0) (cells .slice x19) ∧
∃ x387 : yevergreenref12_Store.T, At w374 a3 (cells yevergreenref12_Store x387) ∧
K (x387, n20) w374) ∧
(allocK (.cells #[.int .i64 v2_length] t_int) w370 fun a388 w375 =>
At w375 (a1.add 0) (cells .slice x19) ∧
At w375 (a1.add 1) (cells .slice x18) ∧
appK t_int 1 8 #[.int .i64 (0 : Int)] (some a380) 0 0 (.slice x18.a x18.len x18.cap) x18.len w375 fun s389 w376 =>
At w376 (a1.add 0) (cells .slice x19) ∧
appK t_int 1 8 #[.int .i64 (0 : Int)] s389.a s389.len s389.cap (.slice (some a388) 1 1) 1 w376 fun s390 w377 =>
At w377 (a1.add 0) (cells .slice x19) ∧
stK w377 a3 ([.slice s383.a s383.len s383.cap, .slice s390.a s390.len s390.cap]) fun w378 =>
At w378 (a1.add 0) (cells .slice x19) ∧
∃ x391 : yevergreenref12_Store.T, At w378 a3 (cells yevergreenref12_Store x391) ∧
K (x391, n20) w378)) ∧
(allocK (.cells #[.int .i64 v2_length] t_int) w369 fun a392 w379 =>
At w379 (a1.add 0) (cells .slice x19) ∧
At w379 (a1.add 1) (cells .slice x18) ∧
appK t_api_Rule 5 40 #[.int .i64 (0 : Int), .int .u8 (0 : Int), .int .i64 (0 : Int), .int .i64 (0 : Int), .int .i64 (0 : Int)] s382.a s382.len s382.cap (.slice (some a296) 1 1) 1 w379 fun s393 w380 =>
At w380 (a1.add 0) (cells .slice x19) ∧
At w380 (a1.add 1) (cells .slice x18) ∧
appK t_int 1 8 #[.int .i64 (0 : Int)] (some a380) 0 0 (.slice x18.a x18.len x18.cap) x18.len w380 fun s394 w381 =>
At w381 (a1.add 0) (cells .slice x19) ∧
appK t_int 1 8 #[.int .i64 (0 : Int)] s394.a s394.len s394.cap (.slice (some a392) 1 1) 1 w381 fun s395 w382 =>
At w382 (a1.add 0) (cells .slice x19) ∧
stK w382 a3 ([.slice s393.a s393.len s393.cap, .slice s395.a s395.len s395.cap]) fun w383 =>
At w383 (a1.add 0) (cells .slice x19) ∧
∃ x396 : yevergreenref12_Store.T, At w383 a3 (cells yevergreenref12_Store x396) ∧
K (x396, n20) w383)) ∧
(allocK (.cells #[.int .i64 v2_length] t_int) w368 fun a397 w384 =>
At w384 (a1.add 0) (cells .slice x19) ∧
At w384 (a1.add 1) (cells .slice x18) ∧
At w384 (a1.add 0) (cells .slice x16) ∧
appK t_api_Rule 5 40 #[.int .i64 (0 : Int), .int .u8 (0 : Int), .int .i64 (0 : Int), .int .i64 (0 : Int), .int .i64 (0 : Int)] (some a381) 0 0 (.slice x16.a x16.len x16.cap) x16.len w384 fun s398 w385 =>
At w385 (a1.add 0) (cells .slice x19) ∧
At w385 (a1.add 1) (cells .slice x18) ∧
appK t_api_Rule 5 40 #[.int .i64 (0 : Int), .int .u8 (0 : Int), .int .i64 (0 : Int), .int .i64 (0 : Int), .int .i64 (0 : Int)] s398.a s398.len s398.cap (.slice (some a296) 1 1) 1 w385 fun s399 w386 =>
At w386 (a1.add 0) (cells .slice x19) ∧
At w386 (a1.add 1) (cells .slice x18) ∧
appK t_int 1 8 #[.int .i64 (0 : Int)] (some a380) 0 0 (.slice x18.a x18.len x18.cap) x18.len w386 fun s400 w387 =>
At w387 (a1.add 0) (cells .slice x19) ∧
appK t_int 1 8 #[.int .i64 (0 : Int)] s400.a s400.len s400.cap (.slice (some a397) 1 1) 1 w387 fun s401 w388 =>
At w388 (a1.add 0) (cells .slice x19) ∧
stK w388 a3 ([.slice s399.a s399.len s399.cap, .slice s401.a s401.len s401.cap]) fun w389 =>
At w389 (a1.add 0) (cells .slice x19) ∧
∃ x402 : yevergreenref12_Store.T, At w389 a3 (cells yevergreenref12_Store x402) ∧
K (x402, n20) w389)) ∧
(allocK (.cells #[.int .i64 v2_length] t_int) w367 fun a403 w390 =>
At w390 (a1.add 0) (cells .slice x19) ∧
At w390 (a1.add 1) (cells .slice x18) ∧
At w390 (a1.add 0) (cells .slice x16) ∧
allocK (.cells #[] t_api_Rule) w390 fun a404 w391 =>
At w391 (a1.add 0) (cells .slice x19) ∧
At w391 (a1.add 1) (cells .slice x18) ∧
At w391 (a1.add 0) (cells .slice x16) ∧
appK t_api_Rule 5 40 #[.int .i64 (0 : Int), .int .u8 (0 : Int), .int .i64 (0 : Int), .int .i64 (0 : Int), .int .i64 (0 : Int)] (some a404) 0 0 (.slice x16.a x16.len x16.cap) x16.len w391 fun s405 w392 =>
At w392 (a1.add 0) (cells .slice x19) ∧
At w392 (a1.add 1) (cells .slice x18) ∧
appK t_api_Rule 5 40 #[.int .i64 (0 : Int), .int .u8 (0 : Int), .int .i64 (0 : Int), .int .i64 (0 : Int), .int .i64 (0 : Int)] s405.a s405.len s405.cap (.slice (some a296) 1 1) 1 w392 fun s406 w393 =>
At w393 (a1.add 0) (cells .slice x19) ∧
At w393 (a1.add 1) (cells .slice x18) ∧
appK t_int 1 8 #[.int .i64 (0 : Int)] (some a380) 0 0 (.slice x18.a x18.len x18.cap) x18.len w393 fun s407 w394 =>
At w394 (a1.add 0) (cells .slice x19) ∧
appK t_int 1 8 #[.int .i64 (0 : Int)] s407.a s407.len s407.cap (.slice (some a403) 1 1) 1 w394 fun s408 w395 =>
At w395 (a1.add 0) (cells .slice x19) ∧
stK w395 a3 ([.slice s406.a s406.len s406.cap, .slice s408.a s408.len s408.cap]) fun w396 =>
At w396 (a1.add 0) (cells .slice x19) ∧
∃ x409 : yevergreenref12_Store.T, At w396 a3 (cells yevergreenref12_Store x409) ∧
K (x409, n20) w396)) ∧
(allocK (.cells #[.int .i64 v2_length] t_int) w283 fun a410 w397 =>
At w397 (a1.add 0) (cells .slice x19) ∧
At w397 (a1.add 1) (cells .slice x18) ∧
At w397 (a1.add 0) (cells .slice x16) ∧
(allocK (.cells #[] t_api_Rule) w397 fun a411 w398 =>
At w398 (a1.add 0) (cells .slice x19) ∧
At w398 (a1.add 1) (cells .slice x18) ∧
At w398 (a1.add 0) (cells .slice x16) ∧
(appK t_api_Rule 5 40 #[.int .i64 (0 : Int), .int .u8 (0 : Int), .int .i64 (0 : Int), .int .i64 (0 : Int), .int .i64 (0 : Int)] (some a411) 0 0 (.slice x16.a x16.len x16.cap) x16.len w398 fun s412 w399 =>
At w399 (a1.add 0) (cells .slice x19) ∧
At w399 (a1.add 1) (cells .slice x18) ∧
(appK t_api_Rule 5 40 #[.int .i64 (0 : Int), .int .u8 (0 : Int), .int .i64 (0 : Int), .int .i64 (0 : Int), .int .i64 (0 : Int)] s412.a s412.len s412.cap (.slice (some a296) 1 1) 1 w399 fun s413 w400 =>
At w400 (a1.add 0) (cells .slice x19) ∧
At w400 (a1.add 1) (cells .slice x18) ∧
allocK (.cells #[] t_int) w400 fun a414 w401 =>
At w401 (a1.add 0) (cells .slice x19) ∧
At w401 (a1.add 1) (cells .slice x18) ∧
appK t_int 1 8 #[.int .i64 (0 : Int)] (some a414) 0 0 (.slice x18.a x18.len x18.cap) x18.len w401 fun s415 w402 =>
At w402 (a1.add 0) (cells .slice x19) ∧
appK t_int 1 8 #[.int .i64 (0 : Int)] s415.a s415.len s415.cap (.slice (some a410) 1 1) 1 w402 fun s416 w403 =>
At w403 (a1.add 0) (cells .slice x19) ∧
stK w403 a3 ([.slice s413.a s413.len s413.cap, .slice s416.a s416.len s416.cap]) fun w404 =>
At w404 (a1.add 0) (cells .slice x19) ∧
∃ x417 : yevergreenref12_Store.T, At w404 a3 (cells yevergreenref12_Store x417) ∧
K (x417, n20) w404) ∧
(allocK (.cells #[] t_int) w399 fun a418 w405 =>
At w405 (a1.add 0) (cells .slice x19) ∧
At w405 (a1.add 1) (cells .slice x18) ∧
appK t_api_Rule 5 40 #[.int .i64 (0 : Int), .int .u8 (0 : Int), .int .i64 (0 : Int), .int .i64 (0 : Int), .int .i64 (0 : Int)] s412.a s412.len s412.cap (.slice (some a296) 1 1) 1 w405 fun s419 w406 =>
At w406 (a1.add 0) (cells .slice x19) ∧
At w406 (a1.add 1) (cells .slice x18) ∧
appK t_int 1 8 #[.int .i64 (0 : Int)] (some a418) 0 0 (.slice x18.a x18.len x18.cap) x18.len w406 fun s420 w407 =>
At w407 (a1.add 0) (cells .slice x19) ∧
appK t_int 1 8 #[.int .i64 (0 : Int)] s420.a s420.len s420.cap (.slice (some a410) 1 1) 1 w407 fun s421 w408 =>
At w408 (a1.add 0) (cells .slice x19) ∧
stK w408 a3 ([.slice s419.a s419.len s419.cap, .slice s421.a s421.len s421.cap]) fun w409 =>
At w409 (a1.add 0) (cells .slice x19) ∧
∃ x422 : yevergreenref12_Store.T, At w409 a3 (cells yevergreenref12_Store x422) ∧
K (x422, n20) w409)) ∧
(allocK (.cells #[] t_int) w398 fun a423 w410 =>
At w410 (a1.add 0) (cells .slice x19) ∧
At w410 (a1.add 1) (cells .slice x18) ∧
At w410 (a1.add 0) (cells .slice x16) ∧
appK t_api_Rule 5 40 #[.int .i64 (0 : Int), .int .u8 (0 : Int), .int .i64 (0 : Int), .int .i64 (0 : Int), .int .i64 (0 : Int)] (some a411) 0 0 (.slice x16.a x16.len x16.cap) x16.len w410 fun s424 w411 =>
At w411 (a1.add 0) (cells .slice x19) ∧
At w411 (a1.add 1) (cells .slice x18) ∧
appK t_api_Rule 5 40 #[.int .i64 (0 : Int), .int .u8 (0 : Int), .int .i64 (0 : Int), .int .i64 (0 : Int), .int .i64 (0 : Int)] s424.a s424.len s424.cap (.slice (some a296) 1 1) 1 w411 fun s425 w412 =>
At w412 (a1.add 0) (cells .slice x19) ∧
At w412 (a1.add 1) (cells .slice x18) ∧
appK t_int 1 8 #[.int .i64 (0 : Int)] (some a423) 0 0 (.slice x18.a x18.len x18.cap) x18.len w412 fun s426 w413 =>
At w413 (a1.add 0) (cells .slice x19) ∧
appK t_int 1 8 #[.int .i64 (0 : Int)] s426.a s426.len s426.cap (.slice (some a410) 1 1) 1 w413 fun s427 w414 =>
At w414 (a1.add 0) (cells .slice x19) ∧
stK w414 a3 ([.slice s425.a s425.len s425.cap, .slice s427.a s427.len s427.cap]) fun w415 =>
At w415 (a1.add 0) (cells .slice x19) ∧
∃ x428 : yevergreenref12_Store.T, At w415 a3 (cells yevergreenref12_Store x428) ∧
K (x428, n20) w415)) ∧
(allocK (.cells #[] t_int) w397 fun a429 w416 =>
At w416 (a1.add 0) (cells .slice x19) ∧
At w416 (a1.add 1) (cells .slice x18) ∧
At w416 (a1.add 0) (cells .slice x16) ∧
allocK (.cells #[] t_api_Rule) w416 fun a430 w417 =>
At w417 (a1.add 0) (cells .slice x19) ∧
At w417 (a1.add 1) (cells .slice x18) ∧
At w417 (a1.add 0) (cells .slice x16) ∧
appK t_api_Rule 5 40 #[.int .i64 (0 : Int), .int .u8 (0 : Int), .int .i64 (0 : Int), .int .i64 (0 : Int), .int .i64 (0 : Int)] (some a430) 0 0 (.slice x16.a x16.len x16.cap) x16.len w417 fun s431 w418 =>
At w418 (a1.add 0) (cells .slice x19) ∧
At w418 (a1.add 1) (cells .slice x18) ∧
appK t_api_Rule 5 40 #[.int .i64 (0 : Int), .int .u8 (0 : Int), .int .i64 (0 : Int), .int .i64 (0 : Int), .int .i64 (0 : Int)] s431.a s431.len s431.cap (.slice (some a296) 1 1) 1 w418 fun s432 w419 =>
At w419 (a1.add 0) (cells .slice x19) ∧
At w419 (a1.add 1) (cells .slice x18) ∧
appK t_int 1 8 #[.int .i64 (0 : Int)] (some a429) 0 0 (.slice x18.a x18.len x18.cap) x18.len w419 fun s433 w420 =>
At w420 (a1.add 0) (cells .slice x19) ∧
appK t_int 1 8 #[.int .i64 (0 : Int)] s433.a s433.len s433.cap (.slice (some a410) 1 1) 1 w420 fun s434 w421 =>
At w421 (a1.add 0) (cells .slice x19) ∧
stK w421 a3 ([.slice s432.a s432.len s432.cap, .slice s434.a s434.len s434.cap]) fun w422 =>
At w422 (a1.add 0) (cells .slice x19) ∧
∃ x435 : yevergreenref12_Store.T, At w422 a3 (cells yevergreenref12_Store x435) ∧
K (x435, n20) w422))) ∧
(allocK (.cells #[] t_int) w7 fun a436 w423 =>
At w423 (a1.add 0) (cells .slice x19) ∧
At w423 (a1.add 1) (cells .slice x18) ∧
At w423 a2 (cells yapi_Rule x17) ∧
At w423 (a1.add 0) (cells .slice x16) ∧
(allocK (.cells #[] t_api_Rule) w423 fun a437 w424 =>
At w424 (a1.add 0) (cells .slice x19) ∧
At w424 (a1.add 1) (cells .slice x18) ∧
At w424 a2 (cells yapi_Rule x17) ∧
At w424 (a1.add 0) (cells .slice x16) ∧
(appK t_api_Rule 5 40 #[.int .i64 (0 : Int), .int .u8 (0 : Int), .int .i64 (0 : Int), .int .i64 (0 : Int), .int .i64 (0 : Int)] (some a437) 0 0 (.slice x16.a x16.len x16.cap) x16.len w424 fun s438 w425 =>
At w425 (a1.add 0) (cells .slice x19) ∧
At w425 (a1.add 1) (cells .slice x18) ∧
At w425 a2 (cells yapi_Rule x17) ∧
(allocK (.cells (cells yapi_Rule x17).toArray t_api_Rule) w425 fun a439 w426 =>
At w426 (a1.add 0) (cells .slice x19) ∧
At w426 (a1.add 1) (cells .slice x18) ∧
(appK t_api_Rule 5 40 #[.int .i64 (0 : Int), .int .u8 (0 : Int), .int .i64 (0 : Int), .int .i64 (0 : Int), .int .i64 (0 : Int)] s438.a s438.len s438.cap (.slice (some a439) 1 1) 1 w426 fun s440 w427 =>
At w427 (a1.add 0) (cells .slice x19) ∧
At w427 (a1.add 1) (cells .slice x18) ∧
(appK t_int 1 8 #[.int .i64 (0 : Int)] (some a436) 0 0 (.slice x18.a x18.len x18.cap) x18.len w427 fun s441 w428 =>
At w428 (a1.add 0) (cells .slice x19) ∧
allocK (.cells #[.int .i64 v2_length] t_int) w428 fun a442 w429 =>
At w429 (a1.add 0) (cells .slice x19) ∧
appK t_int 1 8 #[.int .i64 (0 : Int)] s441.a s441.len s441.cap (.slice (some a442) 1 1) 1 w429 fun s443 w430 =>
At w430 (a1.add 0) (cells .slice x19) ∧
stK w430 a3 ([.slice s440.a s440.len s440.cap, .slice s443.a s443.len s443.cap]) fun w431 =>
At w431 (a1.add 0) (cells .slice x19) ∧
∃ x444 : yevergreenref12_Store.T, At w431 a3 (cells yevergreenref12_Store x444) ∧
K (x444, n20) w431) ∧
(allocK (.cells #[.int .i64 v2_length] t_int) w427 fun a445 w432 =>
At w432 (a1.add 0) (cells .slice x19) ∧
At w432 (a1.add 1) (cells .slice x18) ∧
appK t_int 1 8 #[.int .i64 (0 : Int)] (some a436) 0 0 (.slice x18.a x18.len x18.cap) x18.len w432 fun s446 w433 =>
At w433 (a1.add 0) (cells .slice x19) ∧
appK t_int 1 8 #[.int .i64 (0 : Int)] s446.a s446.len s446.cap (.slice (some a445) 1 1) 1 w433 fun s447 w434 =>
At w434 (a1.add 0) (cells .slice x19) ∧
stK w434 a3 ([.slice s440.a s440.len s440.cap, .slice s447.a s447.len s447.cap]) fun w435 =>
At w435 (a1.add 0) (cells .slice x19) ∧
∃ x448 : yevergreenref12_Store.T, At w435 a3 (cells yevergreenref12_Store x448) ∧
K (x448, n20) w435)) ∧
(allocK (.cells #[.int .i64 v2_length] t_int) w426 fun a449 w436 =>
At w436 (a1.add 0) (cells .slice x19) ∧
At w436 (a1.add 1) (cells .slice x18) ∧
appK t_api_Rule 5 40 #[.int .i64 (0 : Int), .int .u8 (0 : Int), .int .i64 (0 : Int), .int .i64 (0 : Int), .int .i64 (0 : Int)] s438.a s438.len s438.cap (.slice (some a439) 1 1) 1 w436 fun s450 w437 =>
At w437 (a1.add 0) (cells .slice x19) ∧
At w437 (a1.add 1) (cells .slice x18) ∧
appK t_int 1 8 #[.int .i64 (0 : Int)] (some a436) 0 0 (.slice x18.a x18.len x18.cap) x18.len w437 fun s451 w438 =>
At w438 (a1.add 0) (cells .slice x19) ∧
appK t_int 1 8 #[.int .i64 (0 : Int)] s451.a s451.len s451.cap (.slice (some a449) 1 1) 1 w438 fun s452 w439 =>
At w439 (a1.add 0) (cells .slice x19) ∧
stK w439 a3 ([.slice s450.a s450.len s450.cap, .slice s452.a s452.len s452.cap]) fun w440 =>
At w440 (a1.add 0) (cells .slice x19) ∧
∃ x453 : yevergreenref12_Store.T, At w440 a3 (cells yevergreenref12_Store x453) ∧
K (x453, n20) w440)) ∧
(allocK (.cells #[.int .i64 v2_length] t_int) w425 fun a454 w441 =>
At w441 (a1.add 0) (cells .slice x19) ∧
At w441 (a1.add 1) (cells .slice x18) ∧
At w441 a2 (cells yapi_Rule x17) ∧
allocK (.cells (cells yapi_Rule x17).toArray t_api_Rule) w441 fun a455 w442 =>
At w442 (a1.add 0) (cells .slice x19) ∧
At w442 (a1.add 1) (cells .slice x18) ∧
appK t_api_Rule 5 40 #[.int .i64 (0 : Int), .int .u8 (0 : Int), .int .i64 (0 : Int), .int .i64 (0 : Int), .int .i64 (0 : Int)] s438.a s438.len s438.cap (.slice (some a455) 1 1) 1 w442 fun s456 w443 =>
At w443 (a1.add 0) (cells .slice x19) ∧
At w443 (a1.add 1) (cells .slice x18) ∧
appK t_int 1 8 #[.int .i64 (0 : Int)] (some a436) 0 0 (.slice x18.a x18.len x18.cap) x18.len w443 fun s457 w444 =>
At w444 (a1.add 0) (cells .slice x19) ∧
appK t_int 1 8 #[.int .i64 (0 : Int)] s457.a s457.len s457.cap (.slice (some a454) 1 1) 1 w444 fun s458 w445 =>
At w445 (a1.add 0) (cells .slice x19) ∧
stK w445 a3 ([.slice s456.a s456.len s456.cap, .slice s458.a s458.len s458.cap]) fun w446 =>
At w446 (a1.add 0) (cells .slice x19) ∧
∃ x459 : yevergreenref12_Store.T, At w446 a3 (cells yevergreenref12_Store x459) ∧
K (x459, n20) w446)) ∧
(allocK (.cells (cells yapi_Rule x17).toArray t_api_Rule) w424 fun a460 w447 =>
At w447 (a1.add 0) (cells .slice x19) ∧
At w447 (a1.add 1) (cells .slice x18) ∧
At w447 (a1.add 0) (cells .slice x16) ∧
(appK t_api_Rule 5 40 #[.int .i64 (0 : Int), .int .u8 (0 : Int), .int .i64 (0 : Int), .int .i64 (0 : Int), .int .i64 (0 : Int)] (some a437) 0 0 (.slice x16.a x16.len x16.cap) x16.len w447 fun s461 w448 =>
At w448 (a1.add 0) (cells .slice x19) ∧
At w448 (a1.add 1) (cells .slice x18) ∧
(appK t_api_Rule 5 40 #[.int .i64 (0 : Int), .int .u8 (0 : Int), .int .i64 (0 : Int), .int .i64 (0 : Int), .int .i64 (0 : Int)] s461.a s461.len s461.cap (.slice (some a460) 1 1) 1 w448 fun s462 w449 =>
At w449 (a1.add 0) (cells .slice x19) ∧
At w449 (a1.add 1) (cells .slice x18) ∧
(appK t_int 1 8 #[.int .i64 (0 : Int)] (some a436) 0 0 (.slice x18.a x18.len x18.cap) x18.len w449 fun s463 w450 =>
At w450 (a1.add 0) (cells .slice x19) ∧
allocK (.cells #[.int .i64 v2_length] t_int) w450 fun a464 w451 =>
At w451 (a1.add 0) (cells .slice x19) ∧
appK t_int 1 8 #[.int .i64 (0 : Int)] s463.a s463.len s463.cap (.slice (some a464) 1 1) 1 w451 fun s465 w452 =>
At w452 (a1.add 0) (cells .slice x19) ∧
stK w452 a3 ([.slice s462.a s462.len s462.cap, .slice s465.a s465.len s465.cap]) fun w453 =>
At w453 (a1.add 0) (cells .slice x19) ∧
∃ x466 : yevergreenref12_Store.T, At w453 a3 (cells yevergreenref12_Store x466) ∧
K (x466, n20) w453) ∧
(allocK (.cells #[.int .i64 v2_length] t_int) w449 fun a467 w454 =>
At w454 (a1.add 0) (cells .slice x19) ∧
At w454 (a1.add 1) (cells .slice x18) ∧
appK t_int 1 8 #[.int .i64 (0 : Int)] (some a436) 0 0 (.slice x18.a x18.len x18.cap) x18.len w454 fun s468 w455 =>
At w455 (a1.add 0) (cells .slice x19) ∧
appK t_int 1 8 #[.int .i64 (0 : Int)] s468.a s468.len s468.cap (.slice (some a467) 1 1) 1 w455 fun s469 w456 =>
At w456 (a1.add 0) (cells .slice x19) ∧
stK w456 a3 ([.slice s462.a s462.len s462.cap, .slice s469.a s469.len s469.cap]) fun w457 =>
At w457 (a1.add 0) (cells .slice x19) ∧
∃ x470 : yevergreenref12_Store.T, At w457 a3 (cells yevergreenref12_Store x470) ∧
K (x470, n20) w457)) ∧
(allocK (.cells #[.int .i64 v2_length] t_int) w448 fun a471 w458 =>
At w458 (a1.add 0) (cells .slice x19) ∧
At w458 (a1.add 1) (cells .slice x18) ∧
appK t_api_Rule 5 40 #[.int .i64 (0 : Int), .int .u8 (0 : Int), .int .i64 (0 : Int), .int .i64 (0 : Int), .int .i64 (0 : Int)] s461.a s461.len s461.cap (.slice (some a460) 1 1) 1 w458 fun s472 w459 =>
At w459 (a1.add 0) (cells .slice x19) ∧
At w459 (a1.add 1) (cells .slice x18) ∧
appK t_int 1 8 #[.int .i64 (0 : Int)] (some a436) 0 0 (.slice x18.a x18.len x18.cap) x18.len w459 fun s473 w460 =>
At w460 (a1.add 0) (cells .slice x19) ∧
appK t_int 1 8 #[.int .i64 (0 : Int)] s473.a s473.len s473.cap (.slice (some a471) 1 1) 1 w460 fun s474 w461 =>
At w461 (a1.add 0) (cells .slice x19) ∧
stK w461 a3 ([.slice s472.a s472.len s472.cap, .slice s474.a s474.len s474.cap]) fun w462 =>
At w462 (a1.add 0) (cells .slice x19) ∧
∃ x475 : yevergreenref12_Store.T, At w462 a3 (cells yevergreenref12_Store x475) ∧
K (x475, n20) w462)) ∧
(allocK (.cells #[.int .i64 v2_length] t_int) w447 fun a476 w463 =>
At w463 (a1.add 0) (cells .slice x19) ∧
At w463 (a1.add 1) (cells .slice x18) ∧
At w463 (a1.add 0) (cells .slice x16) ∧
appK t_api_Rule 5 40 #[.int .i64 (0 : Int), .int .u8 (0 : Int), .int .i64 (0 : Int), .int .i64 (0 : Int), .int .i64 (0 : Int)] (some a437) 0 0 (.slice x16.a x16.len x16.cap) x16.len w463 fun s477 w464 =>
At w464 (a1.add 0) (cells .slice x19) ∧
At w464 (a1.add 1) (cells .slice x18) ∧
appK t_api_Rule 5 40 #[.int .i64 (0 : Int), .int .u8 (0 : Int), .int .i64 (0 : Int), .int .i64 (0 : Int), .int .i64 (0 : Int)] s477.a s477.len s477.cap (.slice (some a460) 1 1) 1 w464 fun s478 w465 =>
At w465 (a1.add 0) (cells .slice x19) ∧
At w465 (a1.add 1) (cells .slice x18) ∧
appK t_int 1 8 #[.int .i64 (0 : Int)] (some a436) 0 0 (.slice x18.a x18.len x18.cap) x18.len w465 fun s479 w466 =>
At w466 (a1.add 0) (cells .slice x19) ∧
appK t_int 1 8 #[.int .i64 (0 : Int)] s479.a s479.len s479.cap (.slice (some a476) 1 1) 1 w466 fun s480 w467 =>
At w467 (a1.add 0) (cells .slice x19) ∧
stK w467 a3 ([.slice s478.a s478.len s478.cap, .slice s480.a s480.len s480.cap]) fun w468 =>
At w468 (a1.add 0) (cells .slice x19) ∧
∃ x481 : yevergreenref12_Store.T, At w468 a3 (cells yevergreenref12_Store x481) ∧
K (x481, n20) w468)) ∧
(allocK (.cells #[.int .i64 v2_length] t_int) w424 fun a482 w469 =>
At w469 (a1.add 0) (cells .slice x19) ∧
At w469 (a1.add 1) (cells .slice x18) ∧
At w469 a2 (cells yapi_Rule x17) ∧
At w469 (a1.add 0) (cells .slice x16) ∧
(appK t_api_Rule 5 40 #[.int .i64 (0 : Int), .int .u8 (0 : Int), .int .i64 (0 : Int), .int .i64 (0 : Int), .int .i64 (0 : Int)] (some a437) 0 0 (.slice x16.a x16.len x16.cap) x16.len w469 fun s483 w470 =>
At w470 (a1.add 0) (cells .slice x19) ∧
At w470 (a1.add 1) (cells .slice x18) ∧
At w470 a2 (cells yapi_Rule x17) ∧
allocK (.cells (cells yapi_Rule x17).toArray t_api_Rule) w470 fun a484 w471 =>
At w471 (a1.add 0) (cells .slice x19) ∧
At w471 (a1.add 1) (cells .slice x18) ∧
appK t_api_Rule 5 40 #[.int .i64 (0 : Int), .int .u8 (0 : Int), .int .i64 (0 : Int), .int .i64 (0 : Int), .int .i64 (0 : Int)] s483.a s483.len s483.cap (.slice (some a484) 1 1) 1 w471 fun s485 w472 =>
At w472 (a1.add 0) (cells .slice x19) ∧
At w472 (a1.add 1) (cells .slice x18) ∧
appK t_int 1 8 #[.int .i64 (0 : Int)] (some a436) 0 0 (.slice x18.a x18.len x18.cap) x18.len w472 fun s486 w473 =>
At w473 (a1.add 0) (cells .slice x19) ∧
appK t_int 1 8 #[.int .i64 (0 : Int)] s486.a s486.len s486.cap (.slice (some a482) 1 1) 1 w473 fun s487 w474 =>
At w474 (a1.add 0) (cells .slice x19) ∧
stK w474 a3 ([.slice s485.a s485.len s485.cap, .slice s487.a s487.len s487.cap]) fun w475 =>
At w475 (a1.add 0) (cells .slice x19) ∧
∃ x488 : yevergreenref12_Store.T, At w475 a3 (cells yevergreenref12_Store x488) ∧
K (x488, n20) w475) ∧
(allocK (.cells (cells yapi_Rule x17).toArray t_api_Rule) w469 fun a489 w476 =>
At w476 (a1.add 0) (cells .slice x19) ∧
At w476 (a1.add 1) (cells .slice x18) ∧
At w476 (a1.add 0) (cells .slice x16) ∧
appK t_api_Rule 5 40 #[.int .i64 (0 : Int), .int .u8 (0 : Int), .int .i64 (0 : Int), .int .i64 (0 : Int), .int .i64 (0 : Int)] (some a437) 0 0 (.slice x16.a x16.len x16.cap) x16.len w476 fun s490 w477 =>
At w477 (a1.add 0) (cells .slice x19) ∧
At w477 (a1.add 1) (cells .slice x18) ∧
appK t_api_Rule 5 40 #[.int .i64 (0 : Int), .int .u8 (0 : Int), .int .i64 (0 : Int), .int .i64 (0 : Int), .int .i64 (0 : Int)] s490.a s490.len s490.cap (.slice (some a489) 1 1) 1 w477 fun s491 w478 =>
At w478 (a1.add 0) (cells .slice x19) ∧
At w478 (a1.add 1) (cells .slice x18) ∧
appK t_int 1 8 #[.int .i64 (0 : Int)] (some a436) 0 0 (.slice x18.a x18.len x18.cap) x18.len w478 fun s492 w479 =>
At w479 (a1.add 0) (cells .slice x19) ∧
appK t_int 1 8 #[.int .i64 (0 : Int)] s492.a s492.len s492.cap (.slice (some a482) 1 1) 1 w479 fun s493 w480 =>
At w480 (a1.add 0) (cells .slice x19) ∧
stK w480 a3 ([.slice s491.a s491.len s491.cap, .slice s493.a s493.len s493.cap]) fun w481 =>
At w481 (a1.add 0) (cells .slice x19) ∧
∃ x494 : yevergreenref12_Store.T, At w481 a3 (cells yevergreenref12_Store x494) ∧
K (x494, n20) w481))) ∧
(allocK (.cells (cells yapi_Rule x17).toArray t_api_Rule) w423 fun a495 w482 =>
At w482 (a1.add 0) (cells .slice x19) ∧
At w482 (a1.add 1) (cells .slice x18) ∧
At w482 (a1.add 0) (cells .slice x16) ∧
(allocK (.cells #[] t_api_Rule) w482 fun a496 w483 =>
At w483 (a1.add 0) (cells .slice x19) ∧
At w483 (a1.add 1) (cells .slice x18) ∧
At w483 (a1.add 0) (cells .slice x16) ∧
(appK t_api_Rule 5 40 #[.int .i64 (0 : Int), .int .u8 (0 : Int), .int .i64 (0 : Int), .int .i64 (0 : Int), .int .i64 (0 : Int)] (some a496) 0 0 (.slice x16.a x16.len x16.cap) x16.len w483 fun s497 w484 =>
At w484 (a1.add 0) (cells .slice x19) ∧
At w484 (a1.add 1) (cells .slice x18) ∧
(appK t_api_Rule 5 40 #[.int .i64 (0 : Int), .int .u8 (0 : Int), .int .i64 (0 : Int), .int .i64 (0 : Int), .int .i64 (0 : Int)] s497.a s497.len s497.cap (.slice (some a495) 1 1) 1 w484 fun s498 w485 =>
At w485 (a1.add 0) (cells .slice x19) ∧
At w485 (a1.add 1) (cells .slice x18) ∧
(appK t_int 1 8 #[.int .i64 (0 : Int)] (some a436) 0 0 (.slice x18.a x18.len x18.cap) x18.len w485 fun s499 w486 =>
At w486 (a1.add 0) (cells .slice x19) ∧
allocK (.cells #[.int .i64 v2_length] t_int) w486 fun a500 w487 =>
At w487 (a1.add 0) (cells .slice x19) ∧
appK t_int 1 8 #[.int .i64 (0 : Int)] s499.a s499.len s499.cap (.slice (some a500) 1 1) 1 w487 fun s501 w488 =>
At w488 (a1.add 0) (cells .slice x19) ∧
stK w488 a3 ([.slice s498.a s498.len s498.cap, .slice s501.a s501.len s501.cap]) fun w489 =>
At w489 (a1.add 0) (cells .slice x19) ∧
∃ x502 : yevergreenref12_Store.T, At w489 a3 (cells yevergreenref12_Store x502) ∧
K (x502, n20) w489) ∧
(allocK (.cells #[.int .i64 v2_length] t_int) w485 fun a503 w490 =>
At w490 (a1.add 0) (cells .slice x19) ∧
At w490 (a1.add 1) (cells .slice x18) ∧
appK t_int 1 8 #[.int .i64 (0 : Int)] (some a436) 0 0 (.slice x18.a x18.len x18.cap) x18.len w490 fun s504 w491 =>
At w491 (a1.add 0) (cells .slice x19) ∧
appK t_int 1 8 #[.int .i64 (0 : Int)] s504.a s504.len s504.cap (.slice (some a503) 1 1) 1 w491 fun s505 w492 =>
At w492 (a1.add 0) (cells .slice x19) ∧
stK w492 a3 ([.slice s498.a s498.len s498.cap, .slice s505.a s505.len s505.cap]) fun w493 =>
At w493 (a1.add 0) (cells .slice x19) ∧
∃ x506 : yevergreenref12_Store.T, At w493 a3 (cells yevergreenref12_Store x506) ∧
K (x506, n20) w493)) ∧
(allocK (.cells #[.int .i64 v2_length] t_int) w484 fun a507 w494 =>
At w494 (a1.add 0) (cells .slice x19) ∧
At w494 (a1.add 1) (cells .slice x18) ∧
appK t_api_Rule 5 40 #[.int .i64 (0 : Int), .int .u8 (0 : Int), .int .i64 (0 : Int), .int .i64 (0 : Int), .int .i64 (0 : Int)] s497.a s497.len s497.cap (.slice (some a495) 1 1) 1 w494 fun s508 w495 =>
At w495 (a1.add 0) (cells .slice x19) ∧
At w495 (a1.add 1) (cells .slice x18) ∧
appK t_int 1 8 #[.int .i64 (0 : Int)] (some a436) 0 0 (.slice x18.a x18.len x18.cap) x18.len w495 fun s509 w496 =>
At w496 (a1.add 0) (cells .slice x19) ∧
appK t_int 1 8 #[.int .i64 (0 : Int)] s509.a s509.len s509.cap (.slice (some a507) 1 1) 1 w496 fun s510 w497 =>
At w497 (a1.add 0) (cells .slice x19) ∧
stK w497 a3 ([.slice s508.a s508.len s508.cap, .slice s510.a s510.len s510.cap]) fun w498 =>
At w498 (a1.add 0) (cells .slice x19) ∧
∃ x511 : yevergreenref12_Store.T, At w498 a3 (cells yevergreenref12_Store x511) ∧
K (x511, n20) w498)) ∧
(allocK (.cells #[.int .i64 v2_length] t_int) w483 fun a512 w499 =>
At w499 (a1.add 0) (cells .slice x19) ∧
At w499 (a1.add 1) (cells .slice x18) ∧
At w499 (a1.add 0) (cells .slice x16) ∧
appK t_api_Rule 5 40 #[.int .i64 (0 : Int), .int .u8 (0 : Int), .int .i64 (0 : Int), .int .i64 (0 : Int), .int .i64 (0 : Int)] (some a496) 0 0 (.slice x16.a x16.len x16.cap) x16.len w499 fun s513 w500 =>
At w500 (a1.add 0) (cells .slice x19) ∧
At w500 (a1.add 1) (cells .slice x18) ∧
appK t_api_Rule 5 40 #[.int .i64 (0 : Int), .int .u8 (0 : Int), .int .i64 (0 : Int), .int .i64 (0 : Int), .int .i64 (0 : Int)] s513.a s513.len s513.cap (.slice (some a495) 1 1) 1 w500 fun s514 w501 =>
At w501 (a1.add 0) (cells .slice x19) ∧
At w501 (a1.add 1) (cells .slice x18) ∧
appK t_int 1 8 #[.int .i64 (0 : Int)] (some a436) 0 0 (.slice x18.a x18.len x18.cap) x18.len w501 fun s515 w502 =>
At w502 (a1.add 0) (cells .slice x19) ∧
appK t_int 1 8 #[.int .i64 (0 : Int)] s515.a s515.len s515.cap (.slice (some a512) 1 1) 1 w502 fun s516 w503 =>
At w503 (a1.add 0) (cells .slice x19) ∧
stK w503 a3 ([.slice s514.a s514.len s514.cap, .slice s516.a s516.len s516.cap]) fun w504 =>
At w504 (a1.add 0) (cells .slice x19) ∧
∃ x517 : yevergreenref12_Store.T, At w504 a3 (cells yevergreenref12_Store x517) ∧
K (x517, n20) w504)) ∧
(allocK (.cells #[.int .i64 v2_length] t_int) w482 fun a518 w505 =>
At w505 (a1.add 0) (cells .slice x19) ∧
At w505 (a1.add 1) (cells .slice x18) ∧
At w505 (a1.add 0) (cells .slice x16) ∧
allocK (.cells #[] t_api_Rule) w505 fun a519 w506 =>
At w506 (a1.add 0) (cells .slice x19) ∧
At w506 (a1.add 1) (cells .slice x18) ∧
At w506 (a1.add 0) (cells .slice x16) ∧
appK t_api_Rule 5 40 #[.int .i64 (0 : Int), .int .u8 (0 : Int), .int .i64 (0 : Int), .int .i64 (0 : Int), .int .i64 (0 : Int)] (some a519) 0 0 (.slice x16.a x16.len x16.cap) x16.len w506 fun s520 w507 =>
At w507 (a1.add 0) (cells .slice x19) ∧
At w507 (a1.add 1) (cells .slice x18) ∧
appK t_api_Rule 5 40 #[.int .i64 (0 : Int), .int .u8 (0 : Int), .int .i64 (0 : Int), .int .i64 (0 : Int), .int .i64 (0 : Int)] s520.a s520.len s520.cap (.slice (some a495) 1 1) 1 w507 fun s521 w508 =>
At w508 (a1.add 0) (cells .slice x19) ∧
At w508 (a1.add 1) (cells .slice x18) ∧
appK t_int 1 8 #[.int .i64 (0 : Int)] (some a436) 0 0 (.slice x18.a x18.len x18.cap) x18.len w508 fun s522 w509 =>
At w509 (a1.add 0) (cells .slice x19) ∧
appK t_int 1 8 #[.int .i64 (0 : Int)] s522.a s522.len s522.cap (.slice (some a518) 1 1) 1 w509 fun s523 w510 =>
At w510 (a1.add 0) (cells .slice x19) ∧
stK w510 a3 ([.slice s521.a s521.len s521.cap, .slice s523.a s523.len s523.cap]) fun w511 =>
At w511 (a1.add 0) (cells .slice x19) ∧
∃ x524 : yevergreenref12_Store.T, At w511 a3 (cells yevergreenref12_Store x524) ∧
K (x524, n20) w511)) ∧
(allocK (.cells #[.int .i64 v2_length] t_int) w423 fun a525 w512 =>
At w512 (a1.add 0) (cells .slice x19) ∧
At w512 (a1.add 1) (cells .slice x18) ∧
At w512 a2 (cells yapi_Rule x17) ∧
At w512 (a1.add 0) (cells .slice x16) ∧
(allocK (.cells #[] t_api_Rule) w512 fun a526 w513 =>
At w513 (a1.add 0) (cells .slice x19) ∧
At w513 (a1.add 1) (cells .slice x18) ∧
At w513 a2 (cells yapi_Rule x17) ∧
At w513 (a1.add 0) (cells .slice x16) ∧
(appK t_api_Rule 5 40 #[.int .i64 (0 : Int), .int .u8 (0 : Int), .int .i64 (0 : Int), .int .i64 (0 : Int), .int .i64 (0 : Int)] (some a526) 0 0 (.slice x16.a x16.len x16.cap) x16.len w513 fun s527 w514 =>
At w514 (a1.add 0) (cells .slice x19) ∧
At w514 (a1.add 1) (cells .slice x18) ∧
At w514 a2 (cells yapi_Rule x17) ∧
allocK (.cells (cells yapi_Rule x17).toArray t_api_Rule) w514 fun a528 w515 =>
At w515 (a1.add 0) (cells .slice x19) ∧
At w515 (a1.add 1) (cells .slice x18) ∧
appK t_api_Rule 5 40 #[.int .i64 (0 : Int), .int .u8 (0 : Int), .int .i64 (0 : Int), .int .i64 (0 : Int), .int .i64 (0 : Int)] s527.a s527.len s527.cap (.slice (some a528) 1 1) 1 w515 fun s529 w516 =>
At w516 (a1.add 0) (cells .slice x19) ∧
At w516 (a1.add 1) (cells .slice x18) ∧
appK t_int 1 8 #[.int .i64 (0 : Int)] (some a436) 0 0 (.slice x18.a x18.len x18.cap) x18.len w516 fun s530 w517 =>
At w517 (a1.add 0) (cells .slice x19) ∧
appK t_int 1 8 #[.int .i64 (0 : Int)] s530.a s530.len s530.cap (.slice (some a525) 1 1) 1 w517 fun s531 w518 =>
At w518 (a1.add 0) (cells .slice x19) ∧
stK w518 a3 ([.slice s529.a s529.len s529.cap, .slice s531.a s531.len s531.cap]) fun w519 =>
At w519 (a1.add 0) (cells .slice x19) ∧
∃ x532 : yevergreenref12_Store.T, At w519 a3 (cells yevergreenref12_Store x532) ∧
K (x532, n20) w519) ∧
(allocK (.cells (cells yapi_Rule x17).toArray t_api_Rule) w513 fun a533 w520 =>
At w520 (a1.add 0) (cells .slice x19) ∧
At w520 (a1.add 1) (cells .slice x18) ∧
At w520 (a1.add 0) (cells .slice x16) ∧
appK t_api_Rule 5 40 #[.int .i64 (0 : Int), .int .u8 (0 : Int), .int .i64 (0 : Int), .int .i64 (0 : Int), .int .i64 (0 : Int)] (some a526) 0 0 (.slice x16.a x16.len x16.cap) x16.len w520 fun s534 w521 =>
At w521 (a1.add 0) (cells .slice x19) ∧
At w521 (a1.add 1) (cells .slice x18) ∧
appK t_api_Rule 5 40 #[.int .i64 (0 : Int), .int .u8 (0 : Int), .int .i64 (0 : Int), .int .i64 (0 : Int), .int .i64 (0 : Int)] s534.a s534.len s534.cap (.slice (some a533) 1 1) 1 w521 fun s535 w522 =>
At w522 (a1.add 0) (cells .slice x19) ∧
At w522 (a1.add 1) (cells .slice x18) ∧
appK t_int 1 8 #[.int .i64 (0 : Int)] (some a436) 0 0 (.slice x18.a x18.len x18.cap) x18.len w522 fun s536 w523 =>
At w523 (a1.add 0) (cells .slice x19) ∧
appK t_int 1 8 #[.int .i64 (0 : Int)] s536.a s536.len s536.cap (.slice (some a525) 1 1) 1 w523 fun s537 w524 =>
At w524 (a1.add 0) (cells .slice x19) ∧
stK w524 a3 ([.slice s535.a s535.len s535.cap, .slice s537.a s537.len s537.cap]) fun w525 =>
At w525 (a1.add 0) (cells .slice x19) ∧
∃ x538 : yevergreenref12_Store.T, At w525 a3 (cells yevergreenref12_Store x538) ∧
K (x538, n20) w525)) ∧
(allocK (.cells (cells yapi_Rule x17).toArray t_api_Rule) w512 fun a539 w526 =>
At w526 (a1.add 0) (cells .slice x19) ∧
At w526 (a1.add 1) (cells .slice x18) ∧
At w526 (a1.add 0) (cells .slice x16) ∧
allocK (.cells #[] t_api_Rule) w526 fun a540 w527 =>
At w527 (a1.add 0) (cells .slice x19) ∧
At w527 (a1.add 1) (cells .slice x18) ∧
At w527 (a1.add 0) (cells .slice x16) ∧
appK t_api_Rule 5 40 #[.int .i64 (0 : Int), .int .u8 (0 : Int), .int .i64 (0 : Int), .int .i64 (0 : Int), .int .i64 (0 : Int)] (some a540) 0 0 (.slice x16.a x16.len x16.cap) x16.len w527 fun s541 w528 =>
At w528 (a1.add 0) (cells .slice x19) ∧
At w528 (a1.add 1) (cells .slice x18) ∧
appK t_api_Rule 5 40 #[.int .i64 (0 : Int), .int .u8 (0 : Int), .int .i64 (0 : Int), .int .i64 (0 : Int), .int .i64 (0 : Int)] s541.a s541.len s541.cap (.slice (some a539) 1 1) 1 w528 fun s542 w529 =>
At w529 (a1.add 0) (cells .slice x19) ∧
At w529 (a1.add 1) (cells .slice x18) ∧
appK t_int 1 8 #[.int .i64 (0 : Int)] (some a436) 0 0 (.slice x18.a x18.len x18.cap) x18.len w529 fun s543 w530 =>
At w530 (a1.add 0) (cells .slice x19) ∧
appK t_int 1 8 #[.int .i64 (0 : Int)] s543.a s543.len s543.cap (.slice (some a525) 1 1) 1 w530 fun s544 w531 =>
At w531 (a1.add 0) (cells .slice x19) ∧
stK w531 a3 ([.slice s542.a s542.len s542.cap, .slice s544.a s544.len s544.cap]) fun w532 =>
At w532 (a1.add 0) (cells .slice x19) ∧
∃ x545 : yevergreenref12_Store.T, At w532 a3 (cells yevergreenref12_Store x545) ∧
K (x545, n20) w532))) ∧
(allocK (.cells #[.int .i64 v2_length] t_int) w7 fun a546 w533 =>
At w533 (a1.add 0) (cells .slice x19) ∧
At w533 (a1.add 1) (cells .slice x18) ∧
At w533 a2 (cells yapi_Rule x17) ∧
At w533 (a1.add 0) (cells .slice x16) ∧
(allocK (.cells #[] t_api_Rule) w533 fun a547 w534 =>
At w534 (a1.add 0) (cells .slice x19) ∧
At w534 (a1.add 1) (cells .slice x18) ∧
At w534 a2 (cells yapi_Rule x17) ∧
At w534 (a1.add 0) (cells .slice x16) ∧
(appK t_api_Rule 5 40 #[.int .i64 (0 : Int), .int .u8 (0 : Int), .int .i64 (0 : Int), .int .i64 (0 : Int), .int .i64 (0 : Int)] (some a547) 0 0 (.slice x16.a x16.len x16.cap) x16.len w534 fun s548 w535 =>
At w535 (a1.add 0) (cells .slice x19) ∧
At w535 (a1.add 1) (cells .slice x18) ∧
At w535 a2 (cells yapi_Rule x17) ∧
(allocK (.cells (cells yapi_Rule x17).toArray t_api_Rule) w535 fun a549 w536 =>
At w536 (a1.add 0) (cells .slice x19) ∧
At w536 (a1.add 1) (cells .slice x18) ∧
(appK t_api_Rule 5 40 #[.int .i64 (0 : Int), .int .u8 (0 : Int), .int .i64 (0 : Int), .int .i64 (0 : Int), .int .i64 (0 : Int)] s548.a s548.len s548.cap (.slice (some a549) 1 1) 1 w536 fun s550 w537 =>
At w537 (a1.add 0) (cells .slice x19) ∧
At w537 (a1.add 1) (cells .slice x18) ∧
allocK (.cells #[] t_int) w537 fun a551 w538 =>
At w538 (a1.add 0) (cells .slice x19) ∧
At w538 (a1.add 1) (cells .slice x18) ∧
appK t_int 1 8 #[.int .i64 (0 : Int)] (some a551) 0 0 (.slice x18.a x18.len x18.cap) x18.len w538 fun s552 w539 =>
At w539 (a1.add 0) (cells .slice x19) ∧
appK t_int 1 8 #[.int .i64 (0 : Int)] s552.a s552.len s552.cap (.slice (some a546) 1 1) 1 w539 fun s553 w540 =>
At w540 (a1.add 0) (cells .slice x19) ∧
stK w540 a3 ([.slice s550.a s550.len s550.cap, .slice s553.a s553.len s553.cap]) fun w541 =>
At w541 (a1.add 0) (cells .slice x19) ∧
∃ x554 : yevergreenref12_Store.T, At w541 a3 (cells yevergreenref12_Store x554) ∧
K (x554, n20) w541) ∧
(allocK (.cells #[] t_int) w536 fun a555 w542 =>
At w542 (a1.add 0) (cells .slice x19) ∧
At w542 (a1.add 1) (cells .slice x18) ∧
appK t_api_Rule 5 40 #[.int .i64 (0 : Int), .int .u8 (0 : Int), .int .i64 (0 : Int), .int .i64 (0 : Int), .int .i64 (0 : Int)] s548.a s548.len s548.cap (.slice (some a549) 1 1) 1 w542 fun s556 w543 =>
At w543 (a1.add 0) (cells .slice x19) ∧
At w543 (a1.add 1) (cells .slice x18) ∧
appK t_int 1 8 #[.int .i64 (0 : Int)] (some a555) 0 0 (.slice x18.a x18.len x18.cap) x18.len w543 fun s557 w544 =>
At w544 (a1.add 0) (cells .slice x19) ∧
appK t_int 1 8 #[.int .i64 (0 : Int)] s557.a s557.len s557.cap (.slice (some a546) 1 1) 1 w544 fun s558 w545 =>
At w545 (a1.add 0) (cells .slice x19) ∧
stK w545 a3 ([.slice s556.a s556.len s556.cap, .slice s558.a s558.len s558.cap]) fun w546 =>
At w546 (a1.add 0) (cells .slice x19) ∧
∃ x559 : yevergreenref12_Store.T, At w546 a3 (cells yevergreenref12_Store x559) ∧
K (x559, n20) w546)) ∧
(allocK (.cells #[] t_int) w535 fun a560 w547 =>
At w547 (a1.add 0) (cells .slice x19) ∧
At w547 (a1.add 1) (cells .slice x18) ∧
At w547 a2 (cells yapi_Rule x17) ∧
allocK (.cells (cells yapi_Rule x17).toArray t_api_Rule) w547 fun a561 w548 =>
At w548 (a1.add 0) (cells .slice x19) ∧
At w548 (a1.add 1) (cells .slice x18) ∧
appK t_api_Rule 5 40 #[.int .i64 (0 : Int), .int .u8 (0 : Int), .int .i64 (0 : Int), .int .i64 (0 : Int), .int .i64 (0 : Int)] s548.a s548.len s548.cap (.slice (some a561) 1 1) 1 w548 fun s562 w549 =>
At w549 (a1.add 0) (cells .slice x19) ∧
At w549 (a1.add 1) (cells .slice x18) ∧
appK t_int 1 8 #[.int .i64 (0 : Int)] (some a560) 0 0 (.slice x18.a x18.len x18.cap) x18.len w549 fun s563 w550 =>
At w550 (a1.add 0) (cells .slice x19) ∧
appK t_int 1 8 #[.int .i64 (0 : Int)] s563.a s563.len s563.cap (.slice (some a546) 1 1) 1 w550 fun s564 w551 =>
At w551 (a1.add 0) (cells .slice x19) ∧
stK w551 a3 ([.slice s562.a s562.len s562.cap, .slice s564.a s564.len s564.cap]) fun w552 =>
At w552 (a1.add 0) (cells .slice x19) ∧
∃ x565 : yevergreenref12_Store.T, At w552 a3 (cells yevergreenref12_Store x565) ∧
K (x565, n20) w552)) ∧
(allocK (.cells (cells yapi_Rule x17).toArray t_api_Rule) w534 fun a566 w553 =>
At w553 (a1.add 0) (cells .slice x19) ∧
At w553 (a1.add 1) (cells .slice x18) ∧
At w553 (a1.add 0) (cells .slice x16) ∧
(appK t_api_Rule 5 40 #[.int .i64 (0 : Int), .int .u8 (0 : Int), .int .i64 (0 : Int), .int .i64 (0 : Int), .int .i64 (0 : Int)] (some a547) 0 0 (.slice x16.a x16.len x16.cap) x16.len w553 fun s567 w554 =>
At w554 (a1.add 0) (cells .slice x19) ∧
At w554 (a1.add 1) (cells .slice x18) ∧
(appK t_api_Rule 5 40 #[.int .i64 (0 : Int), .int .u8 (0 : Int), .int .i64 (0 : Int), .int .i64 (0 : Int), .int .i64 (0 : Int)] s567.a s567.len s567.cap (.slice (some a566) 1 1) 1 w554 fun s568 w555 =>
At w555 (a1.add 0) (cells .slice x19) ∧
At w555 (a1.add 1) (cells .slice x18) ∧
allocK (.cells #[] t_int) w555 fun a569 w556 =>
At w556 (a1.add 0) (cells .slice x19) ∧
At w556 (a1.add 1) (cells .slice x18) ∧
appK t_int 1 8 #[.int .i64 (0 : Int)] (some a569) 0 0 (.slice x18.a x18.len x18.cap) x18.len w556 fun s570 w557 =>
At w557 (a1.add 0) (cells .slice x19) ∧
appK t_int 1 8 #[.int .i64 (0 : Int)] s570.a s570.len s570.cap (.slice (some a546) 1 1) 1 w557 fun s571 w558 =>
At w558 (a1.add 0) (cells .slice x19) ∧
stK w558 a3 ([.slice s568.a s568.len s568.cap, .slice s571.a s571.len s571.cap]) fun w559 =>
At w559 (a1.add 0) (cells .slice x19) ∧
∃ x572 : yevergreenref12_Store.T, At w559 a3 (cells yevergreenref12_Store x572) ∧
K (x572, n20) w559) ∧
(allocK (.cells #[] t_int) w554 fun a573 w560 =>
At w560 (a1.add 0) (cells .slice x19) ∧
At w560 (a1.add 1) (cells .slice x18) ∧
appK t_api_Rule 5 40 #[.int .i64 (0 : Int), .int .u8 (0 : Int), .int .i64 (0 : Int), .int .i64 (0 : Int), .int .i64 (0 : Int)] s567.a s567.len s567.cap (.slice (some a566) 1 1) 1 w560 fun s574 w561 =>
At w561 (a1.add 0) (cells .slice x19) ∧
At w561 (a1.add 1) (cells .slice x18) ∧
appK t_int 1 8 #[.int .i64 (0 : Int)] (some a573) 0 0 (.slice x18.a x18.len x18.cap) x18.len w561 fun s575 w562 =>
At w562 (a1.add 0) (cells .slice x19) ∧
appK t_int 1 8 #[.int .i64 (0 : Int)] s575.a s575.len s575.cap (.slice (some a546) 1 1) 1 w562 fun s576 w563 =>
At w563 (a1.add 0) (cells .slice x19) ∧
stK w563 a3 ([.slice s574.a s574.len s574.cap, .slice s576.a s576.len s576.cap]) fun w564 =>
At w564 (a1.add 0) (cells .slice x19) ∧
∃ x577 : yevergreenref12_Store.T, At w564 a3 (cells yevergreenref12_Store x577) ∧
K (x577, n20) w564)) ∧
(allocK (.cells #[] t_int) w553 fun a578 w565 =>
At w565 (a1.add 0) (cells .slice x19) ∧
At w565 (a1.add 1) (cells .slice x18) ∧
At w565 (a1.add 0) (cells .slice x16) ∧
appK t_api_Rule 5 40 #[.int .i64 (0 : Int), .int .u8 (0 : Int), .int .i64 (0 : Int), .int .i64 (0 : Int), .int .i64 (0 : Int)] (some a547) 0 0 (.slice x16.a x16.len x16.cap) x16.len w565 fun s579 w566 =>
At w566 (a1.add 0) (cells .slice x19) ∧
At w566 (a1.add 1) (cells .slice x18) ∧
appK t_api_Rule 5 40 #[.int .i64 (0 : Int), .int .u8 (0 : Int), .int .i64 (0 : Int), .int .i64 (0 : Int), .int .i64 (0 : Int)] s579.a s579.len s579.cap (.slice (some a566) 1 1) 1 w566 fun s580 w567 =>
At w567 (a1.add 0) (cells .slice x19) ∧
At w567 (a1.add 1) (cells .slice x18) ∧
appK t_int 1 8 #[.int .i64 (0 : Int)] (some a578) 0 0 (.slice x18.a x18.len x18.cap) x18.len w567 fun s581 w568 =>
At w568 (a1.add 0) (cells .slice x19) ∧
appK t_int 1 8 #[.int .i64 (0 : Int)] s581.a s581.len s581.cap (.slice (some a546) 1 1) 1 w568 fun s582 w569 =>
At w569 (a1.add 0) (cells .slice x19) ∧
stK w569 a3 ([.slice s580.a s580.len s580.cap, .slice s582.a s582.len s582.cap]) fun w570 =>
At w570 (a1.add 0) (cells .slice x19) ∧
∃ x583 : yevergreenref12_Store.T, At w570 a3 (cells yevergreenref12_Store x583) ∧
K (x583, n20) w570)) ∧
(allocK (.cells #[] t_int) w534 fun a584 w571 =>
At w571 (a1.add 0) (cells .slice x19) ∧
At w571 (a1.add 1) (cells .slice x18) ∧
At w571 a2 (cells yapi_Rule x17) ∧
At w571 (a1.add 0) (cells .slice x16) ∧
(appK t_api_Rule 5 40 #[.int .i64 (0 : Int), .int .u8 (0 : Int), .int .i64 (0 : Int), .int .i64 (0 : Int), .int .i64 (0 : Int)] (some a547) 0 0 (.slice x16.a x16.len x16.cap) x16.len w571 fun s585 w572 =>
At w572 (a1.add 0) (cells .slice x19) ∧
At w572 (a1.add 1) (cells .slice x18) ∧
At w572 a2 (cells yapi_Rule x17) ∧
allocK (.cells (cells yapi_Rule x17).toArray t_api_Rule) w572 fun a586 w573 =>
At w573 (a1.add 0) (cells .slice x19) ∧
At w573 (a1.add 1) (cells .slice x18) ∧
appK t_api_Rule 5 40 #[.int .i64 (0 : Int), .int .u8 (0 : Int), .int .i64 (0 : Int), .int .i64 (0 : Int), .int .i64 (0 : Int)] s585.a s585.len s585.cap (.slice (some a586) 1 1) 1 w573 fun s587 w574 =>
At w574 (a1.add 0) (cells .slice x19) ∧
At w574 (a1.add 1) (cells .slice x18) ∧
appK t_int 1 8 #[.int .i64 (0 : Int)] (some a584) 0 0 (.slice x18.a x18.len x18.cap) x18.len w574 fun s588 w575 =>
At w575 (a1.add 0) (cells .slice x19) ∧
appK t_int 1 8 #[.int .i64 (0 : Int)] s588.a s588.len s588.cap (.slice (some a546) 1 1) 1 w575 fun s589 w576 =>
At w576 (a1.add 0) (cells .slice x19) ∧
stK w576 a3 ([.slice s587.a s587.len s587.cap, .slice s589.a s589.len s589.cap]) fun w577 =>
At w577 (a1.add 0) (cells .slice x19) ∧
∃ x590 : yevergreenref12_Store.T, At w577 a3 (cells yevergreenref12_Store x590) ∧
K (x590, n20) w577) ∧
(allocK (.cells (cells yapi_Rule x17).toArray t_api_Rule) w571 fun a591 w578 =>
At w578 (a1.add 0) (cells .slice x19) ∧
At w578 (a1.add 1) (cells .slice x18) ∧
At w578 (a1.add 0) (cells .slice x16) ∧
appK t_api_Rule 5 40 #[.int .i64 (0 : Int), .int .u8 (0 : Int), .int .i64 (0 : Int), .int .i64 (0 : Int), .int .i64 (0 : Int)] (some a547) 0 0 (.slice x16.a x16.len x16.cap) x16.len w578 fun s592 w579 =>
At w579 (a1.add 0) (cells .slice x19) ∧
At w579 (a1.add 1) (cells .slice x18) ∧
appK t_api_Rule 5 40 #[.int .i64 (0 : Int), .int .u8 (0 : Int), .int .i64 (0 : Int), .int .i64 (0 : Int), .int .i64 (0 : Int)] s592.a s592.len s592.cap (.slice (some a591) 1 1) 1 w579 fun s593 w580 =>
At w580 (a1.add 0) (cells .slice x19) ∧
At w580 (a1.add 1) (cells .slice x18) ∧
appK t_int 1 8 #[.int .i64 (0 : Int)] (some a584) 0 0 (.slice x18.a x18.len x18.cap) x18.len w580 fun s594 w581 =>
At w581 (a1.add 0) (cells .slice x19) ∧
appK t_int 1 8 #[.int .i64 (0 : Int)] s594.a s594.len s594.cap (.slice (some a546) 1 1) 1 w581 fun s595 w582 =>
At w582 (a1.add 0) (cells .slice x19) ∧
stK w582 a3 ([.slice s593.a s593.len s593.cap, .slice s595.a s595.len s595.cap]) fun w583 =>
At w583 (a1.add 0) (cells .slice x19) ∧
∃ x596 : yevergreenref12_Store.T, At w583 a3 (cells yevergreenref12_Store x596) ∧
K (x596, n20) w583))) ∧
(allocK (.cells (cells yapi_Rule x17).toArray t_api_Rule) w533 fun a597 w584 =>
At w584 (a1.add 0) (cells .slice x19) ∧
At w584 (a1.add 1) (cells .slice x18) ∧
At w584 (a1.add 0) (cells .slice x16) ∧
(allocK (.cells #[] t_api_Rule) w584 fun a598 w585 =>
At w585 (a1.add 0) (cells .slice x19) ∧
At w585 (a1.add 1) (cells .slice x18) ∧
At w585 (a1.add 0) (cells .slice x16) ∧
(appK t_api_Rule 5 40 #[.int .i64 (0 : Int), .int .u8 (0 : Int), .int .i64 (0 : Int), .int .i64 (0 : Int), .int .i64 (0 : Int)] (some a598) 0 0 (.slice x16.a x16.len x16.cap) x16.len w585 fun s599 w586 =>
At w586 (a1.add 0) (cells .slice x19) ∧
At w586 (a1.add 1) (cells .slice x18) ∧
(appK t_api_Rule 5 40 #[.int .i64 (0 : Int), .int .u8 (0 : Int), .int .i64 (0 : Int), .int .i64 (0 : Int), .int .i64 (0 : Int)] s599.a s599.len s599.cap (.slice (some a597) 1 1) 1 w586 fun s600 w587 =>
At w587 (a1.add 0) (cells .slice x19) ∧
At w587 (a1.add 1) (cells .slice x18) ∧
allocK (.cells #[] t_int) w587 fun a601 w588 =>
At w588 (a1.add 0) (cells .slice x19) ∧
At w588 (a1.add 1) (cells .slice x18) ∧
appK t_int 1 8 #[.int .i64 (0 : Int)] (some a601) 0 0 (.slice x18.a x18.len x18.cap) x18.len w588 fun s602 w589 =>
At w589 (a1.add 0) (cells .slice x19) ∧
appK t_int 1 8 #[.int .i64 (0 : Int)] s602.a s602.len s602.cap (.slice (some a546) 1 1) 1 w589 fun s603 w590 =>
At w590 (a1.add 0) (cells .slice x19) ∧
stK w590 a3 ([.slice s600.a s600.len s600.cap, .slice s603.a s603.len s603.cap]) fun w591 =>
At w591 (a1.add 0) (cells .slice x19) ∧
∃ x604 : yevergreenref12_Store.T, At w591 a3 (cells yevergreenref12_Store x604) ∧
K (x604, n20) w591) ∧
(allocK (.cells #[] t_int) w586 fun a605 w592 =>
At w592 (a1.add 0) (cells .slice x19) ∧
At w592 (a1.add 1) (cells .slice x18) ∧
appK t_api_Rule 5 40 #[.int .i64 (0 : Int), .int .u8 (0 : Int), .int .i64 (0 : Int), .int .i64 (0 : Int), .int .i64 (0 : Int)] s599.a s599.len s599.cap (.slice (some a597) 1 1) 1 w592 fun s606 w593 =>
At w593 (a1.add 0) (cells .slice x19) ∧
At w593 (a1.add 1) (cells .slice x18) ∧
appK t_int 1 8 #[.int .i64 (0 : Int)] (some a605) 0 0 (.slice x18.a x18.len x18.cap) x18.len w593 fun s607 w594 =>
At w594 (a1.add 0) (cells .slice x19) ∧
appK t_int 1 8 #[.int .i64 (0 : Int)] s607.a s607.len s607.cap (.slice (some a546) 1 1) 1 w594 fun s608 w595 =>
At w595 (a1.add 0) (cells .slice x19) ∧
stK w595 a3 ([.slice s606.a s606.len s606.cap, .slice s608.a s608.len s608.cap]) fun w596 =>
At w596 (a1.add 0) (cells .slice x19) ∧
∃ x609 : yevergreenref12_Store.T, At w596 a3 (cells yevergreenref12_Store x609) ∧
K (x609, n20) w596)) ∧
(allocK (.cells #[] t_int) w585 fun a610 w597 =>
At w597 (a1.add 0) (cells .slice x19) ∧
At w597 (a1.add 1) (cells .slice x18) ∧
At w597 (a1.add 0) (cells .slice x16) ∧
appK t_api_Rule 5 40 #[.int .i64 (0 : Int), .int .u8 (0 : Int), .int .i64 (0 : Int), .int .i64 (0 : Int), .int .i64 (0 : Int)] (some a598) 0 0 (.slice x16.a x16.len x16.cap) x16.len w597 fun s611 w598 =>
At w598 (a1.add 0) (cells .slice x19) ∧
At w598 (a1.add 1) (cells .slice x18) ∧
appK t_api_Rule 5 40 #[.int .i64 (0 : Int), .int .u8 (0 : Int), .int .i64 (0 : Int), .int .i64 (0 : Int), .int .i64 (0 : Int)] s611.a s611.len s611.cap (.slice (some a597) 1 1) 1 w598 fun s612 w599 =>
At w599 (a1.add 0) (cells .slice x19) ∧
At w599 (a1.add 1) (cells .slice x18) ∧
appK t_int 1 8 #[.int .i64 (0 : Int)] (some a610) 0 0 (.slice x18.a x18.len x18.cap) x18.len w599 fun s613 w600 =>
At w600 (a1.add 0) (cells .slice x19) ∧
appK t_int 1 8 #[.int .i64 (0 : Int)] s613.a s613.len s613.cap (.slice (some a546) 1 1) 1 w600 fun s614 w601 =>
At w601 (a1.add 0) (cells .slice x19) ∧
stK w601 a3 ([.slice s612.a s612.len s612.cap, .slice s614.a s614.len s614.cap]) fun w602 =>
At w602 (a1.add 0) (cells .slice x19) ∧
∃ x615 : yevergreenref12_Store.T, At w602 a3 (cells yevergreenref12_Store x615) ∧
K (x615, n20) w602)) ∧
(allocK (.cells #[] t_int) w584 fun a616 w603 =>
At w603 (a1.add 0) (cells .slice x19) ∧
At w603 (a1.add 1) (cells .slice x18) ∧
At w603 (a1.add 0) (cells .slice x16) ∧
allocK (.cells #[] t_api_Rule) w603 fun a617 w604 =>
At w604 (a1.add 0) (cells .slice x19) ∧
At w604 (a1.add 1) (cells .slice x18) ∧
At w604 (a1.add 0) (cells .slice x16) ∧
appK t_api_Rule 5 40 #[.int .i64 (0 : Int), .int .u8 (0 : Int), .int .i64 (0 : Int), .int .i64 (0 : Int), .int .i64 (0 : Int)] (some a617) 0 0 (.slice x16.a x16.len x16.cap) x16.len w604 fun s618 w605 =>
At w605 (a1.add 0) (cells .slice x19) ∧
At w605 (a1.add 1) (cells .slice x18) ∧
appK t_api_Rule 5 40 #[.int .i64 (0 : Int), .int .u8 (0 : Int), .int .i64 (0 : Int), .int .i64 (0 : Int), .int .i64 (0 : Int)] s618.a s618.len s618.cap (.slice (some a597) 1 1) 1 w605 fun s619 w606 =>
At w606 (a1.add 0) (cells .slice x19) ∧
At w606 (a1.add 1) (cells .slice x18) ∧
appK t_int 1 8 #[.int .i64 (0 : Int)] (some a616) 0 0 (.slice x18.a x18.len x18.cap) x18.len w606 fun s620 w607 =>
At w607 (a1.add 0) (cells .slice x19) ∧
appK t_int 1 8 #[.int .i64 (0 : Int)] s620.a s620.len s620.cap (.slice (some a546) 1 1) 1 w607 fun s621 w608 =>
At w608 (a1.add 0) (cells .slice x19) ∧
stK w608 a3 ([.slice s619.a s619.len s619.cap, .slice s621.a s621.len s621.cap]) fun w609 =>
At w609 (a1.add 0) (cells .slice x19) ∧
∃ x622 : yevergreenref12_Store.T, At w609 a3 (cells yevergreenref12_Store x622) ∧
K (x622, n20) w609)) ∧
(allocK (.cells #[] t_int) w533 fun a623 w610 =>
At w610 (a1.add 0) (cells .slice x19) ∧
At w610 (a1.add 1) (cells .slice x18) ∧
At w610 a2 (cells yapi_Rule x17) ∧
At w610 (a1.add 0) (cells .slice x16) ∧
(allocK (.cells #[] t_api_Rule) w610 fun a624 w611 =>
At w611 (a1.add 0) (cells .slice x19) ∧
At w611 (a1.add 1) (cells .slice x18) ∧
At w611 a2 (cells yapi_Rule x17) ∧
At w611 (a1.add 0) (cells .slice x16) ∧
(appK t_api_Rule 5 40 #[.int .i64 (0 : Int), .int .u8 (0 : Int), .int .i64 (0 : Int), .int .i64 (0 : Int), .int .i64 (0 : Int)] (some a624) 0 0 (.slice x16.a x16.len x16.cap) x16.len w611 fun s625 w612 =>
At w612 (a1.add 0) (cells .slice x19) ∧
At w612 (a1.add 1) (cells .slice x18) ∧
At w612 a2 (cells yapi_Rule x17) ∧
allocK (.cells (cells yapi_Rule x17).toArray t_api_Rule) w612 fun a626 w613 =>
At w613 (a1.add 0) (cells .slice x19) ∧
At w613 (a1.add 1) (cells .slice x18) ∧
appK t_api_Rule 5 40 #[.int .i64 (0 : Int), .int .u8 (0 : Int), .int .i64 (0 : Int), .int .i64 (0 : Int), .int .i64 (0 : Int)] s625.a s625.len s625.cap (.slice (some a626) 1 1) 1 w613 fun s627 w614 =>
At w614 (a1.add 0) (cells .slice x19) ∧
At w614 (a1.add 1) (cells .slice x18) ∧
appK t_int 1 8 #[.int .i64 (0 : Int)] (some a623) 0 0 (.slice x18.a x18.len x18.cap) x18.len w614 fun s628 w615 =>
At w615 (a1.add 0) (cells .slice x19) ∧
appK t_int 1 8 #[.int .i64 (0 : Int)] s628.a s628.len s628.cap (.slice (some a546) 1 1) 1 w615 fun s629 w616 =>
At w616 (a1.add 0) (cells .slice x19) ∧
stK w616 a3 ([.slice s627.a s627.len s627.cap, .slice s629.a s629.len s629.cap]) fun w617 =>
At w617 (a1.add 0) (cells .slice x19) ∧
∃ x630 : yevergreenref12_Store.T, At w617 a3 (cells yevergreenref12_Store x630) ∧
K (x630, n20) w617) ∧
(allocK (.cells (cells yapi_Rule x17).toArray t_api_Rule) w611 fun a631 w618 =>
At w618 (a1.add 0) (cells .slice x19) ∧
At w618 (a1.add 1) (cells .slice x18) ∧
At w618 (a1.add 0) (cells .slice x16) ∧
appK t_api_Rule 5 40 #[.int .i64 (0 : Int), .int .u8 (0 : Int), .int .i64 (0 : Int), .int .i64 (0 : Int), .int .i64 (0 : Int)] (some a624) 0 0 (.slice x16.a x16.len x16.cap) x16.len w618 fun s632 w619 =>
At w619 (a1.add 0) (cells .slice x19) ∧
At w619 (a1.add 1) (cells .slice x18) ∧
appK t_api_Rule 5 40 #[.int .i64 (0 : Int), .int .u8 (0 : Int), .int .i64 (0 : Int), .int .i64 (0 : Int), .int .i64 (0 : Int)] s632.a s632.len s632.cap (.slice (some a631) 1 1) 1 w619 fun s633 w620 =>
At w620 (a1.add 0) (cells .slice x19) ∧
At w620 (a1.add 1) (cells .slice x18) ∧
appK t_int 1 8 #[.int .i64 (0 : Int)] (some a623) 0 0 (.slice x18.a x18.len x18.cap) x18.len w620 fun s634 w621 =>
At w621 (a1.add 0) (cells .slice x19) ∧
appK t_int 1 8 #[.int .i64 (0 : Int)] s634.a s634.len s634.cap (.slice (some a546) 1 1) 1 w621 fun s635 w622 =>
At w622 (a1.add 0) (cells .slice x19) ∧
stK w622 a3 ([.slice s633.a s633.len s633.cap, .slice s635.a s635.len s635.cap]) fun w623 =>
At w623 (a1.add 0) (cells .slice x19) ∧
∃ x636 : yevergreenref12_Store.T, At w623 a3 (cells yevergreenref12_Store x636) ∧
K (x636, n20) w623)) ∧
(allocK (.cells (cells yapi_Rule x17).toArray t_api_Rule) w610 fun a637 w624 =>
At w624 (a1.add 0) (cells .slice x19) ∧
At w624 (a1.add 1) (cells .slice x18) ∧
At w624 (a1.add 0) (cells .slice x16) ∧
allocK (.cells #[] t_api_Rule) w624 fun a638 w625 =>
At w625 (a1.add 0) (cells .slice x19) ∧
At w625 (a1.add 1) (cells .slice x18) ∧
At w625 (a1.add 0) (cells .slice x16) ∧
appK t_api_Rule 5 40 #[.int .i64 (0 : Int), .int .u8 (0 : Int), .int .i64 (0 : Int), .int .i64 (0 : Int), .int .i64 (0 : Int)] (some a638) 0 0 (.slice x16.a x16.len x16.cap) x16.len w625 fun s639 w626 =>
At w626 (a1.add 0) (cells .slice x19) ∧
At w626 (a1.add 1) (cells .slice x18) ∧
appK t_api_Rule 5 40 #[.int .i64 (0 : Int), .int .u8 (0 : Int), .int .i64 (0 : Int), .int .i64 (0 : Int), .int .i64 (0 : Int)] s639.a s639.len s639.cap (.slice (some a637) 1 1) 1 w626 fun s640 w627 =>
At w627 (a1.add 0) (cells .slice x19) ∧
At w627 (a1.add 1) (cells .slice x18) ∧
appK t_int 1 8 #[.int .i64 (0 : Int)] (some a623) 0 0 (.slice x18.a x18.len x18.cap) x18.len w627 fun s641 w628 =>
At w628 (a1.add 0) (cells .slice x19) ∧
appK t_int 1 8 #[.int .i64 (0 : Int)] s641.a s641.len s641.cap (.slice (some a546) 1 1) 1 w628 fun s642 w629 =>
At w629 (a1.add 0) (cells .slice x19) ∧
stK w629 a3 ([.slice s640.a s640.len s640.cap, .slice s642.a s642.len s642.cap]) fun w630 =>
At w630 (a1.add 0) (cells .slice x19) ∧
∃ x643 : yevergreenref12_Store.T, At w630 a3 (cells yevergreenref12_Store x643) ∧
K (x643, n20) w630))))
theorem S_ref12_Add (v0_s : yevergreenref12_Store.T) (v1_r : yapi_Rule.T) (v2_length : Int) (K : (yevergreenref12_Store.T × Int) → World → Prop) (w0 : World) (h : F_ref12_Add v0_s v1_r v2_length K w0) : C_ref12_Add v0_s v1_r v2_length K w0 := by
  have e : denFn P [(1002, [(8, .int .i64)])] Tryz.f96 #[val yevergreenref12_Store v0_s, val yapi_Rule v1_r, .int .i64 v2_length] (.tup (.pair yevergreenref12_Store (.int .i64))) K w0 = F_ref12_Add v0_s v1_r v2_length K w0 := by kernel_rfl
  exact fn_sound mixed (f := 96) Tryz.func96 (by kernel_rfl) (e.mpr h)

end Go.Proofs.YtnmgjpcooncjlaaGreat
