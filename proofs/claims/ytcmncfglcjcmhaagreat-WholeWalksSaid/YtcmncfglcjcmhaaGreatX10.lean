/- Texts that belong together, joined: Text10. No conditions. -/
import Derived.Test.YtcmncfglcjcmhaaGreatX0
/- The typed texts of the functions, printed by a program; each proved to imply the call. -/
set_option linter.unusedVariables false
set_option maxRecDepth 100000
set_option maxHeartbeats 4000000
namespace Go.Proofs.YtcmncfglcjcmhaaGreat
open Go.Den

def F_access_Extract_1 (v0_x : Int) (v1_times : Int) (v2 : Addr) (v3 : Addr) (K : Value → World → Prop) (w0 : World) : Prop :=
∃ x1 : Sl, At w0 v2 (cells .slice x1) ∧
∃ x2 : Option Addr, At w0 v3 (cells .ptr x2) ∧
C_access_spell x2 v0_x (some v2) (fun x3 w1 =>
nilIfcK x3 fun b4 =>
gd (!b4) (
K x3 w1) (
∃ x5 : Sl, At w1 v2 (cells .slice x5) ∧
slK 1 x5.a x5.len x5.cap (some (x1.len : Int)) none fun s6 =>
arith .i64 (v1_times - (1 : Int)) fun n7 =>
LoopP (X := Int × Unit) ((0 : Int), ()) w1 fun next9 x8 w2 => ∀ _ : Env,
gd (decide (x8.1 < n7)) (
∃ x10 : Sl, At w2 v2 (cells .slice x10) ∧
appK t_uint8 1 1 #[.int .u8 (0 : Int)] x10.a x10.len x10.cap (.slice s6.a s6.len s6.cap) s6.len w2 fun s11 w3 =>
stK w3 v2 ([.slice s11.a s11.len s11.cap]) fun w4 =>
arith .i64 (x8.1 + (1 : Int)) fun n12 =>
next9 (n12, ()) w4) (
K .nilIface w2))) w0
theorem S_access_Extract_1 (v0_x : Int) (v1_times : Int) (v2 : Addr) (v3 : Addr) (K : Value → World → Prop) (w0 : World) (h : F_access_Extract_1 v0_x v1_times v2 v3 K w0) : C_access_Extract_1 v0_x v1_times v2 v3 K w0 := by
  have e : denFn P [(1007, [(23, .int .i64)])] Tryz.f50 #[.int .i64 v0_x, .int .i64 v1_times, .pointer (some v2), .pointer (some v3)] .iface K w0 = F_access_Extract_1 v0_x v1_times v2 v3 K w0 := by kernel_rfl
  exact fn_sound mixed (f := 50) Tryz.func50 (by kernel_rfl) (e.mpr h)

def F_access_spell (v0_s : Option Addr) (v1_id : Int) (v2_text : Option Addr) (K : Value → World → Prop) (w0 : World) : Prop :=
allocK (.cells #[.int .i64 v1_id, .int .i64 (1 : Int)] t_access_copies) w0 fun a1 w1 =>
LoopP (X := Sl × Unit) (⟨some a1, 1, 1⟩, ()) w1 fun next3 x2 w2 => ∀ _ : Env,
gd (decide ((0 : Int) < (x2.1.len : Int))) (
arith .i64 ((x2.1.len : Int) - (1 : Int)) fun n4 =>
idxK x2.1.a x2.1.len n4 2 fun p5 =>
nonNil (some p5) fun p6 =>
∃ x7 : Int, At w2 (p6.add 0) (cells (.int .i64) x7) ∧
JoinP (X := Sl × Unit) (fun R9 =>
nonNil (some p5) fun p10 =>
∃ x11 : Int, At w2 (p10.add 1) (cells (.int .i64) x11) ∧
arith .i64 (x11 - (1 : Int)) fun n12 =>
nonNil (some p5) fun p13 =>
stK w2 (p13.add 1) ([.int .i64 n12]) fun w4 =>
nonNil (some p5) fun p14 =>
∃ x15 : Int, At w4 (p14.add 1) (cells (.int .i64) x15) ∧
gd (x15 == (0 : Int)) (
arith .i64 ((x2.1.len : Int) - (1 : Int)) fun n16 =>
slK 2 x2.1.a x2.1.len x2.1.cap none (some n16) fun s17 =>
R9 (s17, ()) w4) (
R9 (x2.1, ()) w4)) (fun x8 w3 => ∀ _ : Env,
C_intern_Store_Rule v0_s x7 (fun x18 w5 =>
allocK (.cells #[.int .i64 (0 : Int), .int .u8 (0 : Int), .int .i64 (0 : Int), .int .i64 (0 : Int), .int .i64 (0 : Int)] t_api_Rule) w5 fun a19 w6 =>
stK w6 a19 (cells yapi_Rule x18.1) fun w7 =>
nilIfcK x18.2 fun b20 =>
gd (!b20) (
K x18.2 w7) (
∃ x21 : Int, At w7 (a19.add 0) (cells (.int .i64) x21) ∧
gd (x21 == (1 : Int)) (
drawK w7 fun w8 =>
nonNil v2_text fun p22 =>
∃ x23 : Sl, At w8 p22 (cells .slice x23) ∧
∃ x24 : Int, At w8 (a19.add 1) (cells (.int .u8) x24) ∧
allocK (.cells #[.int .u8 x24] t_uint8) w8 fun a25 w9 =>
At w9 p22 (cells .slice x23) ∧
appK t_uint8 1 1 #[.int .u8 (0 : Int)] x23.a x23.len x23.cap (.slice (some a25) 1 1) 1 w9 fun s26 w10 =>
nonNil v2_text fun p27 =>
stK w10 p27 ([.slice s26.a s26.len s26.cap]) fun w11 =>
next3 (x8.1, ()) w11) (
gd (x21 == (2 : Int)) (
∃ x28 : Int, At w7 (a19.add 3) (cells (.int .i64) x28) ∧
∃ x29 : Int, At w7 (a19.add 2) (cells (.int .i64) x29) ∧
allocK (.cells #[.int .i64 x28, .int .i64 (1 : Int), .int .i64 x29, .int .i64 (1 : Int)] t_access_copies) w7 fun a30 w12 =>
appK t_access_copies 2 16 #[.int .i64 (0 : Int), .int .i64 (0 : Int)] x8.1.a x8.1.len x8.1.cap (.slice (some a30) 2 2) 2 w12 fun s31 w13 =>
next3 (s31, ()) w13) (
∃ x32 : Int, At w7 (a19.add 2) (cells (.int .i64) x32) ∧
∃ x33 : Int, At w7 (a19.add 4) (cells (.int .i64) x33) ∧
allocK (.cells #[.int .i64 x32, .int .i64 x33] t_access_copies) w7 fun a34 w14 =>
appK t_access_copies 2 16 #[.int .i64 (0 : Int), .int .i64 (0 : Int)] x8.1.a x8.1.len x8.1.cap (.slice (some a34) 1 1) 1 w14 fun s35 w15 =>
next3 (s35, ()) w15)))) w3)) (
K .nilIface w2)
theorem S_access_spell (v0_s : Option Addr) (v1_id : Int) (v2_text : Option Addr) (K : Value → World → Prop) (w0 : World) (h : F_access_spell v0_s v1_id v2_text K w0) : C_access_spell v0_s v1_id v2_text K w0 := by
  have e : denFn P [(1002, [(7, .slice)]), (8, [(7, .slice)])] Tryz.f51 #[.pointer v0_s, .int .i64 v1_id, .pointer v2_text] .iface K w0 = F_access_spell v0_s v1_id v2_text K w0 := by kernel_rfl
  exact fn_sound mixed (f := 51) Tryz.func51 (by kernel_rfl) (e.mpr h)

def F_weight_Unit  (K : yapi_Weight.T → World → Prop) (w0 : World) : Prop :=
allocK (.cells #[.int .i64 (0 : Int), .int .i64 (0 : Int), .int .i64 (0 : Int), .int .i64 (0 : Int), .int .u64 (0 : Int), .int .u64 (0 : Int)] t_api_Weight) w0 fun a1 w1 =>
C_digest_Unit  (fun x2 w2 =>
stK w2 a1 ([.int .i64 (0 : Int), .int .i64 (0 : Int), .int .i64 (0 : Int), .int .i64 (0 : Int), .int .u64 x2.1, .int .u64 x2.2]) fun w3 =>
∃ x3 : yapi_Weight.T, At w3 a1 (cells yapi_Weight x3) ∧
K x3 w3) w1
theorem S_weight_Unit  (K : yapi_Weight.T → World → Prop) (w0 : World) (h : F_weight_Unit  K w0) : C_weight_Unit  K w0 := by
  have e : denFn P [] Tryz.f52 #[] yapi_Weight K w0 = F_weight_Unit  K w0 := by kernel_rfl
  exact fn_sound mixed (f := 52) Tryz.func52 (by kernel_rfl) (e.mpr h)

def F_access_Weight_1 (v0_x : Int) (v1_times : Int) (v2 : Addr) (v3 : Addr) (K : Value → World → Prop) (w0 : World) : Prop :=
∃ x1 : Option Addr, At w0 v2 (cells .ptr x1) ∧
C_intern_Store_Weight x1 v0_x (fun x2 w1 =>
allocK (.cells #[.int .i64 (0 : Int), .int .i64 (0 : Int), .int .i64 (0 : Int), .int .i64 (0 : Int), .int .u64 (0 : Int), .int .u64 (0 : Int)] t_api_Weight) w1 fun a3 w2 =>
stK w2 a3 (cells yapi_Weight x2.1) fun w3 =>
nilIfcK x2.2 fun b4 =>
gd (!b4) (
K x2.2 w3) (
JoinP (X := Unit) (fun R6 =>
gd (decide ((1 : Int) < v1_times)) (
∃ x7 : yapi_Weight.T, At w3 a3 (cells yapi_Weight x7) ∧
C_weight_Repeat x7 v1_times (fun x8 w5 =>
stK w5 a3 (cells yapi_Weight x8.1) fun w6 =>
nilIfcK x8.2 fun b9 =>
gd (!b9) (
K x8.2 w6) (
R6 () w6)) w3) (
R6 () w3)) (fun x5 w4 => ∀ _ : Env,
∃ x10 : yapi_Weight.T, At w4 v3 (cells yapi_Weight x10) ∧
∃ x11 : yapi_Weight.T, At w4 a3 (cells yapi_Weight x11) ∧
C_access_join x10 x11 (fun x12 w7 =>
stK w7 v3 (cells yapi_Weight x12) fun w8 =>
K .nilIface w8) w4))) w0
theorem S_access_Weight_1 (v0_x : Int) (v1_times : Int) (v2 : Addr) (v3 : Addr) (K : Value → World → Prop) (w0 : World) (h : F_access_Weight_1 v0_x v1_times v2 v3 K w0) : C_access_Weight_1 v0_x v1_times v2 v3 K w0 := by
  have e : denFn P [(8, [])] Tryz.f53 #[.int .i64 v0_x, .int .i64 v1_times, .pointer (some v2), .pointer (some v3)] .iface K w0 = F_access_Weight_1 v0_x v1_times v2 v3 K w0 := by kernel_rfl
  exact fn_sound mixed (f := 53) Tryz.func53 (by kernel_rfl) (e.mpr h)

def F_weight_Repeat (v0_w : yapi_Weight.T) (v1_k : Int) (K : (yapi_Weight.T × Value) → World → Prop) (w0 : World) : Prop :=
allocK (.cells (cells yapi_Weight v0_w).toArray t_api_Weight) w0 fun a1 w1 =>
allocK (.cells #[.int .i64 (0 : Int), .int .i64 (0 : Int), .int .i64 (0 : Int), .int .i64 (0 : Int), .int .u64 (0 : Int), .int .u64 (0 : Int)] t_api_Weight) w1 fun a2 w2 =>
∃ x3 : yapi_Weight.T, At w2 a1 (cells yapi_Weight x3) ∧
C_weight_Valid x3 (fun x4 w3 =>
gd (!x4) (
stK w3 a2 ([.int .i64 (0 : Int), .int .i64 (0 : Int), .int .i64 (0 : Int), .int .i64 (0 : Int), .int .u64 (0 : Int), .int .u64 (0 : Int)]) fun w4 =>
∃ x5 : yapi_Weight.T, At w4 a2 (cells yapi_Weight x5) ∧
K (x5, .iface t_api_Errno (.int .i64 (4 : Int))) w4) (
gd (decide (v1_k < (0 : Int))) (
stK w3 a2 ([.int .i64 (0 : Int), .int .i64 (0 : Int), .int .i64 (0 : Int), .int .i64 (0 : Int), .int .u64 (0 : Int), .int .u64 (0 : Int)]) fun w5 =>
∃ x6 : yapi_Weight.T, At w5 a2 (cells yapi_Weight x6) ∧
K (x6, .iface t_api_Errno (.int .i64 (1 : Int))) w5) (
∃ x7 : Int, At w3 (a1.add 0) (cells (.int .i64) x7) ∧
C_length_Mul x7 v1_k (fun x8 w6 =>
nilIfcK x8.2 fun b9 =>
gd (!b9) (
stK w6 a2 ([.int .i64 (0 : Int), .int .i64 (0 : Int), .int .i64 (0 : Int), .int .i64 (0 : Int), .int .u64 (0 : Int), .int .u64 (0 : Int)]) fun w7 =>
∃ x10 : yapi_Weight.T, At w7 a2 (cells yapi_Weight x10) ∧
K (x10, .iface t_api_Errno (.int .i64 (2 : Int))) w7) (
gd (x8.1 == (0 : Int)) (
C_weight_Unit  (fun x11 w8 =>
stK w8 a2 (cells yapi_Weight x11) fun w9 =>
∃ x12 : yapi_Weight.T, At w9 a2 (cells yapi_Weight x12) ∧
K (x12, .nilIface) w9) w6) (
JoinP (X := Addr × Unit) (fun R14 =>
drawK w6 fun w11 =>
∃ x15 : Int, At w11 (a1.add 1) (cells (.int .i64) x15) ∧
arith .i64 (x15 * v1_k) fun n16 =>
∃ x17 : Int, At w11 (a1.add 2) (cells (.int .i64) x17) ∧
∃ x18 : Int, At w11 (a1.add 3) (cells (.int .i64) x18) ∧
∃ x19 : yapi_Digest.T, At w11 (a1.add 4) (cells yapi_Digest x19) ∧
(C_digest_Repeat x19 v1_k (fun x20 w12 =>
At w12 (a1.add 3) (cells (.int .i64) x18) ∧
At w12 (a1.add 2) (cells (.int .i64) x17) ∧
At w12 (a1.add 1) (cells (.int .i64) x15) ∧
allocK (.cells #[.int .i64 (0 : Int), .int .i64 (0 : Int), .int .i64 (0 : Int), .int .i64 (0 : Int), .int .u64 (0 : Int), .int .u64 (0 : Int)] t_api_Weight) w12 fun a21 w13 =>
At w13 (a1.add 3) (cells (.int .i64) x18) ∧
At w13 (a1.add 2) (cells (.int .i64) x17) ∧
At w13 (a1.add 1) (cells (.int .i64) x15) ∧
stK w13 a21 ([.int .i64 x8.1, .int .i64 n16, .int .i64 x17, .int .i64 x18, .int .u64 x20.1, .int .u64 x20.2]) fun w14 =>
R14 (a21, ()) w14) w11) ∧
(allocK (.cells #[.int .i64 (0 : Int), .int .i64 (0 : Int), .int .i64 (0 : Int), .int .i64 (0 : Int), .int .u64 (0 : Int), .int .u64 (0 : Int)] t_api_Weight) w11 fun a22 w15 =>
At w15 (a1.add 4) (cells yapi_Digest x19) ∧
At w15 (a1.add 3) (cells (.int .i64) x18) ∧
At w15 (a1.add 2) (cells (.int .i64) x17) ∧
At w15 (a1.add 1) (cells (.int .i64) x15) ∧
C_digest_Repeat x19 v1_k (fun x23 w16 =>
At w16 (a1.add 3) (cells (.int .i64) x18) ∧
At w16 (a1.add 2) (cells (.int .i64) x17) ∧
At w16 (a1.add 1) (cells (.int .i64) x15) ∧
stK w16 a22 ([.int .i64 x8.1, .int .i64 n16, .int .i64 x17, .int .i64 x18, .int .u64 x23.1, .int .u64 x23.2]) fun w17 =>
R14 (a22, ()) w17) w15)) (fun x13 w10 => ∀ _ : Env,
JoinP (X := Unit) (fun R25 =>
∃ x26 : Int, At w10 (a1.add 1) (cells (.int .i64) x26) ∧
gd (x26 == (0 : Int)) (
stK w10 (x13.1.add 2) ([.int .i64 x8.1]) fun w19 =>
stK w19 (x13.1.add 3) ([.int .i64 x8.1]) fun w20 =>
R25 () w20) (
R25 () w10)) (fun x24 w18 => ∀ _ : Env,
∃ x27 : yapi_Weight.T, At w18 x13.1 (cells yapi_Weight x27) ∧
stK w18 a2 (cells yapi_Weight x27) fun w21 =>
∃ x28 : yapi_Weight.T, At w21 a2 (cells yapi_Weight x28) ∧
K (x28, .nilIface) w21))))) w3))) w2
theorem S_weight_Repeat (v0_w : yapi_Weight.T) (v1_k : Int) (K : (yapi_Weight.T × Value) → World → Prop) (w0 : World) (h : F_weight_Repeat v0_w v1_k K w0) : C_weight_Repeat v0_w v1_k K w0 := by
  have e : denFn P [(11, [(8, .addr)]), (13, [])] Tryz.f54 #[val yapi_Weight v0_w, .int .i64 v1_k] (.tup (.pair yapi_Weight .iface)) K w0 = F_weight_Repeat v0_w v1_k K w0 := by kernel_rfl
  exact fn_sound mixed (f := 54) Tryz.func54 (by kernel_rfl) (e.mpr h)

end Go.Proofs.YtcmncfglcjcmhaaGreat
