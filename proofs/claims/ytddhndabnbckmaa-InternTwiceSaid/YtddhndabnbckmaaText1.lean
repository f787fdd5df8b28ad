/- The typed texts of the functions, printed by a program; each proved to imply the call. -/
import Derived.Test.YtddhndabnbckmaaTextC
set_option linter.unusedVariables false
set_option maxRecDepth 100000
set_option maxHeartbeats 4000000
namespace Go.Proofs.Ytddhndabnbckmaa
open Go.Den

def F_law10_InternRules (v0_most : Int) (v1_ops : Sl) (K : Bool → World → Prop) (w0 : World) : Prop :=
JoinP (X := Bool × Unit) (fun R2 =>
C_law10_awake  (fun x3 w2 =>
gd (!x3) (
R2 (true, ()) w2) (
C_law10_few v1_ops (fun x4 w3 =>
R2 (!x4, ()) w3) w2)) w0) (fun x1 w1 => ∀ _ : Env,
gd x1.1 (
C_law10_awake  (fun x5 w4 =>
K x5 w4) w1) (
C_law10_Built v0_most v1_ops (fun x6 w5 =>
allocK (.cells #[.int .i64 (0 : Int), .slice none 0 0, .slice none 0 0, .slice none 0 0] t_evergreenref10_S) w5 fun a7 w6 =>
stK w6 a7 (cells yevergreenref10_S x6.2.1) fun w7 =>
K x6.2.2 w7) w1))
theorem S_law10_InternRules (v0_most : Int) (v1_ops : Sl) (K : Bool → World → Prop) (w0 : World) (h : F_law10_InternRules v0_most v1_ops K w0) : C_law10_InternRules v0_most v1_ops K w0 := by
  have e : denFn P [(2, [(14, .bool)])] Try.f3 #[.int .i64 v0_most, .slice v1_ops.a v1_ops.len v1_ops.cap] .bool K w0 = F_law10_InternRules v0_most v1_ops K w0 := by kernel_rfl
  exact fn_sound mixed (f := 3) Try.func3 (by kernel_rfl) (e.mpr h)

def F_law10_InternTwice (v0_ops : Sl) (K : Bool → World → Prop) (w0 : World) : Prop :=
JoinP (X := Bool × Unit) (fun R2 =>
C_law10_awake  (fun x3 w2 =>
gd (!x3) (
R2 (true, ()) w2) (
C_law10_few v0_ops (fun x4 w3 =>
R2 (!x4, ()) w3) w2)) w0) (fun x1 w1 => ∀ _ : Env,
gd x1.1 (
C_law10_awake  (fun x5 w4 =>
K x5 w4) w1) (
C_intern_New (12 : Int) (fun x6 w5 =>
allocK (.cells #[.pointer none] t_pt_intern_Store) w5 fun a7 w6 =>
stK w6 a7 ([.pointer x6]) fun w7 =>
∃ x8 : Option Addr, At w7 a7 (cells .ptr x8) ∧
gd x8.isNone (
K false w7) (
LoopP (X := Int × Unit) ((0 : Int), ()) w7 fun next10 x9 w8 => ∀ _ : Env,
gd (decide (x9.1 < (v0_ops.len : Int))) (
idxK v0_ops.a v0_ops.len x9.1 5 fun p11 =>
∃ x12 : yevergreenlaw10_Op.T, At w8 p11 (cells yevergreenlaw10_Op x12) ∧
allocK (.cells #[.int .u8 (0 : Int), .int .u8 (0 : Int), .int .i64 (0 : Int), .int .i64 (0 : Int), .int .i64 (0 : Int)] t_evergreenlaw10_Op) w8 fun a13 w9 =>
stK w9 a13 (cells yevergreenlaw10_Op x12) fun w10 =>
∃ x14 : yevergreenlaw10_Op.T, At w10 a13 (cells yevergreenlaw10_Op x14) ∧
C_law10_InternTwice_1 x14 a7 (fun x15 w11 =>
∃ x16 : Option Addr, At w11 a7 (cells .ptr x16) ∧
C_intern_Store_Len x16 (fun x17 w12 =>
∃ x18 : yevergreenlaw10_Op.T, At w12 a13 (cells yevergreenlaw10_Op x18) ∧
C_law10_InternTwice_1 x18 a7 (fun x19 w13 =>
JoinP (X := Bool × Unit) (fun R21 =>
gd (x15.1 != x19.1) (
R21 (true, ()) w13) (
C_base_Num x15.2 (fun x22 w15 =>
C_base_Num x19.2 (fun x23 w16 =>
gd (x22 != x23) (
R21 (true, ()) w16) (
∃ x24 : Option Addr, At w16 a7 (cells .ptr x24) ∧
C_intern_Store_Len x24 (fun x25 w17 =>
gd (x25 != x17) (
R21 (true, ()) w17) (
∃ x26 : Option Addr, At w17 a7 (cells .ptr x26) ∧
C_intern_Store_Room x26 (fun x27 w18 =>
arith .i64 (x17 + x27) fun n28 =>
R21 (n28 != (12 : Int), ()) w18) w17)) w16)) w15) w13)) (fun x20 w14 => ∀ _ : Env,
gd x20.1 (
K false w14) (
arith .i64 (x9.1 + (1 : Int)) fun n29 =>
next10 (n29, ()) w14))) w12) w11) w10) (
K true w8))) w1))
theorem S_law10_InternTwice (v0_ops : Sl) (K : Bool → World → Prop) (w0 : World) (h : F_law10_InternTwice v0_ops K w0) : C_law10_InternTwice v0_ops K w0 := by
  have e : denFn P [(2, [(18, .bool)]), (1008, [(26, .int .i64)]), (14, [(66, .bool)])] Try.f4 #[.slice v0_ops.a v0_ops.len v0_ops.cap] .bool K w0 = F_law10_InternTwice v0_ops K w0 := by kernel_rfl
  exact fn_sound mixed (f := 4) Try.func4 (by kernel_rfl) (e.mpr h)

def F_law10_InternTexts (v0_ops : Sl) (K : Bool → World → Prop) (w0 : World) : Prop :=
JoinP (X := Bool × Unit) (fun R2 =>
C_law10_awake  (fun x3 w2 =>
gd (!x3) (
R2 (true, ()) w2) (
C_law10_few v0_ops (fun x4 w3 =>
R2 (!x4, ()) w3) w2)) w0) (fun x1 w1 => ∀ _ : Env,
gd x1.1 (
C_law10_awake  (fun x5 w4 =>
K x5 w4) w1) (
C_law10_Built (100 : Int) v0_ops (fun x6 w5 =>
allocK (.cells #[.int .i64 (0 : Int), .slice none 0 0, .slice none 0 0, .slice none 0 0] t_evergreenref10_S) w5 fun a7 w6 =>
stK w6 a7 (cells yevergreenref10_S x6.2.1) fun w7 =>
gd (!x6.2.2) (
K false w7) (
∃ x8 : Sl, At w7 (a7.add 1) (cells .slice x8) ∧
LoopP (X := Int × Unit) ((0 : Int), ()) w7 fun next10 x9 w8 => ∀ _ : Env,
gd (decide (x9.1 < (x8.len : Int))) (
JoinP (X := Unit) (fun R12 =>
∃ x13 : Sl, At w8 (a7.add 2) (cells .slice x13) ∧
idxK x13.a x13.len x9.1 1 fun p14 =>
∃ x15 : Int, At w8 p14 (cells (.int .i64) x15) ∧
gd (decide ((4096 : Int) < x15)) (
R12 () w8) (
∃ x16 : yevergreenref10_S.T, At w8 a7 (cells yevergreenref10_S x16) ∧
arith .i64 (x9.1 + (1 : Int)) fun n17 =>
C_ref10_Text x16 n17 (fun x18 w10 =>
C_ref05_Of x18 (fun x19 w11 =>
allocK (.cells #[.int .i64 (0 : Int), .int .i64 (0 : Int), .int .i64 (0 : Int), .int .i64 (0 : Int), .int .u64 (0 : Int), .int .u64 (0 : Int)] t_api_Weight) w11 fun a20 w12 =>
stK w12 a20 ([.int .i64 (x18.len : Int), .int .i64 (0 : Int), .int .i64 (x18.len : Int), .int .i64 (x18.len : Int), .int .u64 x19.1, .int .u64 x19.2]) fun w13 =>
LoopP (X := Int × Unit) ((0 : Int), ()) w13 fun next22 x21 w14 => ∀ _ : Env,
gd (decide (x21.1 < (x18.len : Int))) (
JoinP (X := Unit) (fun R24 =>
idxK x18.a x18.len x21.1 1 fun p25 =>
∃ x26 : Int, At w14 p25 (cells (.int .u8) x26) ∧
gd (x26 != (10 : Int)) (
R24 () w14) (
JoinP (X := Unit) (fun R28 =>
∃ x29 : Int, At w14 (a20.add 1) (cells (.int .i64) x29) ∧
gd (x29 == (0 : Int)) (
stK w14 (a20.add 2) ([.int .i64 x21.1]) fun w17 =>
R28 () w17) (
R28 () w14)) (fun x27 w16 => ∀ _ : Env,
∃ x30 : Int, At w16 (a20.add 1) (cells (.int .i64) x30) ∧
arith .i64 (x30 + (1 : Int)) fun n31 =>
stK w16 (a20.add 1) ([.int .i64 n31]) fun w18 =>
arith .i64 ((x18.len : Int) - (1 : Int)) fun n32 =>
arith .i64 (n32 - x21.1) fun n33 =>
stK w18 (a20.add 3) ([.int .i64 n33]) fun w19 =>
R24 () w19))) (fun x23 w15 => ∀ _ : Env,
arith .i64 (x21.1 + (1 : Int)) fun n34 =>
next22 (n34, ()) w15)) (
arith .i64 (x9.1 + (1 : Int)) fun n35 =>
C_intern_Store_Weight x6.1 n35 (fun x36 w20 =>
allocK (.cells #[.int .i64 (0 : Int), .int .i64 (0 : Int), .int .i64 (0 : Int), .int .i64 (0 : Int), .int .u64 (0 : Int), .int .u64 (0 : Int)] t_api_Weight) w20 fun a37 w21 =>
stK w21 a37 (cells yapi_Weight x36.1) fun w22 =>
JoinP (X := Bool × Unit) (fun R39 =>
nilIfcK x36.2 fun b40 =>
gd (!b40) (
R39 (true, ()) w22) (
∃ x41 : yapi_Weight.T, At w22 a37 (cells yapi_Weight x41) ∧
∃ x42 : yapi_Weight.T, At w22 a20 (cells yapi_Weight x42) ∧
testK P (do eqGuard .neq t_api_Weight (.tmp 89) (.tmp 90) (val yapi_Weight x41) (val yapi_Weight x42); binOp .neq t_api_Weight (val yapi_Weight x41) (val yapi_Weight x42)) fun b43 =>
R39 (b43, ()) w22)) (fun x38 w23 => ∀ _ : Env,
gd x38.1 (
K false w23) (
R12 () w23))) w14)) w10) w8)) (fun x11 w9 => ∀ _ : Env,
arith .i64 (x9.1 + (1 : Int)) fun n44 =>
next10 (n44, ()) w9)) (
K true w8))) w1))
theorem S_law10_InternTexts (v0_ops : Sl) (K : Bool → World → Prop) (w0 : World) (h : F_law10_InternTexts v0_ops K w0) : C_law10_InternTexts v0_ops K w0 := by
  have e : denFn P [(2, [(19, .bool)]), (1007, [(32, .int .i64)]), (24, []), (1013, [(56, .int .i64)]), (20, []), (18, []), (23, [(92, .bool)])] Try.f5 #[.slice v0_ops.a v0_ops.len v0_ops.cap] .bool K w0 = F_law10_InternTexts v0_ops K w0 := by kernel_rfl
  exact fn_sound mixed (f := 5) Try.func5 (by kernel_rfl) (e.mpr h)

def F_law10_InternLimits (v0_b : Int) (v1_k : Int) (v2_n : Int) (K : Bool → World → Prop) (w0 : World) : Prop :=
C_law10_awake  (fun x1 w1 =>
gd (!x1) (
K false w1) (
C_intern_New (10 : Int) (fun x2 w2 =>
gd x2.isNone (
K false w2) (
C_intern_Store_Letter x2 v0_b (fun x3 w3 =>
nilIfcK x3.2 fun b4 =>
gd (!b4) (
K false w3) (
arith .u64 (v1_k) fun n5 =>
(1152921504606846975 : Int) ≠ 0 ∧
letZ (Int.tmod n5 (1152921504606846975 : Int)) fun n6 =>
arith .i64 (n6) fun n7 =>
arith .i64 (n7 + (2 : Int)) fun n8 =>
C_intern_Store_Power x2 x3.1 n8 (fun x9 w4 =>
C_intern_Store_Weight x2 x9.1 (fun x10 w5 =>
allocK (.cells #[.int .i64 (0 : Int), .int .i64 (0 : Int), .int .i64 (0 : Int), .int .i64 (0 : Int), .int .u64 (0 : Int), .int .u64 (0 : Int)] t_api_Weight) w5 fun a11 w6 =>
stK w6 a11 (cells yapi_Weight x10.1) fun w7 =>
JoinP (X := Bool × Unit) (fun R13 =>
nilIfcK x9.2 fun b14 =>
gd (!b14) (
R13 (true, ()) w7) (
nilIfcK x10.2 fun b15 =>
gd (!b15) (
R13 (true, ()) w7) (
∃ x16 : Int, At w7 (a11.add 0) (cells (.int .i64) x16) ∧
R13 (x16 != n8, ()) w7))) (fun x12 w8 => ∀ _ : Env,
gd x12.1 (
K false w8) (
C_intern_Store_Power x2 x3.1 (1152921504606846977 : Int) (fun x17 w9 =>
C_base_Is x17.2 (2 : Int) (fun x18 w10 =>
gd (!x18) (
K false w10) (
n8 ≠ 0 ∧
arith .i64 (Int.tdiv (1152921504606846976 : Int) n8) fun n19 =>
arith .u64 (v2_n) fun n20 =>
(4 : Int) ≠ 0 ∧
letZ (Int.tmod n20 (4 : Int)) fun n21 =>
arith .i64 (n21) fun n22 =>
arith .i64 (n22 + n19) fun n23 =>
arith .i64 (n23 - (2 : Int)) fun n24 =>
C_intern_Store_Power x2 x9.1 n24 (fun x25 w11 =>
gd (decide (n24 < (0 : Int))) (
C_base_Is x25.2 (1 : Int) (fun x26 w12 =>
K x26 w12) w11) (
gd (decide (n19 < n24)) (
C_base_Is x25.2 (2 : Int) (fun x27 w13 =>
K x27 w13) w11) (
C_intern_Store_Weight x2 x25.1 (fun x28 w14 =>
stK w14 a11 (cells yapi_Weight x28.1) fun w15 =>
JoinP (X := Bool × Unit) (fun R30 =>
nilIfcK x25.2 fun b31 =>
gd (!b31) (
R30 (true, ()) w15) (
nilIfcK x28.2 fun b32 =>
gd (!b32) (
R30 (true, ()) w15) (
∃ x33 : Int, At w15 (a11.add 0) (cells (.int .i64) x33) ∧
arith .i64 (n24 * n8) fun n34 =>
R30 (x33 != n34, ()) w15))) (fun x29 w16 => ∀ _ : Env,
gd x29.1 (
K false w16) (
C_intern_Store_Pair x2 x9.1 x25.1 (fun x35 w17 =>
C_intern_Store_Weight x2 x35.1 (fun x36 w18 =>
stK w18 a11 (cells yapi_Weight x36.1) fun w19 =>
arith .i64 (n24 * n8) fun n37 =>
arith .i64 ((1152921504606846976 : Int) - n37) fun n38 =>
gd (decide (n38 < n8)) (
C_base_Is x35.2 (2 : Int) (fun x39 w20 =>
K x39 w20) w19) (
nilIfcK x35.2 fun b40 =>
gd b40 (
nilIfcK x36.2 fun b41 =>
gd b41 (
∃ x42 : Int, At w19 (a11.add 0) (cells (.int .i64) x42) ∧
arith .i64 (n24 * n8) fun n43 =>
arith .i64 (n8 + n43) fun n44 =>
K (x42 == n44) w19) (
K false w19)) (
K false w19))) w17) w16))) w11))) w10)) w9) w8))) w4) w3)) w2)) w1)) w0
theorem S_law10_InternLimits (v0_b : Int) (v1_k : Int) (v2_n : Int) (K : Bool → World → Prop) (w0 : World) (h : F_law10_InternLimits v0_b v1_k v2_n K w0) : C_law10_InternLimits v0_b v1_k v2_n K w0 := by
  have e : denFn P [(13, [(60, .bool)]), (26, [(116, .bool)])] Try.f6 #[.int .u8 v0_b, .int .i64 v1_k, .int .i64 v2_n] .bool K w0 = F_law10_InternLimits v0_b v1_k v2_n K w0 := by kernel_rfl
  exact fn_sound mixed (f := 6) Try.func6 (by kernel_rfl) (e.mpr h)

def F_law10_InternWeights (v0_ops : Sl) (K : Bool → World → Prop) (w0 : World) : Prop :=
JoinP (X := Bool × Unit) (fun R2 =>
C_law10_awake  (fun x3 w2 =>
gd (!x3) (
R2 (true, ()) w2) (
C_law10_few v0_ops (fun x4 w3 =>
R2 (!x4, ()) w3) w2)) w0) (fun x1 w1 => ∀ _ : Env,
gd x1.1 (
C_law10_awake  (fun x5 w4 =>
K x5 w4) w1) (
C_intern_New (100 : Int) (fun x6 w5 =>
gd x6.isNone (
K false w5) (
LoopP (X := Int × Unit) ((0 : Int), ()) w5 fun next8 x7 w6 => ∀ _ : Env,
gd (decide (x7.1 < (v0_ops.len : Int))) (
idxK v0_ops.a v0_ops.len x7.1 5 fun p9 =>
∃ x10 : yevergreenlaw10_Op.T, At w6 p9 (cells yevergreenlaw10_Op x10) ∧
allocK (.cells #[.int .u8 (0 : Int), .int .u8 (0 : Int), .int .i64 (0 : Int), .int .i64 (0 : Int), .int .i64 (0 : Int)] t_evergreenlaw10_Op) w6 fun a11 w7 =>
stK w7 a11 (cells yevergreenlaw10_Op x10) fun w8 =>
∃ x12 : yevergreenlaw10_Op.T, At w8 a11 (cells yevergreenlaw10_Op x12) ∧
C_law10_do x6 ((0 : Int), (⟨none, 0, 0⟩, (⟨none, 0, 0⟩, ⟨none, 0, 0⟩))) x12 (fun x13 w9 =>
arith .i64 (x7.1 + (1 : Int)) fun n14 =>
next8 (n14, ()) w9) w8) (
LoopP (X := Int × Unit) ((1 : Int), ()) w6 fun next16 x15 w10 => ∀ _ : Env,
C_intern_Store_Len x6 (fun x17 w11 =>
gd (decide (x15.1 ≤ x17)) (
C_intern_Store_Weight x6 x15.1 (fun x18 w12 =>
allocK (.cells #[.int .i64 (0 : Int), .int .i64 (0 : Int), .int .i64 (0 : Int), .int .i64 (0 : Int), .int .u64 (0 : Int), .int .u64 (0 : Int)] t_api_Weight) w12 fun a19 w13 =>
stK w13 a19 (cells yapi_Weight x18.1) fun w14 =>
C_intern_Store_Rule x6 x15.1 (fun x20 w15 =>
allocK (.cells #[.int .i64 (0 : Int), .int .u8 (0 : Int), .int .i64 (0 : Int), .int .i64 (0 : Int), .int .i64 (0 : Int)] t_api_Rule) w15 fun a21 w16 =>
stK w16 a21 (cells yapi_Rule x20.1) fun w17 =>
JoinP (X := Bool × Unit) (fun R23 =>
nilIfcK x18.2 fun b24 =>
gd (!b24) (
R23 (true, ()) w17) (
nilIfcK x20.2 fun b25 =>
R23 (!b25, ()) w17)) (fun x22 w18 => ∀ _ : Env,
gd x22.1 (
K false w18) (
∃ x26 : Int, At w18 (a21.add 2) (cells (.int .i64) x26) ∧
C_intern_Store_Weight x6 x26 (fun x27 w19 =>
allocK (.cells #[.int .i64 (0 : Int), .int .i64 (0 : Int), .int .i64 (0 : Int), .int .i64 (0 : Int), .int .u64 (0 : Int), .int .u64 (0 : Int)] t_api_Weight) w19 fun a28 w20 =>
stK w20 a28 (cells yapi_Weight x27.1) fun w21 =>
∃ x29 : Int, At w21 (a21.add 3) (cells (.int .i64) x29) ∧
C_intern_Store_Weight x6 x29 (fun x30 w22 =>
allocK (.cells #[.int .i64 (0 : Int), .int .i64 (0 : Int), .int .i64 (0 : Int), .int .i64 (0 : Int), .int .u64 (0 : Int), .int .u64 (0 : Int)] t_api_Weight) w22 fun a31 w23 =>
stK w23 a31 (cells yapi_Weight x30.1) fun w24 =>
allocK (.cells #[.int .i64 (0 : Int), .int .i64 (0 : Int), .int .i64 (0 : Int), .int .i64 (0 : Int), .int .u64 (0 : Int), .int .u64 (0 : Int)] t_api_Weight) w24 fun a32 w25 =>
JoinP (X := Value × Unit) (fun R34 =>
∃ x35 : Int, At w25 (a21.add 0) (cells (.int .i64) x35) ∧
gd (x35 == (1 : Int)) (
∃ x36 : Int, At w25 (a21.add 1) (cells (.int .u8) x36) ∧
C_weight_Letter x36 (fun x37 w27 =>
stK w27 a32 (cells yapi_Weight x37) fun w28 =>
R34 (x18.2, ()) w28) w25) (
gd (x35 == (2 : Int)) (
∃ x38 : yapi_Weight.T, At w25 a28 (cells yapi_Weight x38) ∧
∃ x39 : yapi_Weight.T, At w25 a31 (cells yapi_Weight x39) ∧
C_weight_Join x38 x39 (fun x40 w29 =>
stK w29 a32 (cells yapi_Weight x40.1) fun w30 =>
R34 (x40.2, ()) w30) w25) (
∃ x41 : yapi_Weight.T, At w25 a28 (cells yapi_Weight x41) ∧
∃ x42 : Int, At w25 (a21.add 4) (cells (.int .i64) x42) ∧
C_weight_Repeat x41 x42 (fun x43 w31 =>
stK w31 a32 (cells yapi_Weight x43.1) fun w32 =>
R34 (x43.2, ()) w32) w25))) (fun x33 w26 => ∀ _ : Env,
JoinP (X := Bool × Unit) (fun R45 =>
nilIfcK x33.1 fun b46 =>
gd (!b46) (
R45 (true, ()) w26) (
∃ x47 : yapi_Weight.T, At w26 a19 (cells yapi_Weight x47) ∧
∃ x48 : yapi_Weight.T, At w26 a32 (cells yapi_Weight x48) ∧
testK P (do eqGuard .neq t_api_Weight (.tmp 101) (.tmp 102) (val yapi_Weight x47) (val yapi_Weight x48); binOp .neq t_api_Weight (val yapi_Weight x47) (val yapi_Weight x48)) fun b49 =>
R45 (b49, ()) w26)) (fun x44 w33 => ∀ _ : Env,
gd x44.1 (
K false w33) (
arith .i64 (x15.1 + (1 : Int)) fun n50 =>
next16 (n50, ()) w33)))) w21) w18))) w14) w11) (
K true w11)) w10))) w1))
theorem S_law10_InternWeights (v0_ops : Sl) (K : Bool → World → Prop) (w0 : World) (h : F_law10_InternWeights v0_ops K w0) : C_law10_InternWeights v0_ops K w0 := by
  have e : denFn P [(2, [(22, .bool)]), (1007, [(29, .int .i64)]), (1012, [(6, .int .i64)]), (17, [(61, .bool)]), (27, [(8, .iface)]), (28, [(104, .bool)])] Try.f7 #[.slice v0_ops.a v0_ops.len v0_ops.cap] .bool K w0 = F_law10_InternWeights v0_ops K w0 := by kernel_rfl
  exact fn_sound mixed (f := 7) Try.func7 (by kernel_rfl) (e.mpr h)

def F_law10_InternAsks (v0_ops : Sl) (v1_other : Int) (v2_ask : yapi_Rule.T) (K : Bool → World → Prop) (w0 : World) : Prop :=
allocK (.cells (cells yapi_Rule v2_ask).toArray t_api_Rule) w0 fun a1 w1 =>
JoinP (X := Bool × Unit) (fun R3 =>
C_law10_awake  (fun x4 w3 =>
gd (!x4) (
R3 (true, ()) w3) (
C_law10_few v0_ops (fun x5 w4 =>
R3 (!x5, ()) w4) w3)) w1) (fun x2 w2 => ∀ _ : Env,
gd x2.1 (
C_law10_awake  (fun x6 w5 =>
K x6 w5) w2) (
C_law10_Built (100 : Int) v0_ops (fun x7 w6 =>
allocK (.cells #[.int .i64 (0 : Int), .slice none 0 0, .slice none 0 0, .slice none 0 0] t_evergreenref10_S) w6 fun a8 w7 =>
stK w7 a8 (cells yevergreenref10_S x7.2.1) fun w8 =>
gd (!x7.2.2) (
K false w8) (
∃ x9 : Sl, At w8 (a8.add 1) (cells .slice x9) ∧
LoopP (X := Int × Unit) ((0 : Int), ()) w8 fun next11 x10 w9 => ∀ _ : Env,
gd (decide (x10.1 < (x9.len : Int))) (
arith .i64 (x10.1 + (1 : Int)) fun n12 =>
C_intern_Store_Rule x7.1 n12 (fun x13 w10 =>
allocK (.cells #[.int .i64 (0 : Int), .int .u8 (0 : Int), .int .i64 (0 : Int), .int .i64 (0 : Int), .int .i64 (0 : Int)] t_api_Rule) w10 fun a14 w11 =>
stK w11 a14 (cells yapi_Rule x13.1) fun w12 =>
C_intern_Store_Depth x7.1 n12 (fun x15 w13 =>
C_intern_Store_Weight x7.1 n12 (fun x16 w14 =>
allocK (.cells #[.int .i64 (0 : Int), .int .i64 (0 : Int), .int .i64 (0 : Int), .int .i64 (0 : Int), .int .u64 (0 : Int), .int .u64 (0 : Int)] t_api_Weight) w14 fun a17 w15 =>
stK w15 a17 (cells yapi_Weight x16.1) fun w16 =>
∃ x18 : yapi_Rule.T, At w16 a14 (cells yapi_Rule x18) ∧
C_intern_Store_Find x7.1 x18 (fun x19 w17 =>
JoinP (X := Bool × Unit) (fun R21 =>
drawK w17 fun w19 =>
nilIfcK x13.2 fun b22 =>
gd (!b22) (
R21 (true, ()) w19) (
nilIfcK x15.2 fun b23 =>
gd (!b23) (
R21 (true, ()) w19) (
nilIfcK x16.2 fun b24 =>
gd (!b24) (
R21 (true, ()) w19) (
∃ x25 : yapi_Rule.T, At w19 a14 (cells yapi_Rule x25) ∧
∃ x26 : Sl, At w19 (a8.add 1) (cells .slice x26) ∧
idxK x26.a x26.len x10.1 5 fun p27 =>
∃ x28 : yapi_Rule.T, At w19 p27 (cells yapi_Rule x28) ∧
testK P (do eqGuard .neq t_api_Rule (.tmp 88) (.tmp 93) (val yapi_Rule x25) (val yapi_Rule x28); binOp .neq t_api_Rule (val yapi_Rule x25) (val yapi_Rule x28)) fun b29 =>
gd b29 (
R21 (true, ()) w19) (
∃ x30 : Sl, At w19 (a8.add 3) (cells .slice x30) ∧
idxK x30.a x30.len x10.1 1 fun p31 =>
∃ x32 : Int, At w19 p31 (cells (.int .i64) x32) ∧
gd (x15.1 != x32) (
R21 (true, ()) w19) (
∃ x33 : Int, At w19 (a17.add 0) (cells (.int .i64) x33) ∧
∃ x34 : Sl, At w19 (a8.add 2) (cells .slice x34) ∧
idxK x34.a x34.len x10.1 1 fun p35 =>
∃ x36 : Int, At w19 p35 (cells (.int .i64) x36) ∧
gd (x33 != x36) (
R21 (true, ()) w19) (
gd (!x19.2) (
R21 (true, ()) w19) (
R21 (x19.1 != n12, ()) w19)))))))) (fun x20 w18 => ∀ _ : Env,
gd x20.1 (
K false w18) (
arith .i64 (x10.1 + (1 : Int)) fun n37 =>
next11 (n37, ()) w18))) w16) w13) w12) w9) (
C_intern_Store_Rule x7.1 (0 : Int) (fun x38 w20 =>
allocK (.cells #[.int .i64 (0 : Int), .int .u8 (0 : Int), .int .i64 (0 : Int), .int .i64 (0 : Int), .int .i64 (0 : Int)] t_api_Rule) w20 fun a39 w21 =>
stK w21 a39 (cells yapi_Rule x38.1) fun w22 =>
C_intern_Store_Depth x7.1 (0 : Int) (fun x40 w23 =>
C_intern_Store_Weight x7.1 (0 : Int) (fun x41 w24 =>
allocK (.cells #[.int .i64 (0 : Int), .int .i64 (0 : Int), .int .i64 (0 : Int), .int .i64 (0 : Int), .int .u64 (0 : Int), .int .u64 (0 : Int)] t_api_Weight) w24 fun a42 w25 =>
stK w25 a42 (cells yapi_Weight x41.1) fun w26 =>
JoinP (X := Bool × Unit) (fun R44 =>
C_base_Is x38.2 (1 : Int) (fun x45 w28 =>
gd (!x45) (
R44 (true, ()) w28) (
nilIfcK x40.2 fun b46 =>
gd (!b46) (
R44 (true, ()) w28) (
nilIfcK x41.2 fun b47 =>
gd (!b47) (
R44 (true, ()) w28) (
gd (x40.1 != (0 : Int)) (
R44 (true, ()) w28) (
∃ x48 : yapi_Weight.T, At w28 a42 (cells yapi_Weight x48) ∧
testK P (do eqGuard .neq t_api_Weight (.tmp 156) (.tmp 158) (val yapi_Weight x48) (.agg #[.int .i64 (0 : Int), .int .i64 (0 : Int), .int .i64 (0 : Int), .int .i64 (0 : Int), .int .u64 (0 : Int), .int .u64 (1 : Int)]); binOp .neq t_api_Weight (val yapi_Weight x48) (.agg #[.int .i64 (0 : Int), .int .i64 (0 : Int), .int .i64 (0 : Int), .int .i64 (0 : Int), .int .u64 (0 : Int), .int .u64 (1 : Int)])) fun b49 =>
R44 (b49, ()) w28))))) w26) (fun x43 w27 => ∀ _ : Env,
gd x43.1 (
K false w27) (
∃ x50 : yapi_Rule.T, At w27 a1 (cells yapi_Rule x50) ∧
C_intern_Store_Find x7.1 x50 (fun x51 w29 =>
∃ x52 : yevergreenref10_S.T, At w29 a8 (cells yevergreenref10_S x52) ∧
∃ x53 : yapi_Rule.T, At w29 a1 (cells yapi_Rule x53) ∧
C_ref10_Find x52 x53 (fun x54 w30 =>
JoinP (X := Bool × Unit) (fun R56 =>
gd (x51.1 != x54) (
R56 (true, ()) w30) (
R56 (!(x51.2 == (x54 != (0 : Int))), ()) w30)) (fun x55 w31 => ∀ _ : Env,
gd x55.1 (
K false w31) (
∃ x57 : yevergreenref10_S.T, At w31 a8 (cells yevergreenref10_S x57) ∧
C_ref10_Unknown x57 v1_other (fun x58 w32 =>
gd (!x58) (
K true w32) (
C_intern_Store_Rule x7.1 v1_other (fun x59 w33 =>
C_intern_Store_Depth x7.1 v1_other (fun x60 w34 =>
C_intern_Store_Weight x7.1 v1_other (fun x61 w35 =>
C_base_Is x59.2 (1 : Int) (fun x62 w36 =>
gd x62 (
C_base_Is x60.2 (1 : Int) (fun x63 w37 =>
gd x63 (
C_base_Is x61.2 (1 : Int) (fun x64 w38 =>
K x64 w38) w37) (
K false w37)) w36) (
K false w36)) w35) w34) w33) w32)) w31))) w29) w27))) w23) w22) w9))) w2))
theorem S_law10_InternAsks (v0_ops : Sl) (v1_other : Int) (v2_ask : yapi_Rule.T) (K : Bool → World → Prop) (w0 : World) (h : F_law10_InternAsks v0_ops v1_other v2_ask K w0) : C_law10_InternAsks v0_ops v1_other v2_ask K w0 := by
  have e : denFn P [(2, [(35, .bool)]), (1007, [(48, .int .i64)]), (15, [(123, .bool)]), (21, [(160, .bool)]), (25, [(178, .bool)])] Try.f8 #[.slice v0_ops.a v0_ops.len v0_ops.cap, .int .i64 v1_other, val yapi_Rule v2_ask] .bool K w0 = F_law10_InternAsks v0_ops v1_other v2_ask K w0 := by kernel_rfl
  exact fn_sound mixed (f := 8) Try.func8 (by kernel_rfl) (e.mpr h)

def F_law10_InternImports (v0_most : Int) (v1_ops : Sl) (v2_list : Sl) (K : Bool → World → Prop) (w0 : World) : Prop :=
JoinP (X := Bool × Unit) (fun R2 =>
C_law10_awake  (fun x3 w2 =>
gd (!x3) (
R2 (true, ()) w2) (
C_law10_few v1_ops (fun x4 w3 =>
gd (!x4) (
R2 (true, ()) w3) (
R2 (decide ((60 : Int) < (v2_list.len : Int)), ()) w3)) w2)) w0) (fun x1 w1 => ∀ _ : Env,
gd x1.1 (
C_law10_awake  (fun x5 w4 =>
K x5 w4) w1) (
C_law10_Built v0_most v1_ops (fun x6 w5 =>
allocK (.cells #[.int .i64 (0 : Int), .slice none 0 0, .slice none 0 0, .slice none 0 0] t_evergreenref10_S) w5 fun a7 w6 =>
stK w6 a7 (cells yevergreenref10_S x6.2.1) fun w7 =>
gd (!x6.2.2) (
K false w7) (
allocK (.cells #[] t_api_Rule) w7 fun a8 w8 =>
appK t_api_Rule 5 40 #[.int .i64 (0 : Int), .int .u8 (0 : Int), .int .i64 (0 : Int), .int .i64 (0 : Int), .int .i64 (0 : Int)] (some a8) 0 0 (.slice v2_list.a v2_list.len v2_list.cap) v2_list.len w8 fun s9 w9 =>
C_intern_Store_Import x6.1 s9 (fun x10 w10 =>
∃ x11 : yevergreenref10_S.T, At w10 a7 (cells yevergreenref10_S x11) ∧
C_ref10_Import x11 v2_list (fun x12 w11 =>
stK w11 a7 (cells yevergreenref10_S x12.1) fun w12 =>
JoinP (X := Bool × Unit) (fun R14 =>
drawK w12 fun w14 =>
gd (x10.1 != x12.2.1) (
R14 (true, ()) w14) (
C_base_Num x10.2 (fun x15 w15 =>
gd (x15 != x12.2.2) (
R14 (true, ()) w15) (
∃ x16 : Sl, At w15 (a7.add 1) (cells .slice x16) ∧
C_intern_Store_Len x6.1 (fun x17 w16 =>
At w16 (a7.add 1) (cells .slice x16) ∧
gd (x17 != (x16.len : Int)) (
R14 (true, ()) w16) (
C_ref10_Same s9 v2_list (fun x18 w17 =>
R14 (!x18, ()) w17) w16)) w15)) w14)) (fun x13 w13 => ∀ _ : Env,
gd x13.1 (
K false w13) (
∃ x19 : Sl, At w13 (a7.add 1) (cells .slice x19) ∧
LoopP (X := Int × Unit) ((0 : Int), ()) w13 fun next21 x20 w18 => ∀ _ : Env,
gd (decide (x20.1 < (x19.len : Int))) (
arith .i64 (x20.1 + (1 : Int)) fun n22 =>
C_intern_Store_Rule x6.1 n22 (fun x23 w19 =>
allocK (.cells #[.int .i64 (0 : Int), .int .u8 (0 : Int), .int .i64 (0 : Int), .int .i64 (0 : Int), .int .i64 (0 : Int)] t_api_Rule) w19 fun a24 w20 =>
stK w20 a24 (cells yapi_Rule x23.1) fun w21 =>
JoinP (X := Bool × Unit) (fun R26 =>
drawK w21 fun w23 =>
nilIfcK x23.2 fun b27 =>
gd (!b27) (
R26 (true, ()) w23) (
∃ x28 : yapi_Rule.T, At w23 a24 (cells yapi_Rule x28) ∧
∃ x29 : Sl, At w23 (a7.add 1) (cells .slice x29) ∧
idxK x29.a x29.len x20.1 5 fun p30 =>
∃ x31 : yapi_Rule.T, At w23 p30 (cells yapi_Rule x31) ∧
testK P (do eqGuard .neq t_api_Rule (.tmp 95) (.tmp 100) (val yapi_Rule x28) (val yapi_Rule x31); binOp .neq t_api_Rule (val yapi_Rule x28) (val yapi_Rule x31)) fun b32 =>
R26 (b32, ()) w23)) (fun x25 w22 => ∀ _ : Env,
gd x25.1 (
K false w22) (
arith .i64 (x20.1 + (1 : Int)) fun n33 =>
next21 (n33, ()) w22))) w18) (
K true w18)))) w10) w9)) w1))
theorem S_law10_InternImports (v0_most : Int) (v1_ops : Sl) (v2_list : Sl) (K : Bool → World → Prop) (w0 : World) (h : F_law10_InternImports v0_most v1_ops v2_list K w0) : C_law10_InternImports v0_most v1_ops v2_list K w0 := by
  have e : denFn P [(2, [(29, .bool)]), (10, [(78, .bool)]), (1012, [(82, .int .i64)]), (16, [(102, .bool)])] Try.f9 #[.int .i64 v0_most, .slice v1_ops.a v1_ops.len v1_ops.cap, .slice v2_list.a v2_list.len v2_list.cap] .bool K w0 = F_law10_InternImports v0_most v1_ops v2_list K w0 := by kernel_rfl
  exact fn_sound mixed (f := 9) Try.func9 (by kernel_rfl) (e.mpr h)

def F_law10_InternExports (v0_ops : Sl) (v1_id : Int) (K : Bool → World → Prop) (w0 : World) : Prop :=
JoinP (X := Bool × Unit) (fun R2 =>
C_law10_awake  (fun x3 w2 =>
gd (!x3) (
R2 (true, ()) w2) (
C_law10_few v0_ops (fun x4 w3 =>
R2 (!x4, ()) w3) w2)) w0) (fun x1 w1 => ∀ _ : Env,
gd x1.1 (
C_law10_awake  (fun x5 w4 =>
K x5 w4) w1) (
C_law10_Built (100 : Int) v0_ops (fun x6 w5 =>
allocK (.cells #[.int .i64 (0 : Int), .slice none 0 0, .slice none 0 0, .slice none 0 0] t_evergreenref10_S) w5 fun a7 w6 =>
stK w6 a7 (cells yevergreenref10_S x6.2.1) fun w7 =>
gd (!x6.2.2) (
K false w7) (
LoopP (X := Int × Unit) ((0 : Int), ()) w7 fun next9 x8 w8 => ∀ _ : Env,
∃ x10 : Sl, At w8 (a7.add 1) (cells .slice x10) ∧
gd (decide (x8.1 ≤ (x10.len : Int))) (
C_intern_Store_Export x6.1 x8.1 (fun x11 w9 =>
JoinP (X := Bool × Unit) (fun R13 =>
nilIfcK x11.2 fun b14 =>
gd (!b14) (
R13 (true, ()) w9) (
∃ x15 : yevergreenref10_S.T, At w9 a7 (cells yevergreenref10_S x15) ∧
C_ref10_Export x15 x8.1 (fun x16 w11 =>
C_ref10_Same x11.1 x16 (fun x17 w12 =>
R13 (!x17, ()) w12) w11) w9)) (fun x12 w10 => ∀ _ : Env,
gd x12.1 (
K false w10) (
arith .i64 (x8.1 + (1 : Int)) fun n18 =>
next9 (n18, ()) w10))) w8) (
C_intern_Store_Export x6.1 v1_id (fun x19 w13 =>
∃ x20 : yevergreenref10_S.T, At w13 a7 (cells yevergreenref10_S x20) ∧
C_ref10_Unknown x20 v1_id (fun x21 w14 =>
gd (!x21) (
K true w14) (
C_base_Is x19.2 (1 : Int) (fun x22 w15 =>
gd x22 (
K ((x19.1.len : Int) == (0 : Int)) w15) (
K false w15)) w14)) w13) w8))) w1))
theorem S_law10_InternExports (v0_ops : Sl) (v1_id : Int) (K : Bool → World → Prop) (w0 : World) (h : F_law10_InternExports v0_ops v1_id K w0) : C_law10_InternExports v0_ops v1_id K w0 := by
  have e : denFn P [(2, [(19, .bool)]), (1007, [(8, .int .i64)]), (11, [(51, .bool)])] Try.f10 #[.slice v0_ops.a v0_ops.len v0_ops.cap, .int .i64 v1_id] .bool K w0 = F_law10_InternExports v0_ops v1_id K w0 := by kernel_rfl
  exact fn_sound mixed (f := 10) Try.func10 (by kernel_rfl) (e.mpr h)

def F_law10_InternMoves (v0_ops : Sl) (K : Bool → World → Prop) (w0 : World) : Prop :=
JoinP (X := Bool × Unit) (fun R2 =>
C_law10_awake  (fun x3 w2 =>
gd (!x3) (
R2 (true, ()) w2) (
C_law10_few v0_ops (fun x4 w3 =>
R2 (!x4, ()) w3) w2)) w0) (fun x1 w1 => ∀ _ : Env,
gd x1.1 (
C_law10_awake  (fun x5 w4 =>
K x5 w4) w1) (
C_intern_New (100 : Int) (fun x6 w5 =>
C_intern_New (100 : Int) (fun x7 w6 =>
JoinP (X := Bool × Unit) (fun R9 =>
gd x6.isNone (
R9 (true, ()) w6) (
R9 (x7.isNone, ()) w6)) (fun x8 w7 => ∀ _ : Env,
gd x8.1 (
K false w7) (
LoopP (X := Int × Unit) ((0 : Int), ()) w7 fun next11 x10 w8 => ∀ _ : Env,
gd (decide (x10.1 < (v0_ops.len : Int))) (
idxK v0_ops.a v0_ops.len x10.1 5 fun p12 =>
∃ x13 : yevergreenlaw10_Op.T, At w8 p12 (cells yevergreenlaw10_Op x13) ∧
allocK (.cells #[.int .u8 (0 : Int), .int .u8 (0 : Int), .int .i64 (0 : Int), .int .i64 (0 : Int), .int .i64 (0 : Int)] t_evergreenlaw10_Op) w8 fun a14 w9 =>
stK w9 a14 (cells yevergreenlaw10_Op x13) fun w10 =>
∃ x15 : yevergreenlaw10_Op.T, At w10 a14 (cells yevergreenlaw10_Op x15) ∧
C_law10_do x6 ((0 : Int), (⟨none, 0, 0⟩, (⟨none, 0, 0⟩, ⟨none, 0, 0⟩))) x15 (fun x16 w11 =>
arith .i64 (x10.1 + (1 : Int)) fun n17 =>
next11 (n17, ()) w11) w10) (
C_intern_Store_Len x6 (fun x18 w12 =>
C_intern_Store_Export x6 x18 (fun x19 w13 =>
nilIfcK x19.2 fun b20 =>
gd (!b20) (
K false w13) (
C_intern_Store_Import x6 x19.1 (fun x21 w14 =>
C_intern_Store_Import x7 x19.1 (fun x22 w15 =>
C_intern_Store_Export x7 x22.1 (fun x23 w16 =>
nilIfcK x21.2 fun b24 =>
gd b24 (
nilIfcK x22.2 fun b25 =>
gd b25 (
nilIfcK x23.2 fun b26 =>
gd b26 (
gd (x21.1 == x18) (
C_intern_Store_Len x6 (fun x27 w17 =>
gd (x27 == x18) (
C_intern_Store_Len x7 (fun x28 w18 =>
gd (x28 == (x19.1.len : Int)) (
gd (x22.1 == (x19.1.len : Int)) (
C_ref10_Same x19.1 x23.1 (fun x29 w19 =>
K x29 w19) w18) (
K false w18)) (
K false w18)) w17) (
K false w17)) w16) (
K false w16)) (
K false w16)) (
K false w16)) (
K false w16)) w15) w14) w13)) w12) w8)))) w5) w1))
theorem S_law10_InternMoves (v0_ops : Sl) (K : Bool → World → Prop) (w0 : World) (h : F_law10_InternMoves v0_ops K w0) : C_law10_InternMoves v0_ops K w0 := by
  have e : denFn P [(2, [(22, .bool)]), (5, [(31, .bool)]), (1007, [(34, .int .i64)])] Try.f11 #[.slice v0_ops.a v0_ops.len v0_ops.cap] .bool K w0 = F_law10_InternMoves v0_ops K w0 := by kernel_rfl
  exact fn_sound mixed (f := 11) Try.func11 (by kernel_rfl) (e.mpr h)

def F_law10_InternNil (v0_b : Int) (v1_l : Int) (v2_k : Int) (v3_list : Sl) (K : Bool → World → Prop) (w0 : World) : Prop :=
C_law10_awake  (fun x1 w1 =>
gd (!x1) (
K false w1) (
C_intern_Store_Letter none v0_b (fun x2 w2 =>
C_intern_Store_Pair none v1_l v1_l (fun x3 w3 =>
C_intern_Store_Power none v1_l v2_k (fun x4 w4 =>
C_intern_Store_Rule none v1_l (fun x5 w5 =>
allocK (.cells #[.int .i64 (0 : Int), .int .u8 (0 : Int), .int .i64 (0 : Int), .int .i64 (0 : Int), .int .i64 (0 : Int)] t_api_Rule) w5 fun a6 w6 =>
stK w6 a6 (cells yapi_Rule x5.1) fun w7 =>
C_intern_Store_Weight none v1_l (fun x7 w8 =>
allocK (.cells #[.int .i64 (0 : Int), .int .i64 (0 : Int), .int .i64 (0 : Int), .int .i64 (0 : Int), .int .u64 (0 : Int), .int .u64 (0 : Int)] t_api_Weight) w8 fun a8 w9 =>
stK w9 a8 (cells yapi_Weight x7.1) fun w10 =>
C_intern_Store_Depth none v1_l (fun x9 w11 =>
C_intern_Store_Import none v3_list (fun x10 w12 =>
C_intern_Store_Export none v1_l (fun x11 w13 =>
C_intern_Store_Find none ((1 : Int), (v0_b, ((0 : Int), ((0 : Int), (0 : Int))))) (fun x12 w14 =>
C_base_Num x2.2 (fun x13 w15 =>
C_base_Num x3.2 (fun x14 w16 =>
C_base_Num x4.2 (fun x15 w17 =>
C_base_Num x5.2 (fun x16 w18 =>
C_base_Num x7.2 (fun x17 w19 =>
C_base_Num x9.2 (fun x18 w20 =>
C_base_Num x10.2 (fun x19 w21 =>
C_base_Num x11.2 (fun x20 w22 =>
LoopP (X := Int × Unit) ((0 : Int), ()) w22 fun next22 x21 w23 => ∀ _ : Env,
gd (decide (x21.1 < (8 : Int))) (
0 ≤ x21.1 ∧ x21.1 < 8 ∧ ∃ y23 : Int, partV P t_int #[.int .i64 x13, .int .i64 x14, .int .i64 x15, .int .i64 x16, .int .i64 x17, .int .i64 x18, .int .i64 x19, .int .i64 x20] (x21.1.toNat * 1) = some (val (.int .i64) y23) ∧
gd (y23 != (5 : Int)) (
K false w23) (
arith .i64 (x21.1 + (1 : Int)) fun n24 =>
next22 (n24, ()) w23)) (
gd (!x12.2) (
C_intern_Store_Len none (fun x25 w24 =>
gd (x25 == (0 : Int)) (
C_intern_Store_Room none (fun x26 w25 =>
K (x26 == (0 : Int)) w25) w24) (
K false w24)) w23) (
K false w23))) w21) w20) w19) w18) w17) w16) w15) w14) w13) w12) w11) w10) w7) w4) w3) w2) w1)) w0
theorem S_law10_InternNil (v0_b : Int) (v1_l : Int) (v2_k : Int) (v3_list : Sl) (K : Bool → World → Prop) (w0 : World) (h : F_law10_InternNil v0_b v1_l v2_k v3_list K w0) : C_law10_InternNil v0_b v1_l v2_k v3_list K w0 := by
  have e : denFn P [(1015, [(108, .int .i64)])] Try.f12 #[.int .u8 v0_b, .int .i64 v1_l, .int .i64 v2_k, .slice v3_list.a v3_list.len v3_list.cap] .bool K w0 = F_law10_InternNil v0_b v1_l v2_k v3_list K w0 := by kernel_rfl
  exact fn_sound mixed (f := 12) Try.func12 (by kernel_rfl) (e.mpr h)

def F_law10_awake  (K : Bool → World → Prop) (w0 : World) : Prop :=
C_intern_New (4 : Int) (fun x1 w1 =>
gd x1.isNone (
K false w1) (
C_intern_Store_Letter x1 (97 : Int) (fun x2 w2 =>
C_intern_Store_Letter x1 (98 : Int) (fun x3 w3 =>
C_intern_Store_Pair x1 x2.1 x3.1 (fun x4 w4 =>
C_intern_Store_Power x1 x4.1 (5 : Int) (fun x5 w5 =>
C_intern_Store_Power x1 x4.1 (6 : Int) (fun x6 w6 =>
gd (x2.1 == (1 : Int)) (
gd (x3.1 == (2 : Int)) (
gd (x4.1 == (3 : Int)) (
gd (x5.1 == (4 : Int)) (
nilIfcK x5.2 fun b7 =>
gd b7 (
C_base_Is x6.2 (3 : Int) (fun x8 w7 =>
gd x8 (
C_intern_Store_Len x1 (fun x9 w8 =>
gd (x9 == (4 : Int)) (
C_intern_Store_Room x1 (fun x10 w9 =>
K (x10 == (0 : Int)) w9) w8) (
K false w8)) w7) (
K false w7)) w6) (
K false w6)) (
K false w6)) (
K false w6)) (
K false w6)) (
K false w6)) w5) w4) w3) w2) w1)) w0
theorem S_law10_awake  (K : Bool → World → Prop) (w0 : World) (h : F_law10_awake  K w0) : C_law10_awake  K w0 := by
  have e : denFn P [] Try.f13 #[] .bool K w0 = F_law10_awake  K w0 := by kernel_rfl
  exact fn_sound mixed (f := 13) Try.func13 (by kernel_rfl) (e.mpr h)

def F_law10_few (v0_ops : Sl) (K : Bool → World → Prop) (w0 : World) : Prop :=
K (decide ((v0_ops.len : Int) ≤ (60 : Int))) w0
theorem S_law10_few (v0_ops : Sl) (K : Bool → World → Prop) (w0 : World) (h : F_law10_few v0_ops K w0) : C_law10_few v0_ops K w0 := by
  have e : denFn P [] Try.f14 #[.slice v0_ops.a v0_ops.len v0_ops.cap] .bool K w0 = F_law10_few v0_ops K w0 := by kernel_rfl
  exact fn_sound mixed (f := 14) Try.func14 (by kernel_rfl) (e.mpr h)

def F_law10_Built (v0_most : Int) (v1_ops : Sl) (K : ((Option Addr) × yevergreenref10_S.T × Bool) → World → Prop) (w0 : World) : Prop :=
allocK (.cells #[.int .i64 (0 : Int), .slice none 0 0, .slice none 0 0, .slice none 0 0] t_evergreenref10_S) w0 fun a1 w1 =>
C_intern_New v0_most (fun x2 w2 =>
C_ref10_New v0_most (fun x3 w3 =>
allocK (.cells #[.int .i64 (0 : Int), .slice none 0 0, .slice none 0 0, .slice none 0 0] t_evergreenref10_S) w3 fun a4 w4 =>
stK w4 a4 (cells yevergreenref10_S x3) fun w5 =>
JoinP (X := Bool × Unit) (fun R6 =>
drawK w5 fun w7 =>
gd x2.isNone (
R6 (true, ()) w7) (
C_intern_Store_Len x2 (fun x7 w8 =>
gd (x7 != (0 : Int)) (
R6 (true, ()) w8) (
∃ x8 : Int, At w8 (a4.add 0) (cells (.int .i64) x8) ∧
C_intern_Store_Room x2 (fun x9 w9 =>
At w9 (a4.add 0) (cells (.int .i64) x8) ∧
R6 (x9 != x8, ()) w9) w8)) w7)) (fun x5 w6 => ∀ _ : Env,
gd x5.1 (
drawK w6 fun w10 =>
∃ x10 : yevergreenref10_S.T, At w10 a4 (cells yevergreenref10_S x10) ∧
stK w10 a1 (cells yevergreenref10_S x10) fun w11 =>
∃ x11 : yevergreenref10_S.T, At w11 a1 (cells yevergreenref10_S x11) ∧
K (none, x11, false) w11) (
LoopP (X := Int × Unit) ((0 : Int), ()) w6 fun next13 x12 w12 => ∀ _ : Env,
gd (decide (x12.1 < (v1_ops.len : Int))) (
idxK v1_ops.a v1_ops.len x12.1 5 fun p14 =>
∃ x15 : yevergreenlaw10_Op.T, At w12 p14 (cells yevergreenlaw10_Op x15) ∧
allocK (.cells #[.int .u8 (0 : Int), .int .u8 (0 : Int), .int .i64 (0 : Int), .int .i64 (0 : Int), .int .i64 (0 : Int)] t_evergreenlaw10_Op) w12 fun a16 w13 =>
stK w13 a16 (cells yevergreenlaw10_Op x15) fun w14 =>
∃ x17 : yevergreenref10_S.T, At w14 a4 (cells yevergreenref10_S x17) ∧
∃ x18 : yevergreenlaw10_Op.T, At w14 a16 (cells yevergreenlaw10_Op x18) ∧
C_law10_do x2 x17 x18 (fun x19 w15 =>
stK w15 a4 (cells yevergreenref10_S x19.1) fun w16 =>
gd (!x19.2) (
drawK w16 fun w17 =>
∃ x20 : yevergreenref10_S.T, At w17 a4 (cells yevergreenref10_S x20) ∧
stK w17 a1 (cells yevergreenref10_S x20) fun w18 =>
∃ x21 : yevergreenref10_S.T, At w18 a1 (cells yevergreenref10_S x21) ∧
K (x2, x21, false) w18) (
arith .i64 (x12.1 + (1 : Int)) fun n22 =>
next13 (n22, ()) w16)) w14) (
drawK w12 fun w19 =>
∃ x23 : yevergreenref10_S.T, At w19 a4 (cells yevergreenref10_S x23) ∧
stK w19 a1 (cells yevergreenref10_S x23) fun w20 =>
∃ x24 : yevergreenref10_S.T, At w20 a1 (cells yevergreenref10_S x24) ∧
K (x2, x24, true) w20)))) w2) w1
theorem S_law10_Built (v0_most : Int) (v1_ops : Sl) (K : ((Option Addr) × yevergreenref10_S.T × Bool) → World → Prop) (w0 : World) (h : F_law10_Built v0_most v1_ops K w0) : C_law10_Built v0_most v1_ops K w0 := by
  have e : denFn P [(3, [(29, .bool)]), (1005, [(33, .int .i64)])] Try.f15 #[.int .i64 v0_most, .slice v1_ops.a v1_ops.len v1_ops.cap] (.tup (.pair .ptr (.pair yevergreenref10_S .bool))) K w0 = F_law10_Built v0_most v1_ops K w0 := by kernel_rfl
  exact fn_sound mixed (f := 15) Try.func15 (by kernel_rfl) (e.mpr h)

def F_intern_New (v0_most : Int) (K : (Option Addr) → World → Prop) (w0 : World) : Prop :=
C_length_Clip v0_most (0 : Int) (1048576 : Int) (fun x1 w1 =>
allocK (.map #[] 0) w1 fun a2 w2 =>
allocK (.cells ([.int .i64 x1, .slice none 0 0, .map (some a2.block)]).toArray t_intern_Store) w2 fun a3 w3 =>
K (some a3) w3) w0
theorem S_intern_New (v0_most : Int) (K : (Option Addr) → World → Prop) (w0 : World) (h : F_intern_New v0_most K w0) : C_intern_New v0_most K w0 := by
  have e : denFn P [] Try.f16 #[.int .i64 v0_most] .ptr K w0 = F_intern_New v0_most K w0 := by kernel_rfl
  exact fn_sound mixed (f := 16) Try.func16 (by kernel_rfl) (e.mpr h)

def F_law10_InternTwice_1 (v0_o : yevergreenlaw10_Op.T) (v1 : Addr) (K : (Int × Value) → World → Prop) (w0 : World) : Prop :=
allocK (.cells (cells yevergreenlaw10_Op v0_o).toArray t_evergreenlaw10_Op) w0 fun a1 w1 =>
∃ x2 : Int, At w1 (a1.add 0) (cells (.int .u8) x2) ∧
(3 : Int) ≠ 0 ∧
letZ (Int.tmod x2 (3 : Int)) fun n3 =>
gd (n3 == (0 : Int)) (
∃ x4 : Option Addr, At w1 v1 (cells .ptr x4) ∧
∃ x5 : Int, At w1 (a1.add 1) (cells (.int .u8) x5) ∧
C_intern_Store_Letter x4 x5 (fun x6 w2 =>
K (x6.1, x6.2) w2) w1) (
gd (n3 == (1 : Int)) (
∃ x7 : Option Addr, At w1 v1 (cells .ptr x7) ∧
∃ x8 : Int, At w1 (a1.add 2) (cells (.int .i64) x8) ∧
∃ x9 : Int, At w1 (a1.add 3) (cells (.int .i64) x9) ∧
C_intern_Store_Pair x7 x8 x9 (fun x10 w3 =>
K (x10.1, x10.2) w3) w1) (
∃ x11 : Option Addr, At w1 v1 (cells .ptr x11) ∧
∃ x12 : Int, At w1 (a1.add 2) (cells (.int .i64) x12) ∧
∃ x13 : Int, At w1 (a1.add 4) (cells (.int .i64) x13) ∧
C_intern_Store_Power x11 x12 x13 (fun x14 w4 =>
K (x14.1, x14.2) w4) w1))
theorem S_law10_InternTwice_1 (v0_o : yevergreenlaw10_Op.T) (v1 : Addr) (K : (Int × Value) → World → Prop) (w0 : World) (h : F_law10_InternTwice_1 v0_o v1 K w0) : C_law10_InternTwice_1 v0_o v1 K w0 := by
  have e : denFn P [] Try.f17 #[val yevergreenlaw10_Op v0_o, .pointer (some v1)] (.tup (.pair (.int .i64) .iface)) K w0 = F_law10_InternTwice_1 v0_o v1 K w0 := by kernel_rfl
  exact fn_sound mixed (f := 17) Try.func17 (by kernel_rfl) (e.mpr h)

end Go.Proofs.Ytddhndabnbckmaa
