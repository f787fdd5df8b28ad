/- Texts that belong together, joined: Text5. No conditions. -/
import Derived.Test.YtcmncfglcjcmhaaGreatX0
/- The typed texts of the functions, printed by a program; each proved to imply the call. -/
set_option linter.unusedVariables false
set_option maxRecDepth 100000
set_option maxHeartbeats 4000000
namespace Go.Proofs.YtcmncfglcjcmhaaGreat
open Go.Den

def F_access_Weight (v0_s : Option Addr) (v1_id : Int) (v2_from : Int) (v3_n : Int) (K : (yapi_Weight.T × Value) → World → Prop) (w0 : World) : Prop :=
allocK (.cells ([.pointer v0_s]).toArray t_pt_intern_Store) w0 fun a1 w1 =>
allocK (.cells #[.int .i64 (0 : Int), .int .i64 (0 : Int), .int .i64 (0 : Int), .int .i64 (0 : Int), .int .u64 (0 : Int), .int .u64 (0 : Int)] t_api_Weight) w1 fun a2 w2 =>
∃ x3 : Option Addr, At w2 a1 (cells .ptr x3) ∧
C_intern_Store_Weight x3 v1_id (fun x4 w3 =>
allocK (.cells #[.int .i64 (0 : Int), .int .i64 (0 : Int), .int .i64 (0 : Int), .int .i64 (0 : Int), .int .u64 (0 : Int), .int .u64 (0 : Int)] t_api_Weight) w3 fun a5 w4 =>
stK w4 a5 (cells yapi_Weight x4.1) fun w5 =>
nilIfcK x4.2 fun b6 =>
gd (!b6) (
stK w5 a2 ([.int .i64 (0 : Int), .int .i64 (0 : Int), .int .i64 (0 : Int), .int .i64 (0 : Int), .int .u64 (0 : Int), .int .u64 (0 : Int)]) fun w6 =>
∃ x7 : yapi_Weight.T, At w6 a2 (cells yapi_Weight x7) ∧
K (x7, x4.2) w6) (
∃ x8 : Int, At w5 (a5.add 0) (cells (.int .i64) x8) ∧
C_length_Range v2_from v3_n x8 (fun x9 w7 =>
nilIfcK x9 fun b10 =>
gd (!b10) (
stK w7 a2 ([.int .i64 (0 : Int), .int .i64 (0 : Int), .int .i64 (0 : Int), .int .i64 (0 : Int), .int .u64 (0 : Int), .int .u64 (0 : Int)]) fun w8 =>
∃ x11 : yapi_Weight.T, At w8 a2 (cells yapi_Weight x11) ∧
K (x11, x9) w8) (
C_weight_Unit  (fun x12 w9 =>
allocK (.cells #[.int .i64 (0 : Int), .int .i64 (0 : Int), .int .i64 (0 : Int), .int .i64 (0 : Int), .int .u64 (0 : Int), .int .u64 (0 : Int)] t_api_Weight) w9 fun a13 w10 =>
stK w10 a13 (cells yapi_Weight x12) fun w11 =>
∃ x14 : Option Addr, At w11 a1 (cells .ptr x14) ∧
C_access_parts x14 v1_id v2_from v3_n (.func (.func 53) #[] #[.pointer (some a1), .pointer (some a13)]) (fun x15 w12 =>
nilIfcK x15 fun b16 =>
gd (!b16) (
stK w12 a2 ([.int .i64 (0 : Int), .int .i64 (0 : Int), .int .i64 (0 : Int), .int .i64 (0 : Int), .int .u64 (0 : Int), .int .u64 (0 : Int)]) fun w13 =>
∃ x17 : yapi_Weight.T, At w13 a2 (cells yapi_Weight x17) ∧
K (x17, x15) w13) (
∃ x18 : yapi_Weight.T, At w12 a13 (cells yapi_Weight x18) ∧
stK w12 a2 (cells yapi_Weight x18) fun w14 =>
∃ x19 : yapi_Weight.T, At w14 a2 (cells yapi_Weight x19) ∧
K (x19, .nilIface) w14)) w11) w7)) w5)) w2
theorem S_access_Weight (v0_s : Option Addr) (v1_id : Int) (v2_from : Int) (v3_n : Int) (K : (yapi_Weight.T × Value) → World → Prop) (w0 : World) (h : F_access_Weight v0_s v1_id v2_from v3_n K w0) : C_access_Weight v0_s v1_id v2_from v3_n K w0 := by
  have e : denFn P [] Tryz.f23 #[.pointer v0_s, .int .i64 v1_id, .int .i64 v2_from, .int .i64 v3_n] (.tup (.pair yapi_Weight .iface)) K w0 = F_access_Weight v0_s v1_id v2_from v3_n K w0 := by kernel_rfl
  exact fn_sound mixed (f := 23) Tryz.func23 (by kernel_rfl) (e.mpr h)

def F_access_Count (v0_s : Option Addr) (v1_id : Int) (v2_set : yapi_Letters.T) (v3_from : Int) (v4_n : Int) (K : (Int × Value) → World → Prop) (w0 : World) : Prop :=
allocK (.cells (cells yapi_Letters v2_set).toArray t_api_Letters) w0 fun a1 w1 =>
C_intern_Store_Weight v0_s v1_id (fun x2 w2 =>
allocK (.cells #[.int .i64 (0 : Int), .int .i64 (0 : Int), .int .i64 (0 : Int), .int .i64 (0 : Int), .int .u64 (0 : Int), .int .u64 (0 : Int)] t_api_Weight) w2 fun a3 w3 =>
stK w3 a3 (cells yapi_Weight x2.1) fun w4 =>
nilIfcK x2.2 fun b4 =>
gd (!b4) (
K ((0 : Int), x2.2) w4) (
∃ x5 : Int, At w4 (a3.add 0) (cells (.int .i64) x5) ∧
C_length_Range v3_from v4_n x5 (fun x6 w5 =>
nilIfcK x6 fun b7 =>
gd (!b7) (
K ((0 : Int), x6) w5) (
C_intern_Store_Export v0_s v1_id (fun x8 w6 =>
nilIfcK x8.2 fun b9 =>
gd (!b9) (
K ((0 : Int), x8.2) w6) (
arith .i64 ((x8.1.len : Int) + (1 : Int)) fun n10 =>
0 ≤ n10 ∧ n10 ≤ n10 ∧ n10 ≤ 9223372036854775807 ∧ 8 * n10 ≤ 281474976710656 ∧
allocK (.cells (zrow #[.int .i64 (0 : Int)] (n10.toNat * 1)) t_int) w6 fun a11 w7 =>
arith .i64 ((x8.1.len : Int) + (1 : Int)) fun n12 =>
0 ≤ n12 ∧ n12 ≤ n12 ∧ n12 ≤ 9223372036854775807 ∧ 8 * n12 ≤ 281474976710656 ∧
allocK (.cells (zrow #[.int .i64 (0 : Int)] (n12.toNat * 1)) t_int) w7 fun a13 w8 =>
LoopP (X := Int × Unit) ((0 : Int), ()) w8 fun next15 x14 w9 => ∀ _ : Env,
gd (decide (x14.1 < (x8.1.len : Int))) (
JoinP (X := Unit) (fun R17 =>
idxK x8.1.a x8.1.len x14.1 5 fun p18 =>
∃ x19 : yapi_Rule.T, At w9 p18 (cells yapi_Rule x19) ∧
allocK (.cells #[.int .i64 (0 : Int), .int .u8 (0 : Int), .int .i64 (0 : Int), .int .i64 (0 : Int), .int .i64 (0 : Int)] t_api_Rule) w9 fun a20 w11 =>
stK w11 a20 (cells yapi_Rule x19) fun w12 =>
drawK w12 fun w13 =>
arith .i64 (x14.1 + (1 : Int)) fun n21 =>
∃ x22 : Int, At w13 (a20.add 2) (cells (.int .i64) x22) ∧
∃ x23 : Int, At w13 (a20.add 0) (cells (.int .i64) x23) ∧
gd (x23 == (1 : Int)) (
idxK (some a11) n10.toNat n21 1 fun p24 =>
stK w13 p24 ([.int .i64 (1 : Int)]) fun w14 =>
∃ x25 : yapi_Letters.T, At w14 a1 (cells yapi_Letters x25) ∧
∃ x26 : Int, At w14 (a20.add 1) (cells (.int .u8) x26) ∧
C_letterset_Has x25 x26 (fun x27 w15 =>
gd x27 (
idxK (some a13) n12.toNat n21 1 fun p28 =>
stK w15 p28 ([.int .i64 (1 : Int)]) fun w16 =>
R17 () w16) (
R17 () w15)) w14) (
gd (x23 == (2 : Int)) (
drawK w13 fun w17 =>
idxK (some a11) n10.toNat x22 1 fun p29 =>
∃ x30 : Int, At w17 p29 (cells (.int .i64) x30) ∧
∃ x31 : Int, At w17 (a20.add 3) (cells (.int .i64) x31) ∧
idxK (some a11) n10.toNat x31 1 fun p32 =>
∃ x33 : Int, At w17 p32 (cells (.int .i64) x33) ∧
arith .i64 (x30 + x33) fun n34 =>
idxK (some a11) n10.toNat n21 1 fun p35 =>
stK w17 p35 ([.int .i64 n34]) fun w18 =>
drawK w18 fun w19 =>
idxK (some a13) n12.toNat x22 1 fun p36 =>
∃ x37 : Int, At w19 p36 (cells (.int .i64) x37) ∧
∃ x38 : Int, At w19 (a20.add 3) (cells (.int .i64) x38) ∧
idxK (some a13) n12.toNat x38 1 fun p39 =>
∃ x40 : Int, At w19 p39 (cells (.int .i64) x40) ∧
arith .i64 (x37 + x40) fun n41 =>
idxK (some a13) n12.toNat n21 1 fun p42 =>
stK w19 p42 ([.int .i64 n41]) fun w20 =>
R17 () w20) (
drawK w13 fun w21 =>
idxK (some a11) n10.toNat x22 1 fun p43 =>
∃ x44 : Int, At w21 p43 (cells (.int .i64) x44) ∧
∃ x45 : Int, At w21 (a20.add 4) (cells (.int .i64) x45) ∧
arith .i64 (x44 * x45) fun n46 =>
idxK (some a11) n10.toNat n21 1 fun p47 =>
stK w21 p47 ([.int .i64 n46]) fun w22 =>
drawK w22 fun w23 =>
idxK (some a13) n12.toNat x22 1 fun p48 =>
∃ x49 : Int, At w23 p48 (cells (.int .i64) x49) ∧
∃ x50 : Int, At w23 (a20.add 4) (cells (.int .i64) x50) ∧
arith .i64 (x49 * x50) fun n51 =>
idxK (some a13) n12.toNat n21 1 fun p52 =>
stK w23 p52 ([.int .i64 n51]) fun w24 =>
R17 () w24))) (fun x16 w10 => ∀ _ : Env,
arith .i64 (x14.1 + (1 : Int)) fun n53 =>
next15 (n53, ()) w10)) (
arith .i64 (v3_from + v4_n) fun n54 =>
C_access_before x8.1 (⟨some a11, n10.toNat, n10.toNat⟩) (⟨some a13, n12.toNat, n12.toNat⟩) n54 (fun x55 w25 =>
C_access_before x8.1 (⟨some a11, n10.toNat, n10.toNat⟩) (⟨some a13, n12.toNat, n12.toNat⟩) v3_from (fun x56 w26 =>
arith .i64 (x55 - x56) fun n57 =>
K (n57, .nilIface) w26) w25) w9))) w5)) w4)) w1
theorem S_access_Count (v0_s : Option Addr) (v1_id : Int) (v2_set : yapi_Letters.T) (v3_from : Int) (v4_n : Int) (K : (Int × Value) → World → Prop) (w0 : World) (h : F_access_Count v0_s v1_id v2_set v3_from v4_n K w0) : C_access_Count v0_s v1_id v2_set v3_from v4_n K w0 := by
  have e : denFn P [(1013, [(58, .int .i64)]), (26, [])] Tryz.f24 #[.pointer v0_s, .int .i64 v1_id, val yapi_Letters v2_set, .int .i64 v3_from, .int .i64 v4_n] (.tup (.pair (.int .i64) .iface)) K w0 = F_access_Count v0_s v1_id v2_set v3_from v4_n K w0 := by kernel_rfl
  exact fn_sound mixed (f := 24) Tryz.func24 (by kernel_rfl) (e.mpr h)

def F_weight_Of (v0_text : Sl) (K : yapi_Weight.T → World → Prop) (w0 : World) : Prop :=
allocK (.cells #[.int .i64 (0 : Int), .int .i64 (0 : Int), .int .i64 (0 : Int), .int .i64 (0 : Int), .int .u64 (0 : Int), .int .u64 (0 : Int)] t_api_Weight) w0 fun a1 w1 =>
C_digest_Of v0_text (fun x2 w2 =>
allocK (.cells #[.int .i64 (0 : Int), .int .i64 (0 : Int), .int .i64 (0 : Int), .int .i64 (0 : Int), .int .u64 (0 : Int), .int .u64 (0 : Int)] t_api_Weight) w2 fun a3 w3 =>
stK w3 a3 ([.int .i64 (v0_text.len : Int), .int .i64 (0 : Int), .int .i64 (v0_text.len : Int), .int .i64 (v0_text.len : Int), .int .u64 x2.1, .int .u64 x2.2]) fun w4 =>
LoopP (X := Int × Unit) ((0 : Int), ()) w4 fun next5 x4 w5 => ∀ _ : Env,
gd (decide (x4.1 < (v0_text.len : Int))) (
JoinP (X := Unit) (fun R7 =>
idxK v0_text.a v0_text.len x4.1 1 fun p8 =>
∃ x9 : Int, At w5 p8 (cells (.int .u8) x9) ∧
gd (x9 != (10 : Int)) (
R7 () w5) (
JoinP (X := Unit) (fun R11 =>
∃ x12 : Int, At w5 (a3.add 1) (cells (.int .i64) x12) ∧
gd (x12 == (0 : Int)) (
stK w5 (a3.add 2) ([.int .i64 x4.1]) fun w8 =>
R11 () w8) (
R11 () w5)) (fun x10 w7 => ∀ _ : Env,
∃ x13 : Int, At w7 (a3.add 1) (cells (.int .i64) x13) ∧
arith .i64 (x13 + (1 : Int)) fun n14 =>
stK w7 (a3.add 1) ([.int .i64 n14]) fun w9 =>
arith .i64 ((v0_text.len : Int) - (1 : Int)) fun n15 =>
arith .i64 (n15 - x4.1) fun n16 =>
stK w9 (a3.add 3) ([.int .i64 n16]) fun w10 =>
R7 () w10))) (fun x6 w6 => ∀ _ : Env,
arith .i64 (x4.1 + (1 : Int)) fun n17 =>
next5 (n17, ()) w6)) (
∃ x18 : yapi_Weight.T, At w5 a3 (cells yapi_Weight x18) ∧
stK w5 a1 (cells yapi_Weight x18) fun w11 =>
∃ x19 : yapi_Weight.T, At w11 a1 (cells yapi_Weight x19) ∧
K x19 w11)) w1
theorem S_weight_Of (v0_text : Sl) (K : yapi_Weight.T → World → Prop) (w0 : World) (h : F_weight_Of v0_text K w0) : C_weight_Of v0_text K w0 := by
  have e : denFn P [(1003, [(17, .int .i64)]), (10, []), (8, [])] Tryz.f25 #[.slice v0_text.a v0_text.len v0_text.cap] yapi_Weight K w0 = F_weight_Of v0_text K w0 := by kernel_rfl
  exact fn_sound mixed (f := 25) Tryz.func25 (by kernel_rfl) (e.mpr h)

end Go.Proofs.YtcmncfglcjcmhaaGreat
