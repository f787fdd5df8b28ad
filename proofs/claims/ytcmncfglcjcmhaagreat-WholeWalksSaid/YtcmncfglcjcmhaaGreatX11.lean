/- Texts that belong together, joined: Text11. No conditions. -/
import Derived.Test.YtcmncfglcjcmhaaGreatX0
/- The typed texts of the functions, printed by a program; each proved to imply the call. -/
set_option linter.unusedVariables false
set_option maxRecDepth 100000
set_option maxHeartbeats 4000000
namespace Go.Proofs.YtcmncfglcjcmhaaGreat
open Go.Den

def F_access_join (v0_a : yapi_Weight.T) (v1_b : yapi_Weight.T) (K : yapi_Weight.T → World → Prop) (w0 : World) : Prop :=
allocK (.cells (cells yapi_Weight v0_a).toArray t_api_Weight) w0 fun a1 w1 =>
allocK (.cells (cells yapi_Weight v1_b).toArray t_api_Weight) w1 fun a2 w2 =>
allocK (.cells #[.int .i64 (0 : Int), .int .i64 (0 : Int), .int .i64 (0 : Int), .int .i64 (0 : Int), .int .u64 (0 : Int), .int .u64 (0 : Int)] t_api_Weight) w2 fun a3 w3 =>
JoinP (X := Addr × Unit) (fun R5 =>
drawK w3 fun w5 =>
∃ x6 : Int, At w5 (a1.add 0) (cells (.int .i64) x6) ∧
∃ x7 : Int, At w5 (a2.add 0) (cells (.int .i64) x7) ∧
arith .i64 (x6 + x7) fun n8 =>
∃ x9 : Int, At w5 (a1.add 1) (cells (.int .i64) x9) ∧
∃ x10 : Int, At w5 (a2.add 1) (cells (.int .i64) x10) ∧
arith .i64 (x9 + x10) fun n11 =>
∃ x12 : Int, At w5 (a1.add 2) (cells (.int .i64) x12) ∧
∃ x13 : Int, At w5 (a2.add 3) (cells (.int .i64) x13) ∧
∃ x14 : yapi_Digest.T, At w5 (a1.add 4) (cells yapi_Digest x14) ∧
∃ x15 : yapi_Digest.T, At w5 (a2.add 4) (cells yapi_Digest x15) ∧
(C_digest_Join x14 x15 (fun x16 w6 =>
At w6 (a2.add 3) (cells (.int .i64) x13) ∧
At w6 (a1.add 2) (cells (.int .i64) x12) ∧
At w6 (a2.add 1) (cells (.int .i64) x10) ∧
At w6 (a1.add 1) (cells (.int .i64) x9) ∧
At w6 (a2.add 0) (cells (.int .i64) x7) ∧
At w6 (a1.add 0) (cells (.int .i64) x6) ∧
allocK (.cells #[.int .i64 (0 : Int), .int .i64 (0 : Int), .int .i64 (0 : Int), .int .i64 (0 : Int), .int .u64 (0 : Int), .int .u64 (0 : Int)] t_api_Weight) w6 fun a17 w7 =>
At w7 (a2.add 3) (cells (.int .i64) x13) ∧
At w7 (a1.add 2) (cells (.int .i64) x12) ∧
At w7 (a2.add 1) (cells (.int .i64) x10) ∧
At w7 (a1.add 1) (cells (.int .i64) x9) ∧
At w7 (a2.add 0) (cells (.int .i64) x7) ∧
At w7 (a1.add 0) (cells (.int .i64) x6) ∧
stK w7 a17 ([.int .i64 n8, .int .i64 n11, .int .i64 x12, .int .i64 x13, .int .u64 x16.1, .int .u64 x16.2]) fun w8 =>
R5 (a17, ()) w8) w5) ∧
(allocK (.cells #[.int .i64 (0 : Int), .int .i64 (0 : Int), .int .i64 (0 : Int), .int .i64 (0 : Int), .int .u64 (0 : Int), .int .u64 (0 : Int)] t_api_Weight) w5 fun a18 w9 =>
At w9 (a2.add 4) (cells yapi_Digest x15) ∧
At w9 (a1.add 4) (cells yapi_Digest x14) ∧
At w9 (a2.add 3) (cells (.int .i64) x13) ∧
At w9 (a1.add 2) (cells (.int .i64) x12) ∧
At w9 (a2.add 1) (cells (.int .i64) x10) ∧
At w9 (a1.add 1) (cells (.int .i64) x9) ∧
At w9 (a2.add 0) (cells (.int .i64) x7) ∧
At w9 (a1.add 0) (cells (.int .i64) x6) ∧
C_digest_Join x14 x15 (fun x19 w10 =>
At w10 (a2.add 3) (cells (.int .i64) x13) ∧
At w10 (a1.add 2) (cells (.int .i64) x12) ∧
At w10 (a2.add 1) (cells (.int .i64) x10) ∧
At w10 (a1.add 1) (cells (.int .i64) x9) ∧
At w10 (a2.add 0) (cells (.int .i64) x7) ∧
At w10 (a1.add 0) (cells (.int .i64) x6) ∧
stK w10 a18 ([.int .i64 n8, .int .i64 n11, .int .i64 x12, .int .i64 x13, .int .u64 x19.1, .int .u64 x19.2]) fun w11 =>
R5 (a18, ()) w11) w9)) (fun x4 w4 => ∀ _ : Env,
JoinP (X := Unit) (fun R21 =>
∃ x22 : Int, At w4 (a1.add 1) (cells (.int .i64) x22) ∧
gd (x22 == (0 : Int)) (
∃ x23 : Int, At w4 (a1.add 0) (cells (.int .i64) x23) ∧
∃ x24 : Int, At w4 (a2.add 2) (cells (.int .i64) x24) ∧
arith .i64 (x23 + x24) fun n25 =>
stK w4 (x4.1.add 2) ([.int .i64 n25]) fun w13 =>
R21 () w13) (
R21 () w4)) (fun x20 w12 => ∀ _ : Env,
JoinP (X := Unit) (fun R27 =>
∃ x28 : Int, At w12 (a2.add 1) (cells (.int .i64) x28) ∧
gd (x28 == (0 : Int)) (
∃ x29 : Int, At w12 (a2.add 0) (cells (.int .i64) x29) ∧
∃ x30 : Int, At w12 (a1.add 3) (cells (.int .i64) x30) ∧
arith .i64 (x29 + x30) fun n31 =>
stK w12 (x4.1.add 3) ([.int .i64 n31]) fun w15 =>
R27 () w15) (
R27 () w12)) (fun x26 w14 => ∀ _ : Env,
∃ x32 : yapi_Weight.T, At w14 x4.1 (cells yapi_Weight x32) ∧
stK w14 a3 (cells yapi_Weight x32) fun w16 =>
∃ x33 : yapi_Weight.T, At w16 a3 (cells yapi_Weight x33) ∧
K x33 w16)))
theorem S_access_join (v0_a : yapi_Weight.T) (v1_b : yapi_Weight.T) (K : yapi_Weight.T → World → Prop) (w0 : World) (h : F_access_join v0_a v1_b K w0) : C_access_join v0_a v1_b K w0 := by
  have e : denFn P [(2, [(5, .addr)]), (4, []), (6, [])] Tryz.f55 #[val yapi_Weight v0_a, val yapi_Weight v1_b] yapi_Weight K w0 = F_access_join v0_a v1_b K w0 := by kernel_rfl
  exact fn_sound mixed (f := 55) Tryz.func55 (by kernel_rfl) (e.mpr h)

def F_intern_Store_Export (v0_s : Option Addr) (v1_id : Int) (K : (Sl × Value) → World → Prop) (w0 : World) : Prop :=
gd v0_s.isNone (
K (⟨none, 0, 0⟩, .iface t_api_Errno (.int .i64 (5 : Int))) w0) (
C_intern_Store_known v0_s v1_id (fun x1 w1 =>
gd (!x1) (
K (⟨none, 0, 0⟩, .iface t_api_Errno (.int .i64 (1 : Int))) w1) (
C_intern_Store_reach v0_s v1_id (fun x2 w2 =>
allocK (.map #[] 0) w2 fun a3 w3 =>
0 ≤ (0 : Int) ∧ (0 : Int) ≤ (x2.len : Int) ∧ (x2.len : Int) ≤ 9223372036854775807 ∧ 40 * (x2.len : Int) ≤ 281474976710656 ∧
allocK (.cells (zrow #[.int .i64 (0 : Int), .int .u8 (0 : Int), .int .i64 (0 : Int), .int .i64 (0 : Int), .int .i64 (0 : Int)] ((x2.len : Int).toNat * 5)) t_api_Rule) w3 fun a4 w4 =>
LoopP (X := Sl × Int × Unit) (⟨some a4, (0 : Int).toNat, (x2.len : Int).toNat⟩, (0 : Int), ()) w4 fun next6 x5 w5 => ∀ _ : Env,
gd (decide (x5.2.1 < (x2.len : Int))) (
idxK x2.a x2.len x5.2.1 1 fun p7 =>
∃ x8 : Int, At w5 p7 (cells (.int .i64) x8) ∧
arith .i64 (x5.2.1 + (1 : Int)) fun n9 =>
runU P (Instr.mapUpdate t_map_api_ID_api_ID (.map (some a3.block)) (.int .i64 x8) (.int .i64 n9)) w5 fun w6 =>
nonNil v0_s fun p10 =>
∃ x11 : Sl, At w6 (p10.add 1) (cells .slice x11) ∧
arith .i64 (x8 - (1 : Int)) fun n12 =>
idxK x11.a x11.len n12 13 fun p13 =>
∃ x14 : yapi_Rule.T, At w6 (p13.add 0) (cells yapi_Rule x14) ∧
allocK (.cells #[.int .i64 (0 : Int), .int .u8 (0 : Int), .int .i64 (0 : Int), .int .i64 (0 : Int), .int .i64 (0 : Int)] t_api_Rule) w6 fun a15 w7 =>
stK w7 a15 (cells yapi_Rule x14) fun w8 =>
drawK w8 fun w9 =>
∃ x16 : Int, At w9 (a15.add 2) (cells (.int .i64) x16) ∧
∃ x17 : Int, Lk1 P t_map_api_ID_api_ID (.int .i64) (.map (some a3.block)) (.int .i64 x16) x17 w9 ∧
∃ x18 : Int, At w9 (a15.add 3) (cells (.int .i64) x18) ∧
∃ x19 : Int, Lk1 P t_map_api_ID_api_ID (.int .i64) (.map (some a3.block)) (.int .i64 x18) x19 w9 ∧
stK w9 (a15.add 2) ([.int .i64 x17]) fun w10 =>
Lk1 P t_map_api_ID_api_ID (.int .i64) (.map (some a3.block)) (.int .i64 x18) x19 w10 ∧
stK w10 (a15.add 3) ([.int .i64 x19]) fun w11 =>
∃ x20 : yapi_Rule.T, At w11 a15 (cells yapi_Rule x20) ∧
allocK (.cells (cells yapi_Rule x20).toArray t_api_Rule) w11 fun a21 w12 =>
appK t_api_Rule 5 40 #[.int .i64 (0 : Int), .int .u8 (0 : Int), .int .i64 (0 : Int), .int .i64 (0 : Int), .int .i64 (0 : Int)] x5.1.a x5.1.len x5.1.cap (.slice (some a21) 1 1) 1 w12 fun s22 w13 =>
arith .i64 (x5.2.1 + (1 : Int)) fun n23 =>
next6 (s22, n23, ()) w13) (
K (x5.1, .nilIface) w5)) w1)) w0)
theorem S_intern_Store_Export (v0_s : Option Addr) (v1_id : Int) (K : (Sl × Value) → World → Prop) (w0 : World) (h : F_intern_Store_Export v0_s v1_id K w0) : C_intern_Store_Export v0_s v1_id K w0 := by
  have e : denFn P [(1009, [(8, .slice), (31, .int .i64)])] Tryz.f56 #[.pointer v0_s, .int .i64 v1_id] (.tup (.pair .slice .iface)) K w0 = F_intern_Store_Export v0_s v1_id K w0 := by kernel_rfl
  exact fn_sound mixed (f := 56) Tryz.func56 (by kernel_rfl) (e.mpr h)

def F_letterset_Has (v0_s : yapi_Letters.T) (v1_b : Int) (K : Bool → World → Prop) (w0 : World) : Prop :=
allocK (.cells (cells yapi_Letters v0_s).toArray t_api_Letters) w0 fun a1 w1 =>
(64 : Int) ≠ 0 ∧
arith .u8 (Int.tdiv v1_b (64 : Int)) fun n2 =>
idxArr a1 4 n2 1 fun p3 =>
∃ x4 : Int, At w1 p3 (cells (.int .u64) x4) ∧
(64 : Int) ≠ 0 ∧
letZ (Int.tmod v1_b (64 : Int)) fun n5 =>
0 ≤ n5 ∧
letZ (Int.fdiv x4 (2 ^ min (Int.toNat n5) (IntKind.bits .u64))) fun n6 =>
arith .u64 ((BitVec.ofInt (IntKind.bits .u64) n6 &&& BitVec.ofInt (IntKind.bits .u64) (1 : Int)).toNat) fun n7 =>
K (n7 == (1 : Int)) w1
theorem S_letterset_Has (v0_s : yapi_Letters.T) (v1_b : Int) (K : Bool → World → Prop) (w0 : World) (h : F_letterset_Has v0_s v1_b K w0) : C_letterset_Has v0_s v1_b K w0 := by
  have e : denFn P [] Tryz.f57 #[val yapi_Letters v0_s, .int .u8 v1_b] .bool K w0 = F_letterset_Has v0_s v1_b K w0 := by kernel_rfl
  exact fn_sound mixed (f := 57) Tryz.func57 (by kernel_rfl) (e.mpr h)

def F_access_before (v0_list : Sl) (v1_lengths : Sl) (v2_counts : Sl) (v3_at : Int) (K : Int → World → Prop) (w0 : World) : Prop :=
LoopP (X := Int × Int × Int × Unit) (v3_at, (v0_list.len : Int), (0 : Int), ()) w0 fun next2 x1 w1 => ∀ _ : Env,
gd (decide ((0 : Int) < x1.1)) (
idxK v1_lengths.a v1_lengths.len x1.2.1 1 fun p3 =>
∃ x4 : Int, At w1 p3 (cells (.int .i64) x4) ∧
gd (x1.1 == x4) (
idxK v2_counts.a v2_counts.len x1.2.1 1 fun p5 =>
∃ x6 : Int, At w1 p5 (cells (.int .i64) x6) ∧
arith .i64 (x1.2.2.1 + x6) fun n7 =>
K n7 w1) (
arith .i64 (x1.2.1 - (1 : Int)) fun n8 =>
idxK v0_list.a v0_list.len n8 5 fun p9 =>
∃ x10 : yapi_Rule.T, At w1 p9 (cells yapi_Rule x10) ∧
allocK (.cells #[.int .i64 (0 : Int), .int .u8 (0 : Int), .int .i64 (0 : Int), .int .i64 (0 : Int), .int .i64 (0 : Int)] t_api_Rule) w1 fun a11 w2 =>
stK w2 a11 (cells yapi_Rule x10) fun w3 =>
∃ x12 : Int, At w3 (a11.add 2) (cells (.int .i64) x12) ∧
idxK v1_lengths.a v1_lengths.len x12 1 fun p13 =>
∃ x14 : Int, At w3 p13 (cells (.int .i64) x14) ∧
∃ x15 : Int, At w3 (a11.add 0) (cells (.int .i64) x15) ∧
gd (x15 == (3 : Int)) (
drawK w3 fun w4 =>
x14 ≠ 0 ∧
arith .i64 (Int.tdiv x1.1 x14) fun n16 =>
∃ x17 : Int, At w4 (a11.add 2) (cells (.int .i64) x17) ∧
idxK v2_counts.a v2_counts.len x17 1 fun p18 =>
∃ x19 : Int, At w4 p18 (cells (.int .i64) x19) ∧
arith .i64 (n16 * x19) fun n20 =>
arith .i64 (x1.2.2.1 + n20) fun n21 =>
x14 ≠ 0 ∧
letZ (Int.tmod x1.1 x14) fun n22 =>
∃ x23 : Int, At w4 (a11.add 2) (cells (.int .i64) x23) ∧
next2 (n22, x23, n21, ()) w4) (
gd (decide (x1.1 < x14)) (
∃ x24 : Int, At w3 (a11.add 2) (cells (.int .i64) x24) ∧
next2 (x1.1, x24, x1.2.2.1, ()) w3) (
∃ x25 : Int, At w3 (a11.add 2) (cells (.int .i64) x25) ∧
idxK v2_counts.a v2_counts.len x25 1 fun p26 =>
∃ x27 : Int, At w3 p26 (cells (.int .i64) x27) ∧
arith .i64 (x1.2.2.1 + x27) fun n28 =>
arith .i64 (x1.1 - x14) fun n29 =>
∃ x30 : Int, At w3 (a11.add 3) (cells (.int .i64) x30) ∧
next2 (n29, x30, n28, ()) w3)))) (
K x1.2.2.1 w1)
theorem S_access_before (v0_list : Sl) (v1_lengths : Sl) (v2_counts : Sl) (v3_at : Int) (K : Int → World → Prop) (w0 : World) (h : F_access_before v0_list v1_lengths v2_counts v3_at K w0) : C_access_before v0_list v1_lengths v2_counts v3_at K w0 := by
  have e : denFn P [(1002, [(3, .int .i64), (9, .int .i64), (10, .int .i64)])] Tryz.f58 #[.slice v0_list.a v0_list.len v0_list.cap, .slice v1_lengths.a v1_lengths.len v1_lengths.cap, .slice v2_counts.a v2_counts.len v2_counts.cap, .int .i64 v3_at] (.int .i64) K w0 = F_access_before v0_list v1_lengths v2_counts v3_at K w0 := by kernel_rfl
  exact fn_sound mixed (f := 58) Tryz.func58 (by kernel_rfl) (e.mpr h)

end Go.Proofs.YtcmncfglcjcmhaaGreat
