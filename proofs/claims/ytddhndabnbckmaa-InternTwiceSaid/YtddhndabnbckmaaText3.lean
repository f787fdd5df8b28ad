/- The typed texts of the functions, printed by a program; each proved to imply the call. -/
import Derived.Test.YtddhndabnbckmaaTextC
set_option linter.unusedVariables false
set_option maxRecDepth 100000
set_option maxHeartbeats 4000000
namespace Go.Proofs.Ytddhndabnbckmaa
open Go.Den

def F_ref10_Unknown (v0_s : yevergreenref10_S.T) (v1_id : Int) (K : Bool → World → Prop) (w0 : World) : Prop :=
allocK (.cells (cells yevergreenref10_S v0_s).toArray t_evergreenref10_S) w0 fun a1 w1 =>
gd (decide (v1_id < (0 : Int))) (
K true w1) (
∃ x2 : Sl, At w1 (a1.add 1) (cells .slice x2) ∧
K (decide ((x2.len : Int) < v1_id)) w1)
theorem S_ref10_Unknown (v0_s : yevergreenref10_S.T) (v1_id : Int) (K : Bool → World → Prop) (w0 : World) (h : F_ref10_Unknown v0_s v1_id K w0) : C_ref10_Unknown v0_s v1_id K w0 := by
  have e : denFn P [] Try.f36 #[val yevergreenref10_S v0_s, .int .i64 v1_id] .bool K w0 = F_ref10_Unknown v0_s v1_id K w0 := by kernel_rfl
  exact fn_sound mixed (f := 36) Try.func36 (by kernel_rfl) (e.mpr h)

def F_intern_Store_Import (v0_s : Option Addr) (v1_list : Sl) (K : (Int × Value) → World → Prop) (w0 : World) : Prop :=
gd v0_s.isNone (
K ((0 : Int), .iface t_api_Errno (.int .i64 (5 : Int))) w0) (
LoopP (X := Int × Unit) ((0 : Int), ()) w0 fun next2 x1 w1 => ∀ _ : Env,
gd (decide (x1.1 < (v1_list.len : Int))) (
idxK v1_list.a v1_list.len x1.1 5 fun p3 =>
∃ x4 : yapi_Rule.T, At w1 p3 (cells yapi_Rule x4) ∧
allocK (.cells #[.int .i64 (0 : Int), .int .u8 (0 : Int), .int .i64 (0 : Int), .int .i64 (0 : Int), .int .i64 (0 : Int)] t_api_Rule) w1 fun a5 w2 =>
stK w2 a5 (cells yapi_Rule x4) fun w3 =>
∃ x6 : yapi_Rule.T, At w3 a5 (cells yapi_Rule x6) ∧
arith .i64 (x1.1 + (1 : Int)) fun n7 =>
C_rule_Check x6 n7 (fun x8 w4 =>
nilIfcK x8 fun b9 =>
gd (!b9) (
K ((0 : Int), x8) w4) (
arith .i64 (x1.1 + (1 : Int)) fun n10 =>
next2 (n10, ()) w4)) w3) (
arith .i64 ((v1_list.len : Int) + (1 : Int)) fun n11 =>
0 ≤ n11 ∧ n11 ≤ n11 ∧ n11 ≤ 9223372036854775807 ∧ 8 * n11 ≤ 281474976710656 ∧
allocK (.cells (zrow #[.int .i64 (0 : Int)] (n11.toNat * 1)) t_api_ID) w1 fun a12 w5 =>
LoopP (X := Int × Unit) ((0 : Int), ()) w5 fun next14 x13 w6 => ∀ _ : Env,
gd (decide (x13.1 < (v1_list.len : Int))) (
idxK v1_list.a v1_list.len x13.1 5 fun p15 =>
∃ x16 : yapi_Rule.T, At w6 p15 (cells yapi_Rule x16) ∧
allocK (.cells #[.int .i64 (0 : Int), .int .u8 (0 : Int), .int .i64 (0 : Int), .int .i64 (0 : Int), .int .i64 (0 : Int)] t_api_Rule) w6 fun a17 w7 =>
stK w7 a17 (cells yapi_Rule x16) fun w8 =>
∃ x18 : yapi_Rule.T, At w8 a17 (cells yapi_Rule x18) ∧
C_intern_Store_put v0_s x18 (⟨some a12, n11.toNat, n11.toNat⟩) (fun x19 w9 =>
nilIfcK x19.2 fun b20 =>
gd (!b20) (
K ((0 : Int), x19.2) w9) (
arith .i64 (x13.1 + (1 : Int)) fun n21 =>
idxK (some a12) n11.toNat n21 1 fun p22 =>
stK w9 p22 ([.int .i64 x19.1]) fun w10 =>
arith .i64 (x13.1 + (1 : Int)) fun n23 =>
next14 (n23, ()) w10)) w8) (
idxK (some a12) n11.toNat (v1_list.len : Int) 1 fun p24 =>
∃ x25 : Int, At w6 p24 (cells (.int .i64) x25) ∧
K (x25, .nilIface) w6)))
theorem S_intern_Store_Import (v0_s : Option Addr) (v1_list : Sl) (K : (Int × Value) → World → Prop) (w0 : World) (h : F_intern_Store_Import v0_s v1_list K w0) : C_intern_Store_Import v0_s v1_list K w0 := by
  have e : denFn P [(1004, [(19, .int .i64)]), (1012, [(38, .int .i64)])] Try.f37 #[.pointer v0_s, .slice v1_list.a v1_list.len v1_list.cap] (.tup (.pair (.int .i64) .iface)) K w0 = F_intern_Store_Import v0_s v1_list K w0 := by kernel_rfl
  exact fn_sound mixed (f := 37) Try.func37 (by kernel_rfl) (e.mpr h)

def F_ref10_Import (v0_s : yevergreenref10_S.T) (v1_list : Sl) (K : (yevergreenref10_S.T × Int × Int) → World → Prop) (w0 : World) : Prop :=
allocK (.cells (cells yevergreenref10_S v0_s).toArray t_evergreenref10_S) w0 fun a1 w1 =>
allocK (.cells #[.int .i64 (0 : Int), .slice none 0 0, .slice none 0 0, .slice none 0 0] t_evergreenref10_S) w1 fun a2 w2 =>
LoopP (X := Int × Unit) ((0 : Int), ()) w2 fun next4 x3 w3 => ∀ _ : Env,
gd (decide (x3.1 < (v1_list.len : Int))) (
idxK v1_list.a v1_list.len x3.1 5 fun p5 =>
∃ x6 : yapi_Rule.T, At w3 p5 (cells yapi_Rule x6) ∧
arith .i64 (x3.1 + (1 : Int)) fun n7 =>
C_ref10_Check x6 n7 (fun x8 w4 =>
gd (x8 != (0 : Int)) (
∃ x9 : yevergreenref10_S.T, At w4 a1 (cells yevergreenref10_S x9) ∧
stK w4 a2 (cells yevergreenref10_S x9) fun w5 =>
∃ x10 : yevergreenref10_S.T, At w5 a2 (cells yevergreenref10_S x10) ∧
K (x10, (0 : Int), x8) w5) (
arith .i64 (x3.1 + (1 : Int)) fun n11 =>
next4 (n11, ()) w4)) w3) (
allocK (.cells #[.int .i64 (0 : Int)] t_api_ID) w3 fun a12 w6 =>
LoopP (X := Sl × Int × Unit) (⟨some a12, 1, 1⟩, (0 : Int), ()) w6 fun next14 x13 w7 => ∀ _ : Env,
gd (decide (x13.2.1 < (v1_list.len : Int))) (
idxK v1_list.a v1_list.len x13.2.1 5 fun p15 =>
∃ x16 : yapi_Rule.T, At w7 p15 (cells yapi_Rule x16) ∧
allocK (.cells #[.int .i64 (0 : Int), .int .u8 (0 : Int), .int .i64 (0 : Int), .int .i64 (0 : Int), .int .i64 (0 : Int)] t_api_Rule) w7 fun a17 w8 =>
stK w8 a17 (cells yapi_Rule x16) fun w9 =>
JoinP (X := Int × Int × Unit) (fun R19 =>
∃ x20 : Int, At w9 (a17.add 0) (cells (.int .i64) x20) ∧
gd (x20 == (1 : Int)) (
∃ x21 : yevergreenref10_S.T, At w9 a1 (cells yevergreenref10_S x21) ∧
∃ x22 : Int, At w9 (a17.add 1) (cells (.int .u8) x22) ∧
C_ref10_Letter x21 x22 (fun x23 w11 =>
stK w11 a1 (cells yevergreenref10_S x23.1) fun w12 =>
R19 (x23.2.1, x23.2.2, ()) w12) w9) (
gd (x20 == (2 : Int)) (
drawK w9 fun w13 =>
∃ x24 : yevergreenref10_S.T, At w13 a1 (cells yevergreenref10_S x24) ∧
∃ x25 : Int, At w13 (a17.add 2) (cells (.int .i64) x25) ∧
idxK x13.1.a x13.1.len x25 1 fun p26 =>
∃ x27 : Int, At w13 p26 (cells (.int .i64) x27) ∧
∃ x28 : Int, At w13 (a17.add 3) (cells (.int .i64) x28) ∧
idxK x13.1.a x13.1.len x28 1 fun p29 =>
∃ x30 : Int, At w13 p29 (cells (.int .i64) x30) ∧
C_ref10_Pair x24 x27 x30 (fun x31 w14 =>
stK w14 a1 (cells yevergreenref10_S x31.1) fun w15 =>
R19 (x31.2.1, x31.2.2, ()) w15) w13) (
drawK w9 fun w16 =>
∃ x32 : yevergreenref10_S.T, At w16 a1 (cells yevergreenref10_S x32) ∧
∃ x33 : Int, At w16 (a17.add 2) (cells (.int .i64) x33) ∧
idxK x13.1.a x13.1.len x33 1 fun p34 =>
∃ x35 : Int, At w16 p34 (cells (.int .i64) x35) ∧
∃ x36 : Int, At w16 (a17.add 4) (cells (.int .i64) x36) ∧
C_ref10_Power x32 x35 x36 (fun x37 w17 =>
stK w17 a1 (cells yevergreenref10_S x37.1) fun w18 =>
R19 (x37.2.1, x37.2.2, ()) w18) w16))) (fun x18 w10 => ∀ _ : Env,
gd (x18.2.1 != (0 : Int)) (
∃ x38 : yevergreenref10_S.T, At w10 a1 (cells yevergreenref10_S x38) ∧
stK w10 a2 (cells yevergreenref10_S x38) fun w19 =>
∃ x39 : yevergreenref10_S.T, At w19 a2 (cells yevergreenref10_S x39) ∧
K (x39, (0 : Int), x18.2.1) w19) (
allocK (.cells #[.int .i64 x18.1] t_api_ID) w10 fun a40 w20 =>
appK t_api_ID 1 8 #[.int .i64 (0 : Int)] x13.1.a x13.1.len x13.1.cap (.slice (some a40) 1 1) 1 w20 fun s41 w21 =>
arith .i64 (x13.2.1 + (1 : Int)) fun n42 =>
next14 (s41, n42, ()) w21))) (
drawK w7 fun w22 =>
∃ x43 : yevergreenref10_S.T, At w22 a1 (cells yevergreenref10_S x43) ∧
arith .i64 ((x13.1.len : Int) - (1 : Int)) fun n44 =>
idxK x13.1.a x13.1.len n44 1 fun p45 =>
∃ x46 : Int, At w22 p45 (cells (.int .i64) x46) ∧
stK w22 a2 (cells yevergreenref10_S x43) fun w23 =>
At w23 p45 (cells (.int .i64) x46) ∧
∃ x47 : yevergreenref10_S.T, At w23 a2 (cells yevergreenref10_S x47) ∧
K (x47, x46, (0 : Int)) w23))
theorem S_ref10_Import (v0_s : yevergreenref10_S.T) (v1_list : Sl) (K : (yevergreenref10_S.T × Int × Int) → World → Prop) (w0 : World) (h : F_ref10_Import v0_s v1_list K w0) : C_ref10_Import v0_s v1_list K w0 := by
  have e : denFn P [(1002, [(16, .int .i64)]), (1010, [(9, .slice), (34, .int .i64)]), (20, [(12, .int .i64), (13, .int .i64)])] Try.f38 #[val yevergreenref10_S v0_s, .slice v1_list.a v1_list.len v1_list.cap] (.tup (.pair yevergreenref10_S (.pair (.int .i64) (.int .i64)))) K w0 = F_ref10_Import v0_s v1_list K w0 := by kernel_rfl
  exact fn_sound mixed (f := 38) Try.func38 (by kernel_rfl) (e.mpr h)

def F_ref10_Same (v0_a : Sl) (v1_b : Sl) (K : Bool → World → Prop) (w0 : World) : Prop :=
gd ((v0_a.len : Int) != (v1_b.len : Int)) (
K false w0) (
LoopP (X := Int × Unit) ((0 : Int), ()) w0 fun next2 x1 w1 => ∀ _ : Env,
gd (decide (x1.1 < (v0_a.len : Int))) (
drawK w1 fun w2 =>
idxK v0_a.a v0_a.len x1.1 5 fun p3 =>
∃ x4 : yapi_Rule.T, At w2 p3 (cells yapi_Rule x4) ∧
idxK v1_b.a v1_b.len x1.1 5 fun p5 =>
∃ x6 : yapi_Rule.T, At w2 p5 (cells yapi_Rule x6) ∧
testK P (do eqGuard .neq t_api_Rule (.tmp 19) (.tmp 23) (val yapi_Rule x4) (val yapi_Rule x6); binOp .neq t_api_Rule (val yapi_Rule x4) (val yapi_Rule x6)) fun b7 =>
gd b7 (
K false w2) (
arith .i64 (x1.1 + (1 : Int)) fun n8 =>
next2 (n8, ()) w2)) (
K true w1))
theorem S_ref10_Same (v0_a : Sl) (v1_b : Sl) (K : Bool → World → Prop) (w0 : World) (h : F_ref10_Same v0_a v1_b K w0) : C_ref10_Same v0_a v1_b K w0 := by
  have e : denFn P [(1004, [(13, .int .i64)])] Try.f39 #[.slice v0_a.a v0_a.len v0_a.cap, .slice v1_b.a v1_b.len v1_b.cap] .bool K w0 = F_ref10_Same v0_a v1_b K w0 := by kernel_rfl
  exact fn_sound mixed (f := 39) Try.func39 (by kernel_rfl) (e.mpr h)

def F_intern_Store_Export (v0_s : Option Addr) (v1_id : Int) (K : (Sl × Value) → World → Prop) (w0 : World) : Prop :=
gd v0_s.isNone (
K (⟨none, 0, 0⟩, .iface t_api_Errno (.int .i64 (5 : Int))) w0) (
C_intern_Store_known v0_s v1_id (fun x1 w1 =>
gd (!x1) (
K (⟨none, 0, 0⟩, .iface t_api_Errno (.int .i64 (1 : Int))) w1) (
C_intern_Store_reach v0_s v1_id (fun x2 w2 =>
allocK (.map #[] 0) w2 fun a3 w3 =>
0 ≤ (0 : Int) ∧ (0 : Int) ≤ (x2.len : Int) ∧ (x2.len : Int) ≤ 9223372036854775807 ∧ 40 * (x2.len : Int) ≤ 281474976710656 ∧
allocK (.cells (zrow #[.int .i64 (0 : Int), .int .u8 (0 : Int), .int .i64 (0 : Int), .int .i64 (0 : Int), .int .i64 (0 : Int)] ((x2.len : Int).toNat * 5)) t_api_Rule) w3 fun a4 w4 =>
LoopP (X := Sl × Int × Unit) (⟨some a4, (0 : Int).toNat, (x2.len : Int).toNat⟩, (0 : Int), ()) w4 fun next6 x5 w5 => ∀ _ : Env,
gd (decide (x5.2.1 < (x2.len : Int))) (
idxK x2.a x2.len x5.2.1 1 fun p7 =>
∃ x8 : Int, At w5 p7 (cells (.int .i64) x8) ∧
arith .i64 (x5.2.1 + (1 : Int)) fun n9 =>
runU P (Instr.mapUpdate t_map_api_ID_api_ID (.map (some a3.block)) (.int .i64 x8) (.int .i64 n9)) w5 fun w6 =>
nonNil v0_s fun p10 =>
∃ x11 : Sl, At w6 (p10.add 1) (cells .slice x11) ∧
arith .i64 (x8 - (1 : Int)) fun n12 =>
idxK x11.a x11.len n12 13 fun p13 =>
∃ x14 : yapi_Rule.T, At w6 (p13.add 0) (cells yapi_Rule x14) ∧
allocK (.cells #[.int .i64 (0 : Int), .int .u8 (0 : Int), .int .i64 (0 : Int), .int .i64 (0 : Int), .int .i64 (0 : Int)] t_api_Rule) w6 fun a15 w7 =>
stK w7 a15 (cells yapi_Rule x14) fun w8 =>
drawK w8 fun w9 =>
∃ x16 : Int, At w9 (a15.add 2) (cells (.int .i64) x16) ∧
∃ x17 : Int, Lk1 P t_map_api_ID_api_ID (.int .i64) (.map (some a3.block)) (.int .i64 x16) x17 w9 ∧
∃ x18 : Int, At w9 (a15.add 3) (cells (.int .i64) x18) ∧
∃ x19 : Int, Lk1 P t_map_api_ID_api_ID (.int .i64) (.map (some a3.block)) (.int .i64 x18) x19 w9 ∧
stK w9 (a15.add 2) ([.int .i64 x17]) fun w10 =>
Lk1 P t_map_api_ID_api_ID (.int .i64) (.map (some a3.block)) (.int .i64 x18) x19 w10 ∧
stK w10 (a15.add 3) ([.int .i64 x19]) fun w11 =>
∃ x20 : yapi_Rule.T, At w11 a15 (cells yapi_Rule x20) ∧
allocK (.cells (cells yapi_Rule x20).toArray t_api_Rule) w11 fun a21 w12 =>
appK t_api_Rule 5 40 #[.int .i64 (0 : Int), .int .u8 (0 : Int), .int .i64 (0 : Int), .int .i64 (0 : Int), .int .i64 (0 : Int)] x5.1.a x5.1.len x5.1.cap (.slice (some a21) 1 1) 1 w12 fun s22 w13 =>
arith .i64 (x5.2.1 + (1 : Int)) fun n23 =>
next6 (s22, n23, ()) w13) (
K (x5.1, .nilIface) w5)) w1)) w0)
theorem S_intern_Store_Export (v0_s : Option Addr) (v1_id : Int) (K : (Sl × Value) → World → Prop) (w0 : World) (h : F_intern_Store_Export v0_s v1_id K w0) : C_intern_Store_Export v0_s v1_id K w0 := by
  have e : denFn P [(1009, [(8, .slice), (31, .int .i64)])] Try.f40 #[.pointer v0_s, .int .i64 v1_id] (.tup (.pair .slice .iface)) K w0 = F_intern_Store_Export v0_s v1_id K w0 := by kernel_rfl
  exact fn_sound mixed (f := 40) Try.func40 (by kernel_rfl) (e.mpr h)

def F_ref10_Export (v0_s : yevergreenref10_S.T) (v1_id : Int) (K : Sl → World → Prop) (w0 : World) : Prop :=
allocK (.cells (cells yevergreenref10_S v0_s).toArray t_evergreenref10_S) w0 fun a1 w1 =>
∃ x2 : yevergreenref10_S.T, At w1 a1 (cells yevergreenref10_S x2) ∧
C_ref10_Reached x2 v1_id (fun x3 w2 =>
∃ x4 : Sl, At w2 (a1.add 1) (cells .slice x4) ∧
arith .i64 ((x4.len : Int) + (1 : Int)) fun n5 =>
0 ≤ n5 ∧ n5 ≤ n5 ∧ n5 ≤ 9223372036854775807 ∧ 8 * n5 ≤ 281474976710656 ∧
allocK (.cells (zrow #[.int .i64 (0 : Int)] (n5.toNat * 1)) t_api_ID) w2 fun a6 w3 =>
LoopP (X := Sl × Int × Unit) (⟨none, 0, 0⟩, (1 : Int), ()) w3 fun next8 x7 w4 => ∀ _ : Env,
gd (decide (x7.2.1 < (x3.len : Int))) (
JoinP (X := Sl × Unit) (fun R10 =>
idxK x3.a x3.len x7.2.1 1 fun p11 =>
∃ x12 : Bool, At w4 p11 (cells .bool x12) ∧
gd (!x12) (
R10 (x7.1, ()) w4) (
∃ x13 : Sl, At w4 (a1.add 1) (cells .slice x13) ∧
arith .i64 (x7.2.1 - (1 : Int)) fun n14 =>
idxK x13.a x13.len n14 5 fun p15 =>
∃ x16 : yapi_Rule.T, At w4 p15 (cells yapi_Rule x16) ∧
allocK (.cells #[.int .i64 (0 : Int), .int .u8 (0 : Int), .int .i64 (0 : Int), .int .i64 (0 : Int), .int .i64 (0 : Int)] t_api_Rule) w4 fun a17 w6 =>
stK w6 a17 (cells yapi_Rule x16) fun w7 =>
∃ x18 : Int, At w7 (a17.add 2) (cells (.int .i64) x18) ∧
idxK (some a6) n5.toNat x18 1 fun p19 =>
∃ x20 : Int, At w7 p19 (cells (.int .i64) x20) ∧
stK w7 (a17.add 2) ([.int .i64 x20]) fun w8 =>
∃ x21 : Int, At w8 (a17.add 3) (cells (.int .i64) x21) ∧
idxK (some a6) n5.toNat x21 1 fun p22 =>
∃ x23 : Int, At w8 p22 (cells (.int .i64) x23) ∧
stK w8 (a17.add 3) ([.int .i64 x23]) fun w9 =>
∃ x24 : yapi_Rule.T, At w9 a17 (cells yapi_Rule x24) ∧
allocK (.cells (cells yapi_Rule x24).toArray t_api_Rule) w9 fun a25 w10 =>
appK t_api_Rule 5 40 #[.int .i64 (0 : Int), .int .u8 (0 : Int), .int .i64 (0 : Int), .int .i64 (0 : Int), .int .i64 (0 : Int)] x7.1.a x7.1.len x7.1.cap (.slice (some a25) 1 1) 1 w10 fun s26 w11 =>
idxK (some a6) n5.toNat x7.2.1 1 fun p27 =>
stK w11 p27 ([.int .i64 (s26.len : Int)]) fun w12 =>
R10 (s26, ()) w12)) (fun x9 w5 => ∀ _ : Env,
arith .i64 (x7.2.1 + (1 : Int)) fun n28 =>
next8 (x9.1, n28, ()) w5)) (
K x7.1 w4)) w1
theorem S_ref10_Export (v0_s : yevergreenref10_S.T) (v1_id : Int) (K : Sl → World → Prop) (w0 : World) (h : F_ref10_Export v0_s v1_id K w0) : C_ref10_Export v0_s v1_id K w0 := by
  have e : denFn P [(1005, [(7, .slice), (8, .int .i64)]), (6, [(7, .slice)])] Try.f41 #[val yevergreenref10_S v0_s, .int .i64 v1_id] .slice K w0 = F_ref10_Export v0_s v1_id K w0 := by kernel_rfl
  exact fn_sound mixed (f := 41) Try.func41 (by kernel_rfl) (e.mpr h)

def F_ref10_New (v0_most : Int) (K : yevergreenref10_S.T → World → Prop) (w0 : World) : Prop :=
allocK (.cells #[.int .i64 (0 : Int), .slice none 0 0, .slice none 0 0, .slice none 0 0] t_evergreenref10_S) w0 fun a1 w1 =>
stK w1 a1 ([.int .i64 (if (0 : Int) < (if (1048576 : Int) < v0_most then (1048576 : Int) else v0_most) then (if (1048576 : Int) < v0_most then (1048576 : Int) else v0_most) else (0 : Int)), .slice none 0 0, .slice none 0 0, .slice none 0 0]) fun w2 =>
∃ x2 : yevergreenref10_S.T, At w2 a1 (cells yevergreenref10_S x2) ∧
K x2 w2
theorem S_ref10_New (v0_most : Int) (K : yevergreenref10_S.T → World → Prop) (w0 : World) (h : F_ref10_New v0_most K w0) : C_ref10_New v0_most K w0 := by
  have e : denFn P [] Try.f42 #[.int .i64 v0_most] yevergreenref10_S K w0 = F_ref10_New v0_most K w0 := by kernel_rfl
  exact fn_sound mixed (f := 42) Try.func42 (by kernel_rfl) (e.mpr h)

def F_length_Clip (v0_n : Int) (v1_low : Int) (v2_high : Int) (K : Int → World → Prop) (w0 : World) : Prop :=
gd (decide (v0_n < v1_low)) (
K v1_low w0) (
gd (decide (v2_high < v0_n)) (
K v2_high w0) (
K v0_n w0))
theorem S_length_Clip (v0_n : Int) (v1_low : Int) (v2_high : Int) (K : Int → World → Prop) (w0 : World) (h : F_length_Clip v0_n v1_low v2_high K w0) : C_length_Clip v0_n v1_low v2_high K w0 := by
  have e : denFn P [] Try.f43 #[.int .i64 v0_n, .int .i64 v1_low, .int .i64 v2_high] (.int .i64) K w0 = F_length_Clip v0_n v1_low v2_high K w0 := by kernel_rfl
  exact fn_sound mixed (f := 43) Try.func43 (by kernel_rfl) (e.mpr h)

def F_intern_Store_find (v0_s : Option Addr) (v1_r : yapi_Rule.T) (K : (Int × Value) → World → Prop) (w0 : World) : Prop :=
allocK (.cells (cells yapi_Rule v1_r).toArray t_api_Rule) w0 fun a1 w1 =>
drawK w1 fun w2 =>
nonNil v0_s fun p2 =>
∃ x3 : Option Nat, At w2 (p2.add 2) (cells .map x3) ∧
∃ x4 : yapi_Rule.T, At w2 a1 (cells yapi_Rule x4) ∧
∃ (x5 : Int) (b6 : Bool), Lk2 P t_map_api_Rule_api_ID (.int .i64) (.map x3) (val yapi_Rule x4) x5 b6 w2 ∧
gd b6 (
K (x5, .nilIface) w2) (
drawK w2 fun w3 =>
nonNil v0_s fun p7 =>
∃ x8 : Sl, At w3 (p7.add 1) (cells .slice x8) ∧
nonNil v0_s fun p9 =>
∃ x10 : Int, At w3 (p9.add 0) (cells (.int .i64) x10) ∧
gd (decide (x10 ≤ (x8.len : Int))) (
K ((0 : Int), .iface t_api_Errno (.int .i64 (3 : Int))) w3) (
K ((0 : Int), .nilIface) w3))
theorem S_intern_Store_find (v0_s : Option Addr) (v1_r : yapi_Rule.T) (K : (Int × Value) → World → Prop) (w0 : World) (h : F_intern_Store_find v0_s v1_r K w0) : C_intern_Store_find v0_s v1_r K w0 := by
  have e : denFn P [] Try.f44 #[.pointer v0_s, val yapi_Rule v1_r] (.tup (.pair (.int .i64) .iface)) K w0 = F_intern_Store_find v0_s v1_r K w0 := by kernel_rfl
  exact fn_sound mixed (f := 44) Try.func44 (by kernel_rfl) (e.mpr h)

def F_intern_Store_add (v0_s : Option Addr) (v1_e : yintern_entry.T) (K : Int → World → Prop) (w0 : World) : Prop :=
allocK (.cells (cells yintern_entry v1_e).toArray t_intern_entry) w0 fun a1 w1 =>
drawK w1 fun w2 =>
nonNil v0_s fun p2 =>
∃ x3 : Sl, At w2 (p2.add 1) (cells .slice x3) ∧
∃ x4 : yintern_entry.T, At w2 a1 (cells yintern_entry x4) ∧
allocK (.cells (cells yintern_entry x4).toArray t_intern_entry) w2 fun a5 w3 =>
At w3 (p2.add 1) (cells .slice x3) ∧
appK t_intern_entry 13 104 #[.int .i64 (0 : Int), .int .u8 (0 : Int), .int .i64 (0 : Int), .int .i64 (0 : Int), .int .i64 (0 : Int), .int .i64 (0 : Int), .int .i64 (0 : Int), .int .i64 (0 : Int), .int .i64 (0 : Int), .int .u64 (0 : Int), .int .u64 (0 : Int), .int .i64 (0 : Int), .bool false] x3.a x3.len x3.cap (.slice (some a5) 1 1) 1 w3 fun s6 w4 =>
nonNil v0_s fun p7 =>
stK w4 (p7.add 1) ([.slice s6.a s6.len s6.cap]) fun w5 =>
nonNil v0_s fun p8 =>
∃ x9 : Sl, At w5 (p8.add 1) (cells .slice x9) ∧
drawK w5 fun w6 =>
nonNil v0_s fun p10 =>
∃ x11 : Option Nat, At w6 (p10.add 2) (cells .map x11) ∧
∃ x12 : yapi_Rule.T, At w6 (a1.add 0) (cells yapi_Rule x12) ∧
runU P (Instr.mapUpdate t_map_api_Rule_api_ID (.map x11) (val yapi_Rule x12) (.int .i64 (x9.len : Int))) w6 fun w7 =>
K (x9.len : Int) w7
theorem S_intern_Store_add (v0_s : Option Addr) (v1_e : yintern_entry.T) (K : Int → World → Prop) (w0 : World) (h : F_intern_Store_add v0_s v1_e K w0) : C_intern_Store_add v0_s v1_e K w0 := by
  have e : denFn P [] Try.f45 #[.pointer v0_s, val yintern_entry v1_e] (.int .i64) K w0 = F_intern_Store_add v0_s v1_e K w0 := by kernel_rfl
  exact fn_sound mixed (f := 45) Try.func45 (by kernel_rfl) (e.mpr h)

def F_intern_Store_known (v0_s : Option Addr) (v1_id : Int) (K : Bool → World → Prop) (w0 : World) : Prop :=
gd (decide ((0 : Int) ≤ v1_id)) (
nonNil v0_s fun p1 =>
∃ x2 : Sl, At w0 (p1.add 1) (cells .slice x2) ∧
K (decide (v1_id ≤ (x2.len : Int))) w0) (
K false w0)
theorem S_intern_Store_known (v0_s : Option Addr) (v1_id : Int) (K : Bool → World → Prop) (w0 : World) (h : F_intern_Store_known v0_s v1_id K w0) : C_intern_Store_known v0_s v1_id K w0 := by
  have e : denFn P [] Try.f46 #[.pointer v0_s, .int .i64 v1_id] .bool K w0 = F_intern_Store_known v0_s v1_id K w0 := by kernel_rfl
  exact fn_sound mixed (f := 46) Try.func46 (by kernel_rfl) (e.mpr h)

def F_intern_Store_at (v0_s : Option Addr) (v1_id : Int) (K : yintern_entry.T → World → Prop) (w0 : World) : Prop :=
allocK (.cells #[.int .i64 (0 : Int), .int .u8 (0 : Int), .int .i64 (0 : Int), .int .i64 (0 : Int), .int .i64 (0 : Int), .int .i64 (0 : Int), .int .i64 (0 : Int), .int .i64 (0 : Int), .int .i64 (0 : Int), .int .u64 (0 : Int), .int .u64 (0 : Int), .int .i64 (0 : Int), .bool false] t_intern_entry) w0 fun a1 w1 =>
gd (v1_id == (0 : Int)) (
C_weight_Unit  (fun x2 w2 =>
stK w2 a1 ([.int .i64 (0 : Int), .int .u8 (0 : Int), .int .i64 (0 : Int), .int .i64 (0 : Int), .int .i64 (0 : Int), .int .i64 x2.1, .int .i64 x2.2.1, .int .i64 x2.2.2.1, .int .i64 x2.2.2.2.1, .int .u64 x2.2.2.2.2.1, .int .u64 x2.2.2.2.2.2, .int .i64 (0 : Int), .bool true]) fun w3 =>
∃ x3 : yintern_entry.T, At w3 a1 (cells yintern_entry x3) ∧
K x3 w3) w1) (
nonNil v0_s fun p4 =>
∃ x5 : Sl, At w1 (p4.add 1) (cells .slice x5) ∧
arith .i64 (v1_id - (1 : Int)) fun n6 =>
idxK x5.a x5.len n6 13 fun p7 =>
∃ x8 : yintern_entry.T, At w1 p7 (cells yintern_entry x8) ∧
stK w1 a1 (cells yintern_entry x8) fun w4 =>
∃ x9 : yintern_entry.T, At w4 a1 (cells yintern_entry x9) ∧
K x9 w4)
theorem S_intern_Store_at (v0_s : Option Addr) (v1_id : Int) (K : yintern_entry.T → World → Prop) (w0 : World) (h : F_intern_Store_at v0_s v1_id K w0) : C_intern_Store_at v0_s v1_id K w0 := by
  have e : denFn P [] Try.f47 #[.pointer v0_s, .int .i64 v1_id] yintern_entry K w0 = F_intern_Store_at v0_s v1_id K w0 := by kernel_rfl
  exact fn_sound mixed (f := 47) Try.func47 (by kernel_rfl) (e.mpr h)

def F_length_Add (v0_a : Int) (v1_b : Int) (K : (Int × Value) → World → Prop) (w0 : World) : Prop :=
JoinP (X := Bool × Unit) (fun R2 =>
C_length_Valid v0_a (fun x3 w2 =>
gd (!x3) (
R2 (true, ()) w2) (
C_length_Valid v1_b (fun x4 w3 =>
R2 (!x4, ()) w3) w2)) w0) (fun x1 w1 => ∀ _ : Env,
gd x1.1 (
K ((0 : Int), .iface t_api_Errno (.int .i64 (1 : Int))) w1) (
arith .i64 ((1152921504606846976 : Int) - v1_b) fun n5 =>
gd (decide (n5 < v0_a)) (
K ((0 : Int), .iface t_api_Errno (.int .i64 (2 : Int))) w1) (
arith .i64 (v0_a + v1_b) fun n6 =>
K (n6, .nilIface) w1)))
theorem S_length_Add (v0_a : Int) (v1_b : Int) (K : (Int × Value) → World → Prop) (w0 : World) (h : F_length_Add v0_a v1_b K w0) : C_length_Add v0_a v1_b K w0 := by
  have e : denFn P [(2, [(13, .bool)])] Try.f48 #[.int .i64 v0_a, .int .i64 v1_b] (.tup (.pair (.int .i64) .iface)) K w0 = F_length_Add v0_a v1_b K w0 := by kernel_rfl
  exact fn_sound mixed (f := 48) Try.func48 (by kernel_rfl) (e.mpr h)

def F_length_Mul (v0_a : Int) (v1_k : Int) (K : (Int × Value) → World → Prop) (w0 : World) : Prop :=
JoinP (X := Bool × Unit) (fun R2 =>
C_length_Valid v0_a (fun x3 w2 =>
gd (!x3) (
R2 (true, ()) w2) (
R2 (decide (v1_k < (0 : Int)), ()) w2)) w0) (fun x1 w1 => ∀ _ : Env,
gd x1.1 (
K ((0 : Int), .iface t_api_Errno (.int .i64 (1 : Int))) w1) (
gd (v0_a == (0 : Int)) (
K ((0 : Int), .nilIface) w1) (
v0_a ≠ 0 ∧
arith .i64 (Int.tdiv (1152921504606846976 : Int) v0_a) fun n4 =>
gd (decide (n4 < v1_k)) (
K ((0 : Int), .iface t_api_Errno (.int .i64 (2 : Int))) w1) (
arith .i64 (v0_a * v1_k) fun n5 =>
K (n5, .nilIface) w1))))
theorem S_length_Mul (v0_a : Int) (v1_k : Int) (K : (Int × Value) → World → Prop) (w0 : World) (h : F_length_Mul v0_a v1_k K w0) : C_length_Mul v0_a v1_k K w0 := by
  have e : denFn P [(2, [(12, .bool)])] Try.f49 #[.int .i64 v0_a, .int .i64 v1_k] (.tup (.pair (.int .i64) .iface)) K w0 = F_length_Mul v0_a v1_k K w0 := by kernel_rfl
  exact fn_sound mixed (f := 49) Try.func49 (by kernel_rfl) (e.mpr h)

def F_ref10_Length (v0_s : yevergreenref10_S.T) (v1_id : Int) (K : Int → World → Prop) (w0 : World) : Prop :=
allocK (.cells (cells yevergreenref10_S v0_s).toArray t_evergreenref10_S) w0 fun a1 w1 =>
gd (v1_id == (0 : Int)) (
K (0 : Int) w1) (
∃ x2 : Sl, At w1 (a1.add 2) (cells .slice x2) ∧
arith .i64 (v1_id - (1 : Int)) fun n3 =>
idxK x2.a x2.len n3 1 fun p4 =>
∃ x5 : Int, At w1 p4 (cells (.int .i64) x5) ∧
K x5 w1)
theorem S_ref10_Length (v0_s : yevergreenref10_S.T) (v1_id : Int) (K : Int → World → Prop) (w0 : World) (h : F_ref10_Length v0_s v1_id K w0) : C_ref10_Length v0_s v1_id K w0 := by
  have e : denFn P [] Try.f50 #[val yevergreenref10_S v0_s, .int .i64 v1_id] (.int .i64) K w0 = F_ref10_Length v0_s v1_id K w0 := by kernel_rfl
  exact fn_sound mixed (f := 50) Try.func50 (by kernel_rfl) (e.mpr h)

def F_ref05_Add (v0_a : Int) (v1_b : Int) (K : Int → World → Prop) (w0 : World) : Prop :=
arith .u64 (v0_a + v1_b) fun n1 =>
(2305843009213693951 : Int) ≠ 0 ∧
letZ (Int.tmod n1 (2305843009213693951 : Int)) fun n2 =>
K n2 w0
theorem S_ref05_Add (v0_a : Int) (v1_b : Int) (K : Int → World → Prop) (w0 : World) (h : F_ref05_Add v0_a v1_b K w0) : C_ref05_Add v0_a v1_b K w0 := by
  have e : denFn P [] Try.f51 #[.int .u64 v0_a, .int .u64 v1_b] (.int .u64) K w0 = F_ref05_Add v0_a v1_b K w0 := by kernel_rfl
  exact fn_sound mixed (f := 51) Try.func51 (by kernel_rfl) (e.mpr h)

def F_ref05_Mul (v0_a : Int) (v1_b : Int) (K : Int → World → Prop) (w0 : World) : Prop :=
(2305843009213693951 : Int) ≠ 0 ∧
letZ (Int.tmod v0_a (2305843009213693951 : Int)) fun n1 =>
(2305843009213693951 : Int) ≠ 0 ∧
letZ (Int.tmod v1_b (2305843009213693951 : Int)) fun n2 =>
LoopP (X := Int × Int × Int × Unit) (n1, n2, (0 : Int), ()) w0 fun next4 x3 w1 => ∀ _ : Env,
gd (decide ((0 : Int) < x3.2.1)) (
JoinP (X := Int × Unit) (fun R6 =>
(2 : Int) ≠ 0 ∧
letZ (Int.tmod x3.2.1 (2 : Int)) fun n7 =>
gd (n7 == (1 : Int)) (
C_ref05_Add x3.2.2.1 x3.1 (fun x8 w3 =>
R6 (x8, ()) w3) w1) (
R6 (x3.2.2.1, ()) w1)) (fun x5 w2 => ∀ _ : Env,
C_ref05_Add x3.1 x3.1 (fun x9 w4 =>
(2 : Int) ≠ 0 ∧
arith .u64 (Int.tdiv x3.2.1 (2 : Int)) fun n10 =>
next4 (x9, n10, x5.1, ()) w4) w2)) (
K x3.2.2.1 w1)
theorem S_ref05_Mul (v0_a : Int) (v1_b : Int) (K : Int → World → Prop) (w0 : World) (h : F_ref05_Mul v0_a v1_b K w0) : C_ref05_Mul v0_a v1_b K w0 := by
  have e : denFn P [(1003, [(0, .int .u64), (1, .int .u64), (5, .int .u64)]), (6, [(5, .int .u64)])] Try.f52 #[.int .u64 v0_a, .int .u64 v1_b] (.int .u64) K w0 = F_ref05_Mul v0_a v1_b K w0 := by kernel_rfl
  exact fn_sound mixed (f := 52) Try.func52 (by kernel_rfl) (e.mpr h)

def F_ref10_Letter (v0_s : yevergreenref10_S.T) (v1_b : Int) (K : (yevergreenref10_S.T × Int × Int) → World → Prop) (w0 : World) : Prop :=
allocK (.cells (cells yevergreenref10_S v0_s).toArray t_evergreenref10_S) w0 fun a1 w1 =>
allocK (.cells #[.int .i64 (0 : Int), .slice none 0 0, .slice none 0 0, .slice none 0 0] t_evergreenref10_S) w1 fun a2 w2 =>
∃ x3 : yevergreenref10_S.T, At w2 a1 (cells yevergreenref10_S x3) ∧
C_ref10_intern x3 ((1 : Int), (v1_b, ((0 : Int), ((0 : Int), (0 : Int))))) (1 : Int) (0 : Int) (fun x4 w3 =>
stK w3 a2 (cells yevergreenref10_S x4.1) fun w4 =>
∃ x5 : yevergreenref10_S.T, At w4 a2 (cells yevergreenref10_S x5) ∧
K (x5, x4.2.1, x4.2.2) w4) w2
theorem S_ref10_Letter (v0_s : yevergreenref10_S.T) (v1_b : Int) (K : (yevergreenref10_S.T × Int × Int) → World → Prop) (w0 : World) (h : F_ref10_Letter v0_s v1_b K w0) : C_ref10_Letter v0_s v1_b K w0 := by
  have e : denFn P [] Try.f53 #[val yevergreenref10_S v0_s, .int .u8 v1_b] (.tup (.pair yevergreenref10_S (.pair (.int .i64) (.int .i64)))) K w0 = F_ref10_Letter v0_s v1_b K w0 := by kernel_rfl
  exact fn_sound mixed (f := 53) Try.func53 (by kernel_rfl) (e.mpr h)

def F_ref10_Pair (v0_s : yevergreenref10_S.T) (v1_l : Int) (v2_r : Int) (K : (yevergreenref10_S.T × Int × Int) → World → Prop) (w0 : World) : Prop :=
allocK (.cells (cells yevergreenref10_S v0_s).toArray t_evergreenref10_S) w0 fun a1 w1 =>
allocK (.cells #[.int .i64 (0 : Int), .slice none 0 0, .slice none 0 0, .slice none 0 0] t_evergreenref10_S) w1 fun a2 w2 =>
JoinP (X := Bool × Unit) (fun R4 =>
∃ x5 : yevergreenref10_S.T, At w2 a1 (cells yevergreenref10_S x5) ∧
C_ref10_Unknown x5 v1_l (fun x6 w4 =>
gd x6 (
R4 (true, ()) w4) (
∃ x7 : yevergreenref10_S.T, At w4 a1 (cells yevergreenref10_S x7) ∧
C_ref10_Unknown x7 v2_r (fun x8 w5 =>
R4 (x8, ()) w5) w4)) w2) (fun x3 w3 => ∀ _ : Env,
gd x3.1 (
∃ x9 : yevergreenref10_S.T, At w3 a1 (cells yevergreenref10_S x9) ∧
stK w3 a2 (cells yevergreenref10_S x9) fun w6 =>
∃ x10 : yevergreenref10_S.T, At w6 a2 (cells yevergreenref10_S x10) ∧
K (x10, (0 : Int), (1 : Int)) w6) (
gd (v1_l == (0 : Int)) (
∃ x11 : yevergreenref10_S.T, At w3 a1 (cells yevergreenref10_S x11) ∧
stK w3 a2 (cells yevergreenref10_S x11) fun w7 =>
∃ x12 : yevergreenref10_S.T, At w7 a2 (cells yevergreenref10_S x12) ∧
K (x12, v2_r, (0 : Int)) w7) (
gd (v2_r == (0 : Int)) (
∃ x13 : yevergreenref10_S.T, At w3 a1 (cells yevergreenref10_S x13) ∧
stK w3 a2 (cells yevergreenref10_S x13) fun w8 =>
∃ x14 : yevergreenref10_S.T, At w8 a2 (cells yevergreenref10_S x14) ∧
K (x14, v1_l, (0 : Int)) w8) (
drawK w3 fun w9 =>
∃ x15 : yevergreenref10_S.T, At w9 a1 (cells yevergreenref10_S x15) ∧
∃ x16 : yevergreenref10_S.T, At w9 a1 (cells yevergreenref10_S x16) ∧
C_ref10_Length x15 v1_l (fun x17 w10 =>
At w10 a1 (cells yevergreenref10_S x16) ∧
C_ref10_Length x16 v2_r (fun x18 w11 =>
arith .i64 (x17 + x18) fun n19 =>
gd (decide ((1152921504606846976 : Int) < n19)) (
∃ x20 : yevergreenref10_S.T, At w11 a1 (cells yevergreenref10_S x20) ∧
stK w11 a2 (cells yevergreenref10_S x20) fun w12 =>
∃ x21 : yevergreenref10_S.T, At w12 a2 (cells yevergreenref10_S x21) ∧
K (x21, (0 : Int), (2 : Int)) w12) (
drawK w11 fun w13 =>
∃ x22 : yevergreenref10_S.T, At w13 a1 (cells yevergreenref10_S x22) ∧
∃ x23 : yevergreenref10_S.T, At w13 a1 (cells yevergreenref10_S x23) ∧
∃ x24 : yevergreenref10_S.T, At w13 a1 (cells yevergreenref10_S x24) ∧
C_ref10_Depth x23 v1_l (fun x25 w14 =>
At w14 a1 (cells yevergreenref10_S x24) ∧
At w14 a1 (cells yevergreenref10_S x22) ∧
C_ref10_Depth x24 v2_r (fun x26 w15 =>
At w15 a1 (cells yevergreenref10_S x22) ∧
arith .i64 ((1 : Int) + (if x25 < x26 then x26 else x25)) fun n27 =>
C_ref10_intern x22 ((2 : Int), ((0 : Int), (v1_l, (v2_r, (0 : Int))))) n19 n27 (fun x28 w16 =>
stK w16 a2 (cells yevergreenref10_S x28.1) fun w17 =>
∃ x29 : yevergreenref10_S.T, At w17 a2 (cells yevergreenref10_S x29) ∧
K (x29, x28.2.1, x28.2.2) w17) w15) w14) w13)) w10) w9))))
theorem S_ref10_Pair (v0_s : yevergreenref10_S.T) (v1_l : Int) (v2_r : Int) (K : (yevergreenref10_S.T × Int × Int) → World → Prop) (w0 : World) (h : F_ref10_Pair v0_s v1_l v2_r K w0) : C_ref10_Pair v0_s v1_l v2_r K w0 := by
  have e : denFn P [(2, [(17, .bool)])] Try.f54 #[val yevergreenref10_S v0_s, .int .i64 v1_l, .int .i64 v2_r] (.tup (.pair yevergreenref10_S (.pair (.int .i64) (.int .i64)))) K w0 = F_ref10_Pair v0_s v1_l v2_r K w0 := by kernel_rfl
  exact fn_sound mixed (f := 54) Try.func54 (by kernel_rfl) (e.mpr h)

def F_ref10_Power (v0_s : yevergreenref10_S.T) (v1_x : Int) (v2_k : Int) (K : (yevergreenref10_S.T × Int × Int) → World → Prop) (w0 : World) : Prop :=
allocK (.cells (cells yevergreenref10_S v0_s).toArray t_evergreenref10_S) w0 fun a1 w1 =>
allocK (.cells #[.int .i64 (0 : Int), .slice none 0 0, .slice none 0 0, .slice none 0 0] t_evergreenref10_S) w1 fun a2 w2 =>
JoinP (X := Bool × Unit) (fun R4 =>
∃ x5 : yevergreenref10_S.T, At w2 a1 (cells yevergreenref10_S x5) ∧
C_ref10_Unknown x5 v1_x (fun x6 w4 =>
gd x6 (
R4 (true, ()) w4) (
R4 (decide (v2_k < (0 : Int)), ()) w4)) w2) (fun x3 w3 => ∀ _ : Env,
gd x3.1 (
∃ x7 : yevergreenref10_S.T, At w3 a1 (cells yevergreenref10_S x7) ∧
stK w3 a2 (cells yevergreenref10_S x7) fun w5 =>
∃ x8 : yevergreenref10_S.T, At w5 a2 (cells yevergreenref10_S x8) ∧
K (x8, (0 : Int), (1 : Int)) w5) (
JoinP (X := Bool × Unit) (fun R10 =>
gd (v2_k == (0 : Int)) (
R10 (true, ()) w3) (
R10 (v1_x == (0 : Int), ()) w3)) (fun x9 w6 => ∀ _ : Env,
gd x9.1 (
∃ x11 : yevergreenref10_S.T, At w6 a1 (cells yevergreenref10_S x11) ∧
stK w6 a2 (cells yevergreenref10_S x11) fun w7 =>
∃ x12 : yevergreenref10_S.T, At w7 a2 (cells yevergreenref10_S x12) ∧
K (x12, (0 : Int), (0 : Int)) w7) (
gd (v2_k == (1 : Int)) (
∃ x13 : yevergreenref10_S.T, At w6 a1 (cells yevergreenref10_S x13) ∧
stK w6 a2 (cells yevergreenref10_S x13) fun w8 =>
∃ x14 : yevergreenref10_S.T, At w8 a2 (cells yevergreenref10_S x14) ∧
K (x14, v1_x, (0 : Int)) w8) (
∃ x15 : yevergreenref10_S.T, At w6 a1 (cells yevergreenref10_S x15) ∧
C_ref10_Length x15 v1_x (fun x16 w9 =>
x16 ≠ 0 ∧
arith .i64 (Int.tdiv (1152921504606846976 : Int) x16) fun n17 =>
gd (decide (n17 < v2_k)) (
∃ x18 : yevergreenref10_S.T, At w9 a1 (cells yevergreenref10_S x18) ∧
stK w9 a2 (cells yevergreenref10_S x18) fun w10 =>
∃ x19 : yevergreenref10_S.T, At w10 a2 (cells yevergreenref10_S x19) ∧
K (x19, (0 : Int), (2 : Int)) w10) (
drawK w9 fun w11 =>
∃ x20 : yevergreenref10_S.T, At w11 a1 (cells yevergreenref10_S x20) ∧
∃ x21 : yevergreenref10_S.T, At w11 a1 (cells yevergreenref10_S x21) ∧
∃ x22 : yevergreenref10_S.T, At w11 a1 (cells yevergreenref10_S x22) ∧
C_ref10_Length x21 v1_x (fun x23 w12 =>
At w12 a1 (cells yevergreenref10_S x22) ∧
At w12 a1 (cells yevergreenref10_S x20) ∧
arith .i64 (v2_k * x23) fun n24 =>
C_ref10_Depth x22 v1_x (fun x25 w13 =>
At w13 a1 (cells yevergreenref10_S x20) ∧
arith .i64 ((1 : Int) + x25) fun n26 =>
C_ref10_intern x20 ((3 : Int), ((0 : Int), (v1_x, ((0 : Int), v2_k)))) n24 n26 (fun x27 w14 =>
stK w14 a2 (cells yevergreenref10_S x27.1) fun w15 =>
∃ x28 : yevergreenref10_S.T, At w15 a2 (cells yevergreenref10_S x28) ∧
K (x28, x27.2.1, x27.2.2) w15) w13) w12) w11)) w6)))))
theorem S_ref10_Power (v0_s : yevergreenref10_S.T) (v1_x : Int) (v2_k : Int) (K : (yevergreenref10_S.T × Int × Int) → World → Prop) (w0 : World) (h : F_ref10_Power v0_s v1_x v2_k K w0) : C_ref10_Power v0_s v1_x v2_k K w0 := by
  have e : denFn P [(2, [(15, .bool)]), (4, [(22, .bool)])] Try.f55 #[val yevergreenref10_S v0_s, .int .i64 v1_x, .int .i64 v2_k] (.tup (.pair yevergreenref10_S (.pair (.int .i64) (.int .i64)))) K w0 = F_ref10_Power v0_s v1_x v2_k K w0 := by kernel_rfl
  exact fn_sound mixed (f := 55) Try.func55 (by kernel_rfl) (e.mpr h)

def F_digest_Letter (v0_b : Int) (K : yapi_Digest.T → World → Prop) (w0 : World) : Prop :=
allocK (.cells #[.int .u64 (0 : Int), .int .u64 (0 : Int)] t_api_Digest) w0 fun a1 w1 =>
arith .u64 (v0_b) fun n2 =>
arith .u64 (n2 + (1 : Int)) fun n3 =>
stK w1 a1 ([.int .u64 n3, .int .u64 (1103515245 : Int)]) fun w2 =>
∃ x4 : yapi_Digest.T, At w2 a1 (cells yapi_Digest x4) ∧
K x4 w2
theorem S_digest_Letter (v0_b : Int) (K : yapi_Digest.T → World → Prop) (w0 : World) (h : F_digest_Letter v0_b K w0) : C_digest_Letter v0_b K w0 := by
  have e : denFn P [] Try.f56 #[.int .u8 v0_b] yapi_Digest K w0 = F_digest_Letter v0_b K w0 := by kernel_rfl
  exact fn_sound mixed (f := 56) Try.func56 (by kernel_rfl) (e.mpr h)

def F_weight_Valid (v0_w : yapi_Weight.T) (K : Bool → World → Prop) (w0 : World) : Prop :=
allocK (.cells (cells yapi_Weight v0_w).toArray t_api_Weight) w0 fun a1 w1 =>
JoinP (X := Bool × Unit) (fun R3 =>
∃ x4 : Int, At w1 (a1.add 0) (cells (.int .i64) x4) ∧
C_length_Valid x4 (fun x5 w3 =>
gd (!x5) (
R3 (true, ()) w3) (
∃ x6 : Int, At w3 (a1.add 1) (cells (.int .i64) x6) ∧
R3 (decide (x6 < (0 : Int)), ()) w3)) w1) (fun x2 w2 => ∀ _ : Env,
gd x2.1 (
K false w2) (
JoinP (X := Unit) (fun R8 =>
∃ x9 : Int, At w2 (a1.add 1) (cells (.int .i64) x9) ∧
gd (x9 == (0 : Int)) (
JoinP (X := Bool × Unit) (fun R11 =>
∃ x12 : Int, At w2 (a1.add 2) (cells (.int .i64) x12) ∧
∃ x13 : Int, At w2 (a1.add 0) (cells (.int .i64) x13) ∧
gd (x12 != x13) (
R11 (true, ()) w2) (
∃ x14 : Int, At w2 (a1.add 3) (cells (.int .i64) x14) ∧
∃ x15 : Int, At w2 (a1.add 0) (cells (.int .i64) x15) ∧
R11 (x14 != x15, ()) w2)) (fun x10 w5 => ∀ _ : Env,
gd x10.1 (
K false w5) (
R8 () w5))) (
JoinP (X := Bool × Unit) (fun R17 =>
∃ x18 : Int, At w2 (a1.add 2) (cells (.int .i64) x18) ∧
gd (decide (x18 < (0 : Int))) (
R17 (true, ()) w2) (
∃ x19 : Int, At w2 (a1.add 2) (cells (.int .i64) x19) ∧
∃ x20 : Int, At w2 (a1.add 0) (cells (.int .i64) x20) ∧
gd (decide (x20 < x19)) (
R17 (true, ()) w2) (
∃ x21 : Int, At w2 (a1.add 3) (cells (.int .i64) x21) ∧
gd (decide (x21 < (0 : Int))) (
R17 (true, ()) w2) (
∃ x22 : Int, At w2 (a1.add 3) (cells (.int .i64) x22) ∧
∃ x23 : Int, At w2 (a1.add 0) (cells (.int .i64) x23) ∧
∃ x24 : Int, At w2 (a1.add 2) (cells (.int .i64) x24) ∧
arith .i64 (x23 - x24) fun n25 =>
R17 (decide (n25 < x22), ()) w2)))) (fun x16 w6 => ∀ _ : Env,
gd x16.1 (
K false w6) (
∃ x26 : Int, At w6 (a1.add 0) (cells (.int .i64) x26) ∧
∃ x27 : Int, At w6 (a1.add 2) (cells (.int .i64) x27) ∧
arith .i64 (x26 - x27) fun n28 =>
∃ x29 : Int, At w6 (a1.add 3) (cells (.int .i64) x29) ∧
arith .i64 (n28 - x29) fun n30 =>
JoinP (X := Bool × Unit) (fun R32 =>
∃ x33 : Int, At w6 (a1.add 1) (cells (.int .i64) x33) ∧
gd (decide (n30 < x33)) (
R32 (true, ()) w6) (
∃ x34 : Int, At w6 (a1.add 1) (cells (.int .i64) x34) ∧
gd (x34 == (1 : Int)) (
R32 (n30 != (1 : Int), ()) w6) (
R32 (false, ()) w6))) (fun x31 w7 => ∀ _ : Env,
gd x31.1 (
K false w7) (
R8 () w7)))))) (fun x7 w4 => ∀ _ : Env,
JoinP (X := Bool × Unit) (fun R36 =>
∃ x37 : Int, At w4 ((a1.add 4).add 0) (cells (.int .u64) x37) ∧
gd (decide ((2305843009213693951 : Int) ≤ x37)) (
R36 (true, ()) w4) (
∃ x38 : Int, At w4 (a1.add 0) (cells (.int .i64) x38) ∧
gd (x38 == (0 : Int)) (
∃ x39 : Int, At w4 ((a1.add 4).add 0) (cells (.int .u64) x39) ∧
R36 (x39 != (0 : Int), ()) w4) (
R36 (false, ()) w4))) (fun x35 w8 => ∀ _ : Env,
gd x35.1 (
K false w8) (
drawK w8 fun w9 =>
∃ x40 : Int, At w9 ((a1.add 4).add 1) (cells (.int .u64) x40) ∧
∃ x41 : Int, At w9 (a1.add 0) (cells (.int .i64) x41) ∧
arith .u64 (x41) fun n42 =>
C_modular_Pow (1103515245 : Int) n42 (fun x43 w10 =>
At w10 ((a1.add 4).add 1) (cells (.int .u64) x40) ∧
K (x40 == x43) w10) w9)))))
theorem S_weight_Valid (v0_w : yapi_Weight.T) (K : Bool → World → Prop) (w0 : World) (h : F_weight_Valid v0_w K w0) : C_weight_Valid v0_w K w0 := by
  have e : denFn P [(2, [(12, .bool)]), (11, []), (5, [(27, .bool)]), (7, [(52, .bool)]), (10, [(73, .bool)]), (12, [(88, .bool)])] Try.f57 #[val yapi_Weight v0_w] .bool K w0 = F_weight_Valid v0_w K w0 := by kernel_rfl
  exact fn_sound mixed (f := 57) Try.func57 (by kernel_rfl) (e.mpr h)

end Go.Proofs.Ytddhndabnbckmaa
