/- Texts that belong together, joined: Text2. No conditions. -/
import Derived.Test.YtcmncfglcjcmhaaGreatX0
/- The typed texts of the functions, printed by a program; each proved to imply the call. -/
set_option linter.unusedVariables false
set_option maxRecDepth 100000
set_option maxHeartbeats 4000000
namespace Go.Proofs.YtcmncfglcjcmhaaGreat
open Go.Den

def F_top_WholeAccess (v0_list : Sl) (v1_from : Int) (v2_n : Int) (K : Bool → World → Prop) (w0 : World) : Prop :=
C_top_stands  (fun x1 w1 =>
gd (!x1) (
K false w1) (
C_top_begin v0_list (fun x2 w2 =>
gd (!x2.2.2.2) (
K false w2) (
LoopP (X := Int × Unit) ((0 : Int), ()) w2 fun next4 x3 w3 => ∀ _ : Env,
gd (decide (x3.1 < (x2.2.1.len : Int))) (
JoinP (X := Unit) (fun R6 =>
idxK x2.2.2.1.a x2.2.2.1.len x3.1 1 fun p7 =>
∃ x8 : ByteArray, At w3 p7 (cells .str x8) ∧
arith .i64 ((x8.size : Int) + (1 : Int)) fun n9 =>
C_top_at v1_from n9 (fun x10 w5 =>
arith .i64 ((x8.size : Int) - x10) fun n11 =>
arith .i64 (n11 + (1 : Int)) fun n12 =>
C_top_at v2_n n12 (fun x13 w6 =>
arith .i64 (x10 + x13) fun n14 =>
strK x8 (some x10) (some n14) fun s15 =>
idxK x2.2.1.a x2.2.1.len x3.1 1 fun p16 =>
∃ x17 : Int, At w6 p16 (cells (.int .i64) x17) ∧
C_access_Extract x2.1 x17 x10 x13 (fun x18 w7 =>
idxK x2.2.1.a x2.2.1.len x3.1 1 fun p19 =>
∃ x20 : Int, At w7 p19 (cells (.int .i64) x20) ∧
C_access_Weight x2.1 x20 x10 x13 (fun x21 w8 =>
allocK (.cells #[.int .i64 (0 : Int), .int .i64 (0 : Int), .int .i64 (0 : Int), .int .i64 (0 : Int), .int .u64 (0 : Int), .int .u64 (0 : Int)] t_api_Weight) w8 fun a22 w9 =>
stK w9 a22 (cells yapi_Weight x21.1) fun w10 =>
idxK x2.2.1.a x2.2.1.len x3.1 1 fun p23 =>
∃ x24 : Int, At w10 p23 (cells (.int .i64) x24) ∧
C_access_Count x2.1 x24 ((0 : Int), ((8589934592 : Int), ((0 : Int), (0 : Int)))) x10 x13 (fun x25 w11 =>
LoopP (X := Int × Int × Unit) ((0 : Int), (0 : Int), ()) w11 fun next27 x26 w12 => ∀ _ : Env,
gd (decide (x26.2.1 < (s15.size : Int))) (
JoinP (X := Int × Unit) (fun R29 =>
0 ≤ x26.2.1 ∧ ∃ hx : x26.2.1.toNat < s15.size,
gd (((s15[x26.2.1.toNat]).toNat : Int) == (97 : Int)) (
arith .i64 (x26.1 + (1 : Int)) fun n30 =>
R29 (n30, ()) w12) (
R29 (x26.1, ()) w12)) (fun x28 w13 => ∀ _ : Env,
arith .i64 (x26.2.1 + (1 : Int)) fun n31 =>
next27 (x28.1, n31, ()) w13)) (
JoinP (X := Bool × Unit) (fun R33 =>
drawK w12 fun w15 =>
nilIfcK x18.2 fun b34 =>
gd (!b34) (
R33 (true, ()) w15) (
nilIfcK x21.2 fun b35 =>
gd (!b35) (
R33 (true, ()) w15) (
nilIfcK x25.2 fun b36 =>
gd (!b36) (
R33 (true, ()) w15) (
runK P .str (convert t_sl_uint8 t_string (.slice x18.1.a x18.1.len x18.1.cap)) w15 fun x37 w16 =>
gd (!(x37.toList == s15.toList)) (
R33 (true, ()) w16) (
∃ x38 : yapi_Weight.T, At w16 a22 (cells yapi_Weight x38) ∧
runK P .slice (convert t_string t_sl_uint8 (.string s15)) w16 fun x39 w17 =>
At w17 a22 (cells yapi_Weight x38) ∧
C_weight_Of x39 (fun x40 w18 =>
At w18 a22 (cells yapi_Weight x38) ∧
testK P (do eqGuard .neq t_api_Weight (.tmp 131) (.tmp 134) (val yapi_Weight x38) (val yapi_Weight x40); binOp .neq t_api_Weight (val yapi_Weight x38) (val yapi_Weight x40)) fun b41 =>
gd b41 (
R33 (true, ()) w18) (
R33 (x25.1 != x26.1, ()) w18)) w17))))) (fun x32 w14 => ∀ _ : Env,
gd x32.1 (
K false w14) (
gd (x10 == (x8.size : Int)) (
R6 () w14) (
idxK x2.2.1.a x2.2.1.len x3.1 1 fun p42 =>
∃ x43 : Int, At w14 p42 (cells (.int .i64) x43) ∧
C_access_At x2.1 x43 x10 (fun x44 w19 =>
idxK x2.2.1.a x2.2.1.len x3.1 1 fun p45 =>
∃ x46 : Int, At w19 p45 (cells (.int .i64) x46) ∧
C_access_Path x2.1 x46 x10 (fun x47 w20 =>
idxK x2.2.1.a x2.2.1.len x3.1 1 fun p48 =>
∃ x49 : Int, At w20 p48 (cells (.int .i64) x49) ∧
C_intern_Store_Depth x2.1 x49 (fun x50 w21 =>
JoinP (X := Bool × Unit) (fun R52 =>
drawK w21 fun w23 =>
nilIfcK x44.2 fun b53 =>
gd (!b53) (
R52 (true, ()) w23) (
nilIfcK x47.2 fun b54 =>
gd (!b54) (
R52 (true, ()) w23) (
nilIfcK x50.2 fun b55 =>
gd (!b55) (
R52 (true, ()) w23) (
0 ≤ x10 ∧ ∃ hx : x10.toNat < x8.size,
gd (x44.1 != ((x8[x10.toNat]).toNat : Int)) (
R52 (true, ()) w23) (
gd ((x47.1.len : Int) == (0 : Int)) (
R52 (true, ()) w23) (
arith .i64 (x50.1 + (1 : Int)) fun n56 =>
gd (decide (n56 < (x47.1.len : Int))) (
R52 (true, ()) w23) (
idxK x47.1.a x47.1.len (0 : Int) 1 fun p57 =>
∃ x58 : Int, At w23 p57 (cells (.int .i64) x58) ∧
idxK x2.2.1.a x2.2.1.len x3.1 1 fun p59 =>
∃ x60 : Int, At w23 p59 (cells (.int .i64) x60) ∧
R52 (x58 != x60, ()) w23))))))) (fun x51 w22 => ∀ _ : Env,
gd x51.1 (
K false w22) (
arith .i64 ((x47.1.len : Int) - (1 : Int)) fun n61 =>
idxK x47.1.a x47.1.len n61 1 fun p62 =>
∃ x63 : Int, At w22 p62 (cells (.int .i64) x63) ∧
C_intern_Store_Rule x2.1 x63 (fun x64 w24 =>
allocK (.cells #[.int .i64 (0 : Int), .int .u8 (0 : Int), .int .i64 (0 : Int), .int .i64 (0 : Int), .int .i64 (0 : Int)] t_api_Rule) w24 fun a65 w25 =>
stK w25 a65 (cells yapi_Rule x64.1) fun w26 =>
JoinP (X := Bool × Unit) (fun R67 =>
drawK w26 fun w28 =>
nilIfcK x64.2 fun b68 =>
gd (!b68) (
R67 (true, ()) w28) (
∃ x69 : yapi_Rule.T, At w28 a65 (cells yapi_Rule x69) ∧
0 ≤ x10 ∧ ∃ hx : x10.toNat < x8.size,
testK P (do eqGuard .neq t_api_Rule (.tmp 228) (.tmp 232) (val yapi_Rule x69) (.agg #[.int .i64 (1 : Int), .int .u8 ((x8[x10.toNat]).toNat : Int), .int .i64 (0 : Int), .int .i64 (0 : Int), .int .i64 (0 : Int)]); binOp .neq t_api_Rule (val yapi_Rule x69) (.agg #[.int .i64 (1 : Int), .int .u8 ((x8[x10.toNat]).toNat : Int), .int .i64 (0 : Int), .int .i64 (0 : Int), .int .i64 (0 : Int)])) fun b70 =>
R67 (b70, ()) w28)) (fun x66 w27 => ∀ _ : Env,
gd x66.1 (
K false w27) (
R6 () w27))) w22))) w20) w19) w14))))) w10) w7) w6) w5) w3) (fun x5 w4 => ∀ _ : Env,
arith .i64 (x3.1 + (1 : Int)) fun n71 =>
next4 (n71, ()) w4)) (
K true w3))) w1)) w0
theorem S_top_WholeAccess (v0_list : Sl) (v1_from : Int) (v2_n : Int) (K : Bool → World → Prop) (w0 : World) (h : F_top_WholeAccess v0_list v1_from v2_n K w0) : C_top_WholeAccess v0_list v1_from v2_n K w0 := by
  have e : denFn P [(1007, [(11, .int .i64)]), (8, []), (1018, [(22, .int .i64), (23, .int .i64)]), (19, [(22, .int .i64)]), (23, [(141, .bool)]), (29, [(213, .bool)]), (32, [(234, .bool)])] Tryz.f5 #[.slice v0_list.a v0_list.len v0_list.cap, .int .i64 v1_from, .int .i64 v2_n] .bool K w0 = F_top_WholeAccess v0_list v1_from v2_n K w0 := by kernel_rfl
  exact fn_sound mixed (f := 5) Tryz.func5 (by kernel_rfl) (e.mpr h)

def F_top_stands  (K : Bool → World → Prop) (w0 : World) : Prop :=
allocK (.cells #[.int .i64 (0 : Int), .int .i64 (0 : Int), .int .i64 (0 : Int), .int .i64 (0 : Int), .int .i64 (0 : Int), .string (⟨#[97, 98]⟩ : ByteArray), .int .i64 (1 : Int), .int .i64 (0 : Int), .int .i64 (0 : Int), .int .i64 (0 : Int), .int .i64 (0 : Int), .string (⟨#[]⟩ : ByteArray), .int .i64 (3 : Int), .int .i64 (1 : Int), .int .i64 (0 : Int), .int .i64 (1 : Int), .int .i64 (2 : Int), .string (⟨#[]⟩ : ByteArray)] t_evergreentop_Make) w0 fun a1 w1 =>
C_top_begin (⟨some a1, 3, 3⟩) (fun x2 w2 =>
JoinP (X := Bool × Unit) (fun R4 =>
gd (!x2.2.2.2) (
R4 (true, ()) w2) (
gd ((x2.2.1.len : Int) != (3 : Int)) (
R4 (true, ()) w2) (
idxK x2.2.2.1.a x2.2.2.1.len (2 : Int) 1 fun p5 =>
∃ x6 : ByteArray, At w2 p5 (cells .str x6) ∧
R4 (!(x6.toList == (⟨#[98, 97]⟩ : ByteArray).toList), ()) w2))) (fun x3 w3 => ∀ _ : Env,
gd x3.1 (
K false w3) (
idxK x2.2.1.a x2.2.1.len (2 : Int) 1 fun p7 =>
∃ x8 : Int, At w3 p7 (cells (.int .i64) x8) ∧
C_intern_Store_Weight x2.1 x8 (fun x9 w4 =>
allocK (.cells #[.int .i64 (0 : Int), .int .i64 (0 : Int), .int .i64 (0 : Int), .int .i64 (0 : Int), .int .u64 (0 : Int), .int .u64 (0 : Int)] t_api_Weight) w4 fun a10 w5 =>
stK w5 a10 (cells yapi_Weight x9.1) fun w6 =>
nilIfcK x9.2 fun b11 =>
gd b11 (
∃ x12 : Int, At w6 (a10.add 0) (cells (.int .i64) x12) ∧
K (x12 == (2 : Int)) w6) (
K false w6)) w3))) w1
theorem S_top_stands  (K : Bool → World → Prop) (w0 : World) (h : F_top_stands  K w0) : C_top_stands  K w0 := by
  have e : denFn P [(3, [(29, .bool)])] Tryz.f6 #[] .bool K w0 = F_top_stands  K w0 := by kernel_rfl
  exact fn_sound mixed (f := 6) Tryz.func6 (by kernel_rfl) (e.mpr h)

def F_top_begin (v0_list : Sl) (K : ((Option Addr) × Sl × Sl × Bool) → World → Prop) (w0 : World) : Prop :=
C_intern_New (1048576 : Int) (fun x1 w1 =>
gd x1.isNone (
K (none, ⟨none, 0, 0⟩, ⟨none, 0, 0⟩, false) w1) (
C_top_build x1 v0_list (fun x2 w2 =>
K (x1, x2.1, x2.2.1, x2.2.2) w2) w1)) w0
theorem S_top_begin (v0_list : Sl) (K : ((Option Addr) × Sl × Sl × Bool) → World → Prop) (w0 : World) (h : F_top_begin v0_list K w0) : C_top_begin v0_list K w0 := by
  have e : denFn P [] Tryz.f7 #[.slice v0_list.a v0_list.len v0_list.cap] (.tup (.pair .ptr (.pair .slice (.pair .slice .bool)))) K w0 = F_top_begin v0_list K w0 := by kernel_rfl
  exact fn_sound mixed (f := 7) Tryz.func7 (by kernel_rfl) (e.mpr h)

end Go.Proofs.YtcmncfglcjcmhaaGreat
