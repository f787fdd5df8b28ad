/- Texts that belong together, joined: Text19. No conditions. -/
import Derived.Test.YtcmncfglcjcmhaaGreatX0
/- The typed texts of the functions, printed by a program; each proved to imply the call. -/
set_option linter.unusedVariables false
set_option maxRecDepth 100000
set_option maxHeartbeats 4000000
namespace Go.Proofs.YtcmncfglcjcmhaaGreat
open Go.Den

def F_intern_Store_Pair (v0_s : Option Addr) (v1_l : Int) (v2_r : Int) (K : (Int × Value) → World → Prop) (w0 : World) : Prop :=
gd v0_s.isNone (
K ((0 : Int), .iface t_api_Errno (.int .i64 (5 : Int))) w0) (
JoinP (X := Bool × Unit) (fun R2 =>
C_intern_Store_known v0_s v1_l (fun x3 w2 =>
gd (!x3) (
R2 (true, ()) w2) (
C_intern_Store_known v0_s v2_r (fun x4 w3 =>
R2 (!x4, ()) w3) w2)) w0) (fun x1 w1 => ∀ _ : Env,
gd x1.1 (
K ((0 : Int), .iface t_api_Errno (.int .i64 (1 : Int))) w1) (
gd (v1_l == (0 : Int)) (
K (v2_r, .nilIface) w1) (
gd (v2_r == (0 : Int)) (
K (v1_l, .nilIface) w1) (
C_intern_Store_at v0_s v1_l (fun x5 w4 =>
C_intern_Store_at v0_s v2_r (fun x6 w5 =>
allocK (.cells #[.int .i64 (0 : Int), .int .u8 (0 : Int), .int .i64 (0 : Int), .int .i64 (0 : Int), .int .i64 (0 : Int), .int .i64 (0 : Int), .int .i64 (0 : Int), .int .i64 (0 : Int), .int .i64 (0 : Int), .int .u64 (0 : Int), .int .u64 (0 : Int), .int .i64 (0 : Int), .bool false] t_intern_entry) w5 fun a7 w6 =>
allocK (.cells #[.int .i64 (0 : Int), .int .u8 (0 : Int), .int .i64 (0 : Int), .int .i64 (0 : Int), .int .i64 (0 : Int), .int .i64 (0 : Int), .int .i64 (0 : Int), .int .i64 (0 : Int), .int .i64 (0 : Int), .int .u64 (0 : Int), .int .u64 (0 : Int), .int .i64 (0 : Int), .bool false] t_intern_entry) w6 fun a8 w7 =>
stK w7 a7 (cells yintern_entry x5) fun w8 =>
stK w8 a8 (cells yintern_entry x6) fun w9 =>
∃ x9 : Int, At w9 ((a7.add 5).add 0) (cells (.int .i64) x9) ∧
∃ x10 : Int, At w9 ((a8.add 5).add 0) (cells (.int .i64) x10) ∧
C_length_Add x9 x10 (fun x11 w10 =>
nilIfcK x11.2 fun b12 =>
gd (!b12) (
K ((0 : Int), .iface t_api_Errno (.int .i64 (2 : Int))) w10) (
allocK (.cells #[.int .i64 (0 : Int), .int .u8 (0 : Int), .int .i64 (0 : Int), .int .i64 (0 : Int), .int .i64 (0 : Int)] t_api_Rule) w10 fun a13 w11 =>
stK w11 a13 ([.int .i64 (2 : Int), .int .u8 (0 : Int), .int .i64 v1_l, .int .i64 v2_r, .int .i64 (0 : Int)]) fun w12 =>
∃ x14 : yapi_Rule.T, At w12 a13 (cells yapi_Rule x14) ∧
C_intern_Store_find v0_s x14 (fun x15 w13 =>
JoinP (X := Bool × Unit) (fun R17 =>
gd (x15.1 != (0 : Int)) (
R17 (true, ()) w13) (
nilIfcK x15.2 fun b18 =>
R17 (!b18, ()) w13)) (fun x16 w14 => ∀ _ : Env,
gd x16.1 (
K (x15.1, x15.2) w14) (
∃ x19 : yapi_Weight.T, At w14 (a7.add 5) (cells yapi_Weight x19) ∧
∃ x20 : yapi_Weight.T, At w14 (a8.add 5) (cells yapi_Weight x20) ∧
C_weight_Join x19 x20 (fun x21 w15 =>
allocK (.cells #[.int .i64 (0 : Int), .int .i64 (0 : Int), .int .i64 (0 : Int), .int .i64 (0 : Int), .int .u64 (0 : Int), .int .u64 (0 : Int)] t_api_Weight) w15 fun a22 w16 =>
stK w16 a22 (cells yapi_Weight x21.1) fun w17 =>
nilIfcK x21.2 fun b23 =>
gd (!b23) (
K ((0 : Int), x21.2) w17) (
∃ x24 : Int, At w17 (a7.add 11) (cells (.int .i64) x24) ∧
∃ x25 : Int, At w17 (a8.add 11) (cells (.int .i64) x25) ∧
arith .i64 (x24 - x25) fun n26 =>
∃ x27 : yapi_Rule.T, At w17 a13 (cells yapi_Rule x27) ∧
∃ x28 : yapi_Weight.T, At w17 a22 (cells yapi_Weight x28) ∧
∃ x29 : Int, At w17 (a7.add 11) (cells (.int .i64) x29) ∧
∃ x30 : Int, At w17 (a8.add 11) (cells (.int .i64) x30) ∧
arith .i64 ((1 : Int) + (if x29 < x30 then x30 else x29)) fun n31 =>
∃ x32 : Bool, At w17 (a7.add 12) (cells .bool x32) ∧
gd x32 (
∃ x33 : Bool, At w17 (a8.add 12) (cells .bool x33) ∧
gd x33 (
gd (decide ((-1 : Int) ≤ n26)) (
C_intern_Store_add v0_s ((x27.1, (x27.2.1, (x27.2.2.1, (x27.2.2.2.1, x27.2.2.2.2)))), ((x28.1, (x28.2.1, (x28.2.2.1, (x28.2.2.2.1, (x28.2.2.2.2.1, x28.2.2.2.2.2))))), (n31, decide (n26 ≤ (1 : Int))))) (fun x34 w18 =>
K (x34, .nilIface) w18) w17) (
C_intern_Store_add v0_s ((x27.1, (x27.2.1, (x27.2.2.1, (x27.2.2.2.1, x27.2.2.2.2)))), ((x28.1, (x28.2.1, (x28.2.2.1, (x28.2.2.2.1, (x28.2.2.2.2.1, x28.2.2.2.2.2))))), (n31, false))) (fun x35 w19 =>
K (x35, .nilIface) w19) w17)) (
C_intern_Store_add v0_s ((x27.1, (x27.2.1, (x27.2.2.1, (x27.2.2.2.1, x27.2.2.2.2)))), ((x28.1, (x28.2.1, (x28.2.2.1, (x28.2.2.2.1, (x28.2.2.2.2.1, x28.2.2.2.2.2))))), (n31, false))) (fun x36 w20 =>
K (x36, .nilIface) w20) w17)) (
C_intern_Store_add v0_s ((x27.1, (x27.2.1, (x27.2.2.1, (x27.2.2.2.1, x27.2.2.2.2)))), ((x28.1, (x28.2.1, (x28.2.2.1, (x28.2.2.2.1, (x28.2.2.2.2.1, x28.2.2.2.2.2))))), (n31, false))) (fun x37 w21 =>
K (x37, .nilIface) w21) w17))) w14))) w12)) w9) w4) w1)))))
theorem S_intern_Store_Pair (v0_s : Option Addr) (v1_l : Int) (v2_r : Int) (K : (Int × Value) → World → Prop) (w0 : World) (h : F_intern_Store_Pair v0_s v1_l v2_r K w0) : C_intern_Store_Pair v0_s v1_l v2_r K w0 := by
  have e : denFn P [(4, [(30, .bool)]), (16, [(71, .bool)])] Tryz.f103 #[.pointer v0_s, .int .i64 v1_l, .int .i64 v2_r] (.tup (.pair (.int .i64) .iface)) K w0 = F_intern_Store_Pair v0_s v1_l v2_r K w0 := by kernel_rfl
  exact fn_sound mixed (f := 103) Tryz.func103 (by kernel_rfl) (e.mpr h)

def F_avl_parts (v0_s : Option Addr) (v1_id : Int) (K : (Int × Int × Int × Int × Value) → World → Prop) (w0 : World) : Prop :=
C_intern_Store_Rule v0_s v1_id (fun x1 w1 =>
allocK (.cells #[.int .i64 (0 : Int), .int .u8 (0 : Int), .int .i64 (0 : Int), .int .i64 (0 : Int), .int .i64 (0 : Int)] t_api_Rule) w1 fun a2 w2 =>
stK w2 a2 (cells yapi_Rule x1.1) fun w3 =>
nilIfcK x1.2 fun b3 =>
gd (!b3) (
K ((0 : Int), (0 : Int), (0 : Int), (0 : Int), x1.2) w3) (
∃ x4 : Int, At w3 (a2.add 2) (cells (.int .i64) x4) ∧
C_intern_Store_Depth v0_s x4 (fun x5 w4 =>
nilIfcK x5.2 fun b6 =>
gd (!b6) (
K ((0 : Int), (0 : Int), (0 : Int), (0 : Int), x5.2) w4) (
∃ x7 : Int, At w4 (a2.add 3) (cells (.int .i64) x7) ∧
C_intern_Store_Depth v0_s x7 (fun x8 w5 =>
nilIfcK x8.2 fun b9 =>
gd (!b9) (
K ((0 : Int), (0 : Int), (0 : Int), (0 : Int), x8.2) w5) (
drawK w5 fun w6 =>
∃ x10 : Int, At w6 (a2.add 2) (cells (.int .i64) x10) ∧
∃ x11 : Int, At w6 (a2.add 3) (cells (.int .i64) x11) ∧
K (x10, x11, x5.1, x8.1, .nilIface) w6)) w4)) w3)) w0
theorem S_avl_parts (v0_s : Option Addr) (v1_id : Int) (K : (Int × Int × Int × Int × Value) → World → Prop) (w0 : World) (h : F_avl_parts v0_s v1_id K w0) : C_avl_parts v0_s v1_id K w0 := by
  have e : denFn P [] Tryz.f104 #[.pointer v0_s, .int .i64 v1_id] (.tup (.pair (.int .i64) (.pair (.int .i64) (.pair (.int .i64) (.pair (.int .i64) .iface))))) K w0 = F_avl_parts v0_s v1_id K w0 := by kernel_rfl
  exact fn_sound mixed (f := 104) Tryz.func104 (by kernel_rfl) (e.mpr h)

def F_avl_level (v0_s : Option Addr) (v1_a : Int) (v2_b : Int) (K : (Int × Value) → World → Prop) (w0 : World) : Prop :=
C_intern_Store_Depth v0_s v1_a (fun x1 w1 =>
nilIfcK x1.2 fun b2 =>
gd (!b2) (
K ((0 : Int), x1.2) w1) (
C_intern_Store_Depth v0_s v2_b (fun x3 w2 =>
nilIfcK x3.2 fun b4 =>
gd (!b4) (
K ((0 : Int), x3.2) w2) (
arith .i64 (x3.1 + (1 : Int)) fun n5 =>
gd (decide (n5 < x1.1)) (
C_avl_parts v0_s v1_a (fun x6 w3 =>
nilIfcK x6.2.2.2.2 fun b7 =>
gd (!b7) (
K ((0 : Int), x6.2.2.2.2) w3) (
gd (decide (x6.2.2.2.1 ≤ x6.2.2.1)) (
C_avl_two v0_s x6.1 x6.2.1 v2_b (fun x8 w4 =>
K (x8.1, x8.2) w4) w3) (
C_avl_parts v0_s x6.2.1 (fun x9 w5 =>
nilIfcK x9.2.2.2.2 fun b10 =>
gd (!b10) (
K ((0 : Int), x9.2.2.2.2) w5) (
C_avl_four v0_s x6.1 x9.1 x9.2.1 v2_b (fun x11 w6 =>
K (x11.1, x11.2) w6) w5)) w3))) w2) (
arith .i64 (x1.1 + (1 : Int)) fun n12 =>
gd (decide (n12 < x3.1)) (
C_avl_parts v0_s v2_b (fun x13 w7 =>
nilIfcK x13.2.2.2.2 fun b14 =>
gd (!b14) (
K ((0 : Int), x13.2.2.2.2) w7) (
gd (decide (x13.2.2.2.1 < x13.2.2.1)) (
C_avl_parts v0_s x13.1 (fun x15 w8 =>
nilIfcK x15.2.2.2.2 fun b16 =>
gd (!b16) (
K ((0 : Int), x15.2.2.2.2) w8) (
C_avl_four v0_s v1_a x15.1 x15.2.1 x13.2.1 (fun x17 w9 =>
K (x17.1, x17.2) w9) w8)) w7) (
C_intern_Store_Pair v0_s v1_a x13.1 (fun x18 w10 =>
nilIfcK x18.2 fun b19 =>
gd (!b19) (
K ((0 : Int), x18.2) w10) (
C_intern_Store_Pair v0_s x18.1 x13.2.1 (fun x20 w11 =>
K (x20.1, x20.2) w11) w10)) w7))) w2) (
C_intern_Store_Pair v0_s v1_a v2_b (fun x21 w12 =>
K (x21.1, x21.2) w12) w2)))) w1)) w0
theorem S_avl_level (v0_s : Option Addr) (v1_a : Int) (v2_b : Int) (K : (Int × Value) → World → Prop) (w0 : World) (h : F_avl_level v0_s v1_a v2_b K w0) : C_avl_level v0_s v1_a v2_b K w0 := by
  have e : denFn P [] Tryz.f105 #[.pointer v0_s, .int .i64 v1_a, .int .i64 v2_b] (.tup (.pair (.int .i64) .iface)) K w0 = F_avl_level v0_s v1_a v2_b K w0 := by kernel_rfl
  exact fn_sound mixed (f := 105) Tryz.func105 (by kernel_rfl) (e.mpr h)

def F_split_size (v0_s : Option Addr) (v1_id : Int) (K : (Int × Value) → World → Prop) (w0 : World) : Prop :=
C_intern_Store_Weight v0_s v1_id (fun x1 w1 =>
allocK (.cells #[.int .i64 (0 : Int), .int .i64 (0 : Int), .int .i64 (0 : Int), .int .i64 (0 : Int), .int .u64 (0 : Int), .int .u64 (0 : Int)] t_api_Weight) w1 fun a2 w2 =>
stK w2 a2 (cells yapi_Weight x1.1) fun w3 =>
nilIfcK x1.2 fun b3 =>
gd (!b3) (
K ((0 : Int), x1.2) w3) (
∃ x4 : Int, At w3 (a2.add 0) (cells (.int .i64) x4) ∧
K (x4, .nilIface) w3)) w0
theorem S_split_size (v0_s : Option Addr) (v1_id : Int) (K : (Int × Value) → World → Prop) (w0 : World) (h : F_split_size v0_s v1_id K w0) : C_split_size v0_s v1_id K w0 := by
  have e : denFn P [] Tryz.f106 #[.pointer v0_s, .int .i64 v1_id] (.tup (.pair (.int .i64) .iface)) K w0 = F_split_size v0_s v1_id K w0 := by kernel_rfl
  exact fn_sound mixed (f := 106) Tryz.func106 (by kernel_rfl) (e.mpr h)

end Go.Proofs.YtcmncfglcjcmhaaGreat
