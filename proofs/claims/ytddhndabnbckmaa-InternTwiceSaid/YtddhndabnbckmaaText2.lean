/- The typed texts of the functions, printed by a program; each proved to imply the call. -/
import Derived.Test.YtddhndabnbckmaaTextC
set_option linter.unusedVariables false
set_option maxRecDepth 100000
set_option maxHeartbeats 4000000
namespace Go.Proofs.Ytddhndabnbckmaa
open Go.Den

def F_intern_Store_Letter (v0_s : Option Addr) (v1_b : Int) (K : (Int × Value) → World → Prop) (w0 : World) : Prop :=
gd v0_s.isNone (
K ((0 : Int), .iface t_api_Errno (.int .i64 (5 : Int))) w0) (
allocK (.cells #[.int .i64 (0 : Int), .int .u8 (0 : Int), .int .i64 (0 : Int), .int .i64 (0 : Int), .int .i64 (0 : Int)] t_api_Rule) w0 fun a1 w1 =>
stK w1 a1 ([.int .i64 (1 : Int), .int .u8 v1_b, .int .i64 (0 : Int), .int .i64 (0 : Int), .int .i64 (0 : Int)]) fun w2 =>
∃ x2 : yapi_Rule.T, At w2 a1 (cells yapi_Rule x2) ∧
C_intern_Store_find v0_s x2 (fun x3 w3 =>
JoinP (X := Bool × Unit) (fun R5 =>
gd (x3.1 != (0 : Int)) (
R5 (true, ()) w3) (
nilIfcK x3.2 fun b6 =>
R5 (!b6, ()) w3)) (fun x4 w4 => ∀ _ : Env,
gd x4.1 (
K (x3.1, x3.2) w4) (
drawK w4 fun w5 =>
∃ x7 : yapi_Rule.T, At w5 a1 (cells yapi_Rule x7) ∧
C_weight_Letter v1_b (fun x8 w6 =>
At w6 a1 (cells yapi_Rule x7) ∧
C_intern_Store_add v0_s ((x7.1, (x7.2.1, (x7.2.2.1, (x7.2.2.2.1, x7.2.2.2.2)))), ((x8.1, (x8.2.1, (x8.2.2.1, (x8.2.2.2.1, (x8.2.2.2.2.1, x8.2.2.2.2.2))))), ((0 : Int), true))) (fun x9 w7 =>
K (x9, .nilIface) w7) w6) w5))) w2)
theorem S_intern_Store_Letter (v0_s : Option Addr) (v1_b : Int) (K : (Int × Value) → World → Prop) (w0 : World) (h : F_intern_Store_Letter v0_s v1_b K w0) : C_intern_Store_Letter v0_s v1_b K w0 := by
  have e : denFn P [(6, [(25, .bool)])] Try.f18 #[.pointer v0_s, .int .u8 v1_b] (.tup (.pair (.int .i64) .iface)) K w0 = F_intern_Store_Letter v0_s v1_b K w0 := by kernel_rfl
  exact fn_sound mixed (f := 18) Try.func18 (by kernel_rfl) (e.mpr h)

def F_intern_Store_Pair (v0_s : Option Addr) (v1_l : Int) (v2_r : Int) (K : (Int × Value) → World → Prop) (w0 : World) : Prop :=
gd v0_s.isNone (
K ((0 : Int), .iface t_api_Errno (.int .i64 (5 : Int))) w0) (
JoinP (X := Bool × Unit) (fun R2 =>
C_intern_Store_known v0_s v1_l (fun x3 w2 =>
gd (!x3) (
R2 (true, ()) w2) (
C_intern_Store_known v0_s v2_r (fun x4 w3 =>
R2 (!x4, ()) w3) w2)) w0) (fun x1 w1 => ∀ _ : Env,
gd x1.1 (
K ((0 : Int), .iface t_api_Errno (.int .i64 (1 : Int))) w1) (
gd (v1_l == (0 : Int)) (
K (v2_r, .nilIface) w1) (
gd (v2_r == (0 : Int)) (
K (v1_l, .nilIface) w1) (
C_intern_Store_at v0_s v1_l (fun x5 w4 =>
C_intern_Store_at v0_s v2_r (fun x6 w5 =>
allocK (.cells #[.int .i64 (0 : Int), .int .u8 (0 : Int), .int .i64 (0 : Int), .int .i64 (0 : Int), .int .i64 (0 : Int), .int .i64 (0 : Int), .int .i64 (0 : Int), .int .i64 (0 : Int), .int .i64 (0 : Int), .int .u64 (0 : Int), .int .u64 (0 : Int), .int .i64 (0 : Int), .bool false] t_intern_entry) w5 fun a7 w6 =>
allocK (.cells #[.int .i64 (0 : Int), .int .u8 (0 : Int), .int .i64 (0 : Int), .int .i64 (0 : Int), .int .i64 (0 : Int), .int .i64 (0 : Int), .int .i64 (0 : Int), .int .i64 (0 : Int), .int .i64 (0 : Int), .int .u64 (0 : Int), .int .u64 (0 : Int), .int .i64 (0 : Int), .bool false] t_intern_entry) w6 fun a8 w7 =>
stK w7 a7 (cells yintern_entry x5) fun w8 =>
stK w8 a8 (cells yintern_entry x6) fun w9 =>
∃ x9 : Int, At w9 ((a7.add 5).add 0) (cells (.int .i64) x9) ∧
∃ x10 : Int, At w9 ((a8.add 5).add 0) (cells (.int .i64) x10) ∧
C_length_Add x9 x10 (fun x11 w10 =>
nilIfcK x11.2 fun b12 =>
gd (!b12) (
K ((0 : Int), .iface t_api_Errno (.int .i64 (2 : Int))) w10) (
allocK (.cells #[.int .i64 (0 : Int), .int .u8 (0 : Int), .int .i64 (0 : Int), .int .i64 (0 : Int), .int .i64 (0 : Int)] t_api_Rule) w10 fun a13 w11 =>
stK w11 a13 ([.int .i64 (2 : Int), .int .u8 (0 : Int), .int .i64 v1_l, .int .i64 v2_r, .int .i64 (0 : Int)]) fun w12 =>
∃ x14 : yapi_Rule.T, At w12 a13 (cells yapi_Rule x14) ∧
C_intern_Store_find v0_s x14 (fun x15 w13 =>
JoinP (X := Bool × Unit) (fun R17 =>
gd (x15.1 != (0 : Int)) (
R17 (true, ()) w13) (
nilIfcK x15.2 fun b18 =>
R17 (!b18, ()) w13)) (fun x16 w14 => ∀ _ : Env,
gd x16.1 (
K (x15.1, x15.2) w14) (
∃ x19 : yapi_Weight.T, At w14 (a7.add 5) (cells yapi_Weight x19) ∧
∃ x20 : yapi_Weight.T, At w14 (a8.add 5) (cells yapi_Weight x20) ∧
C_weight_Join x19 x20 (fun x21 w15 =>
allocK (.cells #[.int .i64 (0 : Int), .int .i64 (0 : Int), .int .i64 (0 : Int), .int .i64 (0 : Int), .int .u64 (0 : Int), .int .u64 (0 : Int)] t_api_Weight) w15 fun a22 w16 =>
stK w16 a22 (cells yapi_Weight x21.1) fun w17 =>
nilIfcK x21.2 fun b23 =>
gd (!b23) (
K ((0 : Int), x21.2) w17) (
∃ x24 : Int, At w17 (a7.add 11) (cells (.int .i64) x24) ∧
∃ x25 : Int, At w17 (a8.add 11) (cells (.int .i64) x25) ∧
arith .i64 (x24 - x25) fun n26 =>
∃ x27 : yapi_Rule.T, At w17 a13 (cells yapi_Rule x27) ∧
∃ x28 : yapi_Weight.T, At w17 a22 (cells yapi_Weight x28) ∧
∃ x29 : Int, At w17 (a7.add 11) (cells (.int .i64) x29) ∧
∃ x30 : Int, At w17 (a8.add 11) (cells (.int .i64) x30) ∧
arith .i64 ((1 : Int) + (if x29 < x30 then x30 else x29)) fun n31 =>
∃ x32 : Bool, At w17 (a7.add 12) (cells .bool x32) ∧
gd x32 (
∃ x33 : Bool, At w17 (a8.add 12) (cells .bool x33) ∧
gd x33 (
gd (decide ((-1 : Int) ≤ n26)) (
C_intern_Store_add v0_s ((x27.1, (x27.2.1, (x27.2.2.1, (x27.2.2.2.1, x27.2.2.2.2)))), ((x28.1, (x28.2.1, (x28.2.2.1, (x28.2.2.2.1, (x28.2.2.2.2.1, x28.2.2.2.2.2))))), (n31, decide (n26 ≤ (1 : Int))))) (fun x34 w18 =>
K (x34, .nilIface) w18) w17) (
C_intern_Store_add v0_s ((x27.1, (x27.2.1, (x27.2.2.1, (x27.2.2.2.1, x27.2.2.2.2)))), ((x28.1, (x28.2.1, (x28.2.2.1, (x28.2.2.2.1, (x28.2.2.2.2.1, x28.2.2.2.2.2))))), (n31, false))) (fun x35 w19 =>
K (x35, .nilIface) w19) w17)) (
C_intern_Store_add v0_s ((x27.1, (x27.2.1, (x27.2.2.1, (x27.2.2.2.1, x27.2.2.2.2)))), ((x28.1, (x28.2.1, (x28.2.2.1, (x28.2.2.2.1, (x28.2.2.2.2.1, x28.2.2.2.2.2))))), (n31, false))) (fun x36 w20 =>
K (x36, .nilIface) w20) w17)) (
C_intern_Store_add v0_s ((x27.1, (x27.2.1, (x27.2.2.1, (x27.2.2.2.1, x27.2.2.2.2)))), ((x28.1, (x28.2.1, (x28.2.2.1, (x28.2.2.2.1, (x28.2.2.2.2.1, x28.2.2.2.2.2))))), (n31, false))) (fun x37 w21 =>
K (x37, .nilIface) w21) w17))) w14))) w12)) w9) w4) w1)))))
theorem S_intern_Store_Pair (v0_s : Option Addr) (v1_l : Int) (v2_r : Int) (K : (Int × Value) → World → Prop) (w0 : World) (h : F_intern_Store_Pair v0_s v1_l v2_r K w0) : C_intern_Store_Pair v0_s v1_l v2_r K w0 := by
  have e : denFn P [(4, [(30, .bool)]), (16, [(71, .bool)])] Try.f19 #[.pointer v0_s, .int .i64 v1_l, .int .i64 v2_r] (.tup (.pair (.int .i64) .iface)) K w0 = F_intern_Store_Pair v0_s v1_l v2_r K w0 := by kernel_rfl
  exact fn_sound mixed (f := 19) Try.func19 (by kernel_rfl) (e.mpr h)

def F_intern_Store_Power (v0_s : Option Addr) (v1_x : Int) (v2_k : Int) (K : (Int × Value) → World → Prop) (w0 : World) : Prop :=
gd v0_s.isNone (
K ((0 : Int), .iface t_api_Errno (.int .i64 (5 : Int))) w0) (
JoinP (X := Bool × Unit) (fun R2 =>
C_intern_Store_known v0_s v1_x (fun x3 w2 =>
gd (!x3) (
R2 (true, ()) w2) (
R2 (decide (v2_k < (0 : Int)), ()) w2)) w0) (fun x1 w1 => ∀ _ : Env,
gd x1.1 (
K ((0 : Int), .iface t_api_Errno (.int .i64 (1 : Int))) w1) (
JoinP (X := Bool × Unit) (fun R5 =>
gd (v2_k == (0 : Int)) (
R5 (true, ()) w1) (
R5 (v1_x == (0 : Int), ()) w1)) (fun x4 w3 => ∀ _ : Env,
gd x4.1 (
K ((0 : Int), .nilIface) w3) (
gd (v2_k == (1 : Int)) (
K (v1_x, .nilIface) w3) (
C_intern_Store_at v0_s v1_x (fun x6 w4 =>
allocK (.cells #[.int .i64 (0 : Int), .int .u8 (0 : Int), .int .i64 (0 : Int), .int .i64 (0 : Int), .int .i64 (0 : Int), .int .i64 (0 : Int), .int .i64 (0 : Int), .int .i64 (0 : Int), .int .i64 (0 : Int), .int .u64 (0 : Int), .int .u64 (0 : Int), .int .i64 (0 : Int), .bool false] t_intern_entry) w4 fun a7 w5 =>
stK w5 a7 (cells yintern_entry x6) fun w6 =>
∃ x8 : Int, At w6 ((a7.add 5).add 0) (cells (.int .i64) x8) ∧
C_length_Mul x8 v2_k (fun x9 w7 =>
nilIfcK x9.2 fun b10 =>
gd (!b10) (
K ((0 : Int), .iface t_api_Errno (.int .i64 (2 : Int))) w7) (
allocK (.cells #[.int .i64 (0 : Int), .int .u8 (0 : Int), .int .i64 (0 : Int), .int .i64 (0 : Int), .int .i64 (0 : Int)] t_api_Rule) w7 fun a11 w8 =>
stK w8 a11 ([.int .i64 (3 : Int), .int .u8 (0 : Int), .int .i64 v1_x, .int .i64 (0 : Int), .int .i64 v2_k]) fun w9 =>
∃ x12 : yapi_Rule.T, At w9 a11 (cells yapi_Rule x12) ∧
C_intern_Store_find v0_s x12 (fun x13 w10 =>
JoinP (X := Bool × Unit) (fun R15 =>
gd (x13.1 != (0 : Int)) (
R15 (true, ()) w10) (
nilIfcK x13.2 fun b16 =>
R15 (!b16, ()) w10)) (fun x14 w11 => ∀ _ : Env,
gd x14.1 (
K (x13.1, x13.2) w11) (
∃ x17 : yapi_Weight.T, At w11 (a7.add 5) (cells yapi_Weight x17) ∧
C_weight_Repeat x17 v2_k (fun x18 w12 =>
allocK (.cells #[.int .i64 (0 : Int), .int .i64 (0 : Int), .int .i64 (0 : Int), .int .i64 (0 : Int), .int .u64 (0 : Int), .int .u64 (0 : Int)] t_api_Weight) w12 fun a19 w13 =>
stK w13 a19 (cells yapi_Weight x18.1) fun w14 =>
nilIfcK x18.2 fun b20 =>
gd (!b20) (
K ((0 : Int), x18.2) w14) (
∃ x21 : yapi_Rule.T, At w14 a11 (cells yapi_Rule x21) ∧
∃ x22 : yapi_Weight.T, At w14 a19 (cells yapi_Weight x22) ∧
∃ x23 : Int, At w14 (a7.add 11) (cells (.int .i64) x23) ∧
arith .i64 ((1 : Int) + x23) fun n24 =>
C_intern_Store_add v0_s ((x21.1, (x21.2.1, (x21.2.2.1, (x21.2.2.2.1, x21.2.2.2.2)))), ((x22.1, (x22.2.1, (x22.2.2.1, (x22.2.2.2.1, (x22.2.2.2.2.1, x22.2.2.2.2.2))))), (n24, false))) (fun x25 w15 =>
K (x25, .nilIface) w15) w14)) w11))) w9)) w6) w3))))))
theorem S_intern_Store_Power (v0_s : Option Addr) (v1_x : Int) (v2_k : Int) (K : (Int × Value) → World → Prop) (w0 : World) (h : F_intern_Store_Power v0_s v1_x v2_k K w0) : C_intern_Store_Power v0_s v1_x v2_k K w0 := by
  have e : denFn P [(4, [(26, .bool)]), (6, [(33, .bool)]), (16, [(65, .bool)])] Try.f20 #[.pointer v0_s, .int .i64 v1_x, .int .i64 v2_k] (.tup (.pair (.int .i64) .iface)) K w0 = F_intern_Store_Power v0_s v1_x v2_k K w0 := by kernel_rfl
  exact fn_sound mixed (f := 20) Try.func20 (by kernel_rfl) (e.mpr h)

def F_intern_Store_Len (v0_s : Option Addr) (K : Int → World → Prop) (w0 : World) : Prop :=
gd v0_s.isNone (
K (0 : Int) w0) (
nonNil v0_s fun p1 =>
∃ x2 : Sl, At w0 (p1.add 1) (cells .slice x2) ∧
K (x2.len : Int) w0)
theorem S_intern_Store_Len (v0_s : Option Addr) (K : Int → World → Prop) (w0 : World) (h : F_intern_Store_Len v0_s K w0) : C_intern_Store_Len v0_s K w0 := by
  have e : denFn P [] Try.f21 #[.pointer v0_s] (.int .i64) K w0 = F_intern_Store_Len v0_s K w0 := by kernel_rfl
  exact fn_sound mixed (f := 21) Try.func21 (by kernel_rfl) (e.mpr h)

def F_base_Num (v0_e : Value) (K : Int → World → Prop) (w0 : World) : Prop :=
nilIfcK v0_e fun b1 =>
gd b1 (
K (0 : Int) w0) (
assertK t_api_Errno (.int .i64) (0 : Int) v0_e fun y2 b3 =>
gd (!b3) (
K (-1 : Int) w0) (
K y2 w0))
theorem S_base_Num (v0_e : Value) (K : Int → World → Prop) (w0 : World) (h : F_base_Num v0_e K w0) : C_base_Num v0_e K w0 := by
  have e : denFn P [] Try.f22 #[v0_e] (.int .i64) K w0 = F_base_Num v0_e K w0 := by kernel_rfl
  exact fn_sound mixed (f := 22) Try.func22 (by kernel_rfl) (e.mpr h)

def F_intern_Store_Room (v0_s : Option Addr) (K : Int → World → Prop) (w0 : World) : Prop :=
gd v0_s.isNone (
K (0 : Int) w0) (
drawK w0 fun w1 =>
nonNil v0_s fun p1 =>
∃ x2 : Int, At w1 (p1.add 0) (cells (.int .i64) x2) ∧
nonNil v0_s fun p3 =>
∃ x4 : Sl, At w1 (p3.add 1) (cells .slice x4) ∧
arith .i64 (x2 - (x4.len : Int)) fun n5 =>
K n5 w1)
theorem S_intern_Store_Room (v0_s : Option Addr) (K : Int → World → Prop) (w0 : World) (h : F_intern_Store_Room v0_s K w0) : C_intern_Store_Room v0_s K w0 := by
  have e : denFn P [] Try.f23 #[.pointer v0_s] (.int .i64) K w0 = F_intern_Store_Room v0_s K w0 := by kernel_rfl
  exact fn_sound mixed (f := 23) Try.func23 (by kernel_rfl) (e.mpr h)

def F_ref10_Text (v0_s : yevergreenref10_S.T) (v1_id : Int) (K : Sl → World → Prop) (w0 : World) : Prop :=
allocK (.cells (cells yevergreenref10_S v0_s).toArray t_evergreenref10_S) w0 fun a1 w1 =>
JoinP (X := Bool × Unit) (fun R3 =>
gd (v1_id == (0 : Int)) (
R3 (true, ()) w1) (
∃ x4 : yevergreenref10_S.T, At w1 a1 (cells yevergreenref10_S x4) ∧
C_ref10_Length x4 v1_id (fun x5 w3 =>
R3 (decide ((4096 : Int) < x5), ()) w3) w1)) (fun x2 w2 => ∀ _ : Env,
gd x2.1 (
K (⟨none, 0, 0⟩) w2) (
∃ x6 : Sl, At w2 (a1.add 1) (cells .slice x6) ∧
arith .i64 (v1_id - (1 : Int)) fun n7 =>
idxK x6.a x6.len n7 5 fun p8 =>
∃ x9 : yapi_Rule.T, At w2 p8 (cells yapi_Rule x9) ∧
allocK (.cells #[.int .i64 (0 : Int), .int .u8 (0 : Int), .int .i64 (0 : Int), .int .i64 (0 : Int), .int .i64 (0 : Int)] t_api_Rule) w2 fun a10 w4 =>
stK w4 a10 (cells yapi_Rule x9) fun w5 =>
∃ x11 : Int, At w5 (a10.add 0) (cells (.int .i64) x11) ∧
gd (x11 == (1 : Int)) (
∃ x12 : Int, At w5 (a10.add 1) (cells (.int .u8) x12) ∧
allocK (.cells #[.int .u8 x12] t_uint8) w5 fun a13 w6 =>
K (⟨some a13, 1, 1⟩) w6) (
gd (x11 == (2 : Int)) (
∃ x14 : yevergreenref10_S.T, At w5 a1 (cells yevergreenref10_S x14) ∧
∃ x15 : Int, At w5 (a10.add 2) (cells (.int .i64) x15) ∧
C_ref10_Text x14 x15 (fun x16 w7 =>
appK t_uint8 1 1 #[.int .u8 (0 : Int)] none 0 0 (.slice x16.a x16.len x16.cap) x16.len w7 fun s17 w8 =>
∃ x18 : yevergreenref10_S.T, At w8 a1 (cells yevergreenref10_S x18) ∧
∃ x19 : Int, At w8 (a10.add 3) (cells (.int .i64) x19) ∧
C_ref10_Text x18 x19 (fun x20 w9 =>
appK t_uint8 1 1 #[.int .u8 (0 : Int)] s17.a s17.len s17.cap (.slice x20.a x20.len x20.cap) x20.len w9 fun s21 w10 =>
K s21 w10) w8) w5) (
∃ x22 : yevergreenref10_S.T, At w5 a1 (cells yevergreenref10_S x22) ∧
∃ x23 : Int, At w5 (a10.add 2) (cells (.int .i64) x23) ∧
C_ref10_Text x22 x23 (fun x24 w11 =>
LoopP (X := Sl × Int × Unit) (⟨none, 0, 0⟩, (0 : Int), ()) w11 fun next26 x25 w12 => ∀ _ : Env,
∃ x27 : Int, At w12 (a10.add 4) (cells (.int .i64) x27) ∧
gd (decide (x25.2.1 < x27)) (
appK t_uint8 1 1 #[.int .u8 (0 : Int)] x25.1.a x25.1.len x25.1.cap (.slice x24.a x24.len x24.cap) x24.len w12 fun s28 w13 =>
arith .i64 (x25.2.1 + (1 : Int)) fun n29 =>
next26 (s28, n29, ()) w13) (
K x25.1 w12)) w5))))
theorem S_ref10_Text (v0_s : yevergreenref10_S.T) (v1_id : Int) (K : Sl → World → Prop) (w0 : World) (h : F_ref10_Text v0_s v1_id K w0) : C_ref10_Text v0_s v1_id K w0 := by
  have e : denFn P [(2, [(16, .bool)]), (1013, [(6, .slice), (8, .int .i64)])] Try.f24 #[val yevergreenref10_S v0_s, .int .i64 v1_id] .slice K w0 = F_ref10_Text v0_s v1_id K w0 := by kernel_rfl
  exact fn_sound mixed (f := 24) Try.func24 (by kernel_rfl) (e.mpr h)

def F_ref05_Of (v0_text : Sl) (K : yapi_Digest.T → World → Prop) (w0 : World) : Prop :=
allocK (.cells #[.int .u64 (0 : Int), .int .u64 (0 : Int)] t_api_Digest) w0 fun a1 w1 =>
allocK (.cells #[.int .u64 (0 : Int), .int .u64 (0 : Int)] t_api_Digest) w1 fun a2 w2 =>
stK w2 a2 ([.int .u64 (0 : Int), .int .u64 (1 : Int)]) fun w3 =>
arith .i64 ((v0_text.len : Int) - (1 : Int)) fun n3 =>
LoopP (X := Int × Unit) (n3, ()) w3 fun next5 x4 w4 => ∀ _ : Env,
gd (decide ((0 : Int) ≤ x4.1)) (
drawK w4 fun w5 =>
∃ x6 : Int, At w5 (a2.add 0) (cells (.int .u64) x6) ∧
idxK v0_text.a v0_text.len x4.1 1 fun p7 =>
∃ x8 : Int, At w5 p7 (cells (.int .u8) x8) ∧
arith .u64 (x8) fun n9 =>
arith .u64 (n9 + (1 : Int)) fun n10 =>
∃ x11 : Int, At w5 (a2.add 1) (cells (.int .u64) x11) ∧
C_ref05_Mul n10 x11 (fun x12 w6 =>
At w6 (a2.add 0) (cells (.int .u64) x6) ∧
C_ref05_Add x6 x12 (fun x13 w7 =>
stK w7 (a2.add 0) ([.int .u64 x13]) fun w8 =>
∃ x14 : Int, At w8 (a2.add 1) (cells (.int .u64) x14) ∧
C_ref05_Mul x14 (1103515245 : Int) (fun x15 w9 =>
stK w9 (a2.add 1) ([.int .u64 x15]) fun w10 =>
arith .i64 (x4.1 - (1 : Int)) fun n16 =>
next5 (n16, ()) w10) w8) w6) w5) (
∃ x17 : yapi_Digest.T, At w4 a2 (cells yapi_Digest x17) ∧
stK w4 a1 (cells yapi_Digest x17) fun w11 =>
∃ x18 : yapi_Digest.T, At w11 a1 (cells yapi_Digest x18) ∧
K x18 w11)
theorem S_ref05_Of (v0_text : Sl) (K : yapi_Digest.T → World → Prop) (w0 : World) (h : F_ref05_Of v0_text K w0) : C_ref05_Of v0_text K w0 := by
  have e : denFn P [(1003, [(4, .int .i64)])] Try.f25 #[.slice v0_text.a v0_text.len v0_text.cap] yapi_Digest K w0 = F_ref05_Of v0_text K w0 := by kernel_rfl
  exact fn_sound mixed (f := 25) Try.func25 (by kernel_rfl) (e.mpr h)

def F_intern_Store_Weight (v0_s : Option Addr) (v1_id : Int) (K : (yapi_Weight.T × Value) → World → Prop) (w0 : World) : Prop :=
allocK (.cells #[.int .i64 (0 : Int), .int .i64 (0 : Int), .int .i64 (0 : Int), .int .i64 (0 : Int), .int .u64 (0 : Int), .int .u64 (0 : Int)] t_api_Weight) w0 fun a1 w1 =>
gd v0_s.isNone (
stK w1 a1 ([.int .i64 (0 : Int), .int .i64 (0 : Int), .int .i64 (0 : Int), .int .i64 (0 : Int), .int .u64 (0 : Int), .int .u64 (0 : Int)]) fun w2 =>
∃ x2 : yapi_Weight.T, At w2 a1 (cells yapi_Weight x2) ∧
K (x2, .iface t_api_Errno (.int .i64 (5 : Int))) w2) (
C_intern_Store_known v0_s v1_id (fun x3 w3 =>
gd (!x3) (
stK w3 a1 ([.int .i64 (0 : Int), .int .i64 (0 : Int), .int .i64 (0 : Int), .int .i64 (0 : Int), .int .u64 (0 : Int), .int .u64 (0 : Int)]) fun w4 =>
∃ x4 : yapi_Weight.T, At w4 a1 (cells yapi_Weight x4) ∧
K (x4, .iface t_api_Errno (.int .i64 (1 : Int))) w4) (
C_intern_Store_at v0_s v1_id (fun x5 w5 =>
stK w5 a1 ([.int .i64 x5.2.1.1, .int .i64 x5.2.1.2.1, .int .i64 x5.2.1.2.2.1, .int .i64 x5.2.1.2.2.2.1, .int .u64 x5.2.1.2.2.2.2.1, .int .u64 x5.2.1.2.2.2.2.2]) fun w6 =>
∃ x6 : yapi_Weight.T, At w6 a1 (cells yapi_Weight x6) ∧
K (x6, .nilIface) w6) w3)) w1)
theorem S_intern_Store_Weight (v0_s : Option Addr) (v1_id : Int) (K : (yapi_Weight.T × Value) → World → Prop) (w0 : World) (h : F_intern_Store_Weight v0_s v1_id K w0) : C_intern_Store_Weight v0_s v1_id K w0 := by
  have e : denFn P [] Try.f26 #[.pointer v0_s, .int .i64 v1_id] (.tup (.pair yapi_Weight .iface)) K w0 = F_intern_Store_Weight v0_s v1_id K w0 := by kernel_rfl
  exact fn_sound mixed (f := 26) Try.func26 (by kernel_rfl) (e.mpr h)

def F_base_Is (v0_e : Value) (v1_want : Int) (K : Bool → World → Prop) (w0 : World) : Prop :=
C_base_Num v0_e (fun x1 w1 =>
gd (x1 == v1_want) (
K (v1_want != (0 : Int)) w1) (
K false w1)) w0
theorem S_base_Is (v0_e : Value) (v1_want : Int) (K : Bool → World → Prop) (w0 : World) (h : F_base_Is v0_e v1_want K w0) : C_base_Is v0_e v1_want K w0 := by
  have e : denFn P [] Try.f27 #[v0_e, .int .i64 v1_want] .bool K w0 = F_base_Is v0_e v1_want K w0 := by kernel_rfl
  exact fn_sound mixed (f := 27) Try.func27 (by kernel_rfl) (e.mpr h)

def F_law10_do (v0_s : Option Addr) (v1_m : yevergreenref10_S.T) (v2_o : yevergreenlaw10_Op.T) (K : (yevergreenref10_S.T × Bool) → World → Prop) (w0 : World) : Prop :=
allocK (.cells (cells yevergreenref10_S v1_m).toArray t_evergreenref10_S) w0 fun a1 w1 =>
allocK (.cells (cells yevergreenlaw10_Op v2_o).toArray t_evergreenlaw10_Op) w1 fun a2 w2 =>
allocK (.cells #[.int .i64 (0 : Int), .slice none 0 0, .slice none 0 0, .slice none 0 0] t_evergreenref10_S) w2 fun a3 w3 =>
JoinP (X := Int × Int × Value × Int × Unit) (fun R5 =>
∃ x6 : Int, At w3 (a2.add 0) (cells (.int .u8) x6) ∧
(3 : Int) ≠ 0 ∧
letZ (Int.tmod x6 (3 : Int)) fun n7 =>
gd (n7 == (0 : Int)) (
∃ x8 : Int, At w3 (a2.add 1) (cells (.int .u8) x8) ∧
C_intern_Store_Letter v0_s x8 (fun x9 w5 =>
∃ x10 : yevergreenref10_S.T, At w5 a1 (cells yevergreenref10_S x10) ∧
∃ x11 : Int, At w5 (a2.add 1) (cells (.int .u8) x11) ∧
C_ref10_Letter x10 x11 (fun x12 w6 =>
stK w6 a1 (cells yevergreenref10_S x12.1) fun w7 =>
R5 (x9.1, x12.2.1, x9.2, x12.2.2, ()) w7) w5) w3) (
gd (n7 == (1 : Int)) (
∃ x13 : Int, At w3 (a2.add 2) (cells (.int .i64) x13) ∧
∃ x14 : Int, At w3 (a2.add 3) (cells (.int .i64) x14) ∧
C_intern_Store_Pair v0_s x13 x14 (fun x15 w8 =>
∃ x16 : yevergreenref10_S.T, At w8 a1 (cells yevergreenref10_S x16) ∧
∃ x17 : Int, At w8 (a2.add 2) (cells (.int .i64) x17) ∧
∃ x18 : Int, At w8 (a2.add 3) (cells (.int .i64) x18) ∧
C_ref10_Pair x16 x17 x18 (fun x19 w9 =>
stK w9 a1 (cells yevergreenref10_S x19.1) fun w10 =>
R5 (x15.1, x19.2.1, x15.2, x19.2.2, ()) w10) w8) w3) (
∃ x20 : Int, At w3 (a2.add 2) (cells (.int .i64) x20) ∧
∃ x21 : Int, At w3 (a2.add 4) (cells (.int .i64) x21) ∧
C_intern_Store_Power v0_s x20 x21 (fun x22 w11 =>
∃ x23 : yevergreenref10_S.T, At w11 a1 (cells yevergreenref10_S x23) ∧
∃ x24 : Int, At w11 (a2.add 2) (cells (.int .i64) x24) ∧
∃ x25 : Int, At w11 (a2.add 4) (cells (.int .i64) x25) ∧
C_ref10_Power x23 x24 x25 (fun x26 w12 =>
stK w12 a1 (cells yevergreenref10_S x26.1) fun w13 =>
R5 (x22.1, x26.2.1, x22.2, x26.2.2, ()) w13) w11) w3))) (fun x4 w4 => ∀ _ : Env,
drawK w4 fun w14 =>
∃ x27 : yevergreenref10_S.T, At w14 a1 (cells yevergreenref10_S x27) ∧
gd (x4.1 == x4.2.1) (
C_base_Num x4.2.2.1 (fun x28 w15 =>
At w15 a1 (cells yevergreenref10_S x27) ∧
gd (x28 == x4.2.2.2.1) (
∃ x29 : Sl, At w15 (a1.add 1) (cells .slice x29) ∧
C_intern_Store_Len v0_s (fun x30 w16 =>
At w16 (a1.add 1) (cells .slice x29) ∧
At w16 a1 (cells yevergreenref10_S x27) ∧
gd (x30 == (x29.len : Int)) (
∃ x31 : Int, At w16 (a1.add 0) (cells (.int .i64) x31) ∧
∃ x32 : Sl, At w16 (a1.add 1) (cells .slice x32) ∧
arith .i64 (x31 - (x32.len : Int)) fun n33 =>
C_intern_Store_Room v0_s (fun x34 w17 =>
At w17 (a1.add 1) (cells .slice x32) ∧
At w17 (a1.add 0) (cells (.int .i64) x31) ∧
At w17 a1 (cells yevergreenref10_S x27) ∧
stK w17 a3 (cells yevergreenref10_S x27) fun w18 =>
At w18 (a1.add 1) (cells .slice x32) ∧
At w18 (a1.add 0) (cells (.int .i64) x31) ∧
∃ x35 : yevergreenref10_S.T, At w18 a3 (cells yevergreenref10_S x35) ∧
K (x35, x34 == n33) w18) w16) (
stK w16 a3 (cells yevergreenref10_S x27) fun w19 =>
∃ x36 : yevergreenref10_S.T, At w19 a3 (cells yevergreenref10_S x36) ∧
K (x36, false) w19)) w15) (
stK w15 a3 (cells yevergreenref10_S x27) fun w20 =>
∃ x37 : yevergreenref10_S.T, At w20 a3 (cells yevergreenref10_S x37) ∧
K (x37, false) w20)) w14) (
stK w14 a3 (cells yevergreenref10_S x27) fun w21 =>
∃ x38 : yevergreenref10_S.T, At w21 a3 (cells yevergreenref10_S x38) ∧
K (x38, false) w21))
theorem S_law10_do (v0_s : Option Addr) (v1_m : yevergreenref10_S.T) (v2_o : yevergreenlaw10_Op.T) (K : (yevergreenref10_S.T × Bool) → World → Prop) (w0 : World) (h : F_law10_do v0_s v1_m v2_o K w0) : C_law10_do v0_s v1_m v2_o K w0 := by
  have e : denFn P [(13, [(8, .int .i64), (9, .int .i64), (10, .iface), (11, .int .i64)])] Try.f28 #[.pointer v0_s, val yevergreenref10_S v1_m, val yevergreenlaw10_Op v2_o] (.tup (.pair yevergreenref10_S .bool)) K w0 = F_law10_do v0_s v1_m v2_o K w0 := by kernel_rfl
  exact fn_sound mixed (f := 28) Try.func28 (by kernel_rfl) (e.mpr h)

def F_intern_Store_Rule (v0_s : Option Addr) (v1_id : Int) (K : (yapi_Rule.T × Value) → World → Prop) (w0 : World) : Prop :=
allocK (.cells #[.int .i64 (0 : Int), .int .u8 (0 : Int), .int .i64 (0 : Int), .int .i64 (0 : Int), .int .i64 (0 : Int)] t_api_Rule) w0 fun a1 w1 =>
gd v0_s.isNone (
stK w1 a1 ([.int .i64 (0 : Int), .int .u8 (0 : Int), .int .i64 (0 : Int), .int .i64 (0 : Int), .int .i64 (0 : Int)]) fun w2 =>
∃ x2 : yapi_Rule.T, At w2 a1 (cells yapi_Rule x2) ∧
K (x2, .iface t_api_Errno (.int .i64 (5 : Int))) w2) (
JoinP (X := Bool × Unit) (fun R4 =>
gd (v1_id == (0 : Int)) (
R4 (true, ()) w1) (
C_intern_Store_known v0_s v1_id (fun x5 w4 =>
R4 (!x5, ()) w4) w1)) (fun x3 w3 => ∀ _ : Env,
gd x3.1 (
stK w3 a1 ([.int .i64 (0 : Int), .int .u8 (0 : Int), .int .i64 (0 : Int), .int .i64 (0 : Int), .int .i64 (0 : Int)]) fun w5 =>
∃ x6 : yapi_Rule.T, At w5 a1 (cells yapi_Rule x6) ∧
K (x6, .iface t_api_Errno (.int .i64 (1 : Int))) w5) (
nonNil v0_s fun p7 =>
∃ x8 : Sl, At w3 (p7.add 1) (cells .slice x8) ∧
arith .i64 (v1_id - (1 : Int)) fun n9 =>
idxK x8.a x8.len n9 13 fun p10 =>
∃ x11 : yapi_Rule.T, At w3 (p10.add 0) (cells yapi_Rule x11) ∧
stK w3 a1 (cells yapi_Rule x11) fun w6 =>
∃ x12 : yapi_Rule.T, At w6 a1 (cells yapi_Rule x12) ∧
K (x12, .nilIface) w6)))
theorem S_intern_Store_Rule (v0_s : Option Addr) (v1_id : Int) (K : (yapi_Rule.T × Value) → World → Prop) (w0 : World) (h : F_intern_Store_Rule v0_s v1_id K w0) : C_intern_Store_Rule v0_s v1_id K w0 := by
  have e : denFn P [(4, [(17, .bool)])] Try.f29 #[.pointer v0_s, .int .i64 v1_id] (.tup (.pair yapi_Rule .iface)) K w0 = F_intern_Store_Rule v0_s v1_id K w0 := by kernel_rfl
  exact fn_sound mixed (f := 29) Try.func29 (by kernel_rfl) (e.mpr h)

def F_weight_Letter (v0_b : Int) (K : yapi_Weight.T → World → Prop) (w0 : World) : Prop :=
allocK (.cells #[.int .i64 (0 : Int), .int .i64 (0 : Int), .int .i64 (0 : Int), .int .i64 (0 : Int), .int .u64 (0 : Int), .int .u64 (0 : Int)] t_api_Weight) w0 fun a1 w1 =>
gd (v0_b == (10 : Int)) (
C_digest_Letter v0_b (fun x2 w2 =>
stK w2 a1 ([.int .i64 (1 : Int), .int .i64 (1 : Int), .int .i64 (0 : Int), .int .i64 (0 : Int), .int .u64 x2.1, .int .u64 x2.2]) fun w3 =>
∃ x3 : yapi_Weight.T, At w3 a1 (cells yapi_Weight x3) ∧
K x3 w3) w1) (
C_digest_Letter v0_b (fun x4 w4 =>
stK w4 a1 ([.int .i64 (1 : Int), .int .i64 (0 : Int), .int .i64 (1 : Int), .int .i64 (1 : Int), .int .u64 x4.1, .int .u64 x4.2]) fun w5 =>
∃ x5 : yapi_Weight.T, At w5 a1 (cells yapi_Weight x5) ∧
K x5 w5) w1)
theorem S_weight_Letter (v0_b : Int) (K : yapi_Weight.T → World → Prop) (w0 : World) (h : F_weight_Letter v0_b K w0) : C_weight_Letter v0_b K w0 := by
  have e : denFn P [] Try.f30 #[.int .u8 v0_b] yapi_Weight K w0 = F_weight_Letter v0_b K w0 := by kernel_rfl
  exact fn_sound mixed (f := 30) Try.func30 (by kernel_rfl) (e.mpr h)

def F_weight_Join (v0_a : yapi_Weight.T) (v1_b : yapi_Weight.T) (K : (yapi_Weight.T × Value) → World → Prop) (w0 : World) : Prop :=
allocK (.cells (cells yapi_Weight v0_a).toArray t_api_Weight) w0 fun a1 w1 =>
allocK (.cells (cells yapi_Weight v1_b).toArray t_api_Weight) w1 fun a2 w2 =>
allocK (.cells #[.int .i64 (0 : Int), .int .i64 (0 : Int), .int .i64 (0 : Int), .int .i64 (0 : Int), .int .u64 (0 : Int), .int .u64 (0 : Int)] t_api_Weight) w2 fun a3 w3 =>
JoinP (X := Bool × Unit) (fun R5 =>
∃ x6 : yapi_Weight.T, At w3 a1 (cells yapi_Weight x6) ∧
C_weight_Valid x6 (fun x7 w5 =>
gd (!x7) (
R5 (true, ()) w5) (
∃ x8 : yapi_Weight.T, At w5 a2 (cells yapi_Weight x8) ∧
C_weight_Valid x8 (fun x9 w6 =>
R5 (!x9, ()) w6) w5)) w3) (fun x4 w4 => ∀ _ : Env,
gd x4.1 (
stK w4 a3 ([.int .i64 (0 : Int), .int .i64 (0 : Int), .int .i64 (0 : Int), .int .i64 (0 : Int), .int .u64 (0 : Int), .int .u64 (0 : Int)]) fun w7 =>
∃ x10 : yapi_Weight.T, At w7 a3 (cells yapi_Weight x10) ∧
K (x10, .iface t_api_Errno (.int .i64 (4 : Int))) w7) (
∃ x11 : Int, At w4 (a1.add 0) (cells (.int .i64) x11) ∧
∃ x12 : Int, At w4 (a2.add 0) (cells (.int .i64) x12) ∧
C_length_Add x11 x12 (fun x13 w8 =>
nilIfcK x13.2 fun b14 =>
gd (!b14) (
stK w8 a3 ([.int .i64 (0 : Int), .int .i64 (0 : Int), .int .i64 (0 : Int), .int .i64 (0 : Int), .int .u64 (0 : Int), .int .u64 (0 : Int)]) fun w9 =>
∃ x15 : yapi_Weight.T, At w9 a3 (cells yapi_Weight x15) ∧
K (x15, .iface t_api_Errno (.int .i64 (2 : Int))) w9) (
JoinP (X := Addr × Unit) (fun R17 =>
drawK w8 fun w11 =>
∃ x18 : Int, At w11 (a1.add 1) (cells (.int .i64) x18) ∧
∃ x19 : Int, At w11 (a2.add 1) (cells (.int .i64) x19) ∧
arith .i64 (x18 + x19) fun n20 =>
∃ x21 : Int, At w11 (a1.add 2) (cells (.int .i64) x21) ∧
∃ x22 : Int, At w11 (a2.add 3) (cells (.int .i64) x22) ∧
∃ x23 : yapi_Digest.T, At w11 (a1.add 4) (cells yapi_Digest x23) ∧
∃ x24 : yapi_Digest.T, At w11 (a2.add 4) (cells yapi_Digest x24) ∧
(C_digest_Join x23 x24 (fun x25 w12 =>
At w12 (a2.add 3) (cells (.int .i64) x22) ∧
At w12 (a1.add 2) (cells (.int .i64) x21) ∧
At w12 (a2.add 1) (cells (.int .i64) x19) ∧
At w12 (a1.add 1) (cells (.int .i64) x18) ∧
allocK (.cells #[.int .i64 (0 : Int), .int .i64 (0 : Int), .int .i64 (0 : Int), .int .i64 (0 : Int), .int .u64 (0 : Int), .int .u64 (0 : Int)] t_api_Weight) w12 fun a26 w13 =>
At w13 (a2.add 3) (cells (.int .i64) x22) ∧
At w13 (a1.add 2) (cells (.int .i64) x21) ∧
At w13 (a2.add 1) (cells (.int .i64) x19) ∧
At w13 (a1.add 1) (cells (.int .i64) x18) ∧
stK w13 a26 ([.int .i64 x13.1, .int .i64 n20, .int .i64 x21, .int .i64 x22, .int .u64 x25.1, .int .u64 x25.2]) fun w14 =>
R17 (a26, ()) w14) w11) ∧
(allocK (.cells #[.int .i64 (0 : Int), .int .i64 (0 : Int), .int .i64 (0 : Int), .int .i64 (0 : Int), .int .u64 (0 : Int), .int .u64 (0 : Int)] t_api_Weight) w11 fun a27 w15 =>
At w15 (a2.add 4) (cells yapi_Digest x24) ∧
At w15 (a1.add 4) (cells yapi_Digest x23) ∧
At w15 (a2.add 3) (cells (.int .i64) x22) ∧
At w15 (a1.add 2) (cells (.int .i64) x21) ∧
At w15 (a2.add 1) (cells (.int .i64) x19) ∧
At w15 (a1.add 1) (cells (.int .i64) x18) ∧
C_digest_Join x23 x24 (fun x28 w16 =>
At w16 (a2.add 3) (cells (.int .i64) x22) ∧
At w16 (a1.add 2) (cells (.int .i64) x21) ∧
At w16 (a2.add 1) (cells (.int .i64) x19) ∧
At w16 (a1.add 1) (cells (.int .i64) x18) ∧
stK w16 a27 ([.int .i64 x13.1, .int .i64 n20, .int .i64 x21, .int .i64 x22, .int .u64 x28.1, .int .u64 x28.2]) fun w17 =>
R17 (a27, ()) w17) w15)) (fun x16 w10 => ∀ _ : Env,
JoinP (X := Unit) (fun R30 =>
∃ x31 : Int, At w10 (a1.add 1) (cells (.int .i64) x31) ∧
gd (x31 == (0 : Int)) (
∃ x32 : Int, At w10 (a1.add 0) (cells (.int .i64) x32) ∧
∃ x33 : Int, At w10 (a2.add 2) (cells (.int .i64) x33) ∧
arith .i64 (x32 + x33) fun n34 =>
stK w10 (x16.1.add 2) ([.int .i64 n34]) fun w19 =>
R30 () w19) (
R30 () w10)) (fun x29 w18 => ∀ _ : Env,
JoinP (X := Unit) (fun R36 =>
∃ x37 : Int, At w18 (a2.add 1) (cells (.int .i64) x37) ∧
gd (x37 == (0 : Int)) (
∃ x38 : Int, At w18 (a2.add 0) (cells (.int .i64) x38) ∧
∃ x39 : Int, At w18 (a1.add 3) (cells (.int .i64) x39) ∧
arith .i64 (x38 + x39) fun n40 =>
stK w18 (x16.1.add 3) ([.int .i64 n40]) fun w21 =>
R36 () w21) (
R36 () w18)) (fun x35 w20 => ∀ _ : Env,
∃ x41 : yapi_Weight.T, At w20 x16.1 (cells yapi_Weight x41) ∧
stK w20 a3 (cells yapi_Weight x41) fun w22 =>
∃ x42 : yapi_Weight.T, At w22 a3 (cells yapi_Weight x42) ∧
K (x42, .nilIface) w22))))) w4))
theorem S_weight_Join (v0_a : yapi_Weight.T) (v1_b : yapi_Weight.T) (K : (yapi_Weight.T × Value) → World → Prop) (w0 : World) (h : F_weight_Join v0_a v1_b K w0) : C_weight_Join v0_a v1_b K w0 := by
  have e : denFn P [(2, [(16, .bool)]), (7, [(8, .addr)]), (9, []), (11, [])] Try.f31 #[val yapi_Weight v0_a, val yapi_Weight v1_b] (.tup (.pair yapi_Weight .iface)) K w0 = F_weight_Join v0_a v1_b K w0 := by kernel_rfl
  exact fn_sound mixed (f := 31) Try.func31 (by kernel_rfl) (e.mpr h)

def F_weight_Repeat (v0_w : yapi_Weight.T) (v1_k : Int) (K : (yapi_Weight.T × Value) → World → Prop) (w0 : World) : Prop :=
allocK (.cells (cells yapi_Weight v0_w).toArray t_api_Weight) w0 fun a1 w1 =>
allocK (.cells #[.int .i64 (0 : Int), .int .i64 (0 : Int), .int .i64 (0 : Int), .int .i64 (0 : Int), .int .u64 (0 : Int), .int .u64 (0 : Int)] t_api_Weight) w1 fun a2 w2 =>
∃ x3 : yapi_Weight.T, At w2 a1 (cells yapi_Weight x3) ∧
C_weight_Valid x3 (fun x4 w3 =>
gd (!x4) (
stK w3 a2 ([.int .i64 (0 : Int), .int .i64 (0 : Int), .int .i64 (0 : Int), .int .i64 (0 : Int), .int .u64 (0 : Int), .int .u64 (0 : Int)]) fun w4 =>
∃ x5 : yapi_Weight.T, At w4 a2 (cells yapi_Weight x5) ∧
K (x5, .iface t_api_Errno (.int .i64 (4 : Int))) w4) (
gd (decide (v1_k < (0 : Int))) (
stK w3 a2 ([.int .i64 (0 : Int), .int .i64 (0 : Int), .int .i64 (0 : Int), .int .i64 (0 : Int), .int .u64 (0 : Int), .int .u64 (0 : Int)]) fun w5 =>
∃ x6 : yapi_Weight.T, At w5 a2 (cells yapi_Weight x6) ∧
K (x6, .iface t_api_Errno (.int .i64 (1 : Int))) w5) (
∃ x7 : Int, At w3 (a1.add 0) (cells (.int .i64) x7) ∧
C_length_Mul x7 v1_k (fun x8 w6 =>
nilIfcK x8.2 fun b9 =>
gd (!b9) (
stK w6 a2 ([.int .i64 (0 : Int), .int .i64 (0 : Int), .int .i64 (0 : Int), .int .i64 (0 : Int), .int .u64 (0 : Int), .int .u64 (0 : Int)]) fun w7 =>
∃ x10 : yapi_Weight.T, At w7 a2 (cells yapi_Weight x10) ∧
K (x10, .iface t_api_Errno (.int .i64 (2 : Int))) w7) (
gd (x8.1 == (0 : Int)) (
C_weight_Unit  (fun x11 w8 =>
stK w8 a2 (cells yapi_Weight x11) fun w9 =>
∃ x12 : yapi_Weight.T, At w9 a2 (cells yapi_Weight x12) ∧
K (x12, .nilIface) w9) w6) (
JoinP (X := Addr × Unit) (fun R14 =>
drawK w6 fun w11 =>
∃ x15 : Int, At w11 (a1.add 1) (cells (.int .i64) x15) ∧
arith .i64 (x15 * v1_k) fun n16 =>
∃ x17 : Int, At w11 (a1.add 2) (cells (.int .i64) x17) ∧
∃ x18 : Int, At w11 (a1.add 3) (cells (.int .i64) x18) ∧
∃ x19 : yapi_Digest.T, At w11 (a1.add 4) (cells yapi_Digest x19) ∧
(C_digest_Repeat x19 v1_k (fun x20 w12 =>
At w12 (a1.add 3) (cells (.int .i64) x18) ∧
At w12 (a1.add 2) (cells (.int .i64) x17) ∧
At w12 (a1.add 1) (cells (.int .i64) x15) ∧
allocK (.cells #[.int .i64 (0 : Int), .int .i64 (0 : Int), .int .i64 (0 : Int), .int .i64 (0 : Int), .int .u64 (0 : Int), .int .u64 (0 : Int)] t_api_Weight) w12 fun a21 w13 =>
At w13 (a1.add 3) (cells (.int .i64) x18) ∧
At w13 (a1.add 2) (cells (.int .i64) x17) ∧
At w13 (a1.add 1) (cells (.int .i64) x15) ∧
stK w13 a21 ([.int .i64 x8.1, .int .i64 n16, .int .i64 x17, .int .i64 x18, .int .u64 x20.1, .int .u64 x20.2]) fun w14 =>
R14 (a21, ()) w14) w11) ∧
(allocK (.cells #[.int .i64 (0 : Int), .int .i64 (0 : Int), .int .i64 (0 : Int), .int .i64 (0 : Int), .int .u64 (0 : Int), .int .u64 (0 : Int)] t_api_Weight) w11 fun a22 w15 =>
At w15 (a1.add 4) (cells yapi_Digest x19) ∧
At w15 (a1.add 3) (cells (.int .i64) x18) ∧
At w15 (a1.add 2) (cells (.int .i64) x17) ∧
At w15 (a1.add 1) (cells (.int .i64) x15) ∧
C_digest_Repeat x19 v1_k (fun x23 w16 =>
At w16 (a1.add 3) (cells (.int .i64) x18) ∧
At w16 (a1.add 2) (cells (.int .i64) x17) ∧
At w16 (a1.add 1) (cells (.int .i64) x15) ∧
stK w16 a22 ([.int .i64 x8.1, .int .i64 n16, .int .i64 x17, .int .i64 x18, .int .u64 x23.1, .int .u64 x23.2]) fun w17 =>
R14 (a22, ()) w17) w15)) (fun x13 w10 => ∀ _ : Env,
JoinP (X := Unit) (fun R25 =>
∃ x26 : Int, At w10 (a1.add 1) (cells (.int .i64) x26) ∧
gd (x26 == (0 : Int)) (
stK w10 (x13.1.add 2) ([.int .i64 x8.1]) fun w19 =>
stK w19 (x13.1.add 3) ([.int .i64 x8.1]) fun w20 =>
R25 () w20) (
R25 () w10)) (fun x24 w18 => ∀ _ : Env,
∃ x27 : yapi_Weight.T, At w18 x13.1 (cells yapi_Weight x27) ∧
stK w18 a2 (cells yapi_Weight x27) fun w21 =>
∃ x28 : yapi_Weight.T, At w21 a2 (cells yapi_Weight x28) ∧
K (x28, .nilIface) w21))))) w3))) w2
theorem S_weight_Repeat (v0_w : yapi_Weight.T) (v1_k : Int) (K : (yapi_Weight.T × Value) → World → Prop) (w0 : World) (h : F_weight_Repeat v0_w v1_k K w0) : C_weight_Repeat v0_w v1_k K w0 := by
  have e : denFn P [(11, [(8, .addr)]), (13, [])] Try.f32 #[val yapi_Weight v0_w, .int .i64 v1_k] (.tup (.pair yapi_Weight .iface)) K w0 = F_weight_Repeat v0_w v1_k K w0 := by kernel_rfl
  exact fn_sound mixed (f := 32) Try.func32 (by kernel_rfl) (e.mpr h)

def F_intern_Store_Depth (v0_s : Option Addr) (v1_id : Int) (K : (Int × Value) → World → Prop) (w0 : World) : Prop :=
gd v0_s.isNone (
K ((0 : Int), .iface t_api_Errno (.int .i64 (5 : Int))) w0) (
C_intern_Store_known v0_s v1_id (fun x1 w1 =>
gd (!x1) (
K ((0 : Int), .iface t_api_Errno (.int .i64 (1 : Int))) w1) (
C_intern_Store_at v0_s v1_id (fun x2 w2 =>
K (x2.2.2.1, .nilIface) w2) w1)) w0)
theorem S_intern_Store_Depth (v0_s : Option Addr) (v1_id : Int) (K : (Int × Value) → World → Prop) (w0 : World) (h : F_intern_Store_Depth v0_s v1_id K w0) : C_intern_Store_Depth v0_s v1_id K w0 := by
  have e : denFn P [] Try.f33 #[.pointer v0_s, .int .i64 v1_id] (.tup (.pair (.int .i64) .iface)) K w0 = F_intern_Store_Depth v0_s v1_id K w0 := by kernel_rfl
  exact fn_sound mixed (f := 33) Try.func33 (by kernel_rfl) (e.mpr h)

def F_intern_Store_Find (v0_s : Option Addr) (v1_r : yapi_Rule.T) (K : (Int × Bool) → World → Prop) (w0 : World) : Prop :=
allocK (.cells (cells yapi_Rule v1_r).toArray t_api_Rule) w0 fun a1 w1 =>
gd v0_s.isNone (
K ((0 : Int), false) w1) (
drawK w1 fun w2 =>
nonNil v0_s fun p2 =>
∃ x3 : Option Nat, At w2 (p2.add 2) (cells .map x3) ∧
∃ x4 : yapi_Rule.T, At w2 a1 (cells yapi_Rule x4) ∧
∃ (x5 : Int) (b6 : Bool), Lk2 P t_map_api_Rule_api_ID (.int .i64) (.map x3) (val yapi_Rule x4) x5 b6 w2 ∧
K (x5, b6) w2)
theorem S_intern_Store_Find (v0_s : Option Addr) (v1_r : yapi_Rule.T) (K : (Int × Bool) → World → Prop) (w0 : World) (h : F_intern_Store_Find v0_s v1_r K w0) : C_intern_Store_Find v0_s v1_r K w0 := by
  have e : denFn P [] Try.f34 #[.pointer v0_s, val yapi_Rule v1_r] (.tup (.pair (.int .i64) .bool)) K w0 = F_intern_Store_Find v0_s v1_r K w0 := by kernel_rfl
  exact fn_sound mixed (f := 34) Try.func34 (by kernel_rfl) (e.mpr h)

def F_ref10_Find (v0_s : yevergreenref10_S.T) (v1_r : yapi_Rule.T) (K : Int → World → Prop) (w0 : World) : Prop :=
allocK (.cells (cells yevergreenref10_S v0_s).toArray t_evergreenref10_S) w0 fun a1 w1 =>
allocK (.cells (cells yapi_Rule v1_r).toArray t_api_Rule) w1 fun a2 w2 =>
∃ x3 : Sl, At w2 (a1.add 1) (cells .slice x3) ∧
LoopP (X := Int × Unit) ((0 : Int), ()) w2 fun next5 x4 w3 => ∀ _ : Env,
gd (decide (x4.1 < (x3.len : Int))) (
drawK w3 fun w4 =>
∃ x6 : Sl, At w4 (a1.add 1) (cells .slice x6) ∧
idxK x6.a x6.len x4.1 5 fun p7 =>
∃ x8 : yapi_Rule.T, At w4 p7 (cells yapi_Rule x8) ∧
∃ x9 : yapi_Rule.T, At w4 a2 (cells yapi_Rule x9) ∧
testK P (do eqGuard .eql t_api_Rule (.tmp 16) (.tmp 17) (val yapi_Rule x8) (val yapi_Rule x9); binOp .eql t_api_Rule (val yapi_Rule x8) (val yapi_Rule x9)) fun b10 =>
gd b10 (
arith .i64 (x4.1 + (1 : Int)) fun n11 =>
K n11 w4) (
arith .i64 (x4.1 + (1 : Int)) fun n12 =>
next5 (n12, ()) w4)) (
K (0 : Int) w3)
theorem S_ref10_Find (v0_s : yevergreenref10_S.T) (v1_r : yapi_Rule.T) (K : Int → World → Prop) (w0 : World) (h : F_ref10_Find v0_s v1_r K w0) : C_ref10_Find v0_s v1_r K w0 := by
  have e : denFn P [(1002, [(9, .int .i64)])] Try.f35 #[val yevergreenref10_S v0_s, val yapi_Rule v1_r] (.int .i64) K w0 = F_ref10_Find v0_s v1_r K w0 := by kernel_rfl
  exact fn_sound mixed (f := 35) Try.func35 (by kernel_rfl) (e.mpr h)

end Go.Proofs.Ytddhndabnbckmaa
