/- Texts that belong together, joined: Text8. No conditions. -/
import Derived.Test.YtcmncfglcjcmhaaGreatX0
/- The typed texts of the functions, printed by a program; each proved to imply the call. -/
set_option linter.unusedVariables false
set_option maxRecDepth 100000
set_option maxHeartbeats 4000000
namespace Go.Proofs.YtcmncfglcjcmhaaGreat
open Go.Den

def F_walk_Back_1 (v0_yield : Value) (K : Unit → World → Prop) (w0 : World) : Prop :=
K () w0
theorem S_walk_Back_1 (v0_yield : Value) (K : Unit → World → Prop) (w0 : World) (h : F_walk_Back_1 v0_yield K w0) : C_walk_Back_1 v0_yield K w0 := by
  have e : denFn P [] Tryz.f38 #[v0_yield] (.tup .unit) K w0 = F_walk_Back_1 v0_yield K w0 := by kernel_rfl
  exact fn_sound mixed (f := 38) Tryz.func38 (by kernel_rfl) (e.mpr h)

def F_walk_Back_2 (v0_yield : Value) (v1 : Addr) (v2 : Addr) (v3 : Addr) (K : Unit → World → Prop) (w0 : World) : Prop :=
∃ x1 : Option Addr, At w0 v1 (cells .ptr x1) ∧
∃ x2 : Int, At w0 v2 (cells (.int .i64) x2) ∧
∃ x3 : Int, At w0 v3 (cells (.int .i64) x3) ∧
C_walk_backward x1 x2 x3 (fun x4 w1 =>
allocK (.cells #[.slice none 0 0] t_sl_walk_copies) w1 fun a5 w2 =>
stK w2 a5 ([.slice x4.a x4.len x4.cap]) fun w3 =>
∃ x6 : Int, At w3 v3 (cells (.int .i64) x6) ∧
LoopP (X := Int × Unit) (x6, ()) w3 fun next8 x7 w4 => ∀ _ : Env,
∃ x9 : Sl, At w4 a5 (cells .slice x9) ∧
gd (decide ((0 : Int) < (x9.len : Int))) (
∃ x10 : Option Addr, At w4 v1 (cells .ptr x10) ∧
C_walk_take x10 (some a5) (fun x11 w5 =>
allocK (.cells #[.int .i64 (0 : Int), .int .u8 (0 : Int), .int .i64 (0 : Int), .int .i64 (0 : Int), .int .i64 (0 : Int)] t_api_Rule) w5 fun a12 w6 =>
stK w6 a12 (cells yapi_Rule x11) fun w7 =>
∃ x13 : Int, At w7 (a12.add 0) (cells (.int .i64) x13) ∧
gd (x13 == (1 : Int)) (
arith .i64 (x7.1 - (1 : Int)) fun n14 =>
∃ x15 : Int, At w7 (a12.add 1) (cells (.int .u8) x15) ∧
callV P v0_yield [.int .i64 n14, .int .u8 x15] .bool w7 fun x16 w8 =>
gd (!x16) (
K () w8) (
next8 (n14, ()) w8)) (
gd (x13 == (2 : Int)) (
∃ x17 : Sl, At w7 a5 (cells .slice x17) ∧
∃ x18 : Int, At w7 (a12.add 2) (cells (.int .i64) x18) ∧
∃ x19 : Int, At w7 (a12.add 3) (cells (.int .i64) x19) ∧
allocK (.cells #[.int .i64 x18, .int .i64 (1 : Int), .int .i64 x19, .int .i64 (1 : Int)] t_walk_copies) w7 fun a20 w9 =>
appK t_walk_copies 2 16 #[.int .i64 (0 : Int), .int .i64 (0 : Int)] x17.a x17.len x17.cap (.slice (some a20) 2 2) 2 w9 fun s21 w10 =>
stK w10 a5 ([.slice s21.a s21.len s21.cap]) fun w11 =>
next8 (x7.1, ()) w11) (
gd (x13 == (3 : Int)) (
∃ x22 : Sl, At w7 a5 (cells .slice x22) ∧
∃ x23 : Int, At w7 (a12.add 2) (cells (.int .i64) x23) ∧
∃ x24 : Int, At w7 (a12.add 4) (cells (.int .i64) x24) ∧
allocK (.cells #[.int .i64 x23, .int .i64 x24] t_walk_copies) w7 fun a25 w12 =>
appK t_walk_copies 2 16 #[.int .i64 (0 : Int), .int .i64 (0 : Int)] x22.a x22.len x22.cap (.slice (some a25) 1 1) 1 w12 fun s26 w13 =>
stK w13 a5 ([.slice s26.a s26.len s26.cap]) fun w14 =>
next8 (x7.1, ()) w14) (
next8 (x7.1, ()) w7)))) w4) (
K () w4)) w0
theorem S_walk_Back_2 (v0_yield : Value) (v1 : Addr) (v2 : Addr) (v3 : Addr) (K : Unit → World → Prop) (w0 : World) (h : F_walk_Back_2 v0_yield v1 v2 v3 K w0) : C_walk_Back_2 v0_yield v1 v2 v3 K w0 := by
  have e : denFn P [(1002, [(6, .int .i64)])] Tryz.f39 #[v0_yield, .pointer (some v1), .pointer (some v2), .pointer (some v3)] (.tup .unit) K w0 = F_walk_Back_2 v0_yield v1 v2 v3 K w0 := by kernel_rfl
  exact fn_sound mixed (f := 39) Tryz.func39 (by kernel_rfl) (e.mpr h)

def F_walk_backward (v0_s : Option Addr) (v1_id : Int) (v2_from : Int) (K : Sl → World → Prop) (w0 : World) : Prop :=
LoopP (X := Int × Int × Sl × Unit) (v1_id, v2_from, ⟨none, 0, 0⟩, ()) w0 fun next2 x1 w1 => ∀ _ : Env,
C_intern_Store_Weight v0_s x1.1 (fun x3 w2 =>
allocK (.cells #[.int .i64 (0 : Int), .int .i64 (0 : Int), .int .i64 (0 : Int), .int .i64 (0 : Int), .int .u64 (0 : Int), .int .u64 (0 : Int)] t_api_Weight) w2 fun a4 w3 =>
stK w3 a4 (cells yapi_Weight x3.1) fun w4 =>
∃ x5 : Int, At w4 (a4.add 0) (cells (.int .i64) x5) ∧
gd (x1.2.1 == x5) (
allocK (.cells #[.int .i64 x1.1, .int .i64 (1 : Int)] t_walk_copies) w4 fun a6 w5 =>
appK t_walk_copies 2 16 #[.int .i64 (0 : Int), .int .i64 (0 : Int)] x1.2.2.1.a x1.2.2.1.len x1.2.2.1.cap (.slice (some a6) 1 1) 1 w5 fun s7 w6 =>
K s7 w6) (
C_intern_Store_Rule v0_s x1.1 (fun x8 w7 =>
allocK (.cells #[.int .i64 (0 : Int), .int .u8 (0 : Int), .int .i64 (0 : Int), .int .i64 (0 : Int), .int .i64 (0 : Int)] t_api_Rule) w7 fun a9 w8 =>
stK w8 a9 (cells yapi_Rule x8.1) fun w9 =>
∃ x10 : Int, At w9 (a9.add 2) (cells (.int .i64) x10) ∧
C_intern_Store_Weight v0_s x10 (fun x11 w10 =>
allocK (.cells #[.int .i64 (0 : Int), .int .i64 (0 : Int), .int .i64 (0 : Int), .int .i64 (0 : Int), .int .u64 (0 : Int), .int .u64 (0 : Int)] t_api_Weight) w10 fun a12 w11 =>
stK w11 a12 (cells yapi_Weight x11.1) fun w12 =>
∃ x13 : Int, At w12 (a9.add 0) (cells (.int .i64) x13) ∧
gd (x13 == (3 : Int)) (
arith .i64 (x1.2.1 - (1 : Int)) fun n14 =>
∃ x15 : Int, At w12 (a12.add 0) (cells (.int .i64) x15) ∧
x15 ≠ 0 ∧
arith .i64 (Int.tdiv n14 x15) fun n16 =>
JoinP (X := Sl × Unit) (fun R18 =>
gd (decide ((0 : Int) < n16)) (
∃ x19 : Int, At w12 (a9.add 2) (cells (.int .i64) x19) ∧
allocK (.cells #[.int .i64 x19, .int .i64 n16] t_walk_copies) w12 fun a20 w14 =>
appK t_walk_copies 2 16 #[.int .i64 (0 : Int), .int .i64 (0 : Int)] x1.2.2.1.a x1.2.2.1.len x1.2.2.1.cap (.slice (some a20) 1 1) 1 w14 fun s21 w15 =>
R18 (s21, ()) w15) (
R18 (x1.2.2.1, ()) w12)) (fun x17 w13 => ∀ _ : Env,
drawK w13 fun w16 =>
∃ x22 : Int, At w16 (a9.add 2) (cells (.int .i64) x22) ∧
∃ x23 : Int, At w16 (a12.add 0) (cells (.int .i64) x23) ∧
arith .i64 (n16 * x23) fun n24 =>
arith .i64 (x1.2.1 - n24) fun n25 =>
next2 (x22, n25, x17.1, ()) w16)) (
∃ x26 : Int, At w12 (a12.add 0) (cells (.int .i64) x26) ∧
gd (decide (x1.2.1 ≤ x26)) (
∃ x27 : Int, At w12 (a9.add 2) (cells (.int .i64) x27) ∧
next2 (x27, x1.2.1, x1.2.2.1, ()) w12) (
∃ x28 : Int, At w12 (a9.add 2) (cells (.int .i64) x28) ∧
allocK (.cells #[.int .i64 x28, .int .i64 (1 : Int)] t_walk_copies) w12 fun a29 w17 =>
appK t_walk_copies 2 16 #[.int .i64 (0 : Int), .int .i64 (0 : Int)] x1.2.2.1.a x1.2.2.1.len x1.2.2.1.cap (.slice (some a29) 1 1) 1 w17 fun s30 w18 =>
drawK w18 fun w19 =>
∃ x31 : Int, At w19 (a9.add 3) (cells (.int .i64) x31) ∧
∃ x32 : Int, At w19 (a12.add 0) (cells (.int .i64) x32) ∧
arith .i64 (x1.2.1 - x32) fun n33 =>
next2 (x31, n33, s30, ()) w19))) w9) w4)) w1
theorem S_walk_backward (v0_s : Option Addr) (v1_id : Int) (v2_from : Int) (K : Sl → World → Prop) (w0 : World) (h : F_walk_backward v0_s v1_id v2_from K w0) : C_walk_backward v0_s v1_id v2_from K w0 := by
  have e : denFn P [(1002, [(1, .int .i64), (2, .int .i64), (7, .slice)]), (13, [(7, .slice)])] Tryz.f40 #[.pointer v0_s, .int .i64 v1_id, .int .i64 v2_from] .slice K w0 = F_walk_backward v0_s v1_id v2_from K w0 := by kernel_rfl
  exact fn_sound mixed (f := 40) Tryz.func40 (by kernel_rfl) (e.mpr h)

def F_length_Range (v0_from : Int) (v1_n : Int) (v2_length : Int) (K : Value → World → Prop) (w0 : World) : Prop :=
JoinP (X := Bool × Unit) (fun R2 =>
C_length_Valid v2_length (fun x3 w2 =>
gd (!x3) (
R2 (true, ()) w2) (
gd (decide (v0_from < (0 : Int))) (
R2 (true, ()) w2) (
gd (decide (v1_n < (0 : Int))) (
R2 (true, ()) w2) (
gd (decide (v2_length < v0_from)) (
R2 (true, ()) w2) (
arith .i64 (v2_length - v0_from) fun n4 =>
R2 (decide (n4 < v1_n), ()) w2))))) w0) (fun x1 w1 => ∀ _ : Env,
gd x1.1 (
K (.iface t_api_Errno (.int .i64 (1 : Int))) w1) (
K .nilIface w1))
theorem S_length_Range (v0_from : Int) (v1_n : Int) (v2_length : Int) (K : Value → World → Prop) (w0 : World) (h : F_length_Range v0_from v1_n v2_length K w0) : C_length_Range v0_from v1_n v2_length K w0 := by
  have e : denFn P [(2, [(29, .bool)])] Tryz.f41 #[.int .i64 v0_from, .int .i64 v1_n, .int .i64 v2_length] .iface K w0 = F_length_Range v0_from v1_n v2_length K w0 := by kernel_rfl
  exact fn_sound mixed (f := 41) Tryz.func41 (by kernel_rfl) (e.mpr h)

def F_walk_Pieces_1 (v0_yield : Value) (K : Unit → World → Prop) (w0 : World) : Prop :=
K () w0
theorem S_walk_Pieces_1 (v0_yield : Value) (K : Unit → World → Prop) (w0 : World) (h : F_walk_Pieces_1 v0_yield K w0) : C_walk_Pieces_1 v0_yield K w0 := by
  have e : denFn P [] Tryz.f42 #[v0_yield] (.tup .unit) K w0 = F_walk_Pieces_1 v0_yield K w0 := by kernel_rfl
  exact fn_sound mixed (f := 42) Tryz.func42 (by kernel_rfl) (e.mpr h)

def F_avl_Balanced (v0_s : Option Addr) (v1_id : Int) (K : (Bool × Value) → World → Prop) (w0 : World) : Prop :=
C_intern_Store_Depth v0_s v1_id (fun x1 w1 =>
nilIfcK x1.2 fun b2 =>
gd (!b2) (
K (false, x1.2) w1) (
C_intern_Store_Even v0_s v1_id (fun x3 w2 =>
K (x3, .nilIface) w2) w1)) w0
theorem S_avl_Balanced (v0_s : Option Addr) (v1_id : Int) (K : (Bool × Value) → World → Prop) (w0 : World) (h : F_avl_Balanced v0_s v1_id K w0) : C_avl_Balanced v0_s v1_id K w0 := by
  have e : denFn P [] Tryz.f43 #[.pointer v0_s, .int .i64 v1_id] (.tup (.pair .bool .iface)) K w0 = F_avl_Balanced v0_s v1_id K w0 := by kernel_rfl
  exact fn_sound mixed (f := 43) Tryz.func43 (by kernel_rfl) (e.mpr h)

end Go.Proofs.YtcmncfglcjcmhaaGreat
