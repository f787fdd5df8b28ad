/- Texts that belong together, joined: Text7. No conditions. -/
import Derived.Test.YtcmncfglcjcmhaaGreatX0
/- The typed texts of the functions, printed by a program; each proved to imply the call. -/
set_option linter.unusedVariables false
set_option maxRecDepth 100000
set_option maxHeartbeats 4000000
namespace Go.Proofs.YtcmncfglcjcmhaaGreat
open Go.Den

def F_length_Clip (v0_n : Int) (v1_low : Int) (v2_high : Int) (K : Int → World → Prop) (w0 : World) : Prop :=
gd (decide (v0_n < v1_low)) (
K v1_low w0) (
gd (decide (v2_high < v0_n)) (
K v2_high w0) (
K v0_n w0))
theorem S_length_Clip (v0_n : Int) (v1_low : Int) (v2_high : Int) (K : Int → World → Prop) (w0 : World) (h : F_length_Clip v0_n v1_low v2_high K w0) : C_length_Clip v0_n v1_low v2_high K w0 := by
  have e : denFn P [] Tryz.f32 #[.int .i64 v0_n, .int .i64 v1_low, .int .i64 v2_high] (.int .i64) K w0 = F_length_Clip v0_n v1_low v2_high K w0 := by kernel_rfl
  exact fn_sound mixed (f := 32) Tryz.func32 (by kernel_rfl) (e.mpr h)

def F_walk_known (v0_s : Option Addr) (v1_id : Int) (K : (Int × Bool) → World → Prop) (w0 : World) : Prop :=
C_intern_Store_Weight v0_s v1_id (fun x1 w1 =>
allocK (.cells #[.int .i64 (0 : Int), .int .i64 (0 : Int), .int .i64 (0 : Int), .int .i64 (0 : Int), .int .u64 (0 : Int), .int .u64 (0 : Int)] t_api_Weight) w1 fun a2 w2 =>
stK w2 a2 (cells yapi_Weight x1.1) fun w3 =>
drawK w3 fun w4 =>
∃ x3 : Int, At w4 (a2.add 0) (cells (.int .i64) x3) ∧
nilIfcK x1.2 fun b4 =>
K (x3, b4) w4) w0
theorem S_walk_known (v0_s : Option Addr) (v1_id : Int) (K : (Int × Bool) → World → Prop) (w0 : World) (h : F_walk_known v0_s v1_id K w0) : C_walk_known v0_s v1_id K w0 := by
  have e : denFn P [] Tryz.f33 #[.pointer v0_s, .int .i64 v1_id] (.tup (.pair (.int .i64) .bool)) K w0 = F_walk_known v0_s v1_id K w0 := by kernel_rfl
  exact fn_sound mixed (f := 33) Tryz.func33 (by kernel_rfl) (e.mpr h)

def F_walk_Letters_1 (v0_yield : Value) (K : Unit → World → Prop) (w0 : World) : Prop :=
K () w0
theorem S_walk_Letters_1 (v0_yield : Value) (K : Unit → World → Prop) (w0 : World) (h : F_walk_Letters_1 v0_yield K w0) : C_walk_Letters_1 v0_yield K w0 := by
  have e : denFn P [] Tryz.f34 #[v0_yield] (.tup .unit) K w0 = F_walk_Letters_1 v0_yield K w0 := by kernel_rfl
  exact fn_sound mixed (f := 34) Tryz.func34 (by kernel_rfl) (e.mpr h)

def F_walk_Letters_2 (v0_yield : Value) (v1 : Addr) (v2 : Addr) (v3 : Addr) (K : Unit → World → Prop) (w0 : World) : Prop :=
∃ x1 : Option Addr, At w0 v1 (cells .ptr x1) ∧
∃ x2 : Int, At w0 v2 (cells (.int .i64) x2) ∧
∃ x3 : Int, At w0 v3 (cells (.int .i64) x3) ∧
C_walk_forward x1 x2 x3 (fun x4 w1 =>
allocK (.cells #[.slice none 0 0] t_sl_walk_copies) w1 fun a5 w2 =>
stK w2 a5 ([.slice x4.a x4.len x4.cap]) fun w3 =>
∃ x6 : Int, At w3 v3 (cells (.int .i64) x6) ∧
LoopP (X := Int × Unit) (x6, ()) w3 fun next8 x7 w4 => ∀ _ : Env,
∃ x9 : Sl, At w4 a5 (cells .slice x9) ∧
gd (decide ((0 : Int) < (x9.len : Int))) (
∃ x10 : Option Addr, At w4 v1 (cells .ptr x10) ∧
C_walk_take x10 (some a5) (fun x11 w5 =>
allocK (.cells #[.int .i64 (0 : Int), .int .u8 (0 : Int), .int .i64 (0 : Int), .int .i64 (0 : Int), .int .i64 (0 : Int)] t_api_Rule) w5 fun a12 w6 =>
stK w6 a12 (cells yapi_Rule x11) fun w7 =>
∃ x13 : Int, At w7 (a12.add 0) (cells (.int .i64) x13) ∧
gd (x13 == (1 : Int)) (
∃ x14 : Int, At w7 (a12.add 1) (cells (.int .u8) x14) ∧
callV P v0_yield [.int .i64 x7.1, .int .u8 x14] .bool w7 fun x15 w8 =>
gd (!x15) (
K () w8) (
arith .i64 (x7.1 + (1 : Int)) fun n16 =>
next8 (n16, ()) w8)) (
gd (x13 == (2 : Int)) (
∃ x17 : Sl, At w7 a5 (cells .slice x17) ∧
∃ x18 : Int, At w7 (a12.add 3) (cells (.int .i64) x18) ∧
∃ x19 : Int, At w7 (a12.add 2) (cells (.int .i64) x19) ∧
allocK (.cells #[.int .i64 x18, .int .i64 (1 : Int), .int .i64 x19, .int .i64 (1 : Int)] t_walk_copies) w7 fun a20 w9 =>
appK t_walk_copies 2 16 #[.int .i64 (0 : Int), .int .i64 (0 : Int)] x17.a x17.len x17.cap (.slice (some a20) 2 2) 2 w9 fun s21 w10 =>
stK w10 a5 ([.slice s21.a s21.len s21.cap]) fun w11 =>
next8 (x7.1, ()) w11) (
gd (x13 == (3 : Int)) (
∃ x22 : Sl, At w7 a5 (cells .slice x22) ∧
∃ x23 : Int, At w7 (a12.add 2) (cells (.int .i64) x23) ∧
∃ x24 : Int, At w7 (a12.add 4) (cells (.int .i64) x24) ∧
allocK (.cells #[.int .i64 x23, .int .i64 x24] t_walk_copies) w7 fun a25 w12 =>
appK t_walk_copies 2 16 #[.int .i64 (0 : Int), .int .i64 (0 : Int)] x22.a x22.len x22.cap (.slice (some a25) 1 1) 1 w12 fun s26 w13 =>
stK w13 a5 ([.slice s26.a s26.len s26.cap]) fun w14 =>
next8 (x7.1, ()) w14) (
next8 (x7.1, ()) w7)))) w4) (
K () w4)) w0
theorem S_walk_Letters_2 (v0_yield : Value) (v1 : Addr) (v2 : Addr) (v3 : Addr) (K : Unit → World → Prop) (w0 : World) (h : F_walk_Letters_2 v0_yield v1 v2 v3 K w0) : C_walk_Letters_2 v0_yield v1 v2 v3 K w0 := by
  have e : denFn P [(1002, [(6, .int .i64)])] Tryz.f35 #[v0_yield, .pointer (some v1), .pointer (some v2), .pointer (some v3)] (.tup .unit) K w0 = F_walk_Letters_2 v0_yield v1 v2 v3 K w0 := by kernel_rfl
  exact fn_sound mixed (f := 35) Tryz.func35 (by kernel_rfl) (e.mpr h)

def F_walk_forward (v0_s : Option Addr) (v1_id : Int) (v2_from : Int) (K : Sl → World → Prop) (w0 : World) : Prop :=
LoopP (X := Int × Int × Sl × Unit) (v1_id, v2_from, ⟨none, 0, 0⟩, ()) w0 fun next2 x1 w1 => ∀ _ : Env,
gd (decide ((0 : Int) < x1.2.1)) (
C_intern_Store_Rule v0_s x1.1 (fun x3 w2 =>
allocK (.cells #[.int .i64 (0 : Int), .int .u8 (0 : Int), .int .i64 (0 : Int), .int .i64 (0 : Int), .int .i64 (0 : Int)] t_api_Rule) w2 fun a4 w3 =>
stK w3 a4 (cells yapi_Rule x3.1) fun w4 =>
∃ x5 : Int, At w4 (a4.add 2) (cells (.int .i64) x5) ∧
C_intern_Store_Weight v0_s x5 (fun x6 w5 =>
allocK (.cells #[.int .i64 (0 : Int), .int .i64 (0 : Int), .int .i64 (0 : Int), .int .i64 (0 : Int), .int .u64 (0 : Int), .int .u64 (0 : Int)] t_api_Weight) w5 fun a7 w6 =>
stK w6 a7 (cells yapi_Weight x6.1) fun w7 =>
∃ x8 : Int, At w7 (a4.add 0) (cells (.int .i64) x8) ∧
gd (x8 == (3 : Int)) (
JoinP (X := Sl × Unit) (fun R10 =>
drawK w7 fun w9 =>
∃ x11 : Int, At w9 (a4.add 4) (cells (.int .i64) x11) ∧
arith .i64 (x11 - (1 : Int)) fun n12 =>
∃ x13 : Int, At w9 (a7.add 0) (cells (.int .i64) x13) ∧
x13 ≠ 0 ∧
arith .i64 (Int.tdiv x1.2.1 x13) fun n14 =>
arith .i64 (n12 - n14) fun n15 =>
gd (decide ((0 : Int) < n15)) (
∃ x16 : Int, At w9 (a4.add 2) (cells (.int .i64) x16) ∧
allocK (.cells #[.int .i64 x16, .int .i64 n15] t_walk_copies) w9 fun a17 w10 =>
appK t_walk_copies 2 16 #[.int .i64 (0 : Int), .int .i64 (0 : Int)] x1.2.2.1.a x1.2.2.1.len x1.2.2.1.cap (.slice (some a17) 1 1) 1 w10 fun s18 w11 =>
R10 (s18, ()) w11) (
R10 (x1.2.2.1, ()) w9)) (fun x9 w8 => ∀ _ : Env,
drawK w8 fun w12 =>
∃ x19 : Int, At w12 (a4.add 2) (cells (.int .i64) x19) ∧
∃ x20 : Int, At w12 (a7.add 0) (cells (.int .i64) x20) ∧
x20 ≠ 0 ∧
letZ (Int.tmod x1.2.1 x20) fun n21 =>
next2 (x19, n21, x9.1, ()) w12)) (
∃ x22 : Int, At w7 (a7.add 0) (cells (.int .i64) x22) ∧
gd (decide (x1.2.1 < x22)) (
∃ x23 : Int, At w7 (a4.add 3) (cells (.int .i64) x23) ∧
allocK (.cells #[.int .i64 x23, .int .i64 (1 : Int)] t_walk_copies) w7 fun a24 w13 =>
appK t_walk_copies 2 16 #[.int .i64 (0 : Int), .int .i64 (0 : Int)] x1.2.2.1.a x1.2.2.1.len x1.2.2.1.cap (.slice (some a24) 1 1) 1 w13 fun s25 w14 =>
∃ x26 : Int, At w14 (a4.add 2) (cells (.int .i64) x26) ∧
next2 (x26, x1.2.1, s25, ()) w14) (
drawK w7 fun w15 =>
∃ x27 : Int, At w15 (a4.add 3) (cells (.int .i64) x27) ∧
∃ x28 : Int, At w15 (a7.add 0) (cells (.int .i64) x28) ∧
arith .i64 (x1.2.1 - x28) fun n29 =>
next2 (x27, n29, x1.2.2.1, ()) w15))) w4) w1) (
allocK (.cells #[.int .i64 x1.1, .int .i64 (1 : Int)] t_walk_copies) w1 fun a30 w16 =>
appK t_walk_copies 2 16 #[.int .i64 (0 : Int), .int .i64 (0 : Int)] x1.2.2.1.a x1.2.2.1.len x1.2.2.1.cap (.slice (some a30) 1 1) 1 w16 fun s31 w17 =>
K s31 w17)
theorem S_walk_forward (v0_s : Option Addr) (v1_id : Int) (v2_from : Int) (K : Sl → World → Prop) (w0 : World) (h : F_walk_forward v0_s v1_id v2_from K w0) : C_walk_forward v0_s v1_id v2_from K w0 := by
  have e : denFn P [(1002, [(1, .int .i64), (2, .int .i64), (7, .slice)]), (10, [(7, .slice)])] Tryz.f36 #[.pointer v0_s, .int .i64 v1_id, .int .i64 v2_from] .slice K w0 = F_walk_forward v0_s v1_id v2_from K w0 := by kernel_rfl
  exact fn_sound mixed (f := 36) Tryz.func36 (by kernel_rfl) (e.mpr h)

def F_walk_take (v0_s : Option Addr) (v1_todo : Option Addr) (K : yapi_Rule.T → World → Prop) (w0 : World) : Prop :=
allocK (.cells #[.int .i64 (0 : Int), .int .u8 (0 : Int), .int .i64 (0 : Int), .int .i64 (0 : Int), .int .i64 (0 : Int)] t_api_Rule) w0 fun a1 w1 =>
nonNil v1_todo fun p2 =>
∃ x3 : Sl, At w1 p2 (cells .slice x3) ∧
arith .i64 ((x3.len : Int) - (1 : Int)) fun n4 =>
idxK x3.a x3.len n4 2 fun p5 =>
nonNil (some p5) fun p6 =>
∃ x7 : Int, At w1 (p6.add 0) (cells (.int .i64) x7) ∧
JoinP (X := Unit) (fun R9 =>
nonNil (some p5) fun p10 =>
∃ x11 : Int, At w1 (p10.add 1) (cells (.int .i64) x11) ∧
arith .i64 (x11 - (1 : Int)) fun n12 =>
nonNil (some p5) fun p13 =>
stK w1 (p13.add 1) ([.int .i64 n12]) fun w3 =>
nonNil (some p5) fun p14 =>
∃ x15 : Int, At w3 (p14.add 1) (cells (.int .i64) x15) ∧
gd (x15 == (0 : Int)) (
arith .i64 ((x3.len : Int) - (1 : Int)) fun n16 =>
slK 2 x3.a x3.len x3.cap none (some n16) fun s17 =>
nonNil v1_todo fun p18 =>
stK w3 p18 ([.slice s17.a s17.len s17.cap]) fun w4 =>
R9 () w4) (
R9 () w3)) (fun x8 w2 => ∀ _ : Env,
C_intern_Store_Rule v0_s x7 (fun x19 w5 =>
allocK (.cells #[.int .i64 (0 : Int), .int .u8 (0 : Int), .int .i64 (0 : Int), .int .i64 (0 : Int), .int .i64 (0 : Int)] t_api_Rule) w5 fun a20 w6 =>
stK w6 a20 (cells yapi_Rule x19.1) fun w7 =>
∃ x21 : yapi_Rule.T, At w7 a20 (cells yapi_Rule x21) ∧
stK w7 a1 (cells yapi_Rule x21) fun w8 =>
∃ x22 : yapi_Rule.T, At w8 a1 (cells yapi_Rule x22) ∧
K x22 w8) w2)
theorem S_walk_take (v0_s : Option Addr) (v1_todo : Option Addr) (K : yapi_Rule.T → World → Prop) (w0 : World) (h : F_walk_take v0_s v1_todo K w0) : C_walk_take v0_s v1_todo K w0 := by
  have e : denFn P [(7, [])] Tryz.f37 #[.pointer v0_s, .pointer v1_todo] yapi_Rule K w0 = F_walk_take v0_s v1_todo K w0 := by kernel_rfl
  exact fn_sound mixed (f := 37) Tryz.func37 (by kernel_rfl) (e.mpr h)

end Go.Proofs.YtcmncfglcjcmhaaGreat
