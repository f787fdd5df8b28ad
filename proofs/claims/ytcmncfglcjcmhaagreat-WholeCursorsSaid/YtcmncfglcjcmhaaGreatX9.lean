/- Texts that belong together, joined: Text9. No conditions. -/
import Derived.Test.YtcmncfglcjcmhaaGreatX0
/- The typed texts of the functions, printed by a program; each proved to imply the call. -/
set_option linter.unusedVariables false
set_option maxRecDepth 100000
set_option maxHeartbeats 4000000
namespace Go.Proofs.YtcmncfglcjcmhaaGreat
open Go.Den

def F_access_parts (v0_s : Option Addr) (v1_id : Int) (v2_from : Int) (v3_n : Int) (v4_visit : Value) (K : Value → World → Prop) (w0 : World) : Prop :=
allocK (.cells #[.int .i64 v1_id, .int .i64 v2_from, .int .i64 v3_n, .int .i64 (1 : Int)] t_access_span) w0 fun a1 w1 =>
LoopP (X := Sl × Unit) (⟨some a1, 1, 1⟩, ()) w1 fun next3 x2 w2 => ∀ _ : Env,
gd (decide ((0 : Int) < (x2.1.len : Int))) (
arith .i64 ((x2.1.len : Int) - (1 : Int)) fun n4 =>
idxK x2.1.a x2.1.len n4 4 fun p5 =>
∃ x6 : yaccess_span.T, At w2 p5 (cells yaccess_span x6) ∧
allocK (.cells #[.int .i64 (0 : Int), .int .i64 (0 : Int), .int .i64 (0 : Int), .int .i64 (0 : Int)] t_access_span) w2 fun a7 w3 =>
stK w3 a7 (cells yaccess_span x6) fun w4 =>
arith .i64 ((x2.1.len : Int) - (1 : Int)) fun n8 =>
slK 4 x2.1.a x2.1.len x2.1.cap none (some n8) fun s9 =>
JoinP (X := Unit) (fun R11 =>
∃ x12 : Int, At w4 (a7.add 2) (cells (.int .i64) x12) ∧
gd (x12 == (0 : Int)) (
next3 (s9, ()) w4) (
∃ x13 : Int, At w4 (a7.add 3) (cells (.int .i64) x13) ∧
gd (x13 == (0 : Int)) (
next3 (s9, ()) w4) (
R11 () w4))) (fun x10 w5 => ∀ _ : Env,
∃ x14 : Int, At w5 (a7.add 0) (cells (.int .i64) x14) ∧
C_intern_Store_Weight v0_s x14 (fun x15 w6 =>
allocK (.cells #[.int .i64 (0 : Int), .int .i64 (0 : Int), .int .i64 (0 : Int), .int .i64 (0 : Int), .int .u64 (0 : Int), .int .u64 (0 : Int)] t_api_Weight) w6 fun a16 w7 =>
stK w7 a16 (cells yapi_Weight x15.1) fun w8 =>
nilIfcK x15.2 fun b17 =>
gd (!b17) (
K x15.2 w8) (
∃ x18 : Int, At w8 (a7.add 2) (cells (.int .i64) x18) ∧
∃ x19 : Int, At w8 (a16.add 0) (cells (.int .i64) x19) ∧
gd (x18 == x19) (
∃ x20 : Int, At w8 (a7.add 0) (cells (.int .i64) x20) ∧
∃ x21 : Int, At w8 (a7.add 3) (cells (.int .i64) x21) ∧
callV P v4_visit [.int .i64 x20, .int .i64 x21] .iface w8 fun x22 w9 =>
nilIfcK x22 fun b23 =>
gd (!b23) (
K x22 w9) (
next3 (s9, ()) w9)) (
∃ x24 : Int, At w8 (a7.add 0) (cells (.int .i64) x24) ∧
C_intern_Store_Rule v0_s x24 (fun x25 w10 =>
allocK (.cells #[.int .i64 (0 : Int), .int .u8 (0 : Int), .int .i64 (0 : Int), .int .i64 (0 : Int), .int .i64 (0 : Int)] t_api_Rule) w10 fun a26 w11 =>
stK w11 a26 (cells yapi_Rule x25.1) fun w12 =>
nilIfcK x25.2 fun b27 =>
gd (!b27) (
K x25.2 w12) (
∃ x28 : Int, At w12 (a26.add 2) (cells (.int .i64) x28) ∧
C_intern_Store_Weight v0_s x28 (fun x29 w13 =>
allocK (.cells #[.int .i64 (0 : Int), .int .i64 (0 : Int), .int .i64 (0 : Int), .int .i64 (0 : Int), .int .u64 (0 : Int), .int .u64 (0 : Int)] t_api_Weight) w13 fun a30 w14 =>
stK w14 a30 (cells yapi_Weight x29.1) fun w15 =>
nilIfcK x29.2 fun b31 =>
gd (!b31) (
K x29.2 w15) (
∃ x32 : Int, At w15 (a26.add 0) (cells (.int .i64) x32) ∧
gd (x32 == (2 : Int)) (
∃ x33 : yapi_Rule.T, At w15 a26 (cells yapi_Rule x33) ∧
∃ x34 : Int, At w15 (a30.add 0) (cells (.int .i64) x34) ∧
∃ x35 : yaccess_span.T, At w15 a7 (cells yaccess_span x35) ∧
C_access_halve s9 x33 x34 x35 (fun x36 w16 =>
next3 (x36, ()) w16) w15) (
∃ x37 : yapi_Rule.T, At w15 a26 (cells yapi_Rule x37) ∧
∃ x38 : Int, At w15 (a30.add 0) (cells (.int .i64) x38) ∧
∃ x39 : yaccess_span.T, At w15 a7 (cells yaccess_span x39) ∧
C_access_divide s9 x37 x38 x39 (fun x40 w17 =>
next3 (x40, ()) w17) w15))) w12)) w8))) w5)) (
K .nilIface w2)
theorem S_access_parts (v0_s : Option Addr) (v1_id : Int) (v2_from : Int) (v3_n : Int) (v4_visit : Value) (K : Value → World → Prop) (w0 : World) (h : F_access_parts v0_s v1_id v2_from v3_n v4_visit K w0) : C_access_parts v0_s v1_id v2_from v3_n v4_visit K w0 := by
  have e : denFn P [(1002, [(11, .slice)]), (6, [])] Tryz.f49 #[.pointer v0_s, .int .i64 v1_id, .int .i64 v2_from, .int .i64 v3_n, v4_visit] .iface K w0 = F_access_parts v0_s v1_id v2_from v3_n v4_visit K w0 := by kernel_rfl
  exact fn_sound mixed (f := 49) Tryz.func49 (by kernel_rfl) (e.mpr h)

def F_access_Extract_1 (v0_x : Int) (v1_times : Int) (v2 : Addr) (v3 : Addr) (K : Value → World → Prop) (w0 : World) : Prop :=
∃ x1 : Sl, At w0 v2 (cells .slice x1) ∧
∃ x2 : Option Addr, At w0 v3 (cells .ptr x2) ∧
C_access_spell x2 v0_x (some v2) (fun x3 w1 =>
nilIfcK x3 fun b4 =>
gd (!b4) (
K x3 w1) (
∃ x5 : Sl, At w1 v2 (cells .slice x5) ∧
slK 1 x5.a x5.len x5.cap (some (x1.len : Int)) none fun s6 =>
arith .i64 (v1_times - (1 : Int)) fun n7 =>
LoopP (X := Int × Unit) ((0 : Int), ()) w1 fun next9 x8 w2 => ∀ _ : Env,
gd (decide (x8.1 < n7)) (
∃ x10 : Sl, At w2 v2 (cells .slice x10) ∧
appK t_uint8 1 1 #[.int .u8 (0 : Int)] x10.a x10.len x10.cap (.slice s6.a s6.len s6.cap) s6.len w2 fun s11 w3 =>
stK w3 v2 ([.slice s11.a s11.len s11.cap]) fun w4 =>
arith .i64 (x8.1 + (1 : Int)) fun n12 =>
next9 (n12, ()) w4) (
K .nilIface w2))) w0
theorem S_access_Extract_1 (v0_x : Int) (v1_times : Int) (v2 : Addr) (v3 : Addr) (K : Value → World → Prop) (w0 : World) (h : F_access_Extract_1 v0_x v1_times v2 v3 K w0) : C_access_Extract_1 v0_x v1_times v2 v3 K w0 := by
  have e : denFn P [(1007, [(23, .int .i64)])] Tryz.f50 #[.int .i64 v0_x, .int .i64 v1_times, .pointer (some v2), .pointer (some v3)] .iface K w0 = F_access_Extract_1 v0_x v1_times v2 v3 K w0 := by kernel_rfl
  exact fn_sound mixed (f := 50) Tryz.func50 (by kernel_rfl) (e.mpr h)

def F_access_spell (v0_s : Option Addr) (v1_id : Int) (v2_text : Option Addr) (K : Value → World → Prop) (w0 : World) : Prop :=
allocK (.cells #[.int .i64 v1_id, .int .i64 (1 : Int)] t_access_copies) w0 fun a1 w1 =>
LoopP (X := Sl × Unit) (⟨some a1, 1, 1⟩, ()) w1 fun next3 x2 w2 => ∀ _ : Env,
gd (decide ((0 : Int) < (x2.1.len : Int))) (
arith .i64 ((x2.1.len : Int) - (1 : Int)) fun n4 =>
idxK x2.1.a x2.1.len n4 2 fun p5 =>
nonNil (some p5) fun p6 =>
∃ x7 : Int, At w2 (p6.add 0) (cells (.int .i64) x7) ∧
JoinP (X := Sl × Unit) (fun R9 =>
nonNil (some p5) fun p10 =>
∃ x11 : Int, At w2 (p10.add 1) (cells (.int .i64) x11) ∧
arith .i64 (x11 - (1 : Int)) fun n12 =>
nonNil (some p5) fun p13 =>
stK w2 (p13.add 1) ([.int .i64 n12]) fun w4 =>
nonNil (some p5) fun p14 =>
∃ x15 : Int, At w4 (p14.add 1) (cells (.int .i64) x15) ∧
gd (x15 == (0 : Int)) (
arith .i64 ((x2.1.len : Int) - (1 : Int)) fun n16 =>
slK 2 x2.1.a x2.1.len x2.1.cap none (some n16) fun s17 =>
R9 (s17, ()) w4) (
R9 (x2.1, ()) w4)) (fun x8 w3 => ∀ _ : Env,
C_intern_Store_Rule v0_s x7 (fun x18 w5 =>
allocK (.cells #[.int .i64 (0 : Int), .int .u8 (0 : Int), .int .i64 (0 : Int), .int .i64 (0 : Int), .int .i64 (0 : Int)] t_api_Rule) w5 fun a19 w6 =>
stK w6 a19 (cells yapi_Rule x18.1) fun w7 =>
nilIfcK x18.2 fun b20 =>
gd (!b20) (
K x18.2 w7) (
∃ x21 : Int, At w7 (a19.add 0) (cells (.int .i64) x21) ∧
gd (x21 == (1 : Int)) (
drawK w7 fun w8 =>
nonNil v2_text fun p22 =>
∃ x23 : Sl, At w8 p22 (cells .slice x23) ∧
∃ x24 : Int, At w8 (a19.add 1) (cells (.int .u8) x24) ∧
allocK (.cells #[.int .u8 x24] t_uint8) w8 fun a25 w9 =>
At w9 p22 (cells .slice x23) ∧
appK t_uint8 1 1 #[.int .u8 (0 : Int)] x23.a x23.len x23.cap (.slice (some a25) 1 1) 1 w9 fun s26 w10 =>
nonNil v2_text fun p27 =>
stK w10 p27 ([.slice s26.a s26.len s26.cap]) fun w11 =>
next3 (x8.1, ()) w11) (
gd (x21 == (2 : Int)) (
∃ x28 : Int, At w7 (a19.add 3) (cells (.int .i64) x28) ∧
∃ x29 : Int, At w7 (a19.add 2) (cells (.int .i64) x29) ∧
allocK (.cells #[.int .i64 x28, .int .i64 (1 : Int), .int .i64 x29, .int .i64 (1 : Int)] t_access_copies) w7 fun a30 w12 =>
appK t_access_copies 2 16 #[.int .i64 (0 : Int), .int .i64 (0 : Int)] x8.1.a x8.1.len x8.1.cap (.slice (some a30) 2 2) 2 w12 fun s31 w13 =>
next3 (s31, ()) w13) (
∃ x32 : Int, At w7 (a19.add 2) (cells (.int .i64) x32) ∧
∃ x33 : Int, At w7 (a19.add 4) (cells (.int .i64) x33) ∧
allocK (.cells #[.int .i64 x32, .int .i64 x33] t_access_copies) w7 fun a34 w14 =>
appK t_access_copies 2 16 #[.int .i64 (0 : Int), .int .i64 (0 : Int)] x8.1.a x8.1.len x8.1.cap (.slice (some a34) 1 1) 1 w14 fun s35 w15 =>
next3 (s35, ()) w15)))) w3)) (
K .nilIface w2)
theorem S_access_spell (v0_s : Option Addr) (v1_id : Int) (v2_text : Option Addr) (K : Value → World → Prop) (w0 : World) (h : F_access_spell v0_s v1_id v2_text K w0) : C_access_spell v0_s v1_id v2_text K w0 := by
  have e : denFn P [(1002, [(7, .slice)]), (8, [(7, .slice)])] Tryz.f51 #[.pointer v0_s, .int .i64 v1_id, .pointer v2_text] .iface K w0 = F_access_spell v0_s v1_id v2_text K w0 := by kernel_rfl
  exact fn_sound mixed (f := 51) Tryz.func51 (by kernel_rfl) (e.mpr h)

end Go.Proofs.YtcmncfglcjcmhaaGreat
