/- Texts that belong together, joined: Text1. No conditions. -/
import Derived.Test.YtnmgjpcooncjlaaGreatX0
/- The typed texts of the functions, printed by a program; each proved to imply the call. -/
set_option linter.unusedVariables false
set_option maxRecDepth 100000
set_option maxHeartbeats 4000000
namespace Go.Proofs.YtnmgjpcooncjlaaGreat
open Go.Den

def F_law51_CompactOf (v0_x : yevergreenlaw51_Input.T) (K : Bool → World → Prop) (w0 : World) : Prop :=
allocK (.cells (cells yevergreenlaw51_Input v0_x).toArray t_evergreenlaw51_Input) w0 fun a1 w1 =>
∃ x2 : yevergreenlaw51_Input.T, At w1 a1 (cells yevergreenlaw51_Input x2) ∧
C_law51_good x2 (fun x3 w2 =>
gd (!x3) (
K true w2) (
∃ x4 : yevergreenlaw51_Input.T, At w2 a1 (cells yevergreenlaw51_Input x4) ∧
C_law51_begun x4 (fun x5 w3 =>
gd (!x5.2) (
K false w3) (
drawK w3 fun w4 =>
nonNil x5.1 fun p6 =>
∃ x7 : Sl, At w4 (p6.add 5) (cells .slice x7) ∧
nonNil x5.1 fun p8 =>
∃ x9 : Sl, At w4 (p8.add 8) (cells .slice x9) ∧
C_ref51_Keep x7 x9 (fun x10 w5 =>
C_ref51_Numbers x10.1 (fun x11 w6 =>
drawK w6 fun w7 =>
nonNil x5.1 fun p12 =>
∃ x13 : yevergreenref12_Store.T, At w7 (p12.add 3) (cells yevergreenref12_Store x13) ∧
C_law51_world_held x5.1 x10.1 (fun x14 w8 =>
At w8 (p12.add 3) (cells yevergreenref12_Store x13) ∧
C_ref12_Sweep x13 x14 (fun x15 w9 =>
drawK w9 fun w10 =>
nonNil x5.1 fun p16 =>
∃ x17 : Option Addr, At w10 (p16.add 0) (cells .ptr x17) ∧
nonNil x5.1 fun p18 =>
∃ x19 : Option Addr, At w10 (p18.add 1) (cells .ptr x19) ∧
nonNil x5.1 fun p20 =>
∃ x21 : Option Addr, At w10 (p20.add 2) (cells .ptr x21) ∧
C_compact_Of x17 x19 x21 (1000 : Int) (fun x22 w11 =>
JoinP (X := Bool × Unit) (fun R24 =>
nilIfcK x22.2.2.2 fun b25 =>
gd (!b25) (
R24 (true, ()) w11) (
gd x22.1.isNone (
R24 (true, ()) w11) (
gd x22.2.1.isNone (
R24 (true, ()) w11) (
gd x22.2.2.1.isNone (
R24 (true, ()) w11) (
C_intern_Store_Len x22.1 (fun x26 w13 =>
R24 (x26 != (x15.1.len : Int), ()) w13) w11))))) (fun x23 w12 => ∀ _ : Env,
gd x23.1 (
K false w12) (
LoopP (X := Int × Unit) ((0 : Int), ()) w12 fun next28 x27 w14 => ∀ _ : Env,
gd (decide (x27.1 < (x15.1.len : Int))) (
idxK x15.1.a x15.1.len x27.1 5 fun p29 =>
∃ x30 : yapi_Rule.T, At w14 p29 (cells yapi_Rule x30) ∧
allocK (.cells #[.int .i64 (0 : Int), .int .u8 (0 : Int), .int .i64 (0 : Int), .int .i64 (0 : Int), .int .i64 (0 : Int)] t_api_Rule) w14 fun a31 w15 =>
stK w15 a31 (cells yapi_Rule x30) fun w16 =>
arith .i64 (x27.1 + (1 : Int)) fun n32 =>
C_intern_Store_Rule x22.1 n32 (fun x33 w17 =>
allocK (.cells #[.int .i64 (0 : Int), .int .u8 (0 : Int), .int .i64 (0 : Int), .int .i64 (0 : Int), .int .i64 (0 : Int)] t_api_Rule) w17 fun a34 w18 =>
stK w18 a34 (cells yapi_Rule x33.1) fun w19 =>
JoinP (X := Bool × Unit) (fun R36 =>
nilIfcK x33.2 fun b37 =>
gd (!b37) (
R36 (true, ()) w19) (
∃ x38 : yapi_Rule.T, At w19 a34 (cells yapi_Rule x38) ∧
∃ x39 : yapi_Rule.T, At w19 a31 (cells yapi_Rule x39) ∧
testK P (do eqGuard .neq t_api_Rule (.tmp 126) (.tmp 127) (val yapi_Rule x38) (val yapi_Rule x39); binOp .neq t_api_Rule (val yapi_Rule x38) (val yapi_Rule x39)) fun b40 =>
R36 (b40, ()) w19)) (fun x35 w20 => ∀ _ : Env,
gd x35.1 (
K false w20) (
arith .i64 (x27.1 + (1 : Int)) fun n41 =>
next28 (n41, ()) w20))) w16) (
LoopP (X := Int × Int × Unit) ((0 : Int), (0 : Int), ()) w14 fun next43 x42 w21 => ∀ _ : Env,
gd (decide (x42.2.1 < (x10.1.len : Int))) (
JoinP (X := Int × Unit) (fun R45 =>
idxK x10.1.a x10.1.len x42.2.1 1 fun p46 =>
∃ x47 : Bool, At w21 p46 (cells .bool x47) ∧
gd (!x47) (
R45 (x42.1, ()) w21) (
arith .i64 (x42.1 + (1 : Int)) fun n48 =>
idxK x11.a x11.len x42.2.1 1 fun p49 =>
∃ x50 : Int, At w21 p49 (cells (.int .i64) x50) ∧
C_history_Graph_Get x22.2.1 x50 (fun x51 w23 =>
allocK (.cells #[.slice none 0 0, .int .i64 (0 : Int), .string (⟨#[]⟩ : ByteArray)] t_api_Commit) w23 fun a52 w24 =>
stK w24 a52 (cells yapi_Commit x51.1) fun w25 =>
nonNil x5.1 fun p53 =>
∃ x54 : Sl, At w25 (p53.add 5) (cells .slice x54) ∧
idxK x54.a x54.len x42.2.1 1 fun p55 =>
∃ x56 : Sl, At w25 p55 (cells .slice x56) ∧
LoopP (X := Sl × Int × Unit) (⟨none, 0, 0⟩, (0 : Int), ()) w25 fun next58 x57 w26 => ∀ _ : Env,
gd (decide (x57.2.1 < (x56.len : Int))) (
idxK x56.a x56.len x57.2.1 1 fun p59 =>
∃ x60 : Int, At w26 p59 (cells (.int .i64) x60) ∧
idxK x11.a x11.len x60 1 fun p61 =>
∃ x62 : Int, At w26 p61 (cells (.int .i64) x62) ∧
allocK (.cells #[.int .i64 x62] t_int) w26 fun a63 w27 =>
appK t_int 1 8 #[.int .i64 (0 : Int)] x57.1.a x57.1.len x57.1.cap (.slice (some a63) 1 1) 1 w27 fun s64 w28 =>
arith .i64 (x57.2.1 + (1 : Int)) fun n65 =>
next58 (s64, n65, ()) w28) (
JoinP (X := Bool × Unit) (fun R67 =>
drawK w26 fun w30 =>
nilIfcK x51.2 fun b68 =>
gd (!b68) (
R67 (true, ()) w30) (
∃ x69 : Int, At w30 (a52.add 1) (cells (.int .i64) x69) ∧
nonNil x5.1 fun p70 =>
∃ x71 : Sl, At w30 (p70.add 6) (cells .slice x71) ∧
idxK x71.a x71.len x42.2.1 1 fun p72 =>
∃ x73 : Int, At w30 p72 (cells (.int .i64) x73) ∧
idxK x15.2.a x15.2.len x73 1 fun p74 =>
∃ x75 : Int, At w30 p74 (cells (.int .i64) x75) ∧
gd (x69 != x75) (
R67 (true, ()) w30) (
∃ x76 : ByteArray, At w30 (a52.add 2) (cells .str x76) ∧
C_law51_name x42.2.1 (fun x77 w31 =>
At w31 (a52.add 2) (cells .str x76) ∧
gd (!(x76.toList == x77.toList)) (
R67 (true, ()) w31) (
∃ x78 : Sl, At w31 (a52.add 0) (cells .slice x78) ∧
C_base_Ints x78 x57.1 (fun x79 w32 =>
R67 (!x79, ()) w32) w31)) w30))) (fun x66 w29 => ∀ _ : Env,
gd x66.1 (
K false w29) (
R45 (n48, ()) w29)))) w21)) (fun x44 w22 => ∀ _ : Env,
arith .i64 (x42.2.1 + (1 : Int)) fun n80 =>
next43 (x44.1, n80, ()) w22)) (
C_refs_Table_Names x22.2.2.1 (fun x81 w33 =>
JoinP (X := Bool × Unit) (fun R83 =>
C_history_Graph_Len x22.2.1 (fun x84 w35 =>
gd (x84 != x42.1) (
R83 (true, ()) w35) (
nonNil x5.1 fun p85 =>
∃ x86 : Sl, At w35 (p85.add 7) (cells .slice x86) ∧
R83 ((x81.len : Int) != (x86.len : Int), ()) w35)) w33) (fun x82 w34 => ∀ _ : Env,
gd x82.1 (
K false w34) (
nonNil x5.1 fun p87 =>
∃ x88 : Sl, At w34 (p87.add 7) (cells .slice x88) ∧
LoopP (X := Int × Unit) ((0 : Int), ()) w34 fun next90 x89 w36 => ∀ _ : Env,
gd (decide (x89.1 < (x88.len : Int))) (
idxK x88.a x88.len x89.1 1 fun p91 =>
∃ x92 : ByteArray, At w36 p91 (cells .str x92) ∧
C_refs_Table_Get x22.2.2.1 x92 (fun x93 w37 =>
nonNil x5.1 fun p94 =>
∃ x95 : Option Addr, At w37 (p94.add 2) (cells .ptr x95) ∧
C_refs_Table_Get x95 x92 (fun x96 w38 =>
JoinP (X := Bool × Unit) (fun R98 =>
idxK x81.a x81.len x89.1 1 fun p99 =>
∃ x100 : ByteArray, At w38 p99 (cells .str x100) ∧
gd (!(x100.toList == x92.toList)) (
R98 (true, ()) w38) (
nilIfcK x93.2.2 fun b101 =>
gd (!b101) (
R98 (true, ()) w38) (
nilIfcK x96.2.2 fun b102 =>
gd (!b102) (
R98 (true, ()) w38) (
nonNil x5.1 fun p103 =>
∃ x104 : Sl, At w38 (p103.add 8) (cells .slice x104) ∧
idxK x104.a x104.len x89.1 1 fun p105 =>
∃ x106 : Int, At w38 p105 (cells (.int .i64) x106) ∧
idxK x11.a x11.len x106 1 fun p107 =>
∃ x108 : Int, At w38 p107 (cells (.int .i64) x108) ∧
gd (x93.1 != x108) (
R98 (true, ()) w38) (
R98 (!(x93.2.1 == x96.2.1), ()) w38))))) (fun x97 w39 => ∀ _ : Env,
gd x97.1 (
K false w39) (
arith .i64 (x89.1 + (1 : Int)) fun n109 =>
next90 (n109, ()) w39))) w37) w36) (
drawK w36 fun w40 =>
nonNil x5.1 fun p110 =>
∃ x111 : Option Addr, At w40 (p110.add 1) (cells .ptr x111) ∧
nonNil x5.1 fun p112 =>
∃ x113 : Sl, At w40 (p112.add 5) (cells .slice x113) ∧
C_history_Graph_Len x111 (fun x114 w41 =>
At w41 (p112.add 5) (cells .slice x113) ∧
gd (x114 == (x113.len : Int)) (
nonNil x5.1 fun p115 =>
∃ x116 : Option Addr, At w41 (p115.add 0) (cells .ptr x116) ∧
nonNil x5.1 fun p117 =>
∃ x118 : Sl, At w41 ((p117.add 3).add 0) (cells .slice x118) ∧
C_intern_Store_Len x116 (fun x119 w42 =>
At w42 ((p117.add 3).add 0) (cells .slice x118) ∧
K (x119 == (x118.len : Int)) w42) w41) (
K false w41)) w40)))) w21))))) w10) w8) w7) w5) w4)) w2)) w1
theorem S_law51_CompactOf (v0_x : yevergreenlaw51_Input.T) (K : Bool → World → Prop) (w0 : World) (h : F_law51_CompactOf v0_x K w0) : C_law51_CompactOf v0_x K w0 := by
  have e : denFn P [(11, [(108, .bool)]), (1013, [(111, .int .i64)]), (17, [(129, .bool)]), (1021, [(18, .int .i64), (133, .int .i64)]), (34, [(18, .int .i64)]), (1028, [(23, .slice), (159, .int .i64)]), (33, [(201, .bool)]), (37, [(218, .bool)]), (1039, [(224, .int .i64)]), (44, [(278, .bool)])] Tryz.f3 #[val yevergreenlaw51_Input v0_x] .bool K w0 = F_law51_CompactOf v0_x K w0 := by kernel_rfl
  exact fn_sound mixed (f := 3) Tryz.func3 (by kernel_rfl) (e.mpr h)

def F_law51_CompactFull (v0_x : yevergreenlaw51_Input.T) (v1_most : Int) (K : Bool → World → Prop) (w0 : World) : Prop :=
allocK (.cells (cells yevergreenlaw51_Input v0_x).toArray t_evergreenlaw51_Input) w0 fun a1 w1 =>
∃ x2 : yevergreenlaw51_Input.T, At w1 a1 (cells yevergreenlaw51_Input x2) ∧
C_law51_good x2 (fun x3 w2 =>
gd (!x3) (
K true w2) (
∃ x4 : yevergreenlaw51_Input.T, At w2 a1 (cells yevergreenlaw51_Input x4) ∧
C_law51_begun x4 (fun x5 w3 =>
gd (!x5.2) (
K false w3) (
JoinP (X := Addr × Value × Unit) (fun R7 =>
drawK w3 fun w5 =>
nonNil x5.1 fun p8 =>
∃ x9 : Option Addr, At w5 (p8.add 0) (cells .ptr x9) ∧
nonNil x5.1 fun p10 =>
∃ x11 : Option Addr, At w5 (p10.add 1) (cells .ptr x11) ∧
nonNil x5.1 fun p12 =>
∃ x13 : Option Addr, At w5 (p12.add 2) (cells .ptr x13) ∧
(C_compact_Saved x9 x11 x13 (fun x14 w6 =>
allocK (.cells #[.int .i64 (0 : Int), .int .i64 (0 : Int), .int .i64 (0 : Int), .int .i64 (0 : Int)] t_compact_Report) w6 fun a15 w7 =>
stK w7 a15 (cells ycompact_Report x14.1) fun w8 =>
R7 (a15, x14.2, ()) w8) w5) ∧
(allocK (.cells #[.int .i64 (0 : Int), .int .i64 (0 : Int), .int .i64 (0 : Int), .int .i64 (0 : Int)] t_compact_Report) w5 fun a16 w9 =>
At w9 (p12.add 2) (cells .ptr x13) ∧
At w9 (p10.add 1) (cells .ptr x11) ∧
At w9 (p8.add 0) (cells .ptr x9) ∧
C_compact_Saved x9 x11 x13 (fun x17 w10 =>
stK w10 a16 (cells ycompact_Report x17.1) fun w11 =>
R7 (a16, x17.2, ()) w11) w9)) (fun x6 w4 => ∀ _ : Env,
drawK w4 fun w12 =>
nonNil x5.1 fun p18 =>
∃ x19 : Option Addr, At w12 (p18.add 0) (cells .ptr x19) ∧
nonNil x5.1 fun p20 =>
∃ x21 : Option Addr, At w12 (p20.add 1) (cells .ptr x21) ∧
nonNil x5.1 fun p22 =>
∃ x23 : Option Addr, At w12 (p22.add 2) (cells .ptr x23) ∧
C_compact_Of x19 x21 x23 v1_most (fun x24 w13 =>
nilIfcK x6.2.1 fun b25 =>
gd (!b25) (
K false w13) (
∃ x26 : Int, At w13 (x6.1.add 3) (cells (.int .i64) x26) ∧
gd (decide ((if v1_most < (0 : Int) then (0 : Int) else v1_most) < x26)) (
gd x24.1.isNone (
gd x24.2.1.isNone (
gd x24.2.2.1.isNone (
C_base_Is x24.2.2.2 (3 : Int) (fun x27 w14 =>
K x27 w14) w13) (
K false w13)) (
K false w13)) (
K false w13)) (
drawK w13 fun w15 =>
nilIfcK x24.2.2.2 fun b28 =>
gd b28 (
gd (!x24.1.isNone) (
∃ x29 : Int, At w15 (x6.1.add 3) (cells (.int .i64) x29) ∧
arith .i64 ((if (if (1048576 : Int) < v1_most then (1048576 : Int) else v1_most) < (0 : Int) then (0 : Int) else (if (1048576 : Int) < v1_most then (1048576 : Int) else v1_most)) - x29) fun n30 =>
C_intern_Store_Room x24.1 (fun x31 w16 =>
At w16 (x6.1.add 3) (cells (.int .i64) x29) ∧
K (x31 == n30) w16) w15) (
K false w15)) (
K false w15)))) w12))) w2)) w1
theorem S_law51_CompactFull (v0_x : yevergreenlaw51_Input.T) (v1_most : Int) (K : Bool → World → Prop) (w0 : World) (h : F_law51_CompactFull v0_x v1_most K w0) : C_law51_CompactFull v0_x v1_most K w0 := by
  have e : denFn P [(7, [(7, .addr), (8, .iface)])] Tryz.f4 #[val yevergreenlaw51_Input v0_x, .int .i64 v1_most] .bool K w0 = F_law51_CompactFull v0_x v1_most K w0 := by kernel_rfl
  exact fn_sound mixed (f := 4) Tryz.func4 (by kernel_rfl) (e.mpr h)

def F_law51_CompactErrors (v0_x : yevergreenlaw51_Input.T) (v1_bad : Int) (K : Bool → World → Prop) (w0 : World) : Prop :=
allocK (.cells (cells yevergreenlaw51_Input v0_x).toArray t_evergreenlaw51_Input) w0 fun a1 w1 =>
∃ x2 : yevergreenlaw51_Input.T, At w1 a1 (cells yevergreenlaw51_Input x2) ∧
C_law51_good x2 (fun x3 w2 =>
gd (!x3) (
K true w2) (
∃ x4 : yevergreenlaw51_Input.T, At w2 a1 (cells yevergreenlaw51_Input x4) ∧
C_law51_begun x4 (fun x5 w3 =>
gd (!x5.2) (
K false w3) (
drawK w3 fun w4 =>
nonNil x5.1 fun p6 =>
∃ x7 : Option Addr, At w4 (p6.add 1) (cells .ptr x7) ∧
nonNil x5.1 fun p8 =>
∃ x9 : Option Addr, At w4 (p8.add 0) (cells .ptr x9) ∧
C_intern_Store_Len x9 (fun x10 w5 =>
At w5 (p6.add 1) (cells .ptr x7) ∧
arith .i64 (x10 + (1 : Int)) fun n11 =>
C_history_Graph_Add x7 (⟨none, 0, 0⟩, (n11, (⟨#[]⟩ : ByteArray))) (fun x12 w6 =>
nilIfcK x12.2 fun b13 =>
gd (!b13) (
K false w6) (
JoinP (X := Value × Unit) (fun R15 =>
drawK w6 fun w8 =>
nonNil x5.1 fun p16 =>
∃ x17 : Option Addr, At w8 (p16.add 0) (cells .ptr x17) ∧
nonNil x5.1 fun p18 =>
∃ x19 : Option Addr, At w8 (p18.add 1) (cells .ptr x19) ∧
nonNil x5.1 fun p20 =>
∃ x21 : Option Addr, At w8 (p20.add 2) (cells .ptr x21) ∧
(C_compact_Saved x17 x19 x21 (fun x22 w9 =>
allocK (.cells #[.int .i64 (0 : Int), .int .i64 (0 : Int), .int .i64 (0 : Int), .int .i64 (0 : Int)] t_compact_Report) w9 fun a23 w10 =>
stK w10 a23 (cells ycompact_Report x22.1) fun w11 =>
R15 (x22.2, ()) w11) w8) ∧
(allocK (.cells #[.int .i64 (0 : Int), .int .i64 (0 : Int), .int .i64 (0 : Int), .int .i64 (0 : Int)] t_compact_Report) w8 fun a24 w12 =>
At w12 (p20.add 2) (cells .ptr x21) ∧
At w12 (p18.add 1) (cells .ptr x19) ∧
At w12 (p16.add 0) (cells .ptr x17) ∧
C_compact_Saved x17 x19 x21 (fun x25 w13 =>
stK w13 a24 (cells ycompact_Report x25.1) fun w14 =>
R15 (x25.2, ()) w14) w12)) (fun x14 w7 => ∀ _ : Env,
nilIfcK x14.1 fun b26 =>
gd (!b26) (
K false w7) (
JoinP (X := Int × Unit) (fun R28 =>
gd (decide ((0 : Int) < v1_bad)) (
(1000 : Int) ≠ 0 ∧
letZ (Int.tmod v1_bad (1000 : Int)) fun n29 =>
arith .i64 (x12.1 + n29) fun n30 =>
arith .i64 (n30 + (1 : Int)) fun n31 =>
R28 (n31, ()) w7) (
R28 (x12.1, ()) w7)) (fun x27 w15 => ∀ _ : Env,
nonNil x5.1 fun p32 =>
∃ x33 : Option Addr, At w15 (p32.add 2) (cells .ptr x33) ∧
C_refs_Table_Branch x33 (⟨#[98, 97, 100]⟩ : ByteArray) (-1 : Int) x27.1 (fun x34 w16 =>
nilIfcK x34 fun b35 =>
gd (!b35) (
K false w16) (
drawK w16 fun w17 =>
nonNil x5.1 fun p36 =>
∃ x37 : Option Addr, At w17 (p36.add 1) (cells .ptr x37) ∧
nonNil x5.1 fun p38 =>
∃ x39 : Option Addr, At w17 (p38.add 2) (cells .ptr x39) ∧
C_compact_Keep x37 x39 (fun x40 w18 =>
drawK w18 fun w19 =>
nonNil x5.1 fun p41 =>
∃ x42 : Option Addr, At w19 (p41.add 0) (cells .ptr x42) ∧
nonNil x5.1 fun p43 =>
∃ x44 : Option Addr, At w19 (p43.add 1) (cells .ptr x44) ∧
nonNil x5.1 fun p45 =>
∃ x46 : Option Addr, At w19 (p45.add 2) (cells .ptr x46) ∧
C_compact_Of x42 x44 x46 (1000 : Int) (fun x47 w20 =>
JoinP (X := Addr × Value × Unit) (fun R49 =>
drawK w20 fun w22 =>
nonNil x5.1 fun p50 =>
∃ x51 : Option Addr, At w22 (p50.add 0) (cells .ptr x51) ∧
nonNil x5.1 fun p52 =>
∃ x53 : Option Addr, At w22 (p52.add 1) (cells .ptr x53) ∧
nonNil x5.1 fun p54 =>
∃ x55 : Option Addr, At w22 (p54.add 2) (cells .ptr x55) ∧
(C_compact_Saved x51 x53 x55 (fun x56 w23 =>
allocK (.cells #[.int .i64 (0 : Int), .int .i64 (0 : Int), .int .i64 (0 : Int), .int .i64 (0 : Int)] t_compact_Report) w23 fun a57 w24 =>
stK w24 a57 (cells ycompact_Report x56.1) fun w25 =>
R49 (a57, x56.2, ()) w25) w22) ∧
(allocK (.cells #[.int .i64 (0 : Int), .int .i64 (0 : Int), .int .i64 (0 : Int), .int .i64 (0 : Int)] t_compact_Report) w22 fun a58 w26 =>
At w26 (p54.add 2) (cells .ptr x55) ∧
At w26 (p52.add 1) (cells .ptr x53) ∧
At w26 (p50.add 0) (cells .ptr x51) ∧
C_compact_Saved x51 x53 x55 (fun x59 w27 =>
stK w27 a58 (cells ycompact_Report x59.1) fun w28 =>
R49 (a58, x59.2, ()) w28) w26)) (fun x48 w21 => ∀ _ : Env,
JoinP (X := Bool × Unit) (fun R61 =>
gd (!x47.1.isNone) (
R61 (true, ()) w21) (
gd (!x47.2.1.isNone) (
R61 (true, ()) w21) (
gd (!x47.2.2.1.isNone) (
R61 (true, ()) w21) (
∃ x62 : ycompact_Report.T, At w21 x48.1 (cells ycompact_Report x62) ∧
testK P (do eqGuard .neq t_compact_Report (.tmp 136) (.tmp 137) (val ycompact_Report x62) (.agg #[.int .i64 (0 : Int), .int .i64 (0 : Int), .int .i64 (0 : Int), .int .i64 (0 : Int)]); binOp .neq t_compact_Report (val ycompact_Report x62) (.agg #[.int .i64 (0 : Int), .int .i64 (0 : Int), .int .i64 (0 : Int), .int .i64 (0 : Int)])) fun b63 =>
gd b63 (
R61 (true, ()) w21) (
C_base_Is x47.2.2.2 (1 : Int) (fun x64 w30 =>
gd (!x64) (
R61 (true, ()) w30) (
C_base_Is x48.2.1 (1 : Int) (fun x65 w31 =>
R61 (!x65, ()) w31) w30)) w21))))) (fun x60 w29 => ∀ _ : Env,
gd x60.1 (
K false w29) (
gd (decide (x12.1 < x27.1)) (
gd ((x40.1.len : Int) == (0 : Int)) (
C_base_Is x40.2 (1 : Int) (fun x66 w32 =>
K x66 w32) w29) (
K false w29)) (
nilIfcK x40.2 fun b67 =>
gd b67 (
gd (decide ((0 : Int) < (x40.1.len : Int))) (
arith .i64 ((x40.1.len : Int) - (1 : Int)) fun n68 =>
idxK x40.1.a x40.1.len n68 1 fun p69 =>
∃ x70 : Int, At w29 p69 (cells (.int .i64) x70) ∧
K (x70 == x12.1) w29) (
K false w29)) (
K false w29)))))) w19) w17)) w15))))) w5) w4)) w2)) w1
theorem S_law51_CompactErrors (v0_x : yevergreenlaw51_Input.T) (v1_bad : Int) (K : Bool → World → Prop) (w0 : World) (h : F_law51_CompactErrors v0_x v1_bad K w0) : C_law51_CompactErrors v0_x v1_bad K w0 := by
  have e : denFn P [(10, [(10, .iface)]), (15, [(11, .int .i64)]), (20, [(17, .addr), (18, .iface)]), (21, [(149, .bool)])] Tryz.f5 #[val yevergreenlaw51_Input v0_x, .int .i64 v1_bad] .bool K w0 = F_law51_CompactErrors v0_x v1_bad K w0 := by kernel_rfl
  exact fn_sound mixed (f := 5) Tryz.func5 (by kernel_rfl) (e.mpr h)

end Go.Proofs.YtnmgjpcooncjlaaGreat
