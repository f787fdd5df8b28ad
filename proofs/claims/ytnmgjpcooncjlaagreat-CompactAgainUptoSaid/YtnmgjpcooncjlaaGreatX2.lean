/- Texts that belong together, joined: Text2. No conditions. -/
import Derived.Test.YtnmgjpcooncjlaaGreatX0
/- The typed texts of the functions, printed by a program; each proved to imply the call. -/
set_option linter.unusedVariables false
set_option maxRecDepth 100000
set_option maxHeartbeats 4000000
namespace Go.Proofs.YtnmgjpcooncjlaaGreat
open Go.Den

def F_law51_CompactNone (v0_most : Int) (K : Bool → World → Prop) (w0 : World) : Prop :=
C_law51_begun (⟨none, 0, 0⟩, (⟨none, 0, 0⟩, ⟨none, 0, 0⟩)) (fun x1 w1 =>
gd (!x1.2) (
K false w1) (
nonNil x1.1 fun p2 =>
∃ x3 : Option Addr, At w1 (p2.add 2) (cells .ptr x3) ∧
C_compact_Keep none x3 (fun x4 w2 =>
nonNil x1.1 fun p5 =>
∃ x6 : Option Addr, At w2 (p5.add 1) (cells .ptr x6) ∧
C_compact_Keep x6 none (fun x7 w3 =>
JoinP (X := Value × Unit) (fun R9 =>
drawK w3 fun w5 =>
nonNil x1.1 fun p10 =>
∃ x11 : Option Addr, At w5 (p10.add 1) (cells .ptr x11) ∧
nonNil x1.1 fun p12 =>
∃ x13 : Option Addr, At w5 (p12.add 2) (cells .ptr x13) ∧
(C_compact_Saved none x11 x13 (fun x14 w6 =>
allocK (.cells #[.int .i64 (0 : Int), .int .i64 (0 : Int), .int .i64 (0 : Int), .int .i64 (0 : Int)] t_compact_Report) w6 fun a15 w7 =>
stK w7 a15 (cells ycompact_Report x14.1) fun w8 =>
R9 (x14.2, ()) w8) w5) ∧
(allocK (.cells #[.int .i64 (0 : Int), .int .i64 (0 : Int), .int .i64 (0 : Int), .int .i64 (0 : Int)] t_compact_Report) w5 fun a16 w9 =>
At w9 (p12.add 2) (cells .ptr x13) ∧
At w9 (p10.add 1) (cells .ptr x11) ∧
C_compact_Saved none x11 x13 (fun x17 w10 =>
stK w10 a16 (cells ycompact_Report x17.1) fun w11 =>
R9 (x17.2, ()) w11) w9)) (fun x8 w4 => ∀ _ : Env,
JoinP (X := Value × Unit) (fun R19 =>
drawK w4 fun w13 =>
nonNil x1.1 fun p20 =>
∃ x21 : Option Addr, At w13 (p20.add 0) (cells .ptr x21) ∧
nonNil x1.1 fun p22 =>
∃ x23 : Option Addr, At w13 (p22.add 2) (cells .ptr x23) ∧
(C_compact_Saved x21 none x23 (fun x24 w14 =>
allocK (.cells #[.int .i64 (0 : Int), .int .i64 (0 : Int), .int .i64 (0 : Int), .int .i64 (0 : Int)] t_compact_Report) w14 fun a25 w15 =>
stK w15 a25 (cells ycompact_Report x24.1) fun w16 =>
R19 (x24.2, ()) w16) w13) ∧
(allocK (.cells #[.int .i64 (0 : Int), .int .i64 (0 : Int), .int .i64 (0 : Int), .int .i64 (0 : Int)] t_compact_Report) w13 fun a26 w17 =>
At w17 (p22.add 2) (cells .ptr x23) ∧
At w17 (p20.add 0) (cells .ptr x21) ∧
C_compact_Saved x21 none x23 (fun x27 w18 =>
stK w18 a26 (cells ycompact_Report x27.1) fun w19 =>
R19 (x27.2, ()) w19) w17)) (fun x18 w12 => ∀ _ : Env,
JoinP (X := Value × Unit) (fun R29 =>
drawK w12 fun w21 =>
nonNil x1.1 fun p30 =>
∃ x31 : Option Addr, At w21 (p30.add 0) (cells .ptr x31) ∧
nonNil x1.1 fun p32 =>
∃ x33 : Option Addr, At w21 (p32.add 1) (cells .ptr x33) ∧
(C_compact_Saved x31 x33 none (fun x34 w22 =>
allocK (.cells #[.int .i64 (0 : Int), .int .i64 (0 : Int), .int .i64 (0 : Int), .int .i64 (0 : Int)] t_compact_Report) w22 fun a35 w23 =>
stK w23 a35 (cells ycompact_Report x34.1) fun w24 =>
R29 (x34.2, ()) w24) w21) ∧
(allocK (.cells #[.int .i64 (0 : Int), .int .i64 (0 : Int), .int .i64 (0 : Int), .int .i64 (0 : Int)] t_compact_Report) w21 fun a36 w25 =>
At w25 (p32.add 1) (cells .ptr x33) ∧
At w25 (p30.add 0) (cells .ptr x31) ∧
C_compact_Saved x31 x33 none (fun x37 w26 =>
stK w26 a36 (cells ycompact_Report x37.1) fun w27 =>
R29 (x37.2, ()) w27) w25)) (fun x28 w20 => ∀ _ : Env,
drawK w20 fun w28 =>
nonNil x1.1 fun p38 =>
∃ x39 : Option Addr, At w28 (p38.add 1) (cells .ptr x39) ∧
nonNil x1.1 fun p40 =>
∃ x41 : Option Addr, At w28 (p40.add 2) (cells .ptr x41) ∧
C_compact_Of none x39 x41 v0_most (fun x42 w29 =>
drawK w29 fun w30 =>
nonNil x1.1 fun p43 =>
∃ x44 : Option Addr, At w30 (p43.add 0) (cells .ptr x44) ∧
nonNil x1.1 fun p45 =>
∃ x46 : Option Addr, At w30 (p45.add 2) (cells .ptr x46) ∧
C_compact_Of x44 none x46 v0_most (fun x47 w31 =>
drawK w31 fun w32 =>
nonNil x1.1 fun p48 =>
∃ x49 : Option Addr, At w32 (p48.add 0) (cells .ptr x49) ∧
nonNil x1.1 fun p50 =>
∃ x51 : Option Addr, At w32 (p50.add 1) (cells .ptr x51) ∧
C_compact_Of x49 x51 none v0_most (fun x52 w33 =>
∃ cs54 : Array Value, Instr.fill (fun i => some (i * 1, 1)) (zrow #[.nilIface] 8) [(0, x4.2), (1, x7.2), (2, x8.1), (3, x18.1), (4, x28.1), (5, x42.2.2.2), (6, x47.2.2.2), (7, x52.2.2.2)] = some cs54 ∧
allocK (.cells cs54 t_error) w33 fun a53 w34 =>
LoopP (X := Int × Unit) ((0 : Int), ()) w34 fun next56 x55 w35 => ∀ _ : Env,
gd (decide (x55.1 < (8 : Int))) (
idxK (some a53) 8 x55.1 1 fun p57 =>
∃ x58 : Value, At w35 p57 (cells .iface x58) ∧
C_base_Is x58 (5 : Int) (fun x59 w36 =>
gd (!x59) (
K false w36) (
arith .i64 (x55.1 + (1 : Int)) fun n60 =>
next56 (n60, ()) w36)) w35) (
K true w35)) w32) w30) w28)))) w2) w1)) w0
theorem S_law51_CompactNone (v0_most : Int) (K : Bool → World → Prop) (w0 : World) (h : F_law51_CompactNone v0_most K w0) : C_law51_CompactNone v0_most K w0 := by
  have e : denFn P [(7, [(10, .iface)]), (8, [(12, .iface)]), (9, [(14, .iface)]), (1013, [(143, .int .i64)])] Tryz.f6 #[.int .i64 v0_most] .bool K w0 = F_law51_CompactNone v0_most K w0 := by kernel_rfl
  exact fn_sound mixed (f := 6) Tryz.func6 (by kernel_rfl) (e.mpr h)

def F_law51_CompactAgain (v0_x : yevergreenlaw51_Input.T) (K : Bool → World → Prop) (w0 : World) : Prop :=
allocK (.cells (cells yevergreenlaw51_Input v0_x).toArray t_evergreenlaw51_Input) w0 fun a1 w1 =>
∃ x2 : yevergreenlaw51_Input.T, At w1 a1 (cells yevergreenlaw51_Input x2) ∧
C_law51_good x2 (fun x3 w2 =>
gd (!x3) (
K true w2) (
∃ x4 : yevergreenlaw51_Input.T, At w2 a1 (cells yevergreenlaw51_Input x4) ∧
C_law51_begun x4 (fun x5 w3 =>
gd (!x5.2) (
K false w3) (
JoinP (X := Addr × Value × Unit) (fun R7 =>
drawK w3 fun w5 =>
nonNil x5.1 fun p8 =>
∃ x9 : Option Addr, At w5 (p8.add 0) (cells .ptr x9) ∧
nonNil x5.1 fun p10 =>
∃ x11 : Option Addr, At w5 (p10.add 1) (cells .ptr x11) ∧
nonNil x5.1 fun p12 =>
∃ x13 : Option Addr, At w5 (p12.add 2) (cells .ptr x13) ∧
(C_compact_Saved x9 x11 x13 (fun x14 w6 =>
allocK (.cells #[.int .i64 (0 : Int), .int .i64 (0 : Int), .int .i64 (0 : Int), .int .i64 (0 : Int)] t_compact_Report) w6 fun a15 w7 =>
stK w7 a15 (cells ycompact_Report x14.1) fun w8 =>
R7 (a15, x14.2, ()) w8) w5) ∧
(allocK (.cells #[.int .i64 (0 : Int), .int .i64 (0 : Int), .int .i64 (0 : Int), .int .i64 (0 : Int)] t_compact_Report) w5 fun a16 w9 =>
At w9 (p12.add 2) (cells .ptr x13) ∧
At w9 (p10.add 1) (cells .ptr x11) ∧
At w9 (p8.add 0) (cells .ptr x9) ∧
C_compact_Saved x9 x11 x13 (fun x17 w10 =>
stK w10 a16 (cells ycompact_Report x17.1) fun w11 =>
R7 (a16, x17.2, ()) w11) w9)) (fun x6 w4 => ∀ _ : Env,
drawK w4 fun w12 =>
nonNil x5.1 fun p18 =>
∃ x19 : Option Addr, At w12 (p18.add 0) (cells .ptr x19) ∧
nonNil x5.1 fun p20 =>
∃ x21 : Option Addr, At w12 (p20.add 1) (cells .ptr x21) ∧
nonNil x5.1 fun p22 =>
∃ x23 : Option Addr, At w12 (p22.add 2) (cells .ptr x23) ∧
C_compact_Of x19 x21 x23 (1000 : Int) (fun x24 w13 =>
JoinP (X := Bool × Unit) (fun R26 =>
nilIfcK x6.2.1 fun b27 =>
gd (!b27) (
R26 (true, ()) w13) (
nilIfcK x24.2.2.2 fun b28 =>
gd (!b28) (
R26 (true, ()) w13) (
R26 (x24.1.isNone, ()) w13))) (fun x25 w14 => ∀ _ : Env,
gd x25.1 (
K false w14) (
C_compact_Saved x24.1 x24.2.1 x24.2.2.1 (fun x29 w15 =>
allocK (.cells #[.int .i64 (0 : Int), .int .i64 (0 : Int), .int .i64 (0 : Int), .int .i64 (0 : Int)] t_compact_Report) w15 fun a30 w16 =>
stK w16 a30 (cells ycompact_Report x29.1) fun w17 =>
JoinP (X := Bool × Unit) (fun R32 =>
drawK w17 fun w19 =>
nilIfcK x29.2 fun b33 =>
gd (!b33) (
R32 (true, ()) w19) (
∃ x34 : Int, At w19 (x6.1.add 2) (cells (.int .i64) x34) ∧
C_history_Graph_Len x24.2.1 (fun x35 w20 =>
At w20 (x6.1.add 2) (cells (.int .i64) x34) ∧
gd (x34 != x35) (
R32 (true, ()) w20) (
∃ x36 : Int, At w20 (x6.1.add 3) (cells (.int .i64) x36) ∧
C_intern_Store_Len x24.1 (fun x37 w21 =>
At w21 (x6.1.add 3) (cells (.int .i64) x36) ∧
gd (x36 != x37) (
R32 (true, ()) w21) (
∃ x38 : Int, At w21 (x6.1.add 0) (cells (.int .i64) x38) ∧
nonNil x5.1 fun p39 =>
∃ x40 : Option Addr, At w21 (p39.add 1) (cells .ptr x40) ∧
C_history_Graph_Len x40 (fun x41 w22 =>
At w22 (x6.1.add 0) (cells (.int .i64) x38) ∧
gd (x38 != x41) (
R32 (true, ()) w22) (
∃ x42 : Int, At w22 (x6.1.add 1) (cells (.int .i64) x42) ∧
nonNil x5.1 fun p43 =>
∃ x44 : Option Addr, At w22 (p43.add 0) (cells .ptr x44) ∧
C_intern_Store_Len x44 (fun x45 w23 =>
At w23 (x6.1.add 1) (cells (.int .i64) x42) ∧
R32 (x42 != x45, ()) w23) w22)) w21)) w20)) w19)) (fun x31 w18 => ∀ _ : Env,
gd x31.1 (
K false w18) (
C_compact_Of x24.1 x24.2.1 x24.2.2.1 (1000 : Int) (fun x46 w24 =>
JoinP (X := Bool × Unit) (fun R48 =>
drawK w24 fun w26 =>
nilIfcK x46.2.2.2 fun b49 =>
gd (!b49) (
R48 (true, ()) w26) (
∃ x50 : ycompact_Report.T, At w26 a30 (cells ycompact_Report x50) ∧
C_history_Graph_Len x24.2.1 (fun x51 w27 =>
At w27 a30 (cells ycompact_Report x50) ∧
C_intern_Store_Len x24.1 (fun x52 w28 =>
At w28 a30 (cells ycompact_Report x50) ∧
C_history_Graph_Len x24.2.1 (fun x53 w29 =>
At w29 a30 (cells ycompact_Report x50) ∧
C_intern_Store_Len x24.1 (fun x54 w30 =>
At w30 a30 (cells ycompact_Report x50) ∧
testK P (do eqGuard .neq t_compact_Report (.tmp 129) (.tmp 138) (val ycompact_Report x50) (.agg #[.int .i64 x51, .int .i64 x52, .int .i64 x53, .int .i64 x54]); binOp .neq t_compact_Report (val ycompact_Report x50) (.agg #[.int .i64 x51, .int .i64 x52, .int .i64 x53, .int .i64 x54])) fun b55 =>
gd b55 (
R48 (true, ()) w30) (
C_intern_Store_Len x46.1 (fun x56 w31 =>
C_intern_Store_Len x24.1 (fun x57 w32 =>
gd (x56 != x57) (
R48 (true, ()) w32) (
C_history_Graph_Put x46.2.1 (fun x58 w33 =>
C_history_Graph_Put x24.2.1 (fun x59 w34 =>
C_base_Bytes x58 x59 (fun x60 w35 =>
gd (!x60) (
R48 (true, ()) w35) (
C_refs_Table_Put x46.2.2.1 (fun x61 w36 =>
C_refs_Table_Put x24.2.2.1 (fun x62 w37 =>
C_base_Bytes x61 x62 (fun x63 w38 =>
R48 (!x63, ()) w38) w37) w36) w35)) w34) w33) w32)) w31) w30)) w29) w28) w27) w26)) (fun x47 w25 => ∀ _ : Env,
gd x47.1 (
K false w25) (
LoopP (X := Int × Unit) ((1 : Int), ()) w25 fun next65 x64 w39 => ∀ _ : Env,
C_intern_Store_Len x24.1 (fun x66 w40 =>
gd (decide (x64.1 ≤ x66)) (
C_intern_Store_Rule x24.1 x64.1 (fun x67 w41 =>
allocK (.cells #[.int .i64 (0 : Int), .int .u8 (0 : Int), .int .i64 (0 : Int), .int .i64 (0 : Int), .int .i64 (0 : Int)] t_api_Rule) w41 fun a68 w42 =>
stK w42 a68 (cells yapi_Rule x67.1) fun w43 =>
C_intern_Store_Rule x46.1 x64.1 (fun x69 w44 =>
allocK (.cells #[.int .i64 (0 : Int), .int .u8 (0 : Int), .int .i64 (0 : Int), .int .i64 (0 : Int), .int .i64 (0 : Int)] t_api_Rule) w44 fun a70 w45 =>
stK w45 a70 (cells yapi_Rule x69.1) fun w46 =>
JoinP (X := Bool × Unit) (fun R72 =>
nilIfcK x67.2 fun b73 =>
gd (!b73) (
R72 (true, ()) w46) (
nilIfcK x69.2 fun b74 =>
gd (!b74) (
R72 (true, ()) w46) (
∃ x75 : yapi_Rule.T, At w46 a68 (cells yapi_Rule x75) ∧
∃ x76 : yapi_Rule.T, At w46 a70 (cells yapi_Rule x76) ∧
testK P (do eqGuard .neq t_api_Rule (.tmp 189) (.tmp 190) (val yapi_Rule x75) (val yapi_Rule x76); binOp .neq t_api_Rule (val yapi_Rule x75) (val yapi_Rule x76)) fun b77 =>
R72 (b77, ()) w46))) (fun x71 w47 => ∀ _ : Env,
gd x71.1 (
K false w47) (
arith .i64 (x64.1 + (1 : Int)) fun n78 =>
next65 (n78, ()) w47))) w43) w40) (
K true w40)) w39))) w18))) w14))) w12))) w2)) w1
theorem S_law51_CompactAgain (v0_x : yevergreenlaw51_Input.T) (K : Bool → World → Prop) (w0 : World) (h : F_law51_CompactAgain v0_x K w0) : C_law51_CompactAgain v0_x K w0 := by
  have e : denFn P [(7, [(5, .addr), (6, .iface)]), (9, [(73, .bool)]), (12, [(116, .bool)]), (15, [(163, .bool)]), (1017, [(15, .int .i64)]), (22, [(192, .bool)])] Tryz.f7 #[val yevergreenlaw51_Input v0_x] .bool K w0 = F_law51_CompactAgain v0_x K w0 := by kernel_rfl
  exact fn_sound mixed (f := 7) Tryz.func7 (by kernel_rfl) (e.mpr h)

def F_law51_CompactTexts (v0_x : yevergreenlaw51_Input.T) (K : Bool → World → Prop) (w0 : World) : Prop :=
allocK (.cells (cells yevergreenlaw51_Input v0_x).toArray t_evergreenlaw51_Input) w0 fun a1 w1 =>
∃ x2 : yevergreenlaw51_Input.T, At w1 a1 (cells yevergreenlaw51_Input x2) ∧
C_law51_good x2 (fun x3 w2 =>
gd (!x3) (
K true w2) (
∃ x4 : yevergreenlaw51_Input.T, At w2 a1 (cells yevergreenlaw51_Input x4) ∧
C_law51_begun x4 (fun x5 w3 =>
gd (!x5.2) (
K false w3) (
drawK w3 fun w4 =>
nonNil x5.1 fun p6 =>
∃ x7 : Option Addr, At w4 (p6.add 1) (cells .ptr x7) ∧
nonNil x5.1 fun p8 =>
∃ x9 : Option Addr, At w4 (p8.add 2) (cells .ptr x9) ∧
C_compact_Keep x7 x9 (fun x10 w5 =>
drawK w5 fun w6 =>
nonNil x5.1 fun p11 =>
∃ x12 : Option Addr, At w6 (p11.add 0) (cells .ptr x12) ∧
nonNil x5.1 fun p13 =>
∃ x14 : Option Addr, At w6 (p13.add 1) (cells .ptr x14) ∧
nonNil x5.1 fun p15 =>
∃ x16 : Option Addr, At w6 (p15.add 2) (cells .ptr x16) ∧
C_compact_Of x12 x14 x16 (1000 : Int) (fun x17 w7 =>
JoinP (X := Bool × Unit) (fun R19 =>
nilIfcK x10.2 fun b20 =>
gd (!b20) (
R19 (true, ()) w7) (
nilIfcK x17.2.2.2 fun b21 =>
gd (!b21) (
R19 (true, ()) w7) (
gd x17.1.isNone (
R19 (true, ()) w7) (
gd x17.2.1.isNone (
R19 (true, ()) w7) (
C_history_Graph_Len x17.2.1 (fun x22 w9 =>
R19 (x22 != (x10.1.len : Int), ()) w9) w7))))) (fun x18 w8 => ∀ _ : Env,
gd x18.1 (
K false w8) (
LoopP (X := Int × Unit) ((0 : Int), ()) w8 fun next24 x23 w10 => ∀ _ : Env,
gd (decide (x23.1 < (x10.1.len : Int))) (
idxK x10.1.a x10.1.len x23.1 1 fun p25 =>
∃ x26 : Int, At w10 p25 (cells (.int .i64) x26) ∧
nonNil x5.1 fun p27 =>
∃ x28 : Option Addr, At w10 (p27.add 1) (cells .ptr x28) ∧
C_history_Graph_Get x28 x26 (fun x29 w11 =>
allocK (.cells #[.slice none 0 0, .int .i64 (0 : Int), .string (⟨#[]⟩ : ByteArray)] t_api_Commit) w11 fun a30 w12 =>
stK w12 a30 (cells yapi_Commit x29.1) fun w13 =>
C_history_Graph_Get x17.2.1 x23.1 (fun x31 w14 =>
allocK (.cells #[.slice none 0 0, .int .i64 (0 : Int), .string (⟨#[]⟩ : ByteArray)] t_api_Commit) w14 fun a32 w15 =>
stK w15 a32 (cells yapi_Commit x31.1) fun w16 =>
JoinP (X := Bool × Unit) (fun R34 =>
drawK w16 fun w18 =>
nilIfcK x29.2 fun b35 =>
gd (!b35) (
R34 (true, ()) w18) (
nilIfcK x31.2 fun b36 =>
gd (!b36) (
R34 (true, ()) w18) (
nonNil x5.1 fun p37 =>
∃ x38 : Option Addr, At w18 (p37.add 0) (cells .ptr x38) ∧
∃ x39 : Int, At w18 (a30.add 1) (cells (.int .i64) x39) ∧
∃ x40 : Int, At w18 (a32.add 1) (cells (.int .i64) x40) ∧
C_law51_alike x38 x39 x17.1 x40 (fun x41 w19 =>
R34 (!x41, ()) w19) w18))) (fun x33 w17 => ∀ _ : Env,
gd x33.1 (
K false w17) (
LoopP (X := Int × Unit) ((0 : Int), ()) w17 fun next43 x42 w20 => ∀ _ : Env,
gd (decide (x42.1 < (x10.1.len : Int))) (
idxK x10.1.a x10.1.len x42.1 1 fun p44 =>
∃ x45 : Int, At w20 p44 (cells (.int .i64) x45) ∧
nonNil x5.1 fun p46 =>
∃ x47 : Option Addr, At w20 (p46.add 1) (cells .ptr x47) ∧
C_history_Graph_Before x47 x26 x45 (fun x48 w21 =>
C_history_Graph_Before x17.2.1 x23.1 x42.1 (fun x49 w22 =>
JoinP (X := Bool × Unit) (fun R51 =>
nilIfcK x48.2 fun b52 =>
gd (!b52) (
R51 (true, ()) w22) (
nilIfcK x49.2 fun b53 =>
gd (!b53) (
R51 (true, ()) w22) (
R51 (!(x48.1 == x49.1), ()) w22))) (fun x50 w23 => ∀ _ : Env,
gd x50.1 (
K false w23) (
arith .i64 (x42.1 + (1 : Int)) fun n54 =>
next43 (n54, ()) w23))) w21) w20) (
arith .i64 (x23.1 + (1 : Int)) fun n55 =>
next24 (n55, ()) w20)))) w13) w10) (
K true w10)))) w6) w4)) w2)) w1
theorem S_law51_CompactTexts (v0_x : yevergreenlaw51_Input.T) (K : Bool → World → Prop) (w0 : World) (h : F_law51_CompactTexts v0_x K w0) : C_law51_CompactTexts v0_x K w0 := by
  have e : denFn P [(9, [(83, .bool)]), (1011, [(86, .int .i64)]), (16, [(124, .bool)]), (1018, [(127, .int .i64)]), (23, [(159, .bool)])] Tryz.f8 #[val yevergreenlaw51_Input v0_x] .bool K w0 = F_law51_CompactTexts v0_x K w0 := by kernel_rfl
  exact fn_sound mixed (f := 8) Tryz.func8 (by kernel_rfl) (e.mpr h)

end Go.Proofs.YtnmgjpcooncjlaaGreat
