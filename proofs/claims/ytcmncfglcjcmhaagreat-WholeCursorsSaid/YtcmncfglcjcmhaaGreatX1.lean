/- Texts that belong together, joined: Text1. No conditions. -/
import Derived.Test.YtcmncfglcjcmhaaGreatX0
/- The typed texts of the functions, printed by a program; each proved to imply the call. -/
set_option linter.unusedVariables false
set_option maxRecDepth 100000
set_option maxHeartbeats 4000000
namespace Go.Proofs.YtcmncfglcjcmhaaGreat
open Go.Den

def F_top_WholeCursors (v0_list : Sl) (v1_moves : Sl) (K : Bool → World → Prop) (w0 : World) : Prop :=
C_top_stands  (fun x1 w1 =>
gd (!x1) (
K false w1) (
C_top_begin v0_list (fun x2 w2 =>
JoinP (X := Bool × Unit) (fun R4 =>
gd (!x2.2.2.2) (
R4 (true, ()) w2) (
gd ((x2.2.1.len : Int) == (0 : Int)) (
R4 (true, ()) w2) (
R4 (decide ((40 : Int) < (v1_moves.len : Int)), ()) w2))) (fun x3 w3 => ∀ _ : Env,
gd x3.1 (
K x2.2.2.2 w3) (
drawK w3 fun w4 =>
arith .i64 ((x2.2.1.len : Int) - (1 : Int)) fun n5 =>
idxK x2.2.1.a x2.2.1.len n5 1 fun p6 =>
∃ x7 : Int, At w4 p6 (cells (.int .i64) x7) ∧
arith .i64 ((x2.2.2.1.len : Int) - (1 : Int)) fun n8 =>
idxK x2.2.2.1.a x2.2.2.1.len n8 1 fun p9 =>
∃ x10 : ByteArray, At w4 p9 (cells .str x10) ∧
C_cursor_New x2.1 x7 (fun x11 w5 =>
nilIfcK x11.2 fun b12 =>
gd (!b12) (
K false w5) (
LoopP (X := Int × Unit) ((0 : Int), ()) w5 fun next14 x13 w6 => ∀ _ : Env,
gd (decide (x13.1 < (v1_moves.len : Int))) (
idxK v1_moves.a v1_moves.len x13.1 1 fun p15 =>
∃ x16 : Int, At w6 p15 (cells (.int .i64) x16) ∧
arith .i64 ((x10.size : Int) + (1 : Int)) fun n17 =>
C_top_at x16 n17 (fun x18 w7 =>
JoinP (X := Int × Unit) (fun R20 =>
(3 : Int) ≠ 0 ∧
letZ (Int.tmod x13.1 (3 : Int)) fun n21 =>
gd (n21 == (2 : Int)) (
C_cursor_Cursor_Offset x11.1 (fun x22 w9 =>
arith .i64 ((if (x10.size : Int) < x18 then (x10.size : Int) else x18) - x22) fun n23 =>
C_cursor_Cursor_Skip x11.1 n23 (fun x24 w10 =>
R20 ((if (x10.size : Int) < x18 then (x10.size : Int) else x18), ()) w10) w9) w7) (
C_cursor_Cursor_Seek x11.1 x18 (fun x25 w11 =>
nilIfcK x25 fun b26 =>
gd (!b26) (
K false w11) (
R20 (x18, ()) w11)) w7)) (fun x19 w8 => ∀ _ : Env,
C_lines_Position x2.1 x7 x19.1 (fun x27 w12 =>
C_cursor_Cursor_Line x11.1 (fun x28 w13 =>
JoinP (X := Bool × Unit) (fun R30 =>
nilIfcK x27.2.2 fun b31 =>
gd (!b31) (
R30 (true, ()) w13) (
C_cursor_Cursor_Offset x11.1 (fun x32 w15 =>
gd (x32 != x19.1) (
R30 (true, ()) w15) (
gd (x28.1 != x27.1) (
R30 (true, ()) w15) (
gd (x28.2 != x27.2.1) (
R30 (true, ()) w15) (
C_cursor_Cursor_Left x11.1 (fun x33 w16 =>
arith .i64 ((x10.size : Int) - x19.1) fun n34 =>
R30 (x33 != n34, ()) w16) w15)))) w13)) (fun x29 w14 => ∀ _ : Env,
gd x29.1 (
K false w14) (
LoopP (X := Int × Int × Int × Unit) ((0 : Int), (0 : Int), (0 : Int), ()) w14 fun next36 x35 w17 => ∀ _ : Env,
gd (decide (x35.2.2.1 < x19.1)) (
JoinP (X := Int × Int × Unit) (fun R38 =>
0 ≤ x35.2.2.1 ∧ ∃ hx : x35.2.2.1.toNat < x10.size,
gd (((x10[x35.2.2.1.toNat]).toNat : Int) == (10 : Int)) (
arith .i64 (x35.1 + (1 : Int)) fun n39 =>
arith .i64 (x35.2.2.1 + (1 : Int)) fun n40 =>
R38 (n39, n40, ()) w17) (
R38 (x35.1, x35.2.1, ()) w17)) (fun x37 w18 => ∀ _ : Env,
arith .i64 (x35.2.2.1 + (1 : Int)) fun n41 =>
next36 (x37.1, x37.2.1, n41, ()) w18)) (
JoinP (X := Bool × Unit) (fun R43 =>
drawK w17 fun w20 =>
gd (x28.1 != x35.1) (
R43 (true, ()) w20) (
arith .i64 (x19.1 - x35.2.1) fun n44 =>
gd (x28.2 != n44) (
R43 (true, ()) w20) (
arith .i64 (x19.1 + (7 : Int)) fun n45 =>
strK x10 (some x19.1) (some (if (x10.size : Int) < n45 then (x10.size : Int) else n45)) fun s46 =>
C_cursor_Cursor_Copy x11.1 (fun x47 w21 =>
C_cursor_Cursor_Read x47 (7 : Int) (fun x48 w22 =>
runK P .str (convert t_sl_uint8 t_string (.slice x48.a x48.len x48.cap)) w22 fun x49 w23 =>
R43 (!(x49.toList == s46.toList), ()) w23) w21) w20))) (fun x42 w19 => ∀ _ : Env,
gd x42.1 (
K false w19) (
arith .i64 (x13.1 + (1 : Int)) fun n50 =>
next14 (n50, ()) w19)))))) w12) w8)) w6) (
K true w6))) w4))) w1)) w0
theorem S_top_WholeCursors (v0_list : Sl) (v1_moves : Sl) (K : Bool → World → Prop) (w0 : World) (h : F_top_WholeCursors v0_list v1_moves K w0) : C_top_WholeCursors v0_list v1_moves K w0 := by
  have e : denFn P [(5, [(43, .bool)]), (1012, [(14, .int .i64)]), (20, [(13, .int .i64)]), (23, [(135, .bool)]), (1026, [(20, .int .i64), (21, .int .i64), (22, .int .i64)]), (27, [(20, .int .i64), (21, .int .i64)]), (31, [(173, .bool)])] Tryz.f3 #[.slice v0_list.a v0_list.len v0_list.cap, .slice v1_moves.a v1_moves.len v1_moves.cap] .bool K w0 = F_top_WholeCursors v0_list v1_moves K w0 := by kernel_rfl
  exact fn_sound mixed (f := 3) Tryz.func3 (by kernel_rfl) (e.mpr h)

def F_top_WholeAccess (v0_list : Sl) (v1_from : Int) (v2_n : Int) (K : Bool → World → Prop) (w0 : World) : Prop :=
C_top_stands  (fun x1 w1 =>
gd (!x1) (
K false w1) (
C_top_begin v0_list (fun x2 w2 =>
gd (!x2.2.2.2) (
K false w2) (
LoopP (X := Int × Unit) ((0 : Int), ()) w2 fun next4 x3 w3 => ∀ _ : Env,
gd (decide (x3.1 < (x2.2.1.len : Int))) (
JoinP (X := Unit) (fun R6 =>
idxK x2.2.2.1.a x2.2.2.1.len x3.1 1 fun p7 =>
∃ x8 : ByteArray, At w3 p7 (cells .str x8) ∧
arith .i64 ((x8.size : Int) + (1 : Int)) fun n9 =>
C_top_at v1_from n9 (fun x10 w5 =>
arith .i64 ((x8.size : Int) - x10) fun n11 =>
arith .i64 (n11 + (1 : Int)) fun n12 =>
C_top_at v2_n n12 (fun x13 w6 =>
arith .i64 (x10 + x13) fun n14 =>
strK x8 (some x10) (some n14) fun s15 =>
idxK x2.2.1.a x2.2.1.len x3.1 1 fun p16 =>
∃ x17 : Int, At w6 p16 (cells (.int .i64) x17) ∧
C_access_Extract x2.1 x17 x10 x13 (fun x18 w7 =>
idxK x2.2.1.a x2.2.1.len x3.1 1 fun p19 =>
∃ x20 : Int, At w7 p19 (cells (.int .i64) x20) ∧
C_access_Weight x2.1 x20 x10 x13 (fun x21 w8 =>
allocK (.cells #[.int .i64 (0 : Int), .int .i64 (0 : Int), .int .i64 (0 : Int), .int .i64 (0 : Int), .int .u64 (0 : Int), .int .u64 (0 : Int)] t_api_Weight) w8 fun a22 w9 =>
stK w9 a22 (cells yapi_Weight x21.1) fun w10 =>
idxK x2.2.1.a x2.2.1.len x3.1 1 fun p23 =>
∃ x24 : Int, At w10 p23 (cells (.int .i64) x24) ∧
C_access_Count x2.1 x24 ((0 : Int), ((8589934592 : Int), ((0 : Int), (0 : Int)))) x10 x13 (fun x25 w11 =>
LoopP (X := Int × Int × Unit) ((0 : Int), (0 : Int), ()) w11 fun next27 x26 w12 => ∀ _ : Env,
gd (decide (x26.2.1 < (s15.size : Int))) (
JoinP (X := Int × Unit) (fun R29 =>
0 ≤ x26.2.1 ∧ ∃ hx : x26.2.1.toNat < s15.size,
gd (((s15[x26.2.1.toNat]).toNat : Int) == (97 : Int)) (
arith .i64 (x26.1 + (1 : Int)) fun n30 =>
R29 (n30, ()) w12) (
R29 (x26.1, ()) w12)) (fun x28 w13 => ∀ _ : Env,
arith .i64 (x26.2.1 + (1 : Int)) fun n31 =>
next27 (x28.1, n31, ()) w13)) (
JoinP (X := Bool × Unit) (fun R33 =>
drawK w12 fun w15 =>
nilIfcK x18.2 fun b34 =>
gd (!b34) (
R33 (true, ()) w15) (
nilIfcK x21.2 fun b35 =>
gd (!b35) (
R33 (true, ()) w15) (
nilIfcK x25.2 fun b36 =>
gd (!b36) (
R33 (true, ()) w15) (
runK P .str (convert t_sl_uint8 t_string (.slice x18.1.a x18.1.len x18.1.cap)) w15 fun x37 w16 =>
gd (!(x37.toList == s15.toList)) (
R33 (true, ()) w16) (
∃ x38 : yapi_Weight.T, At w16 a22 (cells yapi_Weight x38) ∧
runK P .slice (convert t_string t_sl_uint8 (.string s15)) w16 fun x39 w17 =>
At w17 a22 (cells yapi_Weight x38) ∧
C_weight_Of x39 (fun x40 w18 =>
At w18 a22 (cells yapi_Weight x38) ∧
testK P (do eqGuard .neq t_api_Weight (.tmp 131) (.tmp 134) (val yapi_Weight x38) (val yapi_Weight x40); binOp .neq t_api_Weight (val yapi_Weight x38) (val yapi_Weight x40)) fun b41 =>
gd b41 (
R33 (true, ()) w18) (
R33 (x25.1 != x26.1, ()) w18)) w17))))) (fun x32 w14 => ∀ _ : Env,
gd x32.1 (
K false w14) (
gd (x10 == (x8.size : Int)) (
R6 () w14) (
idxK x2.2.1.a x2.2.1.len x3.1 1 fun p42 =>
∃ x43 : Int, At w14 p42 (cells (.int .i64) x43) ∧
C_access_At x2.1 x43 x10 (fun x44 w19 =>
idxK x2.2.1.a x2.2.1.len x3.1 1 fun p45 =>
∃ x46 : Int, At w19 p45 (cells (.int .i64) x46) ∧
C_access_Path x2.1 x46 x10 (fun x47 w20 =>
idxK x2.2.1.a x2.2.1.len x3.1 1 fun p48 =>
∃ x49 : Int, At w20 p48 (cells (.int .i64) x49) ∧
C_intern_Store_Depth x2.1 x49 (fun x50 w21 =>
JoinP (X := Bool × Unit) (fun R52 =>
drawK w21 fun w23 =>
nilIfcK x44.2 fun b53 =>
gd (!b53) (
R52 (true, ()) w23) (
nilIfcK x47.2 fun b54 =>
gd (!b54) (
R52 (true, ()) w23) (
nilIfcK x50.2 fun b55 =>
gd (!b55) (
R52 (true, ()) w23) (
0 ≤ x10 ∧ ∃ hx : x10.toNat < x8.size,
gd (x44.1 != ((x8[x10.toNat]).toNat : Int)) (
R52 (true, ()) w23) (
gd ((x47.1.len : Int) == (0 : Int)) (
R52 (true, ()) w23) (
arith .i64 (x50.1 + (1 : Int)) fun n56 =>
gd (decide (n56 < (x47.1.len : Int))) (
R52 (true, ()) w23) (
idxK x47.1.a x47.1.len (0 : Int) 1 fun p57 =>
∃ x58 : Int, At w23 p57 (cells (.int .i64) x58) ∧
idxK x2.2.1.a x2.2.1.len x3.1 1 fun p59 =>
∃ x60 : Int, At w23 p59 (cells (.int .i64) x60) ∧
R52 (x58 != x60, ()) w23))))))) (fun x51 w22 => ∀ _ : Env,
gd x51.1 (
K false w22) (
arith .i64 ((x47.1.len : Int) - (1 : Int)) fun n61 =>
idxK x47.1.a x47.1.len n61 1 fun p62 =>
∃ x63 : Int, At w22 p62 (cells (.int .i64) x63) ∧
C_intern_Store_Rule x2.1 x63 (fun x64 w24 =>
allocK (.cells #[.int .i64 (0 : Int), .int .u8 (0 : Int), .int .i64 (0 : Int), .int .i64 (0 : Int), .int .i64 (0 : Int)] t_api_Rule) w24 fun a65 w25 =>
stK w25 a65 (cells yapi_Rule x64.1) fun w26 =>
JoinP (X := Bool × Unit) (fun R67 =>
drawK w26 fun w28 =>
nilIfcK x64.2 fun b68 =>
gd (!b68) (
R67 (true, ()) w28) (
∃ x69 : yapi_Rule.T, At w28 a65 (cells yapi_Rule x69) ∧
0 ≤ x10 ∧ ∃ hx : x10.toNat < x8.size,
testK P (do eqGuard .neq t_api_Rule (.tmp 228) (.tmp 232) (val yapi_Rule x69) (.agg #[.int .i64 (1 : Int), .int .u8 ((x8[x10.toNat]).toNat : Int), .int .i64 (0 : Int), .int .i64 (0 : Int), .int .i64 (0 : Int)]); binOp .neq t_api_Rule (val yapi_Rule x69) (.agg #[.int .i64 (1 : Int), .int .u8 ((x8[x10.toNat]).toNat : Int), .int .i64 (0 : Int), .int .i64 (0 : Int), .int .i64 (0 : Int)])) fun b70 =>
R67 (b70, ()) w28)) (fun x66 w27 => ∀ _ : Env,
gd x66.1 (
K false w27) (
R6 () w27))) w22))) w20) w19) w14))))) w10) w7) w6) w5) w3) (fun x5 w4 => ∀ _ : Env,
arith .i64 (x3.1 + (1 : Int)) fun n71 =>
next4 (n71, ()) w4)) (
K true w3))) w1)) w0
theorem S_top_WholeAccess (v0_list : Sl) (v1_from : Int) (v2_n : Int) (K : Bool → World → Prop) (w0 : World) (h : F_top_WholeAccess v0_list v1_from v2_n K w0) : C_top_WholeAccess v0_list v1_from v2_n K w0 := by
  have e : denFn P [(1007, [(11, .int .i64)]), (8, []), (1018, [(22, .int .i64), (23, .int .i64)]), (19, [(22, .int .i64)]), (23, [(141, .bool)]), (29, [(213, .bool)]), (32, [(234, .bool)])] Tryz.f5 #[.slice v0_list.a v0_list.len v0_list.cap, .int .i64 v1_from, .int .i64 v2_n] .bool K w0 = F_top_WholeAccess v0_list v1_from v2_n K w0 := by kernel_rfl
  exact fn_sound mixed (f := 5) Tryz.func5 (by kernel_rfl) (e.mpr h)

end Go.Proofs.YtcmncfglcjcmhaaGreat
