/- Texts that belong together, joined: Text1. No conditions. -/
import Derived.Test.YtcmncfglcjcmhaaGreatX0
/- The typed texts of the functions, printed by a program; each proved to imply the call. -/
set_option linter.unusedVariables false
set_option maxRecDepth 100000
set_option maxHeartbeats 4000000
namespace Go.Proofs.YtcmncfglcjcmhaaGreat
open Go.Den

def F_top_WholeCursors (v0_list : Sl) (v1_moves : Sl) (K : Bool → World → Prop) (w0 : World) : Prop :=
C_top_stands  (fun x1 w1 =>
gd (!x1) (
K false w1) (
C_top_begin v0_list (fun x2 w2 =>
JoinP (X := Bool × Unit) (fun R4 =>
gd (!x2.2.2.2) (
R4 (true, ()) w2) (
gd ((x2.2.1.len : Int) == (0 : Int)) (
R4 (true, ()) w2) (
R4 (decide ((40 : Int) < (v1_moves.len : Int)), ()) w2))) (fun x3 w3 => ∀ _ : Env,
gd x3.1 (
K x2.2.2.2 w3) (
drawK w3 fun w4 =>
arith .i64 ((x2.2.1.len : Int) - (1 : Int)) fun n5 =>
idxK x2.2.1.a x2.2.1.len n5 1 fun p6 =>
∃ x7 : Int, At w4 p6 (cells (.int .i64) x7) ∧
arith .i64 ((x2.2.2.1.len : Int) - (1 : Int)) fun n8 =>
idxK x2.2.2.1.a x2.2.2.1.len n8 1 fun p9 =>
∃ x10 : ByteArray, At w4 p9 (cells .str x10) ∧
C_cursor_New x2.1 x7 (fun x11 w5 =>
nilIfcK x11.2 fun b12 =>
gd (!b12) (
K false w5) (
LoopP (X := Int × Unit) ((0 : Int), ()) w5 fun next14 x13 w6 => ∀ _ : Env,
gd (decide (x13.1 < (v1_moves.len : Int))) (
idxK v1_moves.a v1_moves.len x13.1 1 fun p15 =>
∃ x16 : Int, At w6 p15 (cells (.int .i64) x16) ∧
arith .i64 ((x10.size : Int) + (1 : Int)) fun n17 =>
C_top_at x16 n17 (fun x18 w7 =>
JoinP (X := Int × Unit) (fun R20 =>
(3 : Int) ≠ 0 ∧
letZ (Int.tmod x13.1 (3 : Int)) fun n21 =>
gd (n21 == (2 : Int)) (
C_cursor_Cursor_Offset x11.1 (fun x22 w9 =>
arith .i64 ((if (x10.size : Int) < x18 then (x10.size : Int) else x18) - x22) fun n23 =>
C_cursor_Cursor_Skip x11.1 n23 (fun x24 w10 =>
R20 ((if (x10.size : Int) < x18 then (x10.size : Int) else x18), ()) w10) w9) w7) (
C_cursor_Cursor_Seek x11.1 x18 (fun x25 w11 =>
nilIfcK x25 fun b26 =>
gd (!b26) (
K false w11) (
R20 (x18, ()) w11)) w7)) (fun x19 w8 => ∀ _ : Env,
C_lines_Position x2.1 x7 x19.1 (fun x27 w12 =>
C_cursor_Cursor_Line x11.1 (fun x28 w13 =>
JoinP (X := Bool × Unit) (fun R30 =>
nilIfcK x27.2.2 fun b31 =>
gd (!b31) (
R30 (true, ()) w13) (
C_cursor_Cursor_Offset x11.1 (fun x32 w15 =>
gd (x32 != x19.1) (
R30 (true, ()) w15) (
gd (x28.1 != x27.1) (
R30 (true, ()) w15) (
gd (x28.2 != x27.2.1) (
R30 (true, ()) w15) (
C_cursor_Cursor_Left x11.1 (fun x33 w16 =>
arith .i64 ((x10.size : Int) - x19.1) fun n34 =>
R30 (x33 != n34, ()) w16) w15)))) w13)) (fun x29 w14 => ∀ _ : Env,
gd x29.1 (
K false w14) (
LoopP (X := Int × Int × Int × Unit) ((0 : Int), (0 : Int), (0 : Int), ()) w14 fun next36 x35 w17 => ∀ _ : Env,
gd (decide (x35.2.2.1 < x19.1)) (
JoinP (X := Int × Int × Unit) (fun R38 =>
0 ≤ x35.2.2.1 ∧ ∃ hx : x35.2.2.1.toNat < x10.size,
gd (((x10[x35.2.2.1.toNat]).toNat : Int) == (10 : Int)) (
arith .i64 (x35.1 + (1 : Int)) fun n39 =>
arith .i64 (x35.2.2.1 + (1 : Int)) fun n40 =>
R38 (n39, n40, ()) w17) (
R38 (x35.1, x35.2.1, ()) w17)) (fun x37 w18 => ∀ _ : Env,
arith .i64 (x35.2.2.1 + (1 : Int)) fun n41 =>
next36 (x37.1, x37.2.1, n41, ()) w18)) (
JoinP (X := Bool × Unit) (fun R43 =>
drawK w17 fun w20 =>
gd (x28.1 != x35.1) (
R43 (true, ()) w20) (
arith .i64 (x19.1 - x35.2.1) fun n44 =>
gd (x28.2 != n44) (
R43 (true, ()) w20) (
arith .i64 (x19.1 + (7 : Int)) fun n45 =>
strK x10 (some x19.1) (some (if (x10.size : Int) < n45 then (x10.size : Int) else n45)) fun s46 =>
C_cursor_Cursor_Copy x11.1 (fun x47 w21 =>
C_cursor_Cursor_Read x47 (7 : Int) (fun x48 w22 =>
runK P .str (convert t_sl_uint8 t_string (.slice x48.a x48.len x48.cap)) w22 fun x49 w23 =>
R43 (!(x49.toList == s46.toList), ()) w23) w21) w20))) (fun x42 w19 => ∀ _ : Env,
gd x42.1 (
K false w19) (
arith .i64 (x13.1 + (1 : Int)) fun n50 =>
next14 (n50, ()) w19)))))) w12) w8)) w6) (
K true w6))) w4))) w1)) w0
theorem S_top_WholeCursors (v0_list : Sl) (v1_moves : Sl) (K : Bool → World → Prop) (w0 : World) (h : F_top_WholeCursors v0_list v1_moves K w0) : C_top_WholeCursors v0_list v1_moves K w0 := by
  have e : denFn P [(5, [(43, .bool)]), (1012, [(14, .int .i64)]), (20, [(13, .int .i64)]), (23, [(135, .bool)]), (1026, [(20, .int .i64), (21, .int .i64), (22, .int .i64)]), (27, [(20, .int .i64), (21, .int .i64)]), (31, [(173, .bool)])] Tryz.f3 #[.slice v0_list.a v0_list.len v0_list.cap, .slice v1_moves.a v1_moves.len v1_moves.cap] .bool K w0 = F_top_WholeCursors v0_list v1_moves K w0 := by kernel_rfl
  exact fn_sound mixed (f := 3) Tryz.func3 (by kernel_rfl) (e.mpr h)

def F_top_WholeWalks (v0_list : Sl) (v1_from : Int) (v2_n : Int) (K : Bool → World → Prop) (w0 : World) : Prop :=
allocK (.cells #[.bool false] t_bool) w0 fun a1 w1 =>
C_top_stands  (fun x2 w2 =>
gd (!x2) (
stK w2 a1 ([.bool false]) fun w3 =>
∃ x3 : Bool, At w3 a1 (cells .bool x3) ∧
K x3 w3) (
C_top_begin v0_list (fun x4 w4 =>
allocK (.cells #[.pointer none] t_pt_intern_Store) w4 fun a5 w5 =>
stK w5 a5 ([.pointer x4.1]) fun w6 =>
JoinP (X := Bool × Unit) (fun R7 =>
gd (!x4.2.2.2) (
R7 (true, ()) w6) (
R7 ((x4.2.1.len : Int) == (0 : Int), ()) w6)) (fun x6 w7 => ∀ _ : Env,
gd x6.1 (
stK w7 a1 ([.bool x4.2.2.2]) fun w8 =>
∃ x8 : Bool, At w8 a1 (cells .bool x8) ∧
K x8 w8) (
drawK w7 fun w9 =>
arith .i64 ((x4.2.1.len : Int) - (1 : Int)) fun n9 =>
idxK x4.2.1.a x4.2.1.len n9 1 fun p10 =>
∃ x11 : Int, At w9 p10 (cells (.int .i64) x11) ∧
arith .i64 ((x4.2.2.1.len : Int) - (1 : Int)) fun n12 =>
idxK x4.2.2.1.a x4.2.2.1.len n12 1 fun p13 =>
∃ x14 : ByteArray, At w9 p13 (cells .str x14) ∧
allocK (.cells #[.string (⟨#[]⟩ : ByteArray)] t_string) w9 fun a15 w10 =>
At w10 p13 (cells .str x14) ∧
At w10 p10 (cells (.int .i64) x11) ∧
stK w10 a15 ([.string x14]) fun w11 =>
∃ x16 : ByteArray, At w11 a15 (cells .str x16) ∧
arith .i64 ((x16.size : Int) + (1 : Int)) fun n17 =>
C_top_at v1_from n17 (fun x18 w12 =>
allocK (.cells #[.int .i64 (0 : Int)] t_int) w12 fun a19 w13 =>
stK w13 a19 ([.int .i64 x18]) fun w14 =>
∃ x20 : Option Addr, At w14 a5 (cells .ptr x20) ∧
C_walk_Letters x20 x11 x18 (fun x21 w15 =>
RangeP P x21 w15 (Int × Int × Unit) (fun x22 => [.int .i64 x22.1, .int .u8 x22.2.1]) (fun l23 r24 x22 w16 K25 =>
busyK l23 r24 w16 fun w18 =>
JoinP (X := Bool × Unit) (fun R28 =>
∃ x29 : Int, At w18 a19 (cells (.int .i64) x29) ∧
gd (x22.1 != x29) (
R28 (true, ()) w18) (
∃ x30 : Int, At w18 a19 (cells (.int .i64) x30) ∧
∃ x31 : ByteArray, At w18 a15 (cells .str x31) ∧
gd (decide ((x31.size : Int) ≤ x30)) (
R28 (true, ()) w18) (
∃ x32 : ByteArray, At w18 a15 (cells .str x32) ∧
∃ x33 : Int, At w18 a19 (cells (.int .i64) x33) ∧
0 ≤ x33 ∧ ∃ hx : x33.toNat < x32.size,
R28 (x22.2.1 != ((x32[x33.toNat]).toNat : Int), ()) w18))) (fun x27 w19 => ∀ _ : Env,
gd x27.1 (
stK w19 a1 ([.bool false]) fun w20 =>
endK l23 r24 (some .ret) w20 K25) (
∃ x34 : Int, At w19 a19 (cells (.int .i64) x34) ∧
arith .i64 (x34 + (1 : Int)) fun n35 =>
stK w19 a19 ([.int .i64 n35]) fun w21 =>
endK l23 r24 none w21 K25))) (fun j26 w17 => jumpK j26 (
∃ x36 : Int, At w17 a19 (cells (.int .i64) x36) ∧
∃ x37 : ByteArray, At w17 a15 (cells .str x37) ∧
gd (x36 != (x37.size : Int)) (
stK w17 a1 ([.bool false]) fun w22 =>
shutL [w15.heap.size] w22 fun w23 =>
∃ x38 : Bool, At w23 a1 (cells .bool x38) ∧
K x38 w23) (
stK w17 a19 ([.int .i64 x18]) fun w24 =>
∃ x39 : Option Addr, At w24 a5 (cells .ptr x39) ∧
C_walk_Back x39 x11 x18 (fun x40 w25 =>
RangeP P x40 w25 (Int × Int × Unit) (fun x41 => [.int .i64 x41.1, .int .u8 x41.2.1]) (fun l42 r43 x41 w26 K44 =>
busyK l42 r43 w26 fun w28 =>
∃ x46 : Int, At w28 a19 (cells (.int .i64) x46) ∧
arith .i64 (x46 - (1 : Int)) fun n47 =>
stK w28 a19 ([.int .i64 n47]) fun w29 =>
JoinP (X := Bool × Unit) (fun R49 =>
∃ x50 : Int, At w29 a19 (cells (.int .i64) x50) ∧
gd (x41.1 != x50) (
R49 (true, ()) w29) (
∃ x51 : Int, At w29 a19 (cells (.int .i64) x51) ∧
gd (decide (x51 < (0 : Int))) (
R49 (true, ()) w29) (
∃ x52 : ByteArray, At w29 a15 (cells .str x52) ∧
∃ x53 : Int, At w29 a19 (cells (.int .i64) x53) ∧
0 ≤ x53 ∧ ∃ hx : x53.toNat < x52.size,
R49 (x41.2.1 != ((x52[x53.toNat]).toNat : Int), ()) w29))) (fun x48 w30 => ∀ _ : Env,
gd x48.1 (
stK w30 a1 ([.bool false]) fun w31 =>
endK l42 r43 (some .ret) w31 K44) (
endK l42 r43 none w30 K44))) (fun j45 w27 => jumpK j45 (
∃ x54 : Int, At w27 a19 (cells (.int .i64) x54) ∧
gd (x54 != (0 : Int)) (
stK w27 a1 ([.bool false]) fun w32 =>
shutL [w25.heap.size, w15.heap.size] w32 fun w33 =>
∃ x55 : Bool, At w33 a1 (cells .bool x55) ∧
K x55 w33) (
∃ x56 : ByteArray, At w27 a15 (cells .str x56) ∧
arith .i64 ((x56.size : Int) - x18) fun n57 =>
arith .i64 (n57 + (1 : Int)) fun n58 =>
C_top_at v2_n n58 (fun x59 w34 =>
arith .i64 (x18 + x59) fun n60 =>
allocK (.cells #[.int .i64 (0 : Int)] t_int) w34 fun a61 w35 =>
stK w35 a61 ([.int .i64 n60]) fun w36 =>
stK w36 a19 ([.int .i64 x18]) fun w37 =>
∃ x62 : Option Addr, At w37 a5 (cells .ptr x62) ∧
∃ x63 : Int, At w37 a61 (cells (.int .i64) x63) ∧
arith .i64 (x63 - x18) fun n64 =>
C_walk_Pieces x62 x11 x18 n64 (fun x65 w38 =>
RangeP P x65 w38 (Int × Int × Unit) (fun x66 => [.int .i64 x66.1, .int .i64 x66.2.1]) (fun l67 r68 x66 w39 K69 =>
busyK l67 r68 w39 fun w41 =>
∃ x71 : Option Addr, At w41 a5 (cells .ptr x71) ∧
C_intern_Store_Weight x71 x66.2.1 (fun x72 w42 =>
allocK (.cells #[.int .i64 (0 : Int), .int .i64 (0 : Int), .int .i64 (0 : Int), .int .i64 (0 : Int), .int .u64 (0 : Int), .int .u64 (0 : Int)] t_api_Weight) w42 fun a73 w43 =>
stK w43 a73 (cells yapi_Weight x72.1) fun w44 =>
JoinP (X := Bool × Unit) (fun R75 =>
nilIfcK x72.2 fun b76 =>
gd (!b76) (
R75 (true, ()) w44) (
∃ x77 : Int, At w44 a19 (cells (.int .i64) x77) ∧
gd (x66.1 != x77) (
R75 (true, ()) w44) (
∃ x78 : Int, At w44 (a73.add 0) (cells (.int .i64) x78) ∧
gd (decide (x78 < (1 : Int))) (
R75 (true, ()) w44) (
∃ x79 : Int, At w44 (a73.add 0) (cells (.int .i64) x79) ∧
∃ x80 : Int, At w44 a61 (cells (.int .i64) x80) ∧
∃ x81 : Int, At w44 a19 (cells (.int .i64) x81) ∧
arith .i64 (x80 - x81) fun n82 =>
R75 (decide (n82 < x79), ()) w44)))) (fun x74 w45 => ∀ _ : Env,
gd x74.1 (
stK w45 a1 ([.bool false]) fun w46 =>
endK l67 r68 (some .ret) w46 K69) (
∃ x83 : Option Addr, At w45 a5 (cells .ptr x83) ∧
∃ x84 : Int, At w45 (a73.add 0) (cells (.int .i64) x84) ∧
C_access_Extract x83 x66.2.1 (0 : Int) x84 (fun x85 w47 =>
JoinP (X := Bool × Unit) (fun R87 =>
drawK w47 fun w49 =>
nilIfcK x85.2 fun b88 =>
gd (!b88) (
R87 (true, ()) w49) (
∃ x89 : ByteArray, At w49 a15 (cells .str x89) ∧
∃ x90 : Int, At w49 a19 (cells (.int .i64) x90) ∧
∃ x91 : Int, At w49 a19 (cells (.int .i64) x91) ∧
∃ x92 : Int, At w49 (a73.add 0) (cells (.int .i64) x92) ∧
arith .i64 (x91 + x92) fun n93 =>
strK x89 (some x90) (some n93) fun s94 =>
runK P .str (convert t_sl_uint8 t_string (.slice x85.1.a x85.1.len x85.1.cap)) w49 fun x95 w50 =>
At w50 (a73.add 0) (cells (.int .i64) x92) ∧
At w50 a19 (cells (.int .i64) x91) ∧
At w50 a19 (cells (.int .i64) x90) ∧
At w50 a15 (cells .str x89) ∧
R87 (!(x95.toList == s94.toList), ()) w50)) (fun x86 w48 => ∀ _ : Env,
gd x86.1 (
stK w48 a1 ([.bool false]) fun w51 =>
endK l67 r68 (some .ret) w51 K69) (
∃ x96 : Int, At w48 a19 (cells (.int .i64) x96) ∧
∃ x97 : Int, At w48 (a73.add 0) (cells (.int .i64) x97) ∧
arith .i64 (x96 + x97) fun n98 =>
stK w48 a19 ([.int .i64 n98]) fun w52 =>
endK l67 r68 none w52 K69))) w45))) w41) (fun j70 w40 => jumpK j70 (
∃ x99 : Int, At w40 a19 (cells (.int .i64) x99) ∧
∃ x100 : Int, At w40 a61 (cells (.int .i64) x100) ∧
stK w40 a1 ([.bool (x99 == x100)]) fun w53 =>
shutL [w38.heap.size, w25.heap.size, w15.heap.size] w53 fun w54 =>
∃ x101 : Bool, At w54 a1 (cells .bool x101) ∧
K x101 w54) (
shutL [w38.heap.size, w25.heap.size, w15.heap.size] w40 fun w55 =>
∃ x102 : Bool, At w55 a1 (cells .bool x102) ∧
K x102 w55))) w37) w27)) (
shutL [w25.heap.size, w15.heap.size] w27 fun w56 =>
∃ x103 : Bool, At w56 a1 (cells .bool x103) ∧
K x103 w56))) w24)) (
shutL [w15.heap.size] w17 fun w57 =>
∃ x104 : Bool, At w57 a1 (cells .bool x104) ∧
K x104 w57))) w14) w11))) w2)) w1
theorem S_top_WholeWalks (v0_list : Sl) (v1_from : Int) (v2_n : Int) (K : Bool → World → Prop) (w0 : World) (h : F_top_WholeWalks v0_list v1_from v2_n K w0) : C_top_WholeWalks v0_list v1_from v2_n K w0 := by
  have e : denFn P [(5, [(41, .bool)]), (5010, [(65, .int .i64), (66, .int .u8)]), (13, [(82, .bool)]), (5019, [(94, .int .i64), (95, .int .u8)]), (23, [(111, .bool)]), (5029, [(131, .int .i64), (132, .int .i64)]), (33, [(158, .bool)]), (36, [(180, .bool)])] Tryz.f4 #[.slice v0_list.a v0_list.len v0_list.cap, .int .i64 v1_from, .int .i64 v2_n] .bool K w0 = F_top_WholeWalks v0_list v1_from v2_n K w0 := by kernel_rfl
  exact fn_sound mixed (f := 4) Tryz.func4 (by kernel_rfl) (e.mpr h)

end Go.Proofs.YtcmncfglcjcmhaaGreat
