/- Texts that belong together, joined: Text3. No conditions. -/
import Derived.Test.YtnmgjpcooncjlaaGreatX0
/- The typed texts of the functions, printed by a program; each proved to imply the call. -/
set_option linter.unusedVariables false
set_option maxRecDepth 100000
set_option maxHeartbeats 4000000
namespace Go.Proofs.YtnmgjpcooncjlaaGreat
open Go.Den

def F_law51_good (v0_x : yevergreenlaw51_Input.T) (K : Bool → World → Prop) (w0 : World) : Prop :=
allocK (.cells (cells yevergreenlaw51_Input v0_x).toArray t_evergreenlaw51_Input) w0 fun a1 w1 =>
∃ x2 : Sl, At w1 (a1.add 0) (cells .slice x2) ∧
∃ x3 : Sl, At w1 (a1.add 1) (cells .slice x3) ∧
arith .i64 ((x2.len : Int) + (x3.len : Int)) fun n4 =>
∃ x5 : Sl, At w1 (a1.add 2) (cells .slice x5) ∧
arith .i64 (n4 + (x5.len : Int)) fun n6 =>
∃ x7 : Sl, At w1 (a1.add 1) (cells .slice x7) ∧
LoopP (X := Int × Int × Unit) (n6, (0 : Int), ()) w1 fun next9 x8 w2 => ∀ _ : Env,
gd (decide (x8.2.1 < (x7.len : Int))) (
idxK x7.a x7.len x8.2.1 2 fun p10 =>
∃ x11 : yevergreenlaw51_Commit.T, At w2 p10 (cells yevergreenlaw51_Commit x11) ∧
allocK (.cells #[.slice none 0 0, .int .i64 (0 : Int)] t_evergreenlaw51_Commit) w2 fun a12 w3 =>
stK w3 a12 (cells yevergreenlaw51_Commit x11) fun w4 =>
∃ x13 : Sl, At w4 (a12.add 0) (cells .slice x13) ∧
arith .i64 (x8.1 + (x13.len : Int)) fun n14 =>
arith .i64 (x8.2.1 + (1 : Int)) fun n15 =>
next9 (n14, n15, ()) w4) (
K (decide (x8.1 ≤ (90 : Int))) w2)
theorem S_law51_good (v0_x : yevergreenlaw51_Input.T) (K : Bool → World → Prop) (w0 : World) (h : F_law51_good v0_x K w0) : C_law51_good v0_x K w0 := by
  have e : denFn P [(1003, [(3, .int .i64), (20, .int .i64)])] Tryz.f9 #[val yevergreenlaw51_Input v0_x] .bool K w0 = F_law51_good v0_x K w0 := by kernel_rfl
  exact fn_sound mixed (f := 9) Tryz.func9 (by kernel_rfl) (e.mpr h)

def F_law51_begun (v0_x : yevergreenlaw51_Input.T) (K : ((Option Addr) × Bool) → World → Prop) (w0 : World) : Prop :=
allocK (.cells (cells yevergreenlaw51_Input v0_x).toArray t_evergreenlaw51_Input) w0 fun a1 w1 =>
C_intern_New (1000 : Int) (fun x2 w2 =>
C_history_New  (fun x3 w3 =>
C_refs_New  (fun x4 w4 =>
allocK (.cells ([.pointer x2, .pointer x3, .pointer x4, .slice none 0 0, .slice none 0 0, .slice none 0 0, .slice none 0 0, .slice none 0 0, .slice none 0 0]).toArray t_evergreenlaw51_world) w4 fun a5 w5 =>
drawK w5 fun w6 =>
nonNil (some a5) fun p6 =>
∃ x7 : Option Addr, At w6 (p6.add 0) (cells .ptr x7) ∧
∃ x8 : Sl, At w6 (a1.add 0) (cells .slice x8) ∧
C_law12_Build x7 x8 (fun x9 w7 =>
JoinP (X := Bool × Unit) (fun R11 =>
gd (!x9.2) (
R11 (true, ()) w7) (
nonNil (some a5) fun p12 =>
∃ x13 : Option Addr, At w7 (p12.add 1) (cells .ptr x13) ∧
gd x13.isNone (
R11 (true, ()) w7) (
nonNil (some a5) fun p14 =>
∃ x15 : Option Addr, At w7 (p14.add 2) (cells .ptr x15) ∧
R11 (x15.isNone, ()) w7))) (fun x10 w8 => ∀ _ : Env,
gd x10.1 (
K (none, false) w8) (
∃ x16 : Sl, At w8 (a1.add 0) (cells .slice x16) ∧
C_ref12_Build x16 (fun x17 w9 =>
nonNil (some a5) fun p18 =>
stK w9 (p18.add 3) (cells yevergreenref12_Store x17.1) fun w10 =>
∃ x19 : Sl, At w10 (a1.add 1) (cells .slice x19) ∧
LoopP (X := Int × Unit) ((0 : Int), ()) w10 fun next21 x20 w11 => ∀ _ : Env,
gd (decide (x20.1 < (x19.len : Int))) (
idxK x19.a x19.len x20.1 2 fun p22 =>
∃ x23 : yevergreenlaw51_Commit.T, At w11 p22 (cells yevergreenlaw51_Commit x23) ∧
allocK (.cells #[.slice none 0 0, .int .i64 (0 : Int)] t_evergreenlaw51_Commit) w11 fun a24 w12 =>
stK w12 a24 (cells yevergreenlaw51_Commit x23) fun w13 =>
∃ x25 : Sl, At w13 (a24.add 0) (cells .slice x25) ∧
LoopP (X := Sl × Int × Unit) (⟨none, 0, 0⟩, (0 : Int), ()) w13 fun next27 x26 w14 => ∀ _ : Env,
gd (decide (x26.2.1 < (x25.len : Int))) (
JoinP (X := Sl × Unit) (fun R29 =>
idxK x25.a x25.len x26.2.1 1 fun p30 =>
∃ x31 : Int, At w14 p30 (cells (.int .i64) x31) ∧
JoinP (X := Bool × Unit) (fun R33 =>
gd (decide ((0 : Int) < x20.1)) (
R33 (decide ((x26.1.len : Int) < (8 : Int)), ()) w14) (
R33 (false, ()) w14)) (fun x32 w16 => ∀ _ : Env,
gd x32.1 (
C_ref12_Pick x31 x20.1 (fun x34 w17 =>
LoopP (X := Bool × Int × Unit) (false, (0 : Int), ()) w17 fun next36 x35 w18 => ∀ _ : Env,
gd (decide (x35.2.1 < (x26.1.len : Int))) (
JoinP (X := Bool × Unit) (fun R38 =>
idxK x26.1.a x26.1.len x35.2.1 1 fun p39 =>
∃ x40 : Int, At w18 p39 (cells (.int .i64) x40) ∧
gd x35.1 (
R38 (true, ()) w18) (
R38 (x34 == x40, ()) w18)) (fun x37 w19 => ∀ _ : Env,
arith .i64 (x35.2.1 + (1 : Int)) fun n41 =>
next36 (x37.1, n41, ()) w19)) (
gd (!x35.1) (
allocK (.cells #[.int .i64 x34] t_int) w18 fun a42 w20 =>
appK t_int 1 8 #[.int .i64 (0 : Int)] x26.1.a x26.1.len x26.1.cap (.slice (some a42) 1 1) 1 w20 fun s43 w21 =>
R29 (s43, ()) w21) (
R29 (x26.1, ()) w18))) w16) (
R29 (x26.1, ()) w16))) (fun x28 w15 => ∀ _ : Env,
arith .i64 (x26.2.1 + (1 : Int)) fun n44 =>
next27 (x28.1, n44, ()) w15)) (
∃ x45 : Int, At w14 (a24.add 1) (cells (.int .i64) x45) ∧
C_ref12_Pick x45 (x9.1.len : Int) (fun x46 w22 =>
idxK x9.1.a x9.1.len x46 1 fun p47 =>
∃ x48 : Int, At w22 p47 (cells (.int .i64) x48) ∧
drawK w22 fun w23 =>
nonNil (some a5) fun p49 =>
∃ x50 : Option Addr, At w23 (p49.add 1) (cells .ptr x50) ∧
C_law51_name x20.1 (fun x51 w24 =>
At w24 (p49.add 1) (cells .ptr x50) ∧
C_history_Graph_Add x50 (x26.1, (x48, x51)) (fun x52 w25 =>
JoinP (X := Bool × Unit) (fun R54 =>
nilIfcK x52.2 fun b55 =>
gd (!b55) (
R54 (true, ()) w25) (
R54 (x52.1 != x20.1, ()) w25)) (fun x53 w26 => ∀ _ : Env,
gd x53.1 (
K (none, false) w26) (
nonNil (some a5) fun p56 =>
∃ x57 : Sl, At w26 (p56.add 5) (cells .slice x57) ∧
allocK (.cells #[.slice x26.1.a x26.1.len x26.1.cap] t_sl_int) w26 fun a58 w27 =>
appK t_sl_int 1 24 #[.slice none 0 0] x57.a x57.len x57.cap (.slice (some a58) 1 1) 1 w27 fun s59 w28 =>
nonNil (some a5) fun p60 =>
stK w28 (p60.add 5) ([.slice s59.a s59.len s59.cap]) fun w29 =>
nonNil (some a5) fun p61 =>
∃ x62 : Sl, At w29 (p61.add 6) (cells .slice x62) ∧
allocK (.cells #[.int .i64 x48] t_api_ID) w29 fun a63 w30 =>
appK t_api_ID 1 8 #[.int .i64 (0 : Int)] x62.a x62.len x62.cap (.slice (some a63) 1 1) 1 w30 fun s64 w31 =>
nonNil (some a5) fun p65 =>
stK w31 (p65.add 6) ([.slice s64.a s64.len s64.cap]) fun w32 =>
arith .i64 (x20.1 + (1 : Int)) fun n66 =>
next21 (n66, ()) w32))) w24) w23) w14)) (
JoinP (X := Unit) (fun R68 =>
∃ x69 : Sl, At w11 (a1.add 2) (cells .slice x69) ∧
LoopP (X := Int × Unit) ((0 : Int), ()) w11 fun next71 x70 w34 => ∀ _ : Env,
gd (decide (x70.1 < (x69.len : Int))) (
idxK x69.a x69.len x70.1 2 fun p72 =>
∃ x73 : yevergreenlaw51_Name.T, At w34 p72 (cells yevergreenlaw51_Name x73) ∧
allocK (.cells #[.bool false, .int .i64 (0 : Int)] t_evergreenlaw51_Name) w34 fun a74 w35 =>
stK w35 a74 (cells yevergreenlaw51_Name x73) fun w36 =>
nonNil (some a5) fun p75 =>
∃ x76 : Sl, At w36 (p75.add 5) (cells .slice x76) ∧
gd ((x76.len : Int) == (0 : Int)) (
R68 () w36) (
drawK w36 fun w37 =>
∃ x77 : Int, At w37 (a74.add 1) (cells (.int .i64) x77) ∧
nonNil (some a5) fun p78 =>
∃ x79 : Sl, At w37 (p78.add 5) (cells .slice x79) ∧
C_ref12_Pick x77 (x79.len : Int) (fun x80 w38 =>
drawK w38 fun w39 =>
nonNil (some a5) fun p81 =>
∃ x82 : Option Addr, At w39 (p81.add 2) (cells .ptr x82) ∧
C_law51_name x70.1 (fun x83 w40 =>
At w40 (p81.add 2) (cells .ptr x82) ∧
C_refs_Table_Branch x82 x83 (-1 : Int) x80 (fun x84 w41 =>
JoinP (X := Value × Unit) (fun R86 =>
∃ x87 : Bool, At w41 (a74.add 0) (cells .bool x87) ∧
gd x87 (
drawK w41 fun w43 =>
nonNil (some a5) fun p88 =>
∃ x89 : Option Addr, At w43 (p88.add 2) (cells .ptr x89) ∧
C_law51_name x70.1 (fun x90 w44 =>
At w44 (p88.add 2) (cells .ptr x89) ∧
C_refs_Table_Drop x89 x90 (fun x91 w45 =>
drawK w45 fun w46 =>
nonNil (some a5) fun p92 =>
∃ x93 : Option Addr, At w46 (p92.add 2) (cells .ptr x93) ∧
C_law51_name x70.1 (fun x94 w47 =>
At w47 (p92.add 2) (cells .ptr x93) ∧
C_refs_Table_Tag x93 x94 x80 (fun x95 w48 =>
R86 (x95, ()) w48) w47) w46) w44) w43) (
R86 (x84, ()) w41)) (fun x85 w42 => ∀ _ : Env,
nilIfcK x85.1 fun b96 =>
gd (!b96) (
K (none, false) w42) (
drawK w42 fun w49 =>
nonNil (some a5) fun p97 =>
∃ x98 : Sl, At w49 (p97.add 7) (cells .slice x98) ∧
C_law51_name x70.1 (fun x99 w50 =>
At w50 (p97.add 7) (cells .slice x98) ∧
allocK (.cells #[.string x99] t_string) w50 fun a100 w51 =>
At w51 (p97.add 7) (cells .slice x98) ∧
appK t_string 1 16 #[.string (⟨#[]⟩ : ByteArray)] x98.a x98.len x98.cap (.slice (some a100) 1 1) 1 w51 fun s101 w52 =>
nonNil (some a5) fun p102 =>
stK w52 (p102.add 7) ([.slice s101.a s101.len s101.cap]) fun w53 =>
nonNil (some a5) fun p103 =>
∃ x104 : Sl, At w53 (p103.add 8) (cells .slice x104) ∧
allocK (.cells #[.int .i64 x80] t_int) w53 fun a105 w54 =>
appK t_int 1 8 #[.int .i64 (0 : Int)] x104.a x104.len x104.cap (.slice (some a105) 1 1) 1 w54 fun s106 w55 =>
nonNil (some a5) fun p107 =>
stK w55 (p107.add 8) ([.slice s106.a s106.len s106.cap]) fun w56 =>
arith .i64 (x70.1 + (1 : Int)) fun n108 =>
next71 (n108, ()) w56) w49))) w40) w39) w37)) (
R68 () w34)) (fun x67 w33 => ∀ _ : Env,
C_law51_alive  (fun x109 w57 =>
K (some a5, x109) w57) w33))) w8))) w6) w3) w2) w1
theorem S_law51_begun (v0_x : yevergreenlaw51_Input.T) (K : ((Option Addr) × Bool) → World → Prop) (w0 : World) (h : F_law51_begun v0_x K w0) : C_law51_begun v0_x K w0 := by
  have e : denFn P [(4, [(52, .bool)]), (1007, [(65, .int .i64)]), (1011, [(9, .slice), (73, .int .i64)]), (23, [(9, .slice)]), (14, [(83, .bool)]), (1017, [(12, .bool), (89, .int .i64)]), (20, [(12, .bool)]), (27, [(134, .bool)]), (45, []), (1032, [(159, .int .i64)]), (40, [(21, .iface)])] Tryz.f10 #[val yevergreenlaw51_Input v0_x] (.tup (.pair .ptr .bool)) K w0 = F_law51_begun v0_x K w0 := by kernel_rfl
  exact fn_sound mixed (f := 10) Tryz.func10 (by kernel_rfl) (e.mpr h)

def F_ref51_Keep (v0_parents : Sl) (v1_targets : Sl) (K : (Sl × Bool) → World → Prop) (w0 : World) : Prop :=
0 ≤ (v0_parents.len : Int) ∧ (v0_parents.len : Int) ≤ (v0_parents.len : Int) ∧ (v0_parents.len : Int) ≤ 9223372036854775807 ∧ 1 * (v0_parents.len : Int) ≤ 281474976710656 ∧
allocK (.cells (zrow #[.bool false] ((v0_parents.len : Int).toNat * 1)) t_bool) w0 fun a1 w1 =>
LoopP (X := Int × Unit) ((0 : Int), ()) w1 fun next3 x2 w2 => ∀ _ : Env,
gd (decide (x2.1 < (v1_targets.len : Int))) (
JoinP (X := Bool × Unit) (fun R5 =>
idxK v1_targets.a v1_targets.len x2.1 1 fun p6 =>
∃ x7 : Int, At w2 p6 (cells (.int .i64) x7) ∧
gd (decide (x7 < (0 : Int))) (
R5 (true, ()) w2) (
idxK v1_targets.a v1_targets.len x2.1 1 fun p8 =>
∃ x9 : Int, At w2 p8 (cells (.int .i64) x9) ∧
R5 (decide ((v0_parents.len : Int) ≤ x9), ()) w2)) (fun x4 w3 => ∀ _ : Env,
gd x4.1 (
K (⟨none, 0, 0⟩, false) w3) (
idxK v1_targets.a v1_targets.len x2.1 1 fun p10 =>
∃ x11 : Int, At w3 p10 (cells (.int .i64) x11) ∧
idxK (some a1) ((v0_parents.len : Int).toNat) x11 1 fun p12 =>
stK w3 p12 ([.bool true]) fun w4 =>
arith .i64 (x2.1 + (1 : Int)) fun n13 =>
next3 (n13, ()) w4))) (
arith .i64 ((v0_parents.len : Int) - (1 : Int)) fun n14 =>
LoopP (X := Int × Unit) (n14, ()) w2 fun next16 x15 w5 => ∀ _ : Env,
gd (decide ((0 : Int) ≤ x15.1)) (
JoinP (X := Unit) (fun R18 =>
LoopP (X := Int × Unit) ((0 : Int), ()) w5 fun next20 x19 w7 => ∀ _ : Env,
JoinP (X := Unit) (fun R22 =>
idxK v0_parents.a v0_parents.len x15.1 1 fun p23 =>
∃ x24 : Sl, At w7 p23 (cells .slice x24) ∧
gd (decide (x19.1 < (x24.len : Int))) (
idxK (some a1) ((v0_parents.len : Int).toNat) x15.1 1 fun p25 =>
∃ x26 : Bool, At w7 p25 (cells .bool x26) ∧
gd x26 (
R22 () w7) (
R18 () w7)) (
R18 () w7)) (fun x21 w8 => ∀ _ : Env,
idxK v0_parents.a v0_parents.len x15.1 1 fun p27 =>
∃ x28 : Sl, At w8 p27 (cells .slice x28) ∧
idxK x28.a x28.len x19.1 1 fun p29 =>
∃ x30 : Int, At w8 p29 (cells (.int .i64) x30) ∧
idxK (some a1) ((v0_parents.len : Int).toNat) x30 1 fun p31 =>
stK w8 p31 ([.bool true]) fun w9 =>
arith .i64 (x19.1 + (1 : Int)) fun n32 =>
next20 (n32, ()) w9)) (fun x17 w6 => ∀ _ : Env,
arith .i64 (x15.1 - (1 : Int)) fun n33 =>
next16 (n33, ()) w6)) (
K (⟨some a1, (v0_parents.len : Int).toNat, (v0_parents.len : Int).toNat⟩, true) w5))
theorem S_ref51_Keep (v0_parents : Sl) (v1_targets : Sl) (K : (Sl × Bool) → World → Prop) (w0 : World) (h : F_ref51_Keep v0_parents v1_targets K w0) : C_ref51_Keep v0_parents v1_targets K w0 := by
  have e : denFn P [(1003, [(7, .int .i64)]), (6, [(32, .bool)]), (1009, [(8, .int .i64)]), (10, []), (1012, [(9, .int .i64)]), (14, [])] Tryz.f11 #[.slice v0_parents.a v0_parents.len v0_parents.cap, .slice v1_targets.a v1_targets.len v1_targets.cap] (.tup (.pair .slice .bool)) K w0 = F_ref51_Keep v0_parents v1_targets K w0 := by kernel_rfl
  exact fn_sound mixed (f := 11) Tryz.func11 (by kernel_rfl) (e.mpr h)

def F_ref51_Numbers (v0_kept : Sl) (K : Sl → World → Prop) (w0 : World) : Prop :=
LoopP (X := Sl × Int × Int × Unit) (⟨none, 0, 0⟩, (0 : Int), (0 : Int), ()) w0 fun next2 x1 w1 => ∀ _ : Env,
gd (decide (x1.2.2.1 < (v0_kept.len : Int))) (
JoinP (X := Sl × Int × Unit) (fun R4 =>
idxK v0_kept.a v0_kept.len x1.2.2.1 1 fun p5 =>
∃ x6 : Bool, At w1 p5 (cells .bool x6) ∧
gd x6 (
allocK (.cells #[.int .i64 x1.2.1] t_int) w1 fun a7 w3 =>
appK t_int 1 8 #[.int .i64 (0 : Int)] x1.1.a x1.1.len x1.1.cap (.slice (some a7) 1 1) 1 w3 fun s8 w4 =>
arith .i64 (x1.2.1 + (1 : Int)) fun n9 =>
R4 (s8, n9, ()) w4) (
allocK (.cells #[.int .i64 (-1 : Int)] t_int) w1 fun a10 w5 =>
appK t_int 1 8 #[.int .i64 (0 : Int)] x1.1.a x1.1.len x1.1.cap (.slice (some a10) 1 1) 1 w5 fun s11 w6 =>
R4 (s11, x1.2.1, ()) w6)) (fun x3 w2 => ∀ _ : Env,
arith .i64 (x1.2.2.1 + (1 : Int)) fun n12 =>
next2 (x3.1, x3.2.1, n12, ()) w2)) (
K x1.1 w1)
theorem S_ref51_Numbers (v0_kept : Sl) (K : Sl → World → Prop) (w0 : World) (h : F_ref51_Numbers v0_kept K w0) : C_ref51_Numbers v0_kept K w0 := by
  have e : denFn P [(1004, [(3, .slice), (4, .int .i64), (5, .int .i64)]), (5, [(3, .slice), (4, .int .i64)])] Tryz.f12 #[.slice v0_kept.a v0_kept.len v0_kept.cap] .slice K w0 = F_ref51_Numbers v0_kept K w0 := by kernel_rfl
  exact fn_sound mixed (f := 12) Tryz.func12 (by kernel_rfl) (e.mpr h)

def F_ref12_Sweep (v0_s : yevergreenref12_Store.T) (v1_held : Sl) (K : (Sl × Sl) → World → Prop) (w0 : World) : Prop :=
allocK (.cells (cells yevergreenref12_Store v0_s).toArray t_evergreenref12_Store) w0 fun a1 w1 =>
∃ x2 : yevergreenref12_Store.T, At w1 a1 (cells yevergreenref12_Store x2) ∧
C_ref12_Reach x2 v1_held (fun x3 w2 =>
∃ x4 : Sl, At w2 (a1.add 0) (cells .slice x4) ∧
arith .i64 ((x4.len : Int) + (1 : Int)) fun n5 =>
0 ≤ n5 ∧ n5 ≤ n5 ∧ n5 ≤ 9223372036854775807 ∧ 8 * n5 ≤ 281474976710656 ∧
allocK (.cells (zrow #[.int .i64 (0 : Int)] (n5.toNat * 1)) t_api_ID) w2 fun a6 w3 =>
LoopP (X := Sl × Int × Unit) (⟨none, 0, 0⟩, (1 : Int), ()) w3 fun next8 x7 w4 => ∀ _ : Env,
∃ x9 : Sl, At w4 (a1.add 0) (cells .slice x9) ∧
gd (decide (x7.2.1 ≤ (x9.len : Int))) (
JoinP (X := Sl × Unit) (fun R11 =>
idxK x3.1.a x3.1.len x7.2.1 1 fun p12 =>
∃ x13 : Bool, At w4 p12 (cells .bool x13) ∧
gd (!x13) (
R11 (x7.1, ()) w4) (
∃ x14 : Sl, At w4 (a1.add 0) (cells .slice x14) ∧
arith .i64 (x7.2.1 - (1 : Int)) fun n15 =>
idxK x14.a x14.len n15 5 fun p16 =>
∃ x17 : yapi_Rule.T, At w4 p16 (cells yapi_Rule x17) ∧
allocK (.cells #[.int .i64 (0 : Int), .int .u8 (0 : Int), .int .i64 (0 : Int), .int .i64 (0 : Int), .int .i64 (0 : Int)] t_api_Rule) w4 fun a18 w6 =>
stK w6 a18 (cells yapi_Rule x17) fun w7 =>
JoinP (X := Unit) (fun R20 =>
JoinP (X := Bool × Unit) (fun R22 =>
∃ x23 : Int, At w7 (a18.add 0) (cells (.int .i64) x23) ∧
gd (x23 == (2 : Int)) (
R22 (true, ()) w7) (
∃ x24 : Int, At w7 (a18.add 0) (cells (.int .i64) x24) ∧
R22 (x24 == (3 : Int), ()) w7)) (fun x21 w9 => ∀ _ : Env,
gd x21.1 (
∃ x25 : Int, At w9 (a18.add 2) (cells (.int .i64) x25) ∧
idxK (some a6) n5.toNat x25 1 fun p26 =>
∃ x27 : Int, At w9 p26 (cells (.int .i64) x27) ∧
stK w9 (a18.add 2) ([.int .i64 x27]) fun w10 =>
R20 () w10) (
R20 () w9))) (fun x19 w8 => ∀ _ : Env,
JoinP (X := Unit) (fun R29 =>
∃ x30 : Int, At w8 (a18.add 0) (cells (.int .i64) x30) ∧
gd (x30 == (2 : Int)) (
∃ x31 : Int, At w8 (a18.add 3) (cells (.int .i64) x31) ∧
idxK (some a6) n5.toNat x31 1 fun p32 =>
∃ x33 : Int, At w8 p32 (cells (.int .i64) x33) ∧
stK w8 (a18.add 3) ([.int .i64 x33]) fun w12 =>
R29 () w12) (
R29 () w8)) (fun x28 w11 => ∀ _ : Env,
∃ x34 : yapi_Rule.T, At w11 a18 (cells yapi_Rule x34) ∧
allocK (.cells (cells yapi_Rule x34).toArray t_api_Rule) w11 fun a35 w13 =>
appK t_api_Rule 5 40 #[.int .i64 (0 : Int), .int .u8 (0 : Int), .int .i64 (0 : Int), .int .i64 (0 : Int), .int .i64 (0 : Int)] x7.1.a x7.1.len x7.1.cap (.slice (some a35) 1 1) 1 w13 fun s36 w14 =>
idxK (some a6) n5.toNat x7.2.1 1 fun p37 =>
stK w14 p37 ([.int .i64 (s36.len : Int)]) fun w15 =>
R11 (s36, ()) w15)))) (fun x10 w5 => ∀ _ : Env,
arith .i64 (x7.2.1 + (1 : Int)) fun n38 =>
next8 (x10.1, n38, ()) w5)) (
K (x7.1, ⟨some a6, n5.toNat, n5.toNat⟩) w4)) w1
theorem S_ref12_Sweep (v0_s : yevergreenref12_Store.T) (v1_held : Sl) (K : (Sl × Sl) → World → Prop) (w0 : World) (h : F_ref12_Sweep v0_s v1_held K w0) : C_ref12_Sweep v0_s v1_held K w0 := by
  have e : denFn P [(1005, [(9, .slice), (10, .int .i64)]), (6, [(9, .slice)]), (11, []), (10, [(48, .bool)]), (13, [])] Tryz.f13 #[val yevergreenref12_Store v0_s, .slice v1_held.a v1_held.len v1_held.cap] (.tup (.pair .slice .slice)) K w0 = F_ref12_Sweep v0_s v1_held K w0 := by kernel_rfl
  exact fn_sound mixed (f := 13) Tryz.func13 (by kernel_rfl) (e.mpr h)

end Go.Proofs.YtnmgjpcooncjlaaGreat
