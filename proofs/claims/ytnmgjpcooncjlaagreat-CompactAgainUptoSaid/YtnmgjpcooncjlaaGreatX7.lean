/- Texts that belong together, joined: Text7. No conditions. -/
import Derived.Test.YtnmgjpcooncjlaaGreatX0
/- The typed texts of the functions, printed by a program; each proved to imply the call. -/
set_option linter.unusedVariables false
set_option maxRecDepth 100000
set_option maxHeartbeats 4000000
namespace Go.Proofs.YtnmgjpcooncjlaaGreat
open Go.Den

def F_ref12_Reach (v0_s : yevergreenref12_Store.T) (v1_roots : Sl) (K : (Sl × Bool) → World → Prop) (w0 : World) : Prop :=
allocK (.cells (cells yevergreenref12_Store v0_s).toArray t_evergreenref12_Store) w0 fun a1 w1 =>
∃ x2 : Sl, At w1 (a1.add 0) (cells .slice x2) ∧
arith .i64 ((x2.len : Int) + (1 : Int)) fun n3 =>
0 ≤ n3 ∧ n3 ≤ n3 ∧ n3 ≤ 9223372036854775807 ∧ 1 * n3 ≤ 281474976710656 ∧
allocK (.cells (zrow #[.bool false] (n3.toNat * 1)) t_bool) w1 fun a4 w2 =>
LoopP (X := Int × Unit) ((0 : Int), ()) w2 fun next6 x5 w3 => ∀ _ : Env,
gd (decide (x5.1 < (v1_roots.len : Int))) (
drawK w3 fun w4 =>
∃ x7 : yevergreenref12_Store.T, At w4 a1 (cells yevergreenref12_Store x7) ∧
idxK v1_roots.a v1_roots.len x5.1 1 fun p8 =>
∃ x9 : Int, At w4 p8 (cells (.int .i64) x9) ∧
C_ref12_Known x7 x9 (fun x10 w5 =>
gd (!x10) (
K (⟨none, 0, 0⟩, false) w5) (
drawK w5 fun w6 =>
idxK v1_roots.a v1_roots.len x5.1 1 fun p11 =>
∃ x12 : Int, At w6 p11 (cells (.int .i64) x12) ∧
idxK v1_roots.a v1_roots.len x5.1 1 fun p13 =>
∃ x14 : Int, At w6 p13 (cells (.int .i64) x14) ∧
idxK (some a4) n3.toNat x12 1 fun p15 =>
stK w6 p15 ([.bool (decide ((0 : Int) < x14))]) fun w7 =>
arith .i64 (x5.1 + (1 : Int)) fun n16 =>
next6 (n16, ()) w7)) w4) (
∃ x17 : Sl, At w3 (a1.add 0) (cells .slice x17) ∧
LoopP (X := Int × Unit) ((x17.len : Int), ()) w3 fun next19 x18 w8 => ∀ _ : Env,
gd (decide ((0 : Int) < x18.1)) (
JoinP (X := Unit) (fun R21 =>
∃ x22 : Sl, At w8 (a1.add 0) (cells .slice x22) ∧
arith .i64 (x18.1 - (1 : Int)) fun n23 =>
idxK x22.a x22.len n23 5 fun p24 =>
∃ x25 : yapi_Rule.T, At w8 p24 (cells yapi_Rule x25) ∧
C_ref12_Refs x25 (fun x26 w10 =>
LoopP (X := Int × Unit) ((0 : Int), ()) w10 fun next28 x27 w11 => ∀ _ : Env,
JoinP (X := Unit) (fun R30 =>
gd (decide (x27.1 < (x26.len : Int))) (
idxK (some a4) n3.toNat x18.1 1 fun p31 =>
∃ x32 : Bool, At w11 p31 (cells .bool x32) ∧
gd x32 (
R30 () w11) (
R21 () w11)) (
R21 () w11)) (fun x29 w12 => ∀ _ : Env,
idxK x26.a x26.len x27.1 1 fun p33 =>
∃ x34 : Int, At w12 p33 (cells (.int .i64) x34) ∧
idxK (some a4) n3.toNat x34 1 fun p35 =>
stK w12 p35 ([.bool true]) fun w13 =>
arith .i64 (x27.1 + (1 : Int)) fun n36 =>
next28 (n36, ()) w13)) w8) (fun x20 w9 => ∀ _ : Env,
arith .i64 (x18.1 - (1 : Int)) fun n37 =>
next19 (n37, ()) w9)) (
K (⟨some a4, n3.toNat, n3.toNat⟩, true) w8))
theorem S_ref12_Reach (v0_s : yevergreenref12_Store.T) (v1_roots : Sl) (K : (Sl × Bool) → World → Prop) (w0 : World) (h : F_ref12_Reach v0_s v1_roots K w0) : C_ref12_Reach v0_s v1_roots K w0 := by
  have e : denFn P [(1003, [(7, .int .i64)]), (1009, [(8, .int .i64)]), (10, []), (1013, [(10, .int .i64)]), (15, [])] Tryz.f44 #[val yevergreenref12_Store v0_s, .slice v1_roots.a v1_roots.len v1_roots.cap] (.tup (.pair .slice .bool)) K w0 = F_ref12_Reach v0_s v1_roots K w0 := by kernel_rfl
  exact fn_sound mixed (f := 44) Tryz.func44 (by kernel_rfl) (e.mpr h)

def F_compact_texts (v0_s : Option Addr) (v1_g : Option Addr) (v2_r : Option Addr) (K : (Sl × Sl × Value) → World → Prop) (w0 : World) : Prop :=
gd v0_s.isNone (
K (⟨none, 0, 0⟩, ⟨none, 0, 0⟩, .iface t_api_Errno (.int .i64 (5 : Int))) w0) (
C_compact_Keep v1_g v2_r (fun x1 w1 =>
nilIfcK x1.2 fun b2 =>
gd (!b2) (
K (⟨none, 0, 0⟩, ⟨none, 0, 0⟩, x1.2) w1) (
0 ≤ (x1.1.len : Int) ∧ (x1.1.len : Int) ≤ (x1.1.len : Int) ∧ (x1.1.len : Int) ≤ 9223372036854775807 ∧ 8 * (x1.1.len : Int) ≤ 281474976710656 ∧
allocK (.cells (zrow #[.int .i64 (0 : Int)] ((x1.1.len : Int).toNat * 1)) t_api_ID) w1 fun a3 w2 =>
LoopP (X := Int × Unit) ((0 : Int), ()) w2 fun next5 x4 w3 => ∀ _ : Env,
gd (decide (x4.1 < (x1.1.len : Int))) (
idxK x1.1.a x1.1.len x4.1 1 fun p6 =>
∃ x7 : Int, At w3 p6 (cells (.int .i64) x7) ∧
C_history_Graph_Get v1_g x7 (fun x8 w4 =>
allocK (.cells #[.slice none 0 0, .int .i64 (0 : Int), .string (⟨#[]⟩ : ByteArray)] t_api_Commit) w4 fun a9 w5 =>
stK w5 a9 (cells yapi_Commit x8.1) fun w6 =>
nilIfcK x8.2 fun b10 =>
gd (!b10) (
K (⟨none, 0, 0⟩, ⟨none, 0, 0⟩, x8.2) w6) (
JoinP (X := Bool × Unit) (fun R12 =>
drawK w6 fun w8 =>
∃ x13 : Int, At w8 (a9.add 1) (cells (.int .i64) x13) ∧
gd (decide (x13 < (0 : Int))) (
R12 (true, ()) w8) (
∃ x14 : Int, At w8 (a9.add 1) (cells (.int .i64) x14) ∧
C_intern_Store_Len v0_s (fun x15 w9 =>
At w9 (a9.add 1) (cells (.int .i64) x14) ∧
R12 (decide (x15 < x14), ()) w9) w8)) (fun x11 w7 => ∀ _ : Env,
gd x11.1 (
K (⟨none, 0, 0⟩, ⟨none, 0, 0⟩, .iface t_api_Errno (.int .i64 (1 : Int))) w7) (
∃ x16 : Int, At w7 (a9.add 1) (cells (.int .i64) x16) ∧
idxK (some a3) ((x1.1.len : Int).toNat) x4.1 1 fun p17 =>
stK w7 p17 ([.int .i64 x16]) fun w10 =>
arith .i64 (x4.1 + (1 : Int)) fun n18 =>
next5 (n18, ()) w10)))) w3) (
K (x1.1, ⟨some a3, (x1.1.len : Int).toNat, (x1.1.len : Int).toNat⟩, .nilIface) w3))) w0)
theorem S_compact_texts (v0_s : Option Addr) (v1_g : Option Addr) (v2_r : Option Addr) (K : (Sl × Sl × Value) → World → Prop) (w0 : World) (h : F_compact_texts v0_s v1_g v2_r K w0) : C_compact_texts v0_s v1_g v2_r K w0 := by
  have e : denFn P [(1008, [(33, .int .i64)]), (14, [(56, .bool)])] Tryz.f45 #[.pointer v0_s, .pointer v1_g, .pointer v2_r] (.tup (.pair .slice (.pair .slice .iface))) K w0 = F_compact_texts v0_s v1_g v2_r K w0 := by kernel_rfl
  exact fn_sound mixed (f := 45) Tryz.func45 (by kernel_rfl) (e.mpr h)

def F_collect_New (v0_s : Option Addr) (K : (Option Addr) → World → Prop) (w0 : World) : Prop :=
gd v0_s.isNone (
K none w0) (
allocK (.map #[] 0) w0 fun a1 w1 =>
allocK (.cells ([.pointer v0_s, .map (some a1.block)]).toArray t_collect_Table) w1 fun a2 w2 =>
K (some a2) w2)
theorem S_collect_New (v0_s : Option Addr) (K : (Option Addr) → World → Prop) (w0 : World) (h : F_collect_New v0_s K w0) : C_collect_New v0_s K w0 := by
  have e : denFn P [] Tryz.f46 #[.pointer v0_s] .ptr K w0 = F_collect_New v0_s K w0 := by kernel_rfl
  exact fn_sound mixed (f := 46) Tryz.func46 (by kernel_rfl) (e.mpr h)

def F_collect_Table_Hold (v0_t : Option Addr) (v1_id : Int) (K : Value → World → Prop) (w0 : World) : Prop :=
C_collect_Table_none v0_t (fun x1 w1 =>
gd x1 (
K (.iface t_api_Errno (.int .i64 (5 : Int))) w1) (
nonNil v0_t fun p2 =>
∃ x3 : Option Addr, At w1 (p2.add 0) (cells .ptr x3) ∧
C_collect_known x3 v1_id (fun x4 w2 =>
gd (!x4) (
K (.iface t_api_Errno (.int .i64 (1 : Int))) w2) (
JoinP (X := Unit) (fun R6 =>
gd (v1_id != (0 : Int)) (
nonNil v0_t fun p7 =>
∃ x8 : Option Nat, At w2 (p7.add 1) (cells .map x8) ∧
∃ x9 : Int, Lk1 P t_map_api_ID_int (.int .i64) (.map x8) (.int .i64 v1_id) x9 w2 ∧
arith .i64 (x9 + (1 : Int)) fun n10 =>
runU P (Instr.mapUpdate t_map_api_ID_int (.map x8) (.int .i64 v1_id) (.int .i64 n10)) w2 fun w4 =>
R6 () w4) (
R6 () w2)) (fun x5 w3 => ∀ _ : Env,
K .nilIface w3))) w1)) w0
theorem S_collect_Table_Hold (v0_t : Option Addr) (v1_id : Int) (K : Value → World → Prop) (w0 : World) (h : F_collect_Table_Hold v0_t v1_id K w0) : C_collect_Table_Hold v0_t v1_id K w0 := by
  have e : denFn P [(7, [])] Tryz.f47 #[.pointer v0_t, .int .i64 v1_id] .iface K w0 = F_collect_Table_Hold v0_t v1_id K w0 := by kernel_rfl
  exact fn_sound mixed (f := 47) Tryz.func47 (by kernel_rfl) (e.mpr h)

def F_collect_Table_Sweep (v0_t : Option Addr) (v1_most : Int) (K : ((Option Addr) × Sl × Value) → World → Prop) (w0 : World) : Prop :=
C_collect_Table_none v0_t (fun x1 w1 =>
gd x1 (
K (none, ⟨none, 0, 0⟩, .iface t_api_Errno (.int .i64 (5 : Int))) w1) (
nonNil v0_t fun p2 =>
∃ x3 : Option Addr, At w1 (p2.add 0) (cells .ptr x3) ∧
C_intern_Store_Len x3 (fun x4 w2 =>
arith .i64 (x4 + (1 : Int)) fun n5 =>
0 ≤ n5 ∧ n5 ≤ n5 ∧ n5 ≤ 9223372036854775807 ∧ 8 * n5 ≤ 281474976710656 ∧
allocK (.cells (zrow #[.int .i64 (0 : Int)] (n5.toNat * 1)) t_api_ID) w2 fun a6 w3 =>
C_collect_Table_Live v0_t (fun x7 w4 =>
LoopP (X := Sl × Int × Unit) (⟨none, 0, 0⟩, (0 : Int), ()) w4 fun next9 x8 w5 => ∀ _ : Env,
gd (decide (x8.2.1 < (x7.len : Int))) (
idxK x7.a x7.len x8.2.1 1 fun p10 =>
∃ x11 : Int, At w5 p10 (cells (.int .i64) x11) ∧
nonNil v0_t fun p12 =>
∃ x13 : Option Addr, At w5 (p12.add 0) (cells .ptr x13) ∧
C_intern_Store_Rule x13 x11 (fun x14 w6 =>
allocK (.cells #[.int .i64 (0 : Int), .int .u8 (0 : Int), .int .i64 (0 : Int), .int .i64 (0 : Int), .int .i64 (0 : Int)] t_api_Rule) w6 fun a15 w7 =>
stK w7 a15 (cells yapi_Rule x14.1) fun w8 =>
nilIfcK x14.2 fun b16 =>
gd (!b16) (
K (none, ⟨none, 0, 0⟩, x14.2) w8) (
∃ x17 : yapi_Rule.T, At w8 a15 (cells yapi_Rule x17) ∧
C_rule_Move x17 (⟨some a6, n5.toNat, n5.toNat⟩) (fun x18 w9 =>
stK w9 a15 (cells yapi_Rule x18.1) fun w10 =>
nilIfcK x18.2 fun b19 =>
gd (!b19) (
K (none, ⟨none, 0, 0⟩, x18.2) w10) (
∃ x20 : yapi_Rule.T, At w10 a15 (cells yapi_Rule x20) ∧
allocK (.cells (cells yapi_Rule x20).toArray t_api_Rule) w10 fun a21 w11 =>
appK t_api_Rule 5 40 #[.int .i64 (0 : Int), .int .u8 (0 : Int), .int .i64 (0 : Int), .int .i64 (0 : Int), .int .i64 (0 : Int)] x8.1.a x8.1.len x8.1.cap (.slice (some a21) 1 1) 1 w11 fun s22 w12 =>
arith .i64 (x8.2.1 + (1 : Int)) fun n23 =>
idxK (some a6) n5.toNat x11 1 fun p24 =>
stK w12 p24 ([.int .i64 n23]) fun w13 =>
arith .i64 (x8.2.1 + (1 : Int)) fun n25 =>
next9 (s22, n25, ()) w13)) w8)) w5) (
C_intern_New v1_most (fun x26 w14 =>
C_intern_Store_Room x26 (fun x27 w15 =>
gd (decide (x27 < (x8.1.len : Int))) (
K (none, ⟨none, 0, 0⟩, .iface t_api_Errno (.int .i64 (3 : Int))) w15) (
C_intern_Store_Import x26 x8.1 (fun x28 w16 =>
nilIfcK x28.2 fun b29 =>
gd (!b29) (
K (none, ⟨none, 0, 0⟩, x28.2) w16) (
K (x26, ⟨some a6, n5.toNat, n5.toNat⟩, .nilIface) w16)) w15)) w14) w5)) w3) w1)) w0
theorem S_collect_Table_Sweep (v0_t : Option Addr) (v1_most : Int) (K : ((Option Addr) × Sl × Value) → World → Prop) (w0 : World) (h : F_collect_Table_Sweep v0_t v1_most K w0) : C_collect_Table_Sweep v0_t v1_most K w0 := by
  have e : denFn P [(1006, [(8, .slice), (29, .int .i64)])] Tryz.f48 #[.pointer v0_t, .int .i64 v1_most] (.tup (.pair .ptr (.pair .slice .iface))) K w0 = F_collect_Table_Sweep v0_t v1_most K w0 := by kernel_rfl
  exact fn_sound mixed (f := 48) Tryz.func48 (by kernel_rfl) (e.mpr h)

def F_history_Graph_Keep (v0_g : Option Addr) (v1_list : Sl) (K : ((Option Addr) × Sl × Value) → World → Prop) (w0 : World) : Prop :=
gd v0_g.isNone (
K (none, ⟨none, 0, 0⟩, .iface t_api_Errno (.int .i64 (5 : Int))) w0) (
LoopP (X := Int × Unit) ((0 : Int), ()) w0 fun next2 x1 w1 => ∀ _ : Env,
gd (decide (x1.1 < (v1_list.len : Int))) (
idxK v1_list.a v1_list.len x1.1 1 fun p3 =>
∃ x4 : Int, At w1 p3 (cells (.int .i64) x4) ∧
C_history_Graph_has v0_g x4 (fun x5 w2 =>
gd (!x5) (
K (none, ⟨none, 0, 0⟩, .iface t_api_Errno (.int .i64 (1 : Int))) w2) (
arith .i64 (x1.1 + (1 : Int)) fun n6 =>
next2 (n6, ()) w2)) w1) (
nonNil v0_g fun p7 =>
∃ x8 : Sl, At w1 (p7.add 0) (cells .slice x8) ∧
0 ≤ (x8.len : Int) ∧ (x8.len : Int) ≤ (x8.len : Int) ∧ (x8.len : Int) ≤ 9223372036854775807 ∧ 1 * (x8.len : Int) ≤ 281474976710656 ∧
allocK (.cells (zrow #[.bool false] ((x8.len : Int).toNat * 1)) t_bool) w1 fun a9 w3 =>
LoopP (X := Int × Unit) ((0 : Int), ()) w3 fun next11 x10 w4 => ∀ _ : Env,
gd (decide (x10.1 < (v1_list.len : Int))) (
idxK v1_list.a v1_list.len x10.1 1 fun p12 =>
∃ x13 : Int, At w4 p12 (cells (.int .i64) x13) ∧
idxK (some a9) ((x8.len : Int).toNat) x13 1 fun p14 =>
∃ x15 : Bool, At w4 p14 (cells .bool x15) ∧
gd x15 (
K (none, ⟨none, 0, 0⟩, .iface t_api_Errno (.int .i64 (4 : Int))) w4) (
idxK (some a9) ((x8.len : Int).toNat) x13 1 fun p16 =>
stK w4 p16 ([.bool true]) fun w5 =>
arith .i64 (x10.1 + (1 : Int)) fun n17 =>
next11 (n17, ()) w5)) (
C_history_New  (fun x18 w6 =>
nonNil v0_g fun p19 =>
∃ x20 : Sl, At w6 (p19.add 0) (cells .slice x20) ∧
0 ≤ (x20.len : Int) ∧ (x20.len : Int) ≤ (x20.len : Int) ∧ (x20.len : Int) ≤ 9223372036854775807 ∧ 8 * (x20.len : Int) ≤ 281474976710656 ∧
allocK (.cells (zrow #[.int .i64 (0 : Int)] ((x20.len : Int).toNat * 1)) t_int) w6 fun a21 w7 =>
nonNil v0_g fun p22 =>
∃ x23 : Sl, At w7 (p22.add 0) (cells .slice x23) ∧
LoopP (X := Int × Unit) ((0 : Int), ()) w7 fun next25 x24 w8 => ∀ _ : Env,
gd (decide (x24.1 < (x23.len : Int))) (
JoinP (X := Unit) (fun R27 =>
idxK x23.a x23.len x24.1 3 fun p28 =>
∃ x29 : yapi_Commit.T, At w8 p28 (cells yapi_Commit x29) ∧
allocK (.cells #[.slice none 0 0, .int .i64 (0 : Int), .string (⟨#[]⟩ : ByteArray)] t_api_Commit) w8 fun a30 w10 =>
stK w10 a30 (cells yapi_Commit x29) fun w11 =>
idxK (some a21) ((x20.len : Int).toNat) x24.1 1 fun p31 =>
stK w11 p31 ([.int .i64 (-1 : Int)]) fun w12 =>
idxK (some a9) ((x8.len : Int).toNat) x24.1 1 fun p32 =>
∃ x33 : Bool, At w12 p32 (cells .bool x33) ∧
gd (!x33) (
R27 () w12) (
∃ x34 : Sl, At w12 (a30.add 0) (cells .slice x34) ∧
C_slices_Clone x34 (fun x35 w13 =>
stK w13 (a30.add 0) ([.slice x35.a x35.len x35.cap]) fun w14 =>
∃ x36 : Sl, At w14 (a30.add 0) (cells .slice x36) ∧
LoopP (X := Int × Unit) ((0 : Int), ()) w14 fun next38 x37 w15 => ∀ _ : Env,
gd (decide (x37.1 < (x36.len : Int))) (
idxK x36.a x36.len x37.1 1 fun p39 =>
∃ x40 : Int, At w15 p39 (cells (.int .i64) x40) ∧
idxK (some a21) ((x20.len : Int).toNat) x40 1 fun p41 =>
∃ x42 : Int, At w15 p41 (cells (.int .i64) x42) ∧
gd (decide (x42 < (0 : Int))) (
K (none, ⟨none, 0, 0⟩, .iface t_api_Errno (.int .i64 (4 : Int))) w15) (
drawK w15 fun w16 =>
∃ x43 : Sl, At w16 (a30.add 0) (cells .slice x43) ∧
idxK (some a21) ((x20.len : Int).toNat) x40 1 fun p44 =>
∃ x45 : Int, At w16 p44 (cells (.int .i64) x45) ∧
idxK x43.a x43.len x37.1 1 fun p46 =>
stK w16 p46 ([.int .i64 x45]) fun w17 =>
arith .i64 (x37.1 + (1 : Int)) fun n47 =>
next38 (n47, ()) w17)) (
nonNil x18 fun p48 =>
∃ x49 : Sl, At w15 (p48.add 0) (cells .slice x49) ∧
idxK (some a21) ((x20.len : Int).toNat) x24.1 1 fun p50 =>
stK w15 p50 ([.int .i64 (x49.len : Int)]) fun w18 =>
drawK w18 fun w19 =>
nonNil x18 fun p51 =>
∃ x52 : Sl, At w19 (p51.add 0) (cells .slice x52) ∧
∃ x53 : yapi_Commit.T, At w19 a30 (cells yapi_Commit x53) ∧
allocK (.cells (cells yapi_Commit x53).toArray t_api_Commit) w19 fun a54 w20 =>
At w20 (p51.add 0) (cells .slice x52) ∧
appK t_api_Commit 3 48 #[.slice none 0 0, .int .i64 (0 : Int), .string (⟨#[]⟩ : ByteArray)] x52.a x52.len x52.cap (.slice (some a54) 1 1) 1 w20 fun s55 w21 =>
nonNil x18 fun p56 =>
stK w21 (p56.add 0) ([.slice s55.a s55.len s55.cap]) fun w22 =>
R27 () w22)) w12)) (fun x26 w9 => ∀ _ : Env,
arith .i64 (x24.1 + (1 : Int)) fun n57 =>
next25 (n57, ()) w9)) (
K (x18, ⟨some a21, (x20.len : Int).toNat, (x20.len : Int).toNat⟩, .nilIface) w8)) w4)))
theorem S_history_Graph_Keep (v0_g : Option Addr) (v1_list : Sl) (K : ((Option Addr) × Sl × Value) → World → Prop) (w0 : World) (h : F_history_Graph_Keep v0_g v1_list K w0) : C_history_Graph_Keep v0_g v1_list K w0 := by
  have e : denFn P [(1004, [(23, .int .i64)]), (1011, [(41, .int .i64)]), (1020, [(66, .int .i64)]), (34, []), (1026, [(86, .int .i64)])] Tryz.f49 #[.pointer v0_g, .slice v1_list.a v1_list.len v1_list.cap] (.tup (.pair .ptr (.pair .slice .iface))) K w0 = F_history_Graph_Keep v0_g v1_list K w0 := by kernel_rfl
  exact fn_sound mixed (f := 49) Tryz.func49 (by kernel_rfl) (e.mpr h)

end Go.Proofs.YtnmgjpcooncjlaaGreat
