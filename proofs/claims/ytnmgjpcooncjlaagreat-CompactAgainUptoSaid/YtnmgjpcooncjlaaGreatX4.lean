/- Texts that belong together, joined: Text4. No conditions. -/
import Derived.Test.YtnmgjpcooncjlaaGreatX0
/- The typed texts of the functions, printed by a program; each proved to imply the call. -/
set_option linter.unusedVariables false
set_option maxRecDepth 100000
set_option maxHeartbeats 4000000
namespace Go.Proofs.YtnmgjpcooncjlaaGreat
open Go.Den

def F_law51_world_held (v0_w : Option Addr) (v1_kept : Sl) (K : Sl → World → Prop) (w0 : World) : Prop :=
LoopP (X := Sl × Int × Unit) (⟨none, 0, 0⟩, (0 : Int), ()) w0 fun next2 x1 w1 => ∀ _ : Env,
gd (decide (x1.2.1 < (v1_kept.len : Int))) (
JoinP (X := Sl × Unit) (fun R4 =>
idxK v1_kept.a v1_kept.len x1.2.1 1 fun p5 =>
∃ x6 : Bool, At w1 p5 (cells .bool x6) ∧
gd x6 (
nonNil v0_w fun p7 =>
∃ x8 : Sl, At w1 (p7.add 6) (cells .slice x8) ∧
idxK x8.a x8.len x1.2.1 1 fun p9 =>
∃ x10 : Int, At w1 p9 (cells (.int .i64) x10) ∧
allocK (.cells #[.int .i64 x10] t_api_ID) w1 fun a11 w3 =>
appK t_api_ID 1 8 #[.int .i64 (0 : Int)] x1.1.a x1.1.len x1.1.cap (.slice (some a11) 1 1) 1 w3 fun s12 w4 =>
R4 (s12, ()) w4) (
R4 (x1.1, ()) w1)) (fun x3 w2 => ∀ _ : Env,
arith .i64 (x1.2.1 + (1 : Int)) fun n13 =>
next2 (x3.1, n13, ()) w2)) (
K x1.1 w1)
theorem S_law51_world_held (v0_w : Option Addr) (v1_kept : Sl) (K : Sl → World → Prop) (w0 : World) (h : F_law51_world_held v0_w v1_kept K w0) : C_law51_world_held v0_w v1_kept K w0 := by
  have e : denFn P [(1003, [(5, .slice), (10, .int .i64)]), (7, [(5, .slice)])] Tryz.f14 #[.pointer v0_w, .slice v1_kept.a v1_kept.len v1_kept.cap] .slice K w0 = F_law51_world_held v0_w v1_kept K w0 := by kernel_rfl
  exact fn_sound mixed (f := 14) Tryz.func14 (by kernel_rfl) (e.mpr h)

def F_compact_Of (v0_s : Option Addr) (v1_g : Option Addr) (v2_r : Option Addr) (v3_most : Int) (K : ((Option Addr) × (Option Addr) × (Option Addr) × Value) → World → Prop) (w0 : World) : Prop :=
C_compact_texts v0_s v1_g v2_r (fun x1 w1 =>
nilIfcK x1.2.2 fun b2 =>
gd (!b2) (
K (none, none, none, x1.2.2) w1) (
C_collect_New v0_s (fun x3 w2 =>
LoopP (X := Int × Unit) ((0 : Int), ()) w2 fun next5 x4 w3 => ∀ _ : Env,
gd (decide (x4.1 < (x1.2.1.len : Int))) (
idxK x1.2.1.a x1.2.1.len x4.1 1 fun p6 =>
∃ x7 : Int, At w3 p6 (cells (.int .i64) x7) ∧
C_collect_Table_Hold x3 x7 (fun x8 w4 =>
nilIfcK x8 fun b9 =>
gd (!b9) (
K (none, none, none, x8) w4) (
arith .i64 (x4.1 + (1 : Int)) fun n10 =>
next5 (n10, ()) w4)) w3) (
C_collect_Table_Sweep x3 v3_most (fun x11 w5 =>
nilIfcK x11.2.2 fun b12 =>
gd (!b12) (
K (none, none, none, x11.2.2) w5) (
C_history_Graph_Keep v1_g x1.1 (fun x13 w6 =>
nilIfcK x13.2.2 fun b14 =>
gd (!b14) (
K (none, none, none, x13.2.2) w6) (
C_history_New  (fun x15 w7 =>
C_history_Graph_Len x13.1 (fun x16 w8 =>
LoopP (X := Int × Unit) ((0 : Int), ()) w8 fun next18 x17 w9 => ∀ _ : Env,
gd (decide (x17.1 < x16)) (
C_history_Graph_Get x13.1 x17.1 (fun x19 w10 =>
allocK (.cells #[.slice none 0 0, .int .i64 (0 : Int), .string (⟨#[]⟩ : ByteArray)] t_api_Commit) w10 fun a20 w11 =>
stK w11 a20 (cells yapi_Commit x19.1) fun w12 =>
nilIfcK x19.2 fun b21 =>
gd (!b21) (
K (none, none, none, x19.2) w12) (
∃ x22 : Int, At w12 (a20.add 1) (cells (.int .i64) x22) ∧
idxK x11.2.1.a x11.2.1.len x22 1 fun p23 =>
∃ x24 : Int, At w12 p23 (cells (.int .i64) x24) ∧
stK w12 (a20.add 1) ([.int .i64 x24]) fun w13 =>
∃ x25 : yapi_Commit.T, At w13 a20 (cells yapi_Commit x25) ∧
C_history_Graph_Add x15 x25 (fun x26 w14 =>
nilIfcK x26.2 fun b27 =>
gd (!b27) (
K (none, none, none, x26.2) w14) (
arith .i64 (x17.1 + (1 : Int)) fun n28 =>
next18 (n28, ()) w14)) w13)) w9) (
C_refs_Table_Move v2_r x13.2.1 (fun x29 w15 =>
nilIfcK x29.2 fun b30 =>
gd (!b30) (
K (none, none, none, x29.2) w15) (
K (x11.1, x15, x29.1, .nilIface) w15)) w9)) w7) w6)) w5)) w3)) w1)) w0
theorem S_compact_Of (v0_s : Option Addr) (v1_g : Option Addr) (v2_r : Option Addr) (v3_most : Int) (K : ((Option Addr) × (Option Addr) × (Option Addr) × Value) → World → Prop) (w0 : World) (h : F_compact_Of v0_s v1_g v2_r v3_most K w0) : C_compact_Of v0_s v1_g v2_r v3_most K w0 := by
  have e : denFn P [(1006, [(45, .int .i64)]), (1020, [(79, .int .i64)])] Tryz.f15 #[.pointer v0_s, .pointer v1_g, .pointer v2_r, .int .i64 v3_most] (.tup (.pair .ptr (.pair .ptr (.pair .ptr .iface)))) K w0 = F_compact_Of v0_s v1_g v2_r v3_most K w0 := by kernel_rfl
  exact fn_sound mixed (f := 15) Tryz.func15 (by kernel_rfl) (e.mpr h)

def F_intern_Store_Len (v0_s : Option Addr) (K : Int → World → Prop) (w0 : World) : Prop :=
gd v0_s.isNone (
K (0 : Int) w0) (
nonNil v0_s fun p1 =>
∃ x2 : Sl, At w0 (p1.add 1) (cells .slice x2) ∧
K (x2.len : Int) w0)
theorem S_intern_Store_Len (v0_s : Option Addr) (K : Int → World → Prop) (w0 : World) (h : F_intern_Store_Len v0_s K w0) : C_intern_Store_Len v0_s K w0 := by
  have e : denFn P [] Tryz.f16 #[.pointer v0_s] (.int .i64) K w0 = F_intern_Store_Len v0_s K w0 := by kernel_rfl
  exact fn_sound mixed (f := 16) Tryz.func16 (by kernel_rfl) (e.mpr h)

def F_intern_Store_Rule (v0_s : Option Addr) (v1_id : Int) (K : (yapi_Rule.T × Value) → World → Prop) (w0 : World) : Prop :=
allocK (.cells #[.int .i64 (0 : Int), .int .u8 (0 : Int), .int .i64 (0 : Int), .int .i64 (0 : Int), .int .i64 (0 : Int)] t_api_Rule) w0 fun a1 w1 =>
gd v0_s.isNone (
stK w1 a1 ([.int .i64 (0 : Int), .int .u8 (0 : Int), .int .i64 (0 : Int), .int .i64 (0 : Int), .int .i64 (0 : Int)]) fun w2 =>
∃ x2 : yapi_Rule.T, At w2 a1 (cells yapi_Rule x2) ∧
K (x2, .iface t_api_Errno (.int .i64 (5 : Int))) w2) (
JoinP (X := Bool × Unit) (fun R4 =>
gd (v1_id == (0 : Int)) (
R4 (true, ()) w1) (
C_intern_Store_known v0_s v1_id (fun x5 w4 =>
R4 (!x5, ()) w4) w1)) (fun x3 w3 => ∀ _ : Env,
gd x3.1 (
stK w3 a1 ([.int .i64 (0 : Int), .int .u8 (0 : Int), .int .i64 (0 : Int), .int .i64 (0 : Int), .int .i64 (0 : Int)]) fun w5 =>
∃ x6 : yapi_Rule.T, At w5 a1 (cells yapi_Rule x6) ∧
K (x6, .iface t_api_Errno (.int .i64 (1 : Int))) w5) (
nonNil v0_s fun p7 =>
∃ x8 : Sl, At w3 (p7.add 1) (cells .slice x8) ∧
arith .i64 (v1_id - (1 : Int)) fun n9 =>
idxK x8.a x8.len n9 13 fun p10 =>
∃ x11 : yapi_Rule.T, At w3 (p10.add 0) (cells yapi_Rule x11) ∧
stK w3 a1 (cells yapi_Rule x11) fun w6 =>
∃ x12 : yapi_Rule.T, At w6 a1 (cells yapi_Rule x12) ∧
K (x12, .nilIface) w6)))
theorem S_intern_Store_Rule (v0_s : Option Addr) (v1_id : Int) (K : (yapi_Rule.T × Value) → World → Prop) (w0 : World) (h : F_intern_Store_Rule v0_s v1_id K w0) : C_intern_Store_Rule v0_s v1_id K w0 := by
  have e : denFn P [(4, [(17, .bool)])] Tryz.f17 #[.pointer v0_s, .int .i64 v1_id] (.tup (.pair yapi_Rule .iface)) K w0 = F_intern_Store_Rule v0_s v1_id K w0 := by kernel_rfl
  exact fn_sound mixed (f := 17) Tryz.func17 (by kernel_rfl) (e.mpr h)

def F_history_Graph_Get (v0_g : Option Addr) (v1_n : Int) (K : (yapi_Commit.T × Value) → World → Prop) (w0 : World) : Prop :=
allocK (.cells #[.slice none 0 0, .int .i64 (0 : Int), .string (⟨#[]⟩ : ByteArray)] t_api_Commit) w0 fun a1 w1 =>
gd v0_g.isNone (
stK w1 a1 ([.slice none 0 0, .int .i64 (0 : Int), .string (⟨#[]⟩ : ByteArray)]) fun w2 =>
∃ x2 : yapi_Commit.T, At w2 a1 (cells yapi_Commit x2) ∧
K (x2, .iface t_api_Errno (.int .i64 (5 : Int))) w2) (
C_history_Graph_has v0_g v1_n (fun x3 w3 =>
gd (!x3) (
stK w3 a1 ([.slice none 0 0, .int .i64 (0 : Int), .string (⟨#[]⟩ : ByteArray)]) fun w4 =>
∃ x4 : yapi_Commit.T, At w4 a1 (cells yapi_Commit x4) ∧
K (x4, .iface t_api_Errno (.int .i64 (1 : Int))) w4) (
nonNil v0_g fun p5 =>
∃ x6 : Sl, At w3 (p5.add 0) (cells .slice x6) ∧
idxK x6.a x6.len v1_n 3 fun p7 =>
∃ x8 : yapi_Commit.T, At w3 p7 (cells yapi_Commit x8) ∧
allocK (.cells #[.slice none 0 0, .int .i64 (0 : Int), .string (⟨#[]⟩ : ByteArray)] t_api_Commit) w3 fun a9 w5 =>
stK w5 a9 (cells yapi_Commit x8) fun w6 =>
∃ x10 : Sl, At w6 (a9.add 0) (cells .slice x10) ∧
C_slices_Clone x10 (fun x11 w7 =>
stK w7 (a9.add 0) ([.slice x11.a x11.len x11.cap]) fun w8 =>
∃ x12 : yapi_Commit.T, At w8 a9 (cells yapi_Commit x12) ∧
stK w8 a1 (cells yapi_Commit x12) fun w9 =>
∃ x13 : yapi_Commit.T, At w9 a1 (cells yapi_Commit x13) ∧
K (x13, .nilIface) w9) w6)) w1)
theorem S_history_Graph_Get (v0_g : Option Addr) (v1_n : Int) (K : (yapi_Commit.T × Value) → World → Prop) (w0 : World) (h : F_history_Graph_Get v0_g v1_n K w0) : C_history_Graph_Get v0_g v1_n K w0 := by
  have e : denFn P [] Tryz.f18 #[.pointer v0_g, .int .i64 v1_n] (.tup (.pair yapi_Commit .iface)) K w0 = F_history_Graph_Get v0_g v1_n K w0 := by kernel_rfl
  exact fn_sound mixed (f := 18) Tryz.func18 (by kernel_rfl) (e.mpr h)

def F_law51_name (v0_i : Int) (K : ByteArray → World → Prop) (w0 : World) : Prop :=
(10 : Int) ≠ 0 ∧
arith .i64 (Int.tdiv v0_i (10 : Int)) fun n1 =>
(10 : Int) ≠ 0 ∧
letZ (Int.tmod n1 (10 : Int)) fun n2 =>
arith .u8 (n2) fun n3 =>
arith .u8 ((48 : Int) + n3) fun n4 =>
(10 : Int) ≠ 0 ∧
letZ (Int.tmod v0_i (10 : Int)) fun n5 =>
arith .u8 (n5) fun n6 =>
arith .u8 ((48 : Int) + n6) fun n7 =>
allocK (.cells #[.int .u8 n4, .int .u8 n7] t_uint8) w0 fun a8 w1 =>
runK P .str (convert t_sl_uint8 t_string (.slice (some a8) 2 2)) w1 fun x9 w2 =>
(((⟨#[110]⟩ : ByteArray).size + x9.size : Nat) : Int) ≤ 9223372036854775807 ∧
K ((⟨#[110]⟩ : ByteArray) ++ x9) w2
theorem S_law51_name (v0_i : Int) (K : ByteArray → World → Prop) (w0 : World) (h : F_law51_name v0_i K w0) : C_law51_name v0_i K w0 := by
  have e : denFn P [] Tryz.f19 #[.int .i64 v0_i] .str K w0 = F_law51_name v0_i K w0 := by kernel_rfl
  exact fn_sound mixed (f := 19) Tryz.func19 (by kernel_rfl) (e.mpr h)

def F_base_Ints (v0_a : Sl) (v1_b : Sl) (K : Bool → World → Prop) (w0 : World) : Prop :=
gd ((v0_a.len : Int) != (v1_b.len : Int)) (
K false w0) (
LoopP (X := Int × Unit) ((0 : Int), ()) w0 fun next2 x1 w1 => ∀ _ : Env,
gd (decide (x1.1 < (v0_a.len : Int))) (
drawK w1 fun w2 =>
idxK v0_a.a v0_a.len x1.1 1 fun p3 =>
∃ x4 : Int, At w2 p3 (cells (.int .i64) x4) ∧
idxK v1_b.a v1_b.len x1.1 1 fun p5 =>
∃ x6 : Int, At w2 p5 (cells (.int .i64) x6) ∧
gd (x4 != x6) (
K false w2) (
arith .i64 (x1.1 + (1 : Int)) fun n7 =>
next2 (n7, ()) w2)) (
K true w1))
theorem S_base_Ints (v0_a : Sl) (v1_b : Sl) (K : Bool → World → Prop) (w0 : World) (h : F_base_Ints v0_a v1_b K w0) : C_base_Ints v0_a v1_b K w0 := by
  have e : denFn P [(1004, [(5, .int .i64)])] Tryz.f20 #[.slice v0_a.a v0_a.len v0_a.cap, .slice v1_b.a v1_b.len v1_b.cap] .bool K w0 = F_base_Ints v0_a v1_b K w0 := by kernel_rfl
  exact fn_sound mixed (f := 20) Tryz.func20 (by kernel_rfl) (e.mpr h)

def F_refs_Table_Names (v0_t : Option Addr) (K : Sl → World → Prop) (w0 : World) : Prop :=
gd v0_t.isNone (
K (⟨none, 0, 0⟩) w0) (
nonNil v0_t fun p1 =>
∃ x2 : Option Nat, At w0 (p1.add 0) (cells .map x2) ∧
runK P .addr (Instr.range t_map_string_refs_target (.map x2)) w0 fun a3 w1 =>
LoopP (X := Sl × Unit) (⟨none, 0, 0⟩, ()) w1 fun next5 x4 w2 => ∀ _ : Env,
∃ (b6 : Bool) (vs7 : List Value) (w3 : World), (Instr.next (.pointer (some a3)) false t_).run P w2 = .ok (.tuple (Value.bool b6 :: vs7).toArray) w3 ∧
gd b6 (
∃ (k8 : ByteArray) (v9 : yrefs_target.T) (w4 : World), (Instr.entry (.pointer (some a3))).run P w3 = .ok (.tuple #[.string k8, val yrefs_target v9]) w4 ∧
allocK (.cells #[.string k8] t_string) w4 fun a10 w5 =>
appK t_string 1 16 #[.string (⟨#[]⟩ : ByteArray)] x4.1.a x4.1.len x4.1.cap (.slice (some a10) 1 1) 1 w5 fun s11 w6 =>
next5 (s11, ()) w6) (
C_slices_SortS x4.1 (fun x12 w7 =>
K x4.1 w7) w3))
abbrev ent_refs_Table_Names : EntTys := ⟨fun o => match o.dst with
  | some 14 => some (.str, yrefs_target)
  | _ => none⟩
theorem S_refs_Table_Names (v0_t : Option Addr) (K : Sl → World → Prop) (w0 : World) (h : F_refs_Table_Names v0_t K w0) : C_refs_Table_Names v0_t K w0 := by
  have e : @denFn ent_refs_Table_Names P [(1005, [(3, .slice)])] Tryz.f21 #[.pointer v0_t] .slice K w0 = F_refs_Table_Names v0_t K w0 := by kernel_rfl
  exact @fn_sound ent_refs_Table_Names _ mixed _ 21 _ _ _ _ _ Tryz.func21 (by kernel_rfl) (e.mpr h)

def F_history_Graph_Len (v0_g : Option Addr) (K : Int → World → Prop) (w0 : World) : Prop :=
gd v0_g.isNone (
K (0 : Int) w0) (
nonNil v0_g fun p1 =>
∃ x2 : Sl, At w0 (p1.add 0) (cells .slice x2) ∧
K (x2.len : Int) w0)
theorem S_history_Graph_Len (v0_g : Option Addr) (K : Int → World → Prop) (w0 : World) (h : F_history_Graph_Len v0_g K w0) : C_history_Graph_Len v0_g K w0 := by
  have e : denFn P [] Tryz.f22 #[.pointer v0_g] (.int .i64) K w0 = F_history_Graph_Len v0_g K w0 := by kernel_rfl
  exact fn_sound mixed (f := 22) Tryz.func22 (by kernel_rfl) (e.mpr h)

def F_refs_Table_Get (v0_t : Option Addr) (v1_name : ByteArray) (K : (Int × Bool × Value) → World → Prop) (w0 : World) : Prop :=
gd v0_t.isNone (
K ((0 : Int), false, .iface t_api_Errno (.int .i64 (5 : Int))) w0) (
C_refs_Valid v1_name (fun x1 w1 =>
gd (!x1) (
K ((0 : Int), false, .iface t_api_Errno (.int .i64 (13 : Int))) w1) (
nonNil v0_t fun p2 =>
∃ x3 : Option Nat, At w1 (p2.add 0) (cells .map x3) ∧
∃ (x4 : yrefs_target.T) (b5 : Bool), Lk2 P t_map_string_refs_target yrefs_target (.map x3) (.string v1_name) x4 b5 w1 ∧
allocK (.cells #[.int .i64 (0 : Int), .bool false] t_refs_target) w1 fun a6 w2 =>
stK w2 a6 (cells yrefs_target x4) fun w3 =>
gd (!b5) (
K ((0 : Int), false, .iface t_api_Errno (.int .i64 (5 : Int))) w3) (
drawK w3 fun w4 =>
∃ x7 : Int, At w4 (a6.add 0) (cells (.int .i64) x7) ∧
∃ x8 : Bool, At w4 (a6.add 1) (cells .bool x8) ∧
K (x7, x8, .nilIface) w4))) w0)
theorem S_refs_Table_Get (v0_t : Option Addr) (v1_name : ByteArray) (K : (Int × Bool × Value) → World → Prop) (w0 : World) (h : F_refs_Table_Get v0_t v1_name K w0) : C_refs_Table_Get v0_t v1_name K w0 := by
  have e : denFn P [] Tryz.f23 #[.pointer v0_t, .string v1_name] (.tup (.pair (.int .i64) (.pair .bool .iface))) K w0 = F_refs_Table_Get v0_t v1_name K w0 := by kernel_rfl
  exact fn_sound mixed (f := 23) Tryz.func23 (by kernel_rfl) (e.mpr h)

def F_compact_Saved (v0_s : Option Addr) (v1_g : Option Addr) (v2_r : Option Addr) (K : (ycompact_Report.T × Value) → World → Prop) (w0 : World) : Prop :=
allocK (.cells #[.int .i64 (0 : Int), .int .i64 (0 : Int), .int .i64 (0 : Int), .int .i64 (0 : Int)] t_compact_Report) w0 fun a1 w1 =>
C_compact_texts v0_s v1_g v2_r (fun x2 w2 =>
nilIfcK x2.2.2 fun b3 =>
gd (!b3) (
stK w2 a1 ([.int .i64 (0 : Int), .int .i64 (0 : Int), .int .i64 (0 : Int), .int .i64 (0 : Int)]) fun w3 =>
∃ x4 : ycompact_Report.T, At w3 a1 (cells ycompact_Report x4) ∧
K (x4, x2.2.2) w3) (
C_collect_Reach v0_s x2.2.1 (fun x5 w4 =>
nilIfcK x5.2 fun b6 =>
gd (!b6) (
stK w4 a1 ([.int .i64 (0 : Int), .int .i64 (0 : Int), .int .i64 (0 : Int), .int .i64 (0 : Int)]) fun w5 =>
∃ x7 : ycompact_Report.T, At w5 a1 (cells ycompact_Report x7) ∧
K (x7, x5.2) w5) (
C_history_Graph_Len v1_g (fun x8 w6 =>
C_intern_Store_Len v0_s (fun x9 w7 =>
stK w7 a1 ([.int .i64 x8, .int .i64 x9, .int .i64 (x2.1.len : Int), .int .i64 (x5.1.len : Int)]) fun w8 =>
∃ x10 : ycompact_Report.T, At w8 a1 (cells ycompact_Report x10) ∧
K (x10, .nilIface) w8) w6) w4)) w2)) w1
theorem S_compact_Saved (v0_s : Option Addr) (v1_g : Option Addr) (v2_r : Option Addr) (K : (ycompact_Report.T × Value) → World → Prop) (w0 : World) (h : F_compact_Saved v0_s v1_g v2_r K w0) : C_compact_Saved v0_s v1_g v2_r K w0 := by
  have e : denFn P [] Tryz.f24 #[.pointer v0_s, .pointer v1_g, .pointer v2_r] (.tup (.pair ycompact_Report .iface)) K w0 = F_compact_Saved v0_s v1_g v2_r K w0 := by kernel_rfl
  exact fn_sound mixed (f := 24) Tryz.func24 (by kernel_rfl) (e.mpr h)

end Go.Proofs.YtnmgjpcooncjlaaGreat
