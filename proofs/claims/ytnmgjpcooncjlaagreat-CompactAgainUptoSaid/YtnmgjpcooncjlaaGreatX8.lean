/- Texts that belong together, joined: Text8. No conditions. -/
import Derived.Test.YtnmgjpcooncjlaaGreatX0
/- The typed texts of the functions, printed by a program; each proved to imply the call. -/
set_option linter.unusedVariables false
set_option maxRecDepth 100000
set_option maxHeartbeats 4000000
namespace Go.Proofs.YtnmgjpcooncjlaaGreat
open Go.Den

def F_refs_Table_Move (v0_t : Option Addr) (v1_to : Sl) (K : ((Option Addr) × Value) → World → Prop) (w0 : World) : Prop :=
gd v0_t.isNone (
K (none, .iface t_api_Errno (.int .i64 (5 : Int))) w0) (
C_refs_New  (fun x1 w1 =>
nonNil v0_t fun p2 =>
∃ x3 : Option Nat, At w1 (p2.add 0) (cells .map x3) ∧
runK P .addr (Instr.range t_map_string_refs_target (.map x3)) w1 fun a4 w2 =>
LoopP (X := Unit) () w2 fun next6 x5 w3 => ∀ _ : Env,
∃ (b7 : Bool) (vs8 : List Value) (w4 : World), (Instr.next (.pointer (some a4)) false t_).run P w3 = .ok (.tuple (Value.bool b7 :: vs8).toArray) w4 ∧
gd b7 (
∃ (k9 : ByteArray) (v10 : yrefs_target.T) (w5 : World), (Instr.entry (.pointer (some a4))).run P w4 = .ok (.tuple #[.string k9, val yrefs_target v10]) w5 ∧
allocK (.cells #[.int .i64 (0 : Int), .bool false] t_refs_target) w5 fun a11 w6 =>
stK w6 a11 (cells yrefs_target v10) fun w7 =>
JoinP (X := Bool × Unit) (fun R13 =>
∃ x14 : Int, At w7 (a11.add 0) (cells (.int .i64) x14) ∧
gd (decide ((v1_to.len : Int) ≤ x14)) (
R13 (true, ()) w7) (
∃ x15 : Int, At w7 (a11.add 0) (cells (.int .i64) x15) ∧
idxK v1_to.a v1_to.len x15 1 fun p16 =>
∃ x17 : Int, At w7 p16 (cells (.int .i64) x17) ∧
R13 (decide (x17 < (0 : Int)), ()) w7)) (fun x12 w8 => ∀ _ : Env,
gd x12.1 (
K (none, .iface t_api_Errno (.int .i64 (1 : Int))) w8) (
drawK w8 fun w9 =>
nonNil x1 fun p18 =>
∃ x19 : Option Nat, At w9 (p18.add 0) (cells .map x19) ∧
∃ x20 : Int, At w9 (a11.add 0) (cells (.int .i64) x20) ∧
idxK v1_to.a v1_to.len x20 1 fun p21 =>
∃ x22 : Int, At w9 p21 (cells (.int .i64) x22) ∧
∃ x23 : Bool, At w9 (a11.add 1) (cells .bool x23) ∧
runU P (Instr.mapUpdate t_map_string_refs_target (.map x19) (.string k9) (.agg #[.int .i64 x22, .bool x23])) w9 fun w10 =>
next6 () w10))) (
K (x1, .nilIface) w4)) w0)
abbrev ent_refs_Table_Move : EntTys := ⟨fun o => match o.dst with
  | some 20 => some (.str, yrefs_target)
  | _ => none⟩
theorem S_refs_Table_Move (v0_t : Option Addr) (v1_to : Sl) (K : ((Option Addr) × Value) → World → Prop) (w0 : World) (h : F_refs_Table_Move v0_t v1_to K w0) : C_refs_Table_Move v0_t v1_to K w0 := by
  have e : @denFn ent_refs_Table_Move P [(1005, []), (8, [(35, .bool)])] Tryz.f50 #[.pointer v0_t, .slice v1_to.a v1_to.len v1_to.cap] (.tup (.pair .ptr .iface)) K w0 = F_refs_Table_Move v0_t v1_to K w0 := by kernel_rfl
  exact @fn_sound ent_refs_Table_Move _ mixed _ 50 _ _ _ _ _ Tryz.func50 (by kernel_rfl) (e.mpr h)

def F_intern_Store_known (v0_s : Option Addr) (v1_id : Int) (K : Bool → World → Prop) (w0 : World) : Prop :=
gd (decide ((0 : Int) ≤ v1_id)) (
nonNil v0_s fun p1 =>
∃ x2 : Sl, At w0 (p1.add 1) (cells .slice x2) ∧
K (decide (v1_id ≤ (x2.len : Int))) w0) (
K false w0)
theorem S_intern_Store_known (v0_s : Option Addr) (v1_id : Int) (K : Bool → World → Prop) (w0 : World) (h : F_intern_Store_known v0_s v1_id K w0) : C_intern_Store_known v0_s v1_id K w0 := by
  have e : denFn P [] Tryz.f51 #[.pointer v0_s, .int .i64 v1_id] .bool K w0 = F_intern_Store_known v0_s v1_id K w0 := by kernel_rfl
  exact fn_sound mixed (f := 51) Tryz.func51 (by kernel_rfl) (e.mpr h)

def F_history_Graph_has (v0_g : Option Addr) (v1_n : Int) (K : Bool → World → Prop) (w0 : World) : Prop :=
gd (decide ((0 : Int) ≤ v1_n)) (
nonNil v0_g fun p1 =>
∃ x2 : Sl, At w0 (p1.add 0) (cells .slice x2) ∧
K (decide (v1_n < (x2.len : Int))) w0) (
K false w0)
theorem S_history_Graph_has (v0_g : Option Addr) (v1_n : Int) (K : Bool → World → Prop) (w0 : World) (h : F_history_Graph_has v0_g v1_n K w0) : C_history_Graph_has v0_g v1_n K w0 := by
  have e : denFn P [] Tryz.f52 #[.pointer v0_g, .int .i64 v1_n] .bool K w0 = F_history_Graph_has v0_g v1_n K w0 := by kernel_rfl
  exact fn_sound mixed (f := 52) Tryz.func52 (by kernel_rfl) (e.mpr h)

def F_slices_Clone (v0_s : Sl) (K : Sl → World → Prop) (w0 : World) : Prop :=
gd v0_s.a.isNone (
K (⟨none, 0, 0⟩) w0) (
allocK (.cells #[] t_int) w0 fun a1 w1 =>
appK t_int 1 8 #[.int .i64 (0 : Int)] (some a1) 0 0 (.slice v0_s.a v0_s.len v0_s.cap) v0_s.len w1 fun s2 w2 =>
K s2 w2)
theorem S_slices_Clone (v0_s : Sl) (K : Sl → World → Prop) (w0 : World) (h : F_slices_Clone v0_s K w0) : C_slices_Clone v0_s K w0 := by
  have e : denFn P [] Tryz.f53 #[.slice v0_s.a v0_s.len v0_s.cap] .slice K w0 = F_slices_Clone v0_s K w0 := by kernel_rfl
  exact fn_sound mixed (f := 53) Tryz.func53 (by kernel_rfl) (e.mpr h)

def F_refs_Valid (v0_name : ByteArray) (K : Bool → World → Prop) (w0 : World) : Prop :=
JoinP (X := Bool × Unit) (fun R2 =>
gd (decide ((v0_name.size : Int) < (1 : Int))) (
R2 (true, ()) w0) (
R2 (decide ((32 : Int) < (v0_name.size : Int)), ()) w0)) (fun x1 w1 => ∀ _ : Env,
gd x1.1 (
K false w1) (
LoopP (X := Int × Unit) ((0 : Int), ()) w1 fun next4 x3 w2 => ∀ _ : Env,
gd (decide (x3.1 < (v0_name.size : Int))) (
JoinP (X := Unit) (fun R6 =>
0 ≤ x3.1 ∧ ∃ hx : x3.1.toNat < v0_name.size,
JoinP (X := Bool × Unit) (fun R8 =>
gd (decide ((97 : Int) ≤ ((v0_name[x3.1.toNat]).toNat : Int))) (
R8 (decide (((v0_name[x3.1.toNat]).toNat : Int) ≤ (122 : Int)), ()) w2) (
R8 (false, ()) w2)) (fun x7 w4 => ∀ _ : Env,
gd x7.1 (
R6 () w4) (
JoinP (X := Bool × Unit) (fun R10 =>
gd (decide ((0 : Int) < x3.1)) (
gd (decide ((48 : Int) ≤ ((v0_name[x3.1.toNat]).toNat : Int))) (
gd (decide (((v0_name[x3.1.toNat]).toNat : Int) ≤ (57 : Int))) (
R10 (true, ()) w4) (
R10 (((v0_name[x3.1.toNat]).toNat : Int) == (45 : Int), ()) w4)) (
R10 (((v0_name[x3.1.toNat]).toNat : Int) == (45 : Int), ()) w4)) (
R10 (false, ()) w4)) (fun x9 w5 => ∀ _ : Env,
gd x9.1 (
R6 () w5) (
K false w5))))) (fun x5 w3 => ∀ _ : Env,
arith .i64 (x3.1 + (1 : Int)) fun n11 =>
next4 (n11, ()) w3)) (
K true w2)))
theorem S_refs_Valid (v0_name : ByteArray) (K : Bool → World → Prop) (w0 : World) (h : F_refs_Valid v0_name K w0) : C_refs_Valid v0_name K w0 := by
  have e : denFn P [(2, [(12, .bool)]), (1004, [(15, .int .i64)]), (10, []), (9, [(21, .bool)]), (7, [(28, .bool)])] Tryz.f55 #[.string v0_name] .bool K w0 = F_refs_Valid v0_name K w0 := by kernel_rfl
  exact fn_sound mixed (f := 55) Tryz.func55 (by kernel_rfl) (e.mpr h)

def F_collect_Reach (v0_s : Option Addr) (v1_roots : Sl) (K : (Sl × Value) → World → Prop) (w0 : World) : Prop :=
gd v0_s.isNone (
K (⟨none, 0, 0⟩, .iface t_api_Errno (.int .i64 (5 : Int))) w0) (
allocK (.cells #[.slice none 0 0] t_sl_api_ID) w0 fun a1 w1 =>
allocK (.map #[] 0) w1 fun a2 w2 =>
runU P (Instr.mapUpdate t_map_api_ID_bool (.map (some a2.block)) (.int .i64 (0 : Int)) (.bool true)) w2 fun w3 =>
allocK (.cells #[.map none] t_map_api_ID_bool) w3 fun a3 w4 =>
stK w4 a3 ([.map (some a2.block)]) fun w5 =>
LoopP (X := Int × Unit) ((0 : Int), ()) w5 fun next5 x4 w6 => ∀ _ : Env,
gd (decide (x4.1 < (v1_roots.len : Int))) (
idxK v1_roots.a v1_roots.len x4.1 1 fun p6 =>
∃ x7 : Int, At w6 p6 (cells (.int .i64) x7) ∧
C_collect_known v0_s x7 (fun x8 w7 =>
gd (!x8) (
K (⟨none, 0, 0⟩, .iface t_api_Errno (.int .i64 (1 : Int))) w7) (
C_collect_Reach_1 x7 a3 a1 (fun x9 w8 =>
arith .i64 (x4.1 + (1 : Int)) fun n10 =>
next5 (n10, ()) w8) w7)) w6) (
LoopP (X := Int × Unit) ((0 : Int), ()) w6 fun next12 x11 w9 => ∀ _ : Env,
∃ x13 : Sl, At w9 a1 (cells .slice x13) ∧
gd (decide (x11.1 < (x13.len : Int))) (
∃ x14 : Sl, At w9 a1 (cells .slice x14) ∧
idxK x14.a x14.len x11.1 1 fun p15 =>
∃ x16 : Int, At w9 p15 (cells (.int .i64) x16) ∧
C_intern_Store_Rule v0_s x16 (fun x17 w10 =>
allocK (.cells #[.int .i64 (0 : Int), .int .u8 (0 : Int), .int .i64 (0 : Int), .int .i64 (0 : Int), .int .i64 (0 : Int)] t_api_Rule) w10 fun a18 w11 =>
stK w11 a18 (cells yapi_Rule x17.1) fun w12 =>
nilIfcK x17.2 fun b19 =>
gd (!b19) (
K (⟨none, 0, 0⟩, x17.2) w12) (
∃ x20 : yapi_Rule.T, At w12 a18 (cells yapi_Rule x20) ∧
C_rule_Refs x20 (fun x21 w13 =>
LoopP (X := Int × Unit) ((0 : Int), ()) w13 fun next23 x22 w14 => ∀ _ : Env,
gd (decide (x22.1 < (x21.len : Int))) (
idxK x21.a x21.len x22.1 1 fun p24 =>
∃ x25 : Int, At w14 p24 (cells (.int .i64) x25) ∧
C_collect_Reach_1 x25 a3 a1 (fun x26 w15 =>
arith .i64 (x22.1 + (1 : Int)) fun n27 =>
next23 (n27, ()) w15) w14) (
arith .i64 (x11.1 + (1 : Int)) fun n28 =>
next12 (n28, ()) w14)) w12)) w9) (
∃ x29 : Sl, At w9 a1 (cells .slice x29) ∧
C_slices_Sort x29 (fun x30 w16 =>
∃ x31 : Sl, At w16 a1 (cells .slice x31) ∧
K (x31, .nilIface) w16) w9)))
theorem S_collect_Reach (v0_s : Option Addr) (v1_roots : Sl) (K : (Sl × Value) → World → Prop) (w0 : World) (h : F_collect_Reach v0_s v1_roots K w0) : C_collect_Reach v0_s v1_roots K w0 := by
  have e : denFn P [(1007, [(24, .int .i64)]), (1014, [(11, .int .i64)]), (1020, [(58, .int .i64)])] Tryz.f56 #[.pointer v0_s, .slice v1_roots.a v1_roots.len v1_roots.cap] (.tup (.pair .slice .iface)) K w0 = F_collect_Reach v0_s v1_roots K w0 := by kernel_rfl
  exact fn_sound mixed (f := 56) Tryz.func56 (by kernel_rfl) (e.mpr h)

def F_base_Num (v0_e : Value) (K : Int → World → Prop) (w0 : World) : Prop :=
nilIfcK v0_e fun b1 =>
gd b1 (
K (0 : Int) w0) (
assertK t_api_Errno (.int .i64) (0 : Int) v0_e fun y2 b3 =>
gd (!b3) (
K (-1 : Int) w0) (
K y2 w0))
theorem S_base_Num (v0_e : Value) (K : Int → World → Prop) (w0 : World) (h : F_base_Num v0_e K w0) : C_base_Num v0_e K w0 := by
  have e : denFn P [] Tryz.f57 #[v0_e] (.int .i64) K w0 = F_base_Num v0_e K w0 := by kernel_rfl
  exact fn_sound mixed (f := 57) Tryz.func57 (by kernel_rfl) (e.mpr h)

def F_slices_Contains (v0_s : Sl) (v1_v : Int) (K : Bool → World → Prop) (w0 : World) : Prop :=
C_slices_Index v0_s v1_v (fun x1 w1 =>
K (decide ((0 : Int) ≤ x1)) w1) w0
theorem S_slices_Contains (v0_s : Sl) (v1_v : Int) (K : Bool → World → Prop) (w0 : World) (h : F_slices_Contains v0_s v1_v K w0) : C_slices_Contains v0_s v1_v K w0 := by
  have e : denFn P [] Tryz.f58 #[.slice v0_s.a v0_s.len v0_s.cap, .int .i64 v1_v] .bool K w0 = F_slices_Contains v0_s v1_v K w0 := by kernel_rfl
  exact fn_sound mixed (f := 58) Tryz.func58 (by kernel_rfl) (e.mpr h)

def F_refs_Table_set (v0_t : Option Addr) (v1_name : ByteArray) (v2_to : yrefs_target.T) (K : Unit → World → Prop) (w0 : World) : Prop :=
allocK (.cells (cells yrefs_target v2_to).toArray t_refs_target) w0 fun a1 w1 =>
JoinP (X := Unit) (fun R3 =>
nonNil v0_t fun p4 =>
∃ x5 : Option Nat, At w1 (p4.add 0) (cells .map x5) ∧
gd x5.isNone (
allocK (.map #[] 0) w1 fun a6 w3 =>
nonNil v0_t fun p7 =>
stK w3 (p7.add 0) ([.map (some a6.block)]) fun w4 =>
R3 () w4) (
R3 () w1)) (fun x2 w2 => ∀ _ : Env,
drawK w2 fun w5 =>
nonNil v0_t fun p8 =>
∃ x9 : Option Nat, At w5 (p8.add 0) (cells .map x9) ∧
∃ x10 : yrefs_target.T, At w5 a1 (cells yrefs_target x10) ∧
runU P (Instr.mapUpdate t_map_string_refs_target (.map x9) (.string v1_name) (val yrefs_target x10)) w5 fun w6 =>
K () w6)
theorem S_refs_Table_set (v0_t : Option Addr) (v1_name : ByteArray) (v2_to : yrefs_target.T) (K : Unit → World → Prop) (w0 : World) (h : F_refs_Table_set v0_t v1_name v2_to K w0) : C_refs_Table_set v0_t v1_name v2_to K w0 := by
  have e : denFn P [(3, [])] Tryz.f59 #[.pointer v0_t, .string v1_name, val yrefs_target v2_to] (.tup .unit) K w0 = F_refs_Table_set v0_t v1_name v2_to K w0 := by kernel_rfl
  exact fn_sound mixed (f := 59) Tryz.func59 (by kernel_rfl) (e.mpr h)

def F_refs_Table_Targets (v0_t : Option Addr) (K : Sl → World → Prop) (w0 : World) : Prop :=
gd v0_t.isNone (
K (⟨none, 0, 0⟩) w0) (
nonNil v0_t fun p1 =>
∃ x2 : Option Nat, At w0 (p1.add 0) (cells .map x2) ∧
runK P .addr (Instr.range t_map_string_refs_target (.map x2)) w0 fun a3 w1 =>
LoopP (X := Sl × Unit) (⟨none, 0, 0⟩, ()) w1 fun next5 x4 w2 => ∀ _ : Env,
∃ (b6 : Bool) (vs7 : List Value) (w3 : World), (Instr.next (.pointer (some a3)) false t_).run P w2 = .ok (.tuple (Value.bool b6 :: vs7).toArray) w3 ∧
gd b6 (
∃ (k8 : ByteArray) (v9 : yrefs_target.T) (w4 : World), (Instr.entry (.pointer (some a3))).run P w3 = .ok (.tuple #[.string k8, val yrefs_target v9]) w4 ∧
allocK (.cells #[.int .i64 (0 : Int), .bool false] t_refs_target) w4 fun a10 w5 =>
stK w5 a10 (cells yrefs_target v9) fun w6 =>
∃ x11 : Int, At w6 (a10.add 0) (cells (.int .i64) x11) ∧
allocK (.cells #[.int .i64 x11] t_int) w6 fun a12 w7 =>
appK t_int 1 8 #[.int .i64 (0 : Int)] x4.1.a x4.1.len x4.1.cap (.slice (some a12) 1 1) 1 w7 fun s13 w8 =>
next5 (s13, ()) w8) (
C_slices_SortI x4.1 (fun x14 w9 =>
C_slices_Compact x4.1 (fun x15 w10 =>
K x15 w10) w9) w3))
abbrev ent_refs_Table_Targets : EntTys := ⟨fun o => match o.dst with
  | some 15 => some (.str, yrefs_target)
  | _ => none⟩
theorem S_refs_Table_Targets (v0_t : Option Addr) (K : Sl → World → Prop) (w0 : World) (h : F_refs_Table_Targets v0_t K w0) : C_refs_Table_Targets v0_t K w0 := by
  have e : @denFn ent_refs_Table_Targets P [(1005, [(3, .slice)])] Tryz.f60 #[.pointer v0_t] .slice K w0 = F_refs_Table_Targets v0_t K w0 := by kernel_rfl
  exact @fn_sound ent_refs_Table_Targets _ mixed _ 60 _ _ _ _ _ Tryz.func60 (by kernel_rfl) (e.mpr h)

def F_slices_Reverse (v0_s : Sl) (K : Unit → World → Prop) (w0 : World) : Prop :=
arith .i64 ((v0_s.len : Int) - (1 : Int)) fun n1 =>
LoopP (X := Int × Int × Unit) ((0 : Int), n1, ()) w0 fun next3 x2 w1 => ∀ _ : Env,
gd (decide (x2.1 < x2.2.1)) (
drawK w1 fun w2 =>
idxK v0_s.a v0_s.len x2.2.1 1 fun p4 =>
∃ x5 : Int, At w2 p4 (cells (.int .i64) x5) ∧
idxK v0_s.a v0_s.len x2.1 1 fun p6 =>
∃ x7 : Int, At w2 p6 (cells (.int .i64) x7) ∧
idxK v0_s.a v0_s.len x2.1 1 fun p8 =>
stK w2 p8 ([.int .i64 x5]) fun w3 =>
idxK v0_s.a v0_s.len x2.2.1 1 fun p9 =>
stK w3 p9 ([.int .i64 x7]) fun w4 =>
arith .i64 (x2.1 + (1 : Int)) fun n10 =>
arith .i64 (x2.2.1 - (1 : Int)) fun n11 =>
next3 (n10, n11, ()) w4) (
K () w1)
theorem S_slices_Reverse (v0_s : Sl) (K : Unit → World → Prop) (w0 : World) (h : F_slices_Reverse v0_s K w0) : C_slices_Reverse v0_s K w0 := by
  have e : denFn P [(1001, [(2, .int .i64), (3, .int .i64)])] Tryz.f61 #[.slice v0_s.a v0_s.len v0_s.cap] (.tup .unit) K w0 = F_slices_Reverse v0_s K w0 := by kernel_rfl
  exact fn_sound mixed (f := 61) Tryz.func61 (by kernel_rfl) (e.mpr h)

end Go.Proofs.YtnmgjpcooncjlaaGreat
