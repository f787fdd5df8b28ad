/- Texts that belong together, joined: Text6. No conditions. -/
import Derived.Test.YtnmgjpcooncjlaaGreatX0
/- The typed texts of the functions, printed by a program; each proved to imply the call. -/
set_option linter.unusedVariables false
set_option maxRecDepth 100000
set_option maxHeartbeats 4000000
namespace Go.Proofs.YtnmgjpcooncjlaaGreat
open Go.Den

def F_law51_alike (v0_s : Option Addr) (v1_a : Int) (v2_x : Option Addr) (v3_b : Int) (K : Bool → World → Prop) (w0 : World) : Prop :=
C_intern_Store_Weight v0_s v1_a (fun x1 w1 =>
allocK (.cells #[.int .i64 (0 : Int), .int .i64 (0 : Int), .int .i64 (0 : Int), .int .i64 (0 : Int), .int .u64 (0 : Int), .int .u64 (0 : Int)] t_api_Weight) w1 fun a2 w2 =>
stK w2 a2 (cells yapi_Weight x1.1) fun w3 =>
C_intern_Store_Weight v2_x v3_b (fun x3 w4 =>
allocK (.cells #[.int .i64 (0 : Int), .int .i64 (0 : Int), .int .i64 (0 : Int), .int .i64 (0 : Int), .int .u64 (0 : Int), .int .u64 (0 : Int)] t_api_Weight) w4 fun a4 w5 =>
stK w5 a4 (cells yapi_Weight x3.1) fun w6 =>
C_intern_Store_Export v0_s v1_a (fun x5 w7 =>
C_intern_Store_Export v2_x v3_b (fun x6 w8 =>
JoinP (X := Bool × Unit) (fun R8 =>
nilIfcK x1.2 fun b9 =>
gd (!b9) (
R8 (true, ()) w8) (
nilIfcK x3.2 fun b10 =>
gd (!b10) (
R8 (true, ()) w8) (
nilIfcK x5.2 fun b11 =>
gd (!b11) (
R8 (true, ()) w8) (
nilIfcK x6.2 fun b12 =>
gd (!b12) (
R8 (true, ()) w8) (
∃ x13 : yapi_Weight.T, At w8 a2 (cells yapi_Weight x13) ∧
∃ x14 : yapi_Weight.T, At w8 a4 (cells yapi_Weight x14) ∧
testK P (do eqGuard .neq t_api_Weight (.tmp 57) (.tmp 58) (val yapi_Weight x13) (val yapi_Weight x14); binOp .neq t_api_Weight (val yapi_Weight x13) (val yapi_Weight x14)) fun b15 =>
gd b15 (
R8 (true, ()) w8) (
R8 ((x5.1.len : Int) != (x6.1.len : Int), ()) w8)))))) (fun x7 w9 => ∀ _ : Env,
gd x7.1 (
K false w9) (
LoopP (X := Int × Unit) ((0 : Int), ()) w9 fun next17 x16 w10 => ∀ _ : Env,
gd (decide (x16.1 < (x5.1.len : Int))) (
drawK w10 fun w11 =>
idxK x5.1.a x5.1.len x16.1 5 fun p18 =>
∃ x19 : yapi_Rule.T, At w11 p18 (cells yapi_Rule x19) ∧
idxK x6.1.a x6.1.len x16.1 5 fun p20 =>
∃ x21 : yapi_Rule.T, At w11 p20 (cells yapi_Rule x21) ∧
testK P (do eqGuard .neq t_api_Rule (.tmp 76) (.tmp 80) (val yapi_Rule x19) (val yapi_Rule x21); binOp .neq t_api_Rule (val yapi_Rule x19) (val yapi_Rule x21)) fun b22 =>
gd b22 (
K false w11) (
arith .i64 (x16.1 + (1 : Int)) fun n23 =>
next17 (n23, ()) w11)) (
K true w10)))) w7) w6) w3) w0
theorem S_law51_alike (v0_s : Option Addr) (v1_a : Int) (v2_x : Option Addr) (v3_b : Int) (K : Bool → World → Prop) (w0 : World) (h : F_law51_alike v0_s v1_a v2_x v3_b K w0) : C_law51_alike v0_s v1_a v2_x v3_b K w0 := by
  have e : denFn P [(6, [(67, .bool)]), (1008, [(70, .int .i64)])] Tryz.f33 #[.pointer v0_s, .int .i64 v1_a, .pointer v2_x, .int .i64 v3_b] .bool K w0 = F_law51_alike v0_s v1_a v2_x v3_b K w0 := by kernel_rfl
  exact fn_sound mixed (f := 33) Tryz.func33 (by kernel_rfl) (e.mpr h)

def F_history_Graph_Before (v0_g : Option Addr) (v1_a : Int) (v2_b : Int) (K : (Bool × Value) → World → Prop) (w0 : World) : Prop :=
gd v0_g.isNone (
K (false, .iface t_api_Errno (.int .i64 (5 : Int))) w0) (
JoinP (X := Bool × Unit) (fun R2 =>
C_history_Graph_has v0_g v1_a (fun x3 w2 =>
gd (!x3) (
R2 (true, ()) w2) (
C_history_Graph_has v0_g v2_b (fun x4 w3 =>
R2 (!x4, ()) w3) w2)) w0) (fun x1 w1 => ∀ _ : Env,
gd x1.1 (
K (false, .iface t_api_Errno (.int .i64 (1 : Int))) w1) (
gd (decide (v2_b ≤ v1_a)) (
K (v1_a == v2_b, .nilIface) w1) (
C_history_Graph_ancestors v0_g v2_b (fun x5 w4 =>
idxK x5.a x5.len v1_a 1 fun p6 =>
∃ x7 : Bool, At w4 p6 (cells .bool x7) ∧
K (x7, .nilIface) w4) w1))))
theorem S_history_Graph_Before (v0_g : Option Addr) (v1_a : Int) (v2_b : Int) (K : (Bool × Value) → World → Prop) (w0 : World) (h : F_history_Graph_Before v0_g v1_a v2_b K w0) : C_history_Graph_Before v0_g v1_a v2_b K w0 := by
  have e : denFn P [(4, [(20, .bool)])] Tryz.f34 #[.pointer v0_g, .int .i64 v1_a, .int .i64 v2_b] (.tup (.pair .bool .iface)) K w0 = F_history_Graph_Before v0_g v1_a v2_b K w0 := by kernel_rfl
  exact fn_sound mixed (f := 34) Tryz.func34 (by kernel_rfl) (e.mpr h)

def F_intern_New (v0_most : Int) (K : (Option Addr) → World → Prop) (w0 : World) : Prop :=
C_length_Clip v0_most (0 : Int) (1048576 : Int) (fun x1 w1 =>
allocK (.map #[] 0) w1 fun a2 w2 =>
allocK (.cells ([.int .i64 x1, .slice none 0 0, .map (some a2.block)]).toArray t_intern_Store) w2 fun a3 w3 =>
K (some a3) w3) w0
theorem S_intern_New (v0_most : Int) (K : (Option Addr) → World → Prop) (w0 : World) (h : F_intern_New v0_most K w0) : C_intern_New v0_most K w0 := by
  have e : denFn P [] Tryz.f35 #[.int .i64 v0_most] .ptr K w0 = F_intern_New v0_most K w0 := by kernel_rfl
  exact fn_sound mixed (f := 35) Tryz.func35 (by kernel_rfl) (e.mpr h)

def F_history_New  (K : (Option Addr) → World → Prop) (w0 : World) : Prop :=
allocK (.cells ([.slice none 0 0]).toArray t_history_Graph) w0 fun a1 w1 =>
K (some a1) w1
theorem S_history_New  (K : (Option Addr) → World → Prop) (w0 : World) (h : F_history_New  K w0) : C_history_New  K w0 := by
  have e : denFn P [] Tryz.f36 #[] .ptr K w0 = F_history_New  K w0 := by kernel_rfl
  exact fn_sound mixed (f := 36) Tryz.func36 (by kernel_rfl) (e.mpr h)

def F_refs_New  (K : (Option Addr) → World → Prop) (w0 : World) : Prop :=
allocK (.map #[] 0) w0 fun a1 w1 =>
allocK (.cells ([.map (some a1.block)]).toArray t_refs_Table) w1 fun a2 w2 =>
K (some a2) w2
theorem S_refs_New  (K : (Option Addr) → World → Prop) (w0 : World) (h : F_refs_New  K w0) : C_refs_New  K w0 := by
  have e : denFn P [] Tryz.f37 #[] .ptr K w0 = F_refs_New  K w0 := by kernel_rfl
  exact fn_sound mixed (f := 37) Tryz.func37 (by kernel_rfl) (e.mpr h)

def F_law12_Build (v0_s : Option Addr) (v1_list : Sl) (K : (Sl × Bool) → World → Prop) (w0 : World) : Prop :=
C_ref12_Build v1_list (fun x1 w1 =>
allocK (.cells #[.slice none 0 0, .slice none 0 0] t_evergreenref12_Store) w1 fun a2 w2 =>
stK w2 a2 (cells yevergreenref12_Store x1.1) fun w3 =>
allocK (.cells #[.int .i64 (0 : Int)] t_api_ID) w3 fun a3 w4 =>
LoopP (X := Sl × Int × Unit) (⟨some a3, 1, 1⟩, (0 : Int), ()) w4 fun next5 x4 w5 => ∀ _ : Env,
gd (decide (x4.2.1 < (v1_list.len : Int))) (
idxK v1_list.a v1_list.len x4.2.1 5 fun p6 =>
∃ x7 : yevergreenref12_Make.T, At w5 p6 (cells yevergreenref12_Make x7) ∧
allocK (.cells #[.int .i64 (0 : Int), .int .u8 (0 : Int), .int .i64 (0 : Int), .int .i64 (0 : Int), .int .i64 (0 : Int)] t_evergreenref12_Make) w5 fun a8 w6 =>
stK w6 a8 (cells yevergreenref12_Make x7) fun w7 =>
drawK w7 fun w8 =>
∃ x9 : Int, At w8 (a8.add 2) (cells (.int .i64) x9) ∧
∃ x10 : Int, At w8 (a8.add 3) (cells (.int .i64) x10) ∧
C_ref12_Pick x9 (x4.1.len : Int) (fun x11 w9 =>
At w9 (a8.add 3) (cells (.int .i64) x10) ∧
idxK x4.1.a x4.1.len x11 1 fun p12 =>
∃ x13 : Int, At w9 p12 (cells (.int .i64) x13) ∧
C_ref12_Pick x10 (x4.1.len : Int) (fun x14 w10 =>
At w10 p12 (cells (.int .i64) x13) ∧
idxK x4.1.a x4.1.len x14 1 fun p15 =>
∃ x16 : Int, At w10 p15 (cells (.int .i64) x16) ∧
JoinP (X := Int × Unit) (fun R18 =>
∃ x19 : Int, At w10 (a8.add 0) (cells (.int .i64) x19) ∧
C_ref12_Pick x19 (4 : Int) (fun x20 w12 =>
gd (x20 == (0 : Int)) (
∃ x21 : Int, At w12 (a8.add 1) (cells (.int .u8) x21) ∧
C_intern_Store_Letter v0_s x21 (fun x22 w13 =>
R18 (x22.1, ()) w13) w12) (
gd (x20 == (3 : Int)) (
∃ x23 : Int, At w12 (a8.add 4) (cells (.int .i64) x23) ∧
C_intern_Store_Power v0_s x13 (if x23 < (0 : Int) then (0 : Int) else x23) (fun x24 w14 =>
R18 (x24.1, ()) w14) w12) (
C_intern_Store_Pair v0_s x13 x16 (fun x25 w15 =>
R18 (x25.1, ()) w15) w12))) w10) (fun x17 w11 => ∀ _ : Env,
arith .i64 (x4.2.1 + (1 : Int)) fun n26 =>
idxK x1.2.a x1.2.len n26 1 fun p27 =>
∃ x28 : Int, At w11 p27 (cells (.int .i64) x28) ∧
gd (x17.1 != x28) (
K (⟨none, 0, 0⟩, false) w11) (
allocK (.cells #[.int .i64 x17.1] t_api_ID) w11 fun a29 w16 =>
appK t_api_ID 1 8 #[.int .i64 (0 : Int)] x4.1.a x4.1.len x4.1.cap (.slice (some a29) 1 1) 1 w16 fun s30 w17 =>
arith .i64 (x4.2.1 + (1 : Int)) fun n31 =>
next5 (s30, n31, ()) w17))) w9) w8) (
K (x4.1, true) w5)) w0
theorem S_law12_Build (v0_s : Option Addr) (v1_list : Sl) (K : (Sl × Bool) → World → Prop) (w0 : World) (h : F_law12_Build v0_s v1_list K w0) : C_law12_Build v0_s v1_list K w0 := by
  have e : denFn P [(1004, [(8, .slice), (22, .int .i64)]), (14, [(13, .int .i64)])] Tryz.f38 #[.pointer v0_s, .slice v1_list.a v1_list.len v1_list.cap] (.tup (.pair .slice .bool)) K w0 = F_law12_Build v0_s v1_list K w0 := by kernel_rfl
  exact fn_sound mixed (f := 38) Tryz.func38 (by kernel_rfl) (e.mpr h)

def F_ref12_Build (v0_list : Sl) (K : (yevergreenref12_Store.T × Sl) → World → Prop) (w0 : World) : Prop :=
allocK (.cells #[.slice none 0 0, .slice none 0 0] t_evergreenref12_Store) w0 fun a1 w1 =>
allocK (.cells #[.slice none 0 0, .slice none 0 0] t_evergreenref12_Store) w1 fun a2 w2 =>
stK w2 a2 ([.slice none 0 0, .slice none 0 0]) fun w3 =>
allocK (.cells #[.int .i64 (0 : Int)] t_api_ID) w3 fun a3 w4 =>
LoopP (X := Sl × Int × Unit) (⟨some a3, 1, 1⟩, (0 : Int), ()) w4 fun next5 x4 w5 => ∀ _ : Env,
gd (decide (x4.2.1 < (v0_list.len : Int))) (
JoinP (X := Addr × Int × Unit) (fun R7 =>
drawK w5 fun w7 =>
∃ x8 : yevergreenref12_Store.T, At w7 a2 (cells yevergreenref12_Store x8) ∧
idxK v0_list.a v0_list.len x4.2.1 5 fun p9 =>
∃ x10 : yevergreenref12_Make.T, At w7 p9 (cells yevergreenref12_Make x10) ∧
(C_ref12_One x8 x10 x4.1 (fun x11 w8 =>
allocK (.cells #[.slice none 0 0, .slice none 0 0] t_evergreenref12_Store) w8 fun a12 w9 =>
stK w9 a12 (cells yevergreenref12_Store x11.1) fun w10 =>
R7 (a12, x11.2, ()) w10) w7) ∧
(allocK (.cells #[.slice none 0 0, .slice none 0 0] t_evergreenref12_Store) w7 fun a13 w11 =>
At w11 p9 (cells yevergreenref12_Make x10) ∧
At w11 a2 (cells yevergreenref12_Store x8) ∧
C_ref12_One x8 x10 x4.1 (fun x14 w12 =>
stK w12 a13 (cells yevergreenref12_Store x14.1) fun w13 =>
R7 (a13, x14.2, ()) w13) w11)) (fun x6 w6 => ∀ _ : Env,
∃ x15 : yevergreenref12_Store.T, At w6 x6.1 (cells yevergreenref12_Store x15) ∧
stK w6 a2 (cells yevergreenref12_Store x15) fun w14 =>
allocK (.cells #[.int .i64 x6.2.1] t_api_ID) w14 fun a16 w15 =>
appK t_api_ID 1 8 #[.int .i64 (0 : Int)] x4.1.a x4.1.len x4.1.cap (.slice (some a16) 1 1) 1 w15 fun s17 w16 =>
arith .i64 (x4.2.1 + (1 : Int)) fun n18 =>
next5 (s17, n18, ()) w16)) (
∃ x19 : yevergreenref12_Store.T, At w5 a2 (cells yevergreenref12_Store x19) ∧
stK w5 a1 (cells yevergreenref12_Store x19) fun w17 =>
∃ x20 : yevergreenref12_Store.T, At w17 a1 (cells yevergreenref12_Store x20) ∧
K (x20, x4.1) w17)
theorem S_ref12_Build (v0_list : Sl) (K : (yevergreenref12_Store.T × Sl) → World → Prop) (w0 : World) (h : F_ref12_Build v0_list K w0) : C_ref12_Build v0_list K w0 := by
  have e : denFn P [(1004, [(5, .slice), (6, .int .i64)]), (7, [(7, .addr), (8, .int .i64)])] Tryz.f39 #[.slice v0_list.a v0_list.len v0_list.cap] (.tup (.pair yevergreenref12_Store .slice)) K w0 = F_ref12_Build v0_list K w0 := by kernel_rfl
  exact fn_sound mixed (f := 39) Tryz.func39 (by kernel_rfl) (e.mpr h)

def F_ref12_Pick (v0_n : Int) (v1_many : Int) (K : Int → World → Prop) (w0 : World) : Prop :=
v1_many ≠ 0 ∧
letZ (Int.tmod v0_n v1_many) fun n1 =>
JoinP (X := Int × Unit) (fun R3 =>
gd (decide (n1 < (0 : Int))) (
arith .i64 (n1 + v1_many) fun n4 =>
R3 (n4, ()) w0) (
R3 (n1, ()) w0)) (fun x2 w1 => ∀ _ : Env,
K x2.1 w1)
theorem S_ref12_Pick (v0_n : Int) (v1_many : Int) (K : Int → World → Prop) (w0 : World) (h : F_ref12_Pick v0_n v1_many K w0) : C_ref12_Pick v0_n v1_many K w0 := by
  have e : denFn P [(4, [(0, .int .i64)])] Tryz.f40 #[.int .i64 v0_n, .int .i64 v1_many] (.int .i64) K w0 = F_ref12_Pick v0_n v1_many K w0 := by kernel_rfl
  exact fn_sound mixed (f := 40) Tryz.func40 (by kernel_rfl) (e.mpr h)

def F_refs_Table_Drop (v0_t : Option Addr) (v1_name : ByteArray) (K : Value → World → Prop) (w0 : World) : Prop :=
C_refs_Table_Get v0_t v1_name (fun x1 w1 =>
nilIfcK x1.2.2 fun b2 =>
gd (!b2) (
K x1.2.2 w1) (
nonNil v0_t fun p3 =>
∃ x4 : Option Nat, At w1 (p3.add 0) (cells .map x4) ∧
runK P (.tup .unit) (Builtin.delete_ #[t_map_string_refs_target, t_string] t_ #[.map x4, .string v1_name]) w1 fun u5 w2 =>
K .nilIface w2)) w0
theorem S_refs_Table_Drop (v0_t : Option Addr) (v1_name : ByteArray) (K : Value → World → Prop) (w0 : World) (h : F_refs_Table_Drop v0_t v1_name K w0) : C_refs_Table_Drop v0_t v1_name K w0 := by
  have e : denFn P [] Tryz.f41 #[.pointer v0_t, .string v1_name] .iface K w0 = F_refs_Table_Drop v0_t v1_name K w0 := by kernel_rfl
  exact fn_sound mixed (f := 41) Tryz.func41 (by kernel_rfl) (e.mpr h)

def F_refs_Table_Tag (v0_t : Option Addr) (v1_name : ByteArray) (v2_n : Int) (K : Value → World → Prop) (w0 : World) : Prop :=
gd v0_t.isNone (
K (.iface t_api_Errno (.int .i64 (5 : Int))) w0) (
C_refs_Valid v1_name (fun x1 w1 =>
gd (!x1) (
K (.iface t_api_Errno (.int .i64 (13 : Int))) w1) (
gd (decide (v2_n < (0 : Int))) (
K (.iface t_api_Errno (.int .i64 (1 : Int))) w1) (
nonNil v0_t fun p2 =>
∃ x3 : Option Nat, At w1 (p2.add 0) (cells .map x3) ∧
∃ (x4 : yrefs_target.T) (b5 : Bool), Lk2 P t_map_string_refs_target yrefs_target (.map x3) (.string v1_name) x4 b5 w1 ∧
allocK (.cells #[.int .i64 (0 : Int), .bool false] t_refs_target) w1 fun a6 w2 =>
stK w2 a6 (cells yrefs_target x4) fun w3 =>
gd b5 (
K (.iface t_api_Errno (.int .i64 (6 : Int))) w3) (
C_refs_Table_set v0_t v1_name (v2_n, true) (fun x7 w4 =>
K .nilIface w4) w3)))) w0)
theorem S_refs_Table_Tag (v0_t : Option Addr) (v1_name : ByteArray) (v2_n : Int) (K : Value → World → Prop) (w0 : World) (h : F_refs_Table_Tag v0_t v1_name v2_n K w0) : C_refs_Table_Tag v0_t v1_name v2_n K w0 := by
  have e : denFn P [] Tryz.f42 #[.pointer v0_t, .string v1_name, .int .i64 v2_n] .iface K w0 = F_refs_Table_Tag v0_t v1_name v2_n K w0 := by kernel_rfl
  exact fn_sound mixed (f := 42) Tryz.func42 (by kernel_rfl) (e.mpr h)

def F_law51_alive  (K : Bool → World → Prop) (w0 : World) : Prop :=
C_history_New  (fun x1 w1 =>
C_refs_New  (fun x2 w2 =>
C_history_Graph_Add x1 (⟨none, 0, 0⟩, ((0 : Int), (⟨#[]⟩ : ByteArray))) (fun x3 w3 =>
C_refs_Table_Branch x2 (⟨#[109, 97, 105, 110]⟩ : ByteArray) (-1 : Int) (0 : Int) (fun x4 w4 =>
C_compact_Keep x1 x2 (fun x5 w5 =>
nilIfcK x3.2 fun b6 =>
gd b6 (
nilIfcK x4 fun b7 =>
gd b7 (
nilIfcK x5.2 fun b8 =>
gd b8 (
gd ((x5.1.len : Int) == (1 : Int)) (
idxK x5.1.a x5.1.len (0 : Int) 1 fun p9 =>
∃ x10 : Int, At w5 p9 (cells (.int .i64) x10) ∧
K (x10 == (0 : Int)) w5) (
K false w5)) (
K false w5)) (
K false w5)) (
K false w5)) w4) w3) w2) w1) w0
theorem S_law51_alive  (K : Bool → World → Prop) (w0 : World) (h : F_law51_alive  K w0) : C_law51_alive  K w0 := by
  have e : denFn P [] Tryz.f43 #[] .bool K w0 = F_law51_alive  K w0 := by kernel_rfl
  exact fn_sound mixed (f := 43) Tryz.func43 (by kernel_rfl) (e.mpr h)

end Go.Proofs.YtnmgjpcooncjlaaGreat
