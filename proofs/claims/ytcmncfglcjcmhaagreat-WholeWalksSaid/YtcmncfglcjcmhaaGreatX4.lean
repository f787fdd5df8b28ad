/- Texts that belong together, joined: Text4. No conditions. -/
import Derived.Test.YtcmncfglcjcmhaaGreatX0
/- The typed texts of the functions, printed by a program; each proved to imply the call. -/
set_option linter.unusedVariables false
set_option maxRecDepth 100000
set_option maxHeartbeats 4000000
namespace Go.Proofs.YtcmncfglcjcmhaaGreat
open Go.Den

def F_cursor_Cursor_Read (v0_c : Option Addr) (v1_n : Int) (K : Sl → World → Prop) (w0 : World) : Prop :=
gd v0_c.isNone (
K (⟨none, 0, 0⟩) w0) (
drawK w0 fun w1 =>
nonNil v0_c fun p1 =>
∃ x2 : Int, At w1 (p1.add 2) (cells (.int .i64) x2) ∧
nonNil v0_c fun p3 =>
∃ x4 : Int, At w1 (p3.add 3) (cells (.int .i64) x4) ∧
arith .i64 (x2 - x4) fun n5 =>
C_length_Clip v1_n (0 : Int) (65536 : Int) (fun x6 w2 =>
At w2 (p3.add 3) (cells (.int .i64) x4) ∧
At w2 (p1.add 2) (cells (.int .i64) x2) ∧
drawK w2 fun w3 =>
nonNil v0_c fun p7 =>
∃ x8 : Option Addr, At w3 (p7.add 0) (cells .ptr x8) ∧
nonNil v0_c fun p9 =>
∃ x10 : Int, At w3 (p9.add 1) (cells (.int .i64) x10) ∧
nonNil v0_c fun p11 =>
∃ x12 : Int, At w3 (p11.add 3) (cells (.int .i64) x12) ∧
C_access_Extract x8 x10 x12 (if n5 < x6 then n5 else x6) (fun x13 w4 =>
nilIfcK x13.2 fun b14 =>
gd (!b14) (
K (⟨none, 0, 0⟩) w4) (
nonNil v0_c fun p15 =>
∃ x16 : Int, At w4 (p15.add 3) (cells (.int .i64) x16) ∧
arith .i64 (x16 + (if n5 < x6 then n5 else x6)) fun n17 =>
nonNil v0_c fun p18 =>
stK w4 (p18.add 3) ([.int .i64 n17]) fun w5 =>
K x13.1 w5)) w3) w1)
theorem S_cursor_Cursor_Read (v0_c : Option Addr) (v1_n : Int) (K : Sl → World → Prop) (w0 : World) (h : F_cursor_Cursor_Read v0_c v1_n K w0) : C_cursor_Cursor_Read v0_c v1_n K w0 := by
  have e : denFn P [] Tryz.f17 #[.pointer v0_c, .int .i64 v1_n] .slice K w0 = F_cursor_Cursor_Read v0_c v1_n K w0 := by kernel_rfl
  exact fn_sound mixed (f := 17) Tryz.func17 (by kernel_rfl) (e.mpr h)

def F_walk_Letters (v0_s : Option Addr) (v1_id : Int) (v2_from : Int) (K : Value → World → Prop) (w0 : World) : Prop :=
allocK (.cells ([.pointer v0_s]).toArray t_pt_intern_Store) w0 fun a1 w1 =>
allocK (.cells ([.int .i64 v1_id]).toArray t_api_ID) w1 fun a2 w2 =>
allocK (.cells ([.int .i64 v2_from]).toArray t_int) w2 fun a3 w3 =>
∃ x4 : Option Addr, At w3 a1 (cells .ptr x4) ∧
∃ x5 : Int, At w3 a2 (cells (.int .i64) x5) ∧
C_walk_known x4 x5 (fun x6 w4 =>
JoinP (X := Bool × Unit) (fun R8 =>
gd (!x6.2) (
R8 (true, ()) w4) (
∃ x9 : Int, At w4 a3 (cells (.int .i64) x9) ∧
gd (decide (x9 < (0 : Int))) (
R8 (true, ()) w4) (
∃ x10 : Int, At w4 a3 (cells (.int .i64) x10) ∧
R8 (decide (x6.1 ≤ x10), ()) w4))) (fun x7 w5 => ∀ _ : Env,
gd x7.1 (
K (.func (.func 34) #[] #[]) w5) (
K (.func (.func 35) #[] #[.pointer (some a1), .pointer (some a2), .pointer (some a3)]) w5))) w3
theorem S_walk_Letters (v0_s : Option Addr) (v1_id : Int) (v2_from : Int) (K : Value → World → Prop) (w0 : World) (h : F_walk_Letters v0_s v1_id v2_from K w0) : C_walk_Letters v0_s v1_id v2_from K w0 := by
  have e : denFn P [(3, [(25, .bool)])] Tryz.f18 #[.pointer v0_s, .int .i64 v1_id, .int .i64 v2_from] .func K w0 = F_walk_Letters v0_s v1_id v2_from K w0 := by kernel_rfl
  exact fn_sound mixed (f := 18) Tryz.func18 (by kernel_rfl) (e.mpr h)

def F_walk_Back (v0_s : Option Addr) (v1_id : Int) (v2_from : Int) (K : Value → World → Prop) (w0 : World) : Prop :=
allocK (.cells ([.pointer v0_s]).toArray t_pt_intern_Store) w0 fun a1 w1 =>
allocK (.cells ([.int .i64 v1_id]).toArray t_api_ID) w1 fun a2 w2 =>
allocK (.cells ([.int .i64 v2_from]).toArray t_int) w2 fun a3 w3 =>
∃ x4 : Option Addr, At w3 a1 (cells .ptr x4) ∧
∃ x5 : Int, At w3 a2 (cells (.int .i64) x5) ∧
C_walk_known x4 x5 (fun x6 w4 =>
JoinP (X := Bool × Unit) (fun R8 =>
gd (!x6.2) (
R8 (true, ()) w4) (
∃ x9 : Int, At w4 a3 (cells (.int .i64) x9) ∧
gd (decide (x9 ≤ (0 : Int))) (
R8 (true, ()) w4) (
∃ x10 : Int, At w4 a3 (cells (.int .i64) x10) ∧
R8 (decide (x6.1 < x10), ()) w4))) (fun x7 w5 => ∀ _ : Env,
gd x7.1 (
K (.func (.func 38) #[] #[]) w5) (
K (.func (.func 39) #[] #[.pointer (some a1), .pointer (some a2), .pointer (some a3)]) w5))) w3
theorem S_walk_Back (v0_s : Option Addr) (v1_id : Int) (v2_from : Int) (K : Value → World → Prop) (w0 : World) (h : F_walk_Back v0_s v1_id v2_from K w0) : C_walk_Back v0_s v1_id v2_from K w0 := by
  have e : denFn P [(3, [(25, .bool)])] Tryz.f19 #[.pointer v0_s, .int .i64 v1_id, .int .i64 v2_from] .func K w0 = F_walk_Back v0_s v1_id v2_from K w0 := by kernel_rfl
  exact fn_sound mixed (f := 19) Tryz.func19 (by kernel_rfl) (e.mpr h)

def F_walk_Pieces (v0_s : Option Addr) (v1_id : Int) (v2_from : Int) (v3_n : Int) (K : Value → World → Prop) (w0 : World) : Prop :=
allocK (.cells ([.pointer v0_s]).toArray t_pt_intern_Store) w0 fun a1 w1 =>
allocK (.cells ([.int .i64 v1_id]).toArray t_api_ID) w1 fun a2 w2 =>
allocK (.cells ([.int .i64 v2_from]).toArray t_int) w2 fun a3 w3 =>
allocK (.cells ([.int .i64 v3_n]).toArray t_int) w3 fun a4 w4 =>
∃ x5 : Option Addr, At w4 a1 (cells .ptr x5) ∧
∃ x6 : Int, At w4 a2 (cells (.int .i64) x6) ∧
C_walk_known x5 x6 (fun x7 w5 =>
JoinP (X := Bool × Unit) (fun R9 =>
gd (!x7.2) (
R9 (true, ()) w5) (
∃ x10 : Int, At w5 a3 (cells (.int .i64) x10) ∧
∃ x11 : Int, At w5 a4 (cells (.int .i64) x11) ∧
C_length_Range x10 x11 x7.1 (fun x12 w7 =>
nilIfcK x12 fun b13 =>
R9 (!b13, ()) w7) w5)) (fun x8 w6 => ∀ _ : Env,
gd x8.1 (
K (.func (.func 42) #[] #[]) w6) (
∃ x14 : Option Addr, At w6 a1 (cells .ptr x14) ∧
∃ x15 : Int, At w6 a2 (cells (.int .i64) x15) ∧
C_avl_Balanced x14 x15 (fun x16 w8 =>
JoinP (X := Bool × Unit) (fun R18 =>
nilIfcK x16.2 fun b19 =>
gd (!b19) (
R18 (true, ()) w8) (
R18 (!x16.1, ()) w8)) (fun x17 w9 => ∀ _ : Env,
gd x17.1 (
K (.func (.func 44) #[] #[]) w9) (
K (.func (.func 45) #[] #[.pointer (some a1), .pointer (some a2), .pointer (some a3), .pointer (some a4)]) w9))) w6))) w4
theorem S_walk_Pieces (v0_s : Option Addr) (v1_id : Int) (v2_from : Int) (v3_n : Int) (K : Value → World → Prop) (w0 : World) (h : F_walk_Pieces v0_s v1_id v2_from v3_n K w0) : C_walk_Pieces v0_s v1_id v2_from v3_n K w0 := by
  have e : denFn P [(3, [(27, .bool)]), (6, [(39, .bool)])] Tryz.f20 #[.pointer v0_s, .int .i64 v1_id, .int .i64 v2_from, .int .i64 v3_n] .func K w0 = F_walk_Pieces v0_s v1_id v2_from v3_n K w0 := by kernel_rfl
  exact fn_sound mixed (f := 20) Tryz.func20 (by kernel_rfl) (e.mpr h)

def F_intern_Store_Weight (v0_s : Option Addr) (v1_id : Int) (K : (yapi_Weight.T × Value) → World → Prop) (w0 : World) : Prop :=
allocK (.cells #[.int .i64 (0 : Int), .int .i64 (0 : Int), .int .i64 (0 : Int), .int .i64 (0 : Int), .int .u64 (0 : Int), .int .u64 (0 : Int)] t_api_Weight) w0 fun a1 w1 =>
gd v0_s.isNone (
stK w1 a1 ([.int .i64 (0 : Int), .int .i64 (0 : Int), .int .i64 (0 : Int), .int .i64 (0 : Int), .int .u64 (0 : Int), .int .u64 (0 : Int)]) fun w2 =>
∃ x2 : yapi_Weight.T, At w2 a1 (cells yapi_Weight x2) ∧
K (x2, .iface t_api_Errno (.int .i64 (5 : Int))) w2) (
C_intern_Store_known v0_s v1_id (fun x3 w3 =>
gd (!x3) (
stK w3 a1 ([.int .i64 (0 : Int), .int .i64 (0 : Int), .int .i64 (0 : Int), .int .i64 (0 : Int), .int .u64 (0 : Int), .int .u64 (0 : Int)]) fun w4 =>
∃ x4 : yapi_Weight.T, At w4 a1 (cells yapi_Weight x4) ∧
K (x4, .iface t_api_Errno (.int .i64 (1 : Int))) w4) (
C_intern_Store_at v0_s v1_id (fun x5 w5 =>
stK w5 a1 ([.int .i64 x5.2.1.1, .int .i64 x5.2.1.2.1, .int .i64 x5.2.1.2.2.1, .int .i64 x5.2.1.2.2.2.1, .int .u64 x5.2.1.2.2.2.2.1, .int .u64 x5.2.1.2.2.2.2.2]) fun w6 =>
∃ x6 : yapi_Weight.T, At w6 a1 (cells yapi_Weight x6) ∧
K (x6, .nilIface) w6) w3)) w1)
theorem S_intern_Store_Weight (v0_s : Option Addr) (v1_id : Int) (K : (yapi_Weight.T × Value) → World → Prop) (w0 : World) (h : F_intern_Store_Weight v0_s v1_id K w0) : C_intern_Store_Weight v0_s v1_id K w0 := by
  have e : denFn P [] Tryz.f21 #[.pointer v0_s, .int .i64 v1_id] (.tup (.pair yapi_Weight .iface)) K w0 = F_intern_Store_Weight v0_s v1_id K w0 := by kernel_rfl
  exact fn_sound mixed (f := 21) Tryz.func21 (by kernel_rfl) (e.mpr h)

def F_access_Extract (v0_s : Option Addr) (v1_id : Int) (v2_from : Int) (v3_n : Int) (K : (Sl × Value) → World → Prop) (w0 : World) : Prop :=
allocK (.cells ([.pointer v0_s]).toArray t_pt_intern_Store) w0 fun a1 w1 =>
∃ x2 : Option Addr, At w1 a1 (cells .ptr x2) ∧
C_intern_Store_Weight x2 v1_id (fun x3 w2 =>
allocK (.cells #[.int .i64 (0 : Int), .int .i64 (0 : Int), .int .i64 (0 : Int), .int .i64 (0 : Int), .int .u64 (0 : Int), .int .u64 (0 : Int)] t_api_Weight) w2 fun a4 w3 =>
stK w3 a4 (cells yapi_Weight x3.1) fun w4 =>
nilIfcK x3.2 fun b5 =>
gd (!b5) (
K (⟨none, 0, 0⟩, x3.2) w4) (
∃ x6 : Int, At w4 (a4.add 0) (cells (.int .i64) x6) ∧
C_length_Range v2_from v3_n x6 (fun x7 w5 =>
nilIfcK x7 fun b8 =>
gd (!b8) (
K (⟨none, 0, 0⟩, x7) w5) (
gd (decide ((65536 : Int) < v3_n)) (
K (⟨none, 0, 0⟩, .iface t_api_Errno (.int .i64 (9 : Int))) w5) (
0 ≤ (0 : Int) ∧ (0 : Int) ≤ v3_n ∧ v3_n ≤ 9223372036854775807 ∧ 1 * v3_n ≤ 281474976710656 ∧
allocK (.cells (zrow #[.int .u8 (0 : Int)] (v3_n.toNat * 1)) t_uint8) w5 fun a9 w6 =>
allocK (.cells #[.slice none 0 0] t_sl_uint8) w6 fun a10 w7 =>
stK w7 a10 ([.slice (some a9) ((0 : Int).toNat) v3_n.toNat]) fun w8 =>
∃ x11 : Option Addr, At w8 a1 (cells .ptr x11) ∧
C_access_parts x11 v1_id v2_from v3_n (.func (.func 50) #[] #[.pointer (some a10), .pointer (some a1)]) (fun x12 w9 =>
nilIfcK x12 fun b13 =>
gd (!b13) (
K (⟨none, 0, 0⟩, x12) w9) (
∃ x14 : Sl, At w9 a10 (cells .slice x14) ∧
K (x14, .nilIface) w9)) w8))) w4)) w1
theorem S_access_Extract (v0_s : Option Addr) (v1_id : Int) (v2_from : Int) (v3_n : Int) (K : (Sl × Value) → World → Prop) (w0 : World) (h : F_access_Extract v0_s v1_id v2_from v3_n K w0) : C_access_Extract v0_s v1_id v2_from v3_n K w0 := by
  have e : denFn P [] Tryz.f22 #[.pointer v0_s, .int .i64 v1_id, .int .i64 v2_from, .int .i64 v3_n] (.tup (.pair .slice .iface)) K w0 = F_access_Extract v0_s v1_id v2_from v3_n K w0 := by kernel_rfl
  exact fn_sound mixed (f := 22) Tryz.func22 (by kernel_rfl) (e.mpr h)

end Go.Proofs.YtcmncfglcjcmhaaGreat
