/- Texts that belong together, joined: Text3. No conditions. -/
import Derived.Test.YtcmncfglcjcmhaaGreatX0
/- The typed texts of the functions, printed by a program; each proved to imply the call. -/
set_option linter.unusedVariables false
set_option maxRecDepth 100000
set_option maxHeartbeats 4000000
namespace Go.Proofs.YtcmncfglcjcmhaaGreat
open Go.Den

def F_cursor_New (v0_s : Option Addr) (v1_id : Int) (K : ((Option Addr) × Value) → World → Prop) (w0 : World) : Prop :=
C_intern_Store_Weight v0_s v1_id (fun x1 w1 =>
allocK (.cells #[.int .i64 (0 : Int), .int .i64 (0 : Int), .int .i64 (0 : Int), .int .i64 (0 : Int), .int .u64 (0 : Int), .int .u64 (0 : Int)] t_api_Weight) w1 fun a2 w2 =>
stK w2 a2 (cells yapi_Weight x1.1) fun w3 =>
nilIfcK x1.2 fun b3 =>
gd (!b3) (
K (none, x1.2) w3) (
∃ x4 : Int, At w3 (a2.add 0) (cells (.int .i64) x4) ∧
allocK (.cells ([.pointer v0_s, .int .i64 v1_id, .int .i64 x4, .int .i64 (0 : Int)]).toArray t_cursor_Cursor) w3 fun a5 w4 =>
K (some a5, .nilIface) w4)) w0
theorem S_cursor_New (v0_s : Option Addr) (v1_id : Int) (K : ((Option Addr) × Value) → World → Prop) (w0 : World) (h : F_cursor_New v0_s v1_id K w0) : C_cursor_New v0_s v1_id K w0 := by
  have e : denFn P [] Tryz.f8 #[.pointer v0_s, .int .i64 v1_id] (.tup (.pair .ptr .iface)) K w0 = F_cursor_New v0_s v1_id K w0 := by kernel_rfl
  exact fn_sound mixed (f := 8) Tryz.func8 (by kernel_rfl) (e.mpr h)

def F_top_at (v0_k : Int) (v1_n : Int) (K : Int → World → Prop) (w0 : World) : Prop :=
v1_n ≠ 0 ∧
letZ (Int.tmod v0_k v1_n) fun n1 =>
arith .i64 (n1 + v1_n) fun n2 =>
v1_n ≠ 0 ∧
letZ (Int.tmod n2 v1_n) fun n3 =>
K n3 w0
theorem S_top_at (v0_k : Int) (v1_n : Int) (K : Int → World → Prop) (w0 : World) (h : F_top_at v0_k v1_n K w0) : C_top_at v0_k v1_n K w0 := by
  have e : denFn P [] Tryz.f9 #[.int .i64 v0_k, .int .i64 v1_n] (.int .i64) K w0 = F_top_at v0_k v1_n K w0 := by kernel_rfl
  exact fn_sound mixed (f := 9) Tryz.func9 (by kernel_rfl) (e.mpr h)

def F_cursor_Cursor_Skip (v0_c : Option Addr) (v1_n : Int) (K : Int → World → Prop) (w0 : World) : Prop :=
gd v0_c.isNone (
K (0 : Int) w0) (
drawK w0 fun w1 =>
nonNil v0_c fun p1 =>
∃ x2 : Int, At w1 (p1.add 3) (cells (.int .i64) x2) ∧
arith .i64 (0 - x2) fun n3 =>
nonNil v0_c fun p4 =>
∃ x5 : Int, At w1 (p4.add 2) (cells (.int .i64) x5) ∧
nonNil v0_c fun p6 =>
∃ x7 : Int, At w1 (p6.add 3) (cells (.int .i64) x7) ∧
arith .i64 (x5 - x7) fun n8 =>
C_length_Clip v1_n n3 n8 (fun x9 w2 =>
nonNil v0_c fun p10 =>
∃ x11 : Int, At w2 (p10.add 3) (cells (.int .i64) x11) ∧
arith .i64 (x11 + x9) fun n12 =>
nonNil v0_c fun p13 =>
stK w2 (p13.add 3) ([.int .i64 n12]) fun w3 =>
K x9 w3) w1)
theorem S_cursor_Cursor_Skip (v0_c : Option Addr) (v1_n : Int) (K : Int → World → Prop) (w0 : World) (h : F_cursor_Cursor_Skip v0_c v1_n K w0) : C_cursor_Cursor_Skip v0_c v1_n K w0 := by
  have e : denFn P [] Tryz.f10 #[.pointer v0_c, .int .i64 v1_n] (.int .i64) K w0 = F_cursor_Cursor_Skip v0_c v1_n K w0 := by kernel_rfl
  exact fn_sound mixed (f := 10) Tryz.func10 (by kernel_rfl) (e.mpr h)

def F_cursor_Cursor_Offset (v0_c : Option Addr) (K : Int → World → Prop) (w0 : World) : Prop :=
gd v0_c.isNone (
K (0 : Int) w0) (
nonNil v0_c fun p1 =>
∃ x2 : Int, At w0 (p1.add 3) (cells (.int .i64) x2) ∧
K x2 w0)
theorem S_cursor_Cursor_Offset (v0_c : Option Addr) (K : Int → World → Prop) (w0 : World) (h : F_cursor_Cursor_Offset v0_c K w0) : C_cursor_Cursor_Offset v0_c K w0 := by
  have e : denFn P [] Tryz.f11 #[.pointer v0_c] (.int .i64) K w0 = F_cursor_Cursor_Offset v0_c K w0 := by kernel_rfl
  exact fn_sound mixed (f := 11) Tryz.func11 (by kernel_rfl) (e.mpr h)

def F_cursor_Cursor_Seek (v0_c : Option Addr) (v1_at : Int) (K : Value → World → Prop) (w0 : World) : Prop :=
gd v0_c.isNone (
K (.iface t_api_Errno (.int .i64 (5 : Int))) w0) (
JoinP (X := Bool × Unit) (fun R2 =>
gd (decide (v1_at < (0 : Int))) (
R2 (true, ()) w0) (
nonNil v0_c fun p3 =>
∃ x4 : Int, At w0 (p3.add 2) (cells (.int .i64) x4) ∧
R2 (decide (x4 < v1_at), ()) w0)) (fun x1 w1 => ∀ _ : Env,
gd x1.1 (
K (.iface t_api_Errno (.int .i64 (1 : Int))) w1) (
nonNil v0_c fun p5 =>
stK w1 (p5.add 3) ([.int .i64 v1_at]) fun w2 =>
K .nilIface w2)))
theorem S_cursor_Cursor_Seek (v0_c : Option Addr) (v1_at : Int) (K : Value → World → Prop) (w0 : World) (h : F_cursor_Cursor_Seek v0_c v1_at K w0) : C_cursor_Cursor_Seek v0_c v1_at K w0 := by
  have e : denFn P [(4, [(17, .bool)])] Tryz.f12 #[.pointer v0_c, .int .i64 v1_at] .iface K w0 = F_cursor_Cursor_Seek v0_c v1_at K w0 := by kernel_rfl
  exact fn_sound mixed (f := 12) Tryz.func12 (by kernel_rfl) (e.mpr h)

def F_lines_Position (v0_s : Option Addr) (v1_id : Int) (v2_at : Int) (K : (Int × Int × Value) → World → Prop) (w0 : World) : Prop :=
C_access_Weight v0_s v1_id (0 : Int) v2_at (fun x1 w1 =>
allocK (.cells #[.int .i64 (0 : Int), .int .i64 (0 : Int), .int .i64 (0 : Int), .int .i64 (0 : Int), .int .u64 (0 : Int), .int .u64 (0 : Int)] t_api_Weight) w1 fun a2 w2 =>
stK w2 a2 (cells yapi_Weight x1.1) fun w3 =>
nilIfcK x1.2 fun b3 =>
gd (!b3) (
K ((0 : Int), (0 : Int), x1.2) w3) (
drawK w3 fun w4 =>
∃ x4 : Int, At w4 (a2.add 1) (cells (.int .i64) x4) ∧
∃ x5 : Int, At w4 (a2.add 3) (cells (.int .i64) x5) ∧
K (x4, x5, .nilIface) w4)) w0
theorem S_lines_Position (v0_s : Option Addr) (v1_id : Int) (v2_at : Int) (K : (Int × Int × Value) → World → Prop) (w0 : World) (h : F_lines_Position v0_s v1_id v2_at K w0) : C_lines_Position v0_s v1_id v2_at K w0 := by
  have e : denFn P [] Tryz.f13 #[.pointer v0_s, .int .i64 v1_id, .int .i64 v2_at] (.tup (.pair (.int .i64) (.pair (.int .i64) .iface))) K w0 = F_lines_Position v0_s v1_id v2_at K w0 := by kernel_rfl
  exact fn_sound mixed (f := 13) Tryz.func13 (by kernel_rfl) (e.mpr h)

def F_cursor_Cursor_Line (v0_c : Option Addr) (K : (Int × Int) → World → Prop) (w0 : World) : Prop :=
gd v0_c.isNone (
K ((0 : Int), (0 : Int)) w0) (
JoinP (X := Addr × Value × Unit) (fun R2 =>
drawK w0 fun w2 =>
nonNil v0_c fun p3 =>
∃ x4 : Option Addr, At w2 (p3.add 0) (cells .ptr x4) ∧
nonNil v0_c fun p5 =>
∃ x6 : Int, At w2 (p5.add 1) (cells (.int .i64) x6) ∧
nonNil v0_c fun p7 =>
∃ x8 : Int, At w2 (p7.add 3) (cells (.int .i64) x8) ∧
(C_access_Weight x4 x6 (0 : Int) x8 (fun x9 w3 =>
allocK (.cells #[.int .i64 (0 : Int), .int .i64 (0 : Int), .int .i64 (0 : Int), .int .i64 (0 : Int), .int .u64 (0 : Int), .int .u64 (0 : Int)] t_api_Weight) w3 fun a10 w4 =>
stK w4 a10 (cells yapi_Weight x9.1) fun w5 =>
R2 (a10, x9.2, ()) w5) w2) ∧
(allocK (.cells #[.int .i64 (0 : Int), .int .i64 (0 : Int), .int .i64 (0 : Int), .int .i64 (0 : Int), .int .u64 (0 : Int), .int .u64 (0 : Int)] t_api_Weight) w2 fun a11 w6 =>
At w6 (p7.add 3) (cells (.int .i64) x8) ∧
At w6 (p5.add 1) (cells (.int .i64) x6) ∧
At w6 (p3.add 0) (cells .ptr x4) ∧
C_access_Weight x4 x6 (0 : Int) x8 (fun x12 w7 =>
stK w7 a11 (cells yapi_Weight x12.1) fun w8 =>
R2 (a11, x12.2, ()) w8) w6)) (fun x1 w1 => ∀ _ : Env,
nilIfcK x1.2.1 fun b13 =>
gd (!b13) (
K ((0 : Int), (0 : Int)) w1) (
drawK w1 fun w9 =>
∃ x14 : Int, At w9 (x1.1.add 1) (cells (.int .i64) x14) ∧
∃ x15 : Int, At w9 (x1.1.add 3) (cells (.int .i64) x15) ∧
K (x14, x15) w9)))
theorem S_cursor_Cursor_Line (v0_c : Option Addr) (K : (Int × Int) → World → Prop) (w0 : World) (h : F_cursor_Cursor_Line v0_c K w0) : C_cursor_Cursor_Line v0_c K w0 := by
  have e : denFn P [(4, [(4, .addr), (5, .iface)])] Tryz.f14 #[.pointer v0_c] (.tup (.pair (.int .i64) (.int .i64))) K w0 = F_cursor_Cursor_Line v0_c K w0 := by kernel_rfl
  exact fn_sound mixed (f := 14) Tryz.func14 (by kernel_rfl) (e.mpr h)

def F_cursor_Cursor_Left (v0_c : Option Addr) (K : Int → World → Prop) (w0 : World) : Prop :=
gd v0_c.isNone (
K (0 : Int) w0) (
drawK w0 fun w1 =>
nonNil v0_c fun p1 =>
∃ x2 : Int, At w1 (p1.add 2) (cells (.int .i64) x2) ∧
nonNil v0_c fun p3 =>
∃ x4 : Int, At w1 (p3.add 3) (cells (.int .i64) x4) ∧
arith .i64 (x2 - x4) fun n5 =>
K n5 w1)
theorem S_cursor_Cursor_Left (v0_c : Option Addr) (K : Int → World → Prop) (w0 : World) (h : F_cursor_Cursor_Left v0_c K w0) : C_cursor_Cursor_Left v0_c K w0 := by
  have e : denFn P [] Tryz.f15 #[.pointer v0_c] (.int .i64) K w0 = F_cursor_Cursor_Left v0_c K w0 := by kernel_rfl
  exact fn_sound mixed (f := 15) Tryz.func15 (by kernel_rfl) (e.mpr h)

def F_cursor_Cursor_Copy (v0_c : Option Addr) (K : (Option Addr) → World → Prop) (w0 : World) : Prop :=
gd v0_c.isNone (
K none w0) (
nonNil v0_c fun p1 =>
∃ x2 : ycursor_Cursor.T, At w0 p1 (cells ycursor_Cursor x2) ∧
allocK (.cells #[.pointer none, .int .i64 (0 : Int), .int .i64 (0 : Int), .int .i64 (0 : Int)] t_cursor_Cursor) w0 fun a3 w1 =>
stK w1 a3 (cells ycursor_Cursor x2) fun w2 =>
K (some a3) w2)
theorem S_cursor_Cursor_Copy (v0_c : Option Addr) (K : (Option Addr) → World → Prop) (w0 : World) (h : F_cursor_Cursor_Copy v0_c K w0) : C_cursor_Cursor_Copy v0_c K w0 := by
  have e : denFn P [] Tryz.f16 #[.pointer v0_c] .ptr K w0 = F_cursor_Cursor_Copy v0_c K w0 := by kernel_rfl
  exact fn_sound mixed (f := 16) Tryz.func16 (by kernel_rfl) (e.mpr h)

end Go.Proofs.YtcmncfglcjcmhaaGreat
