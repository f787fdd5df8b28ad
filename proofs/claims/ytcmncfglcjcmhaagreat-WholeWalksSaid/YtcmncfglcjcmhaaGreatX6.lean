/- Texts that belong together, joined: Text6. No conditions. -/
import Derived.Test.YtcmncfglcjcmhaaGreatX0
/- The typed texts of the functions, printed by a program; each proved to imply the call. -/
set_option linter.unusedVariables false
set_option maxRecDepth 100000
set_option maxHeartbeats 4000000
namespace Go.Proofs.YtcmncfglcjcmhaaGreat
open Go.Den

def F_access_At (v0_s : Option Addr) (v1_id : Int) (v2_at : Int) (K : (Int × Value) → World → Prop) (w0 : World) : Prop :=
C_intern_Store_Weight v0_s v1_id (fun x1 w1 =>
allocK (.cells #[.int .i64 (0 : Int), .int .i64 (0 : Int), .int .i64 (0 : Int), .int .i64 (0 : Int), .int .u64 (0 : Int), .int .u64 (0 : Int)] t_api_Weight) w1 fun a2 w2 =>
stK w2 a2 (cells yapi_Weight x1.1) fun w3 =>
nilIfcK x1.2 fun b3 =>
gd (!b3) (
K ((0 : Int), x1.2) w3) (
JoinP (X := Bool × Unit) (fun R5 =>
gd (decide (v2_at < (0 : Int))) (
R5 (true, ()) w3) (
∃ x6 : Int, At w3 (a2.add 0) (cells (.int .i64) x6) ∧
R5 (decide (x6 ≤ v2_at), ()) w3)) (fun x4 w4 => ∀ _ : Env,
gd x4.1 (
K ((0 : Int), .iface t_api_Errno (.int .i64 (1 : Int))) w4) (
LoopP (X := Int × Int × Unit) (v1_id, v2_at, ()) w4 fun next8 x7 w5 => ∀ _ : Env,
C_intern_Store_Rule v0_s x7.1 (fun x9 w6 =>
allocK (.cells #[.int .i64 (0 : Int), .int .u8 (0 : Int), .int .i64 (0 : Int), .int .i64 (0 : Int), .int .i64 (0 : Int)] t_api_Rule) w6 fun a10 w7 =>
stK w7 a10 (cells yapi_Rule x9.1) fun w8 =>
nilIfcK x9.2 fun b11 =>
gd (!b11) (
K ((0 : Int), x9.2) w8) (
∃ x12 : Int, At w8 (a10.add 0) (cells (.int .i64) x12) ∧
gd (x12 == (1 : Int)) (
∃ x13 : Int, At w8 (a10.add 1) (cells (.int .u8) x13) ∧
K (x13, .nilIface) w8) (
∃ x14 : Int, At w8 (a10.add 2) (cells (.int .i64) x14) ∧
C_intern_Store_Weight v0_s x14 (fun x15 w9 =>
allocK (.cells #[.int .i64 (0 : Int), .int .i64 (0 : Int), .int .i64 (0 : Int), .int .i64 (0 : Int), .int .u64 (0 : Int), .int .u64 (0 : Int)] t_api_Weight) w9 fun a16 w10 =>
stK w10 a16 (cells yapi_Weight x15.1) fun w11 =>
nilIfcK x15.2 fun b17 =>
gd (!b17) (
K ((0 : Int), x15.2) w11) (
∃ x18 : yapi_Rule.T, At w11 a10 (cells yapi_Rule x18) ∧
∃ x19 : Int, At w11 (a16.add 0) (cells (.int .i64) x19) ∧
C_access_below x18 x19 x7.2.1 (fun x20 w12 =>
next8 (x20.1, x20.2, ()) w12) w11)) w8))) w5)))) w0
theorem S_access_At (v0_s : Option Addr) (v1_id : Int) (v2_at : Int) (K : (Int × Value) → World → Prop) (w0 : World) (h : F_access_At v0_s v1_id v2_at K w0) : C_access_At v0_s v1_id v2_at K w0 := by
  have e : denFn P [(5, [(29, .bool)]), (1006, [(1, .int .i64), (2, .int .i64)])] Tryz.f26 #[.pointer v0_s, .int .i64 v1_id, .int .i64 v2_at] (.tup (.pair (.int .u8) .iface)) K w0 = F_access_At v0_s v1_id v2_at K w0 := by kernel_rfl
  exact fn_sound mixed (f := 26) Tryz.func26 (by kernel_rfl) (e.mpr h)

def F_access_Path (v0_s : Option Addr) (v1_id : Int) (v2_at : Int) (K : (Sl × Value) → World → Prop) (w0 : World) : Prop :=
C_intern_Store_Weight v0_s v1_id (fun x1 w1 =>
allocK (.cells #[.int .i64 (0 : Int), .int .i64 (0 : Int), .int .i64 (0 : Int), .int .i64 (0 : Int), .int .u64 (0 : Int), .int .u64 (0 : Int)] t_api_Weight) w1 fun a2 w2 =>
stK w2 a2 (cells yapi_Weight x1.1) fun w3 =>
nilIfcK x1.2 fun b3 =>
gd (!b3) (
K (⟨none, 0, 0⟩, x1.2) w3) (
JoinP (X := Bool × Unit) (fun R5 =>
gd (decide (v2_at < (0 : Int))) (
R5 (true, ()) w3) (
∃ x6 : Int, At w3 (a2.add 0) (cells (.int .i64) x6) ∧
R5 (decide (x6 ≤ v2_at), ()) w3)) (fun x4 w4 => ∀ _ : Env,
gd x4.1 (
K (⟨none, 0, 0⟩, .iface t_api_Errno (.int .i64 (1 : Int))) w4) (
LoopP (X := Int × Int × Sl × Unit) (v1_id, v2_at, ⟨none, 0, 0⟩, ()) w4 fun next8 x7 w5 => ∀ _ : Env,
allocK (.cells #[.int .i64 x7.1] t_api_ID) w5 fun a9 w6 =>
appK t_api_ID 1 8 #[.int .i64 (0 : Int)] x7.2.2.1.a x7.2.2.1.len x7.2.2.1.cap (.slice (some a9) 1 1) 1 w6 fun s10 w7 =>
C_intern_Store_Rule v0_s x7.1 (fun x11 w8 =>
allocK (.cells #[.int .i64 (0 : Int), .int .u8 (0 : Int), .int .i64 (0 : Int), .int .i64 (0 : Int), .int .i64 (0 : Int)] t_api_Rule) w8 fun a12 w9 =>
stK w9 a12 (cells yapi_Rule x11.1) fun w10 =>
nilIfcK x11.2 fun b13 =>
gd (!b13) (
K (⟨none, 0, 0⟩, x11.2) w10) (
∃ x14 : Int, At w10 (a12.add 0) (cells (.int .i64) x14) ∧
gd (x14 == (1 : Int)) (
K (s10, .nilIface) w10) (
∃ x15 : Int, At w10 (a12.add 2) (cells (.int .i64) x15) ∧
C_intern_Store_Weight v0_s x15 (fun x16 w11 =>
allocK (.cells #[.int .i64 (0 : Int), .int .i64 (0 : Int), .int .i64 (0 : Int), .int .i64 (0 : Int), .int .u64 (0 : Int), .int .u64 (0 : Int)] t_api_Weight) w11 fun a17 w12 =>
stK w12 a17 (cells yapi_Weight x16.1) fun w13 =>
nilIfcK x16.2 fun b18 =>
gd (!b18) (
K (⟨none, 0, 0⟩, x16.2) w13) (
∃ x19 : yapi_Rule.T, At w13 a12 (cells yapi_Rule x19) ∧
∃ x20 : Int, At w13 (a17.add 0) (cells (.int .i64) x20) ∧
C_access_below x19 x20 x7.2.1 (fun x21 w14 =>
next8 (x21.1, x21.2, s10, ()) w14) w13)) w10))) w7)))) w0
theorem S_access_Path (v0_s : Option Addr) (v1_id : Int) (v2_at : Int) (K : (Sl × Value) → World → Prop) (w0 : World) (h : F_access_Path v0_s v1_id v2_at K w0) : C_access_Path v0_s v1_id v2_at K w0 := by
  have e : denFn P [(5, [(30, .bool)]), (1007, [(1, .int .i64), (2, .int .i64), (10, .slice)])] Tryz.f27 #[.pointer v0_s, .int .i64 v1_id, .int .i64 v2_at] (.tup (.pair .slice .iface)) K w0 = F_access_Path v0_s v1_id v2_at K w0 := by kernel_rfl
  exact fn_sound mixed (f := 27) Tryz.func27 (by kernel_rfl) (e.mpr h)

def F_intern_Store_Depth (v0_s : Option Addr) (v1_id : Int) (K : (Int × Value) → World → Prop) (w0 : World) : Prop :=
gd v0_s.isNone (
K ((0 : Int), .iface t_api_Errno (.int .i64 (5 : Int))) w0) (
C_intern_Store_known v0_s v1_id (fun x1 w1 =>
gd (!x1) (
K ((0 : Int), .iface t_api_Errno (.int .i64 (1 : Int))) w1) (
C_intern_Store_at v0_s v1_id (fun x2 w2 =>
K (x2.2.2.1, .nilIface) w2) w1)) w0)
theorem S_intern_Store_Depth (v0_s : Option Addr) (v1_id : Int) (K : (Int × Value) → World → Prop) (w0 : World) (h : F_intern_Store_Depth v0_s v1_id K w0) : C_intern_Store_Depth v0_s v1_id K w0 := by
  have e : denFn P [] Tryz.f28 #[.pointer v0_s, .int .i64 v1_id] (.tup (.pair (.int .i64) .iface)) K w0 = F_intern_Store_Depth v0_s v1_id K w0 := by kernel_rfl
  exact fn_sound mixed (f := 28) Tryz.func28 (by kernel_rfl) (e.mpr h)

def F_intern_Store_Rule (v0_s : Option Addr) (v1_id : Int) (K : (yapi_Rule.T × Value) → World → Prop) (w0 : World) : Prop :=
allocK (.cells #[.int .i64 (0 : Int), .int .u8 (0 : Int), .int .i64 (0 : Int), .int .i64 (0 : Int), .int .i64 (0 : Int)] t_api_Rule) w0 fun a1 w1 =>
gd v0_s.isNone (
stK w1 a1 ([.int .i64 (0 : Int), .int .u8 (0 : Int), .int .i64 (0 : Int), .int .i64 (0 : Int), .int .i64 (0 : Int)]) fun w2 =>
∃ x2 : yapi_Rule.T, At w2 a1 (cells yapi_Rule x2) ∧
K (x2, .iface t_api_Errno (.int .i64 (5 : Int))) w2) (
JoinP (X := Bool × Unit) (fun R4 =>
gd (v1_id == (0 : Int)) (
R4 (true, ()) w1) (
C_intern_Store_known v0_s v1_id (fun x5 w4 =>
R4 (!x5, ()) w4) w1)) (fun x3 w3 => ∀ _ : Env,
gd x3.1 (
stK w3 a1 ([.int .i64 (0 : Int), .int .u8 (0 : Int), .int .i64 (0 : Int), .int .i64 (0 : Int), .int .i64 (0 : Int)]) fun w5 =>
∃ x6 : yapi_Rule.T, At w5 a1 (cells yapi_Rule x6) ∧
K (x6, .iface t_api_Errno (.int .i64 (1 : Int))) w5) (
nonNil v0_s fun p7 =>
∃ x8 : Sl, At w3 (p7.add 1) (cells .slice x8) ∧
arith .i64 (v1_id - (1 : Int)) fun n9 =>
idxK x8.a x8.len n9 13 fun p10 =>
∃ x11 : yapi_Rule.T, At w3 (p10.add 0) (cells yapi_Rule x11) ∧
stK w3 a1 (cells yapi_Rule x11) fun w6 =>
∃ x12 : yapi_Rule.T, At w6 a1 (cells yapi_Rule x12) ∧
K (x12, .nilIface) w6)))
theorem S_intern_Store_Rule (v0_s : Option Addr) (v1_id : Int) (K : (yapi_Rule.T × Value) → World → Prop) (w0 : World) (h : F_intern_Store_Rule v0_s v1_id K w0) : C_intern_Store_Rule v0_s v1_id K w0 := by
  have e : denFn P [(4, [(17, .bool)])] Tryz.f29 #[.pointer v0_s, .int .i64 v1_id] (.tup (.pair yapi_Rule .iface)) K w0 = F_intern_Store_Rule v0_s v1_id K w0 := by kernel_rfl
  exact fn_sound mixed (f := 29) Tryz.func29 (by kernel_rfl) (e.mpr h)

def F_intern_New (v0_most : Int) (K : (Option Addr) → World → Prop) (w0 : World) : Prop :=
C_length_Clip v0_most (0 : Int) (1048576 : Int) (fun x1 w1 =>
allocK (.map #[] 0) w1 fun a2 w2 =>
allocK (.cells ([.int .i64 x1, .slice none 0 0, .map (some a2.block)]).toArray t_intern_Store) w2 fun a3 w3 =>
K (some a3) w3) w0
theorem S_intern_New (v0_most : Int) (K : (Option Addr) → World → Prop) (w0 : World) (h : F_intern_New v0_most K w0) : C_intern_New v0_most K w0 := by
  have e : denFn P [] Tryz.f30 #[.int .i64 v0_most] .ptr K w0 = F_intern_New v0_most K w0 := by kernel_rfl
  exact fn_sound mixed (f := 30) Tryz.func30 (by kernel_rfl) (e.mpr h)

def F_top_build (v0_s : Option Addr) (v1_list : Sl) (K : (Sl × Sl × Bool) → World → Prop) (w0 : World) : Prop :=
JoinP (X := Sl × Sl × Unit) (fun R2 =>
LoopP (X := Sl × Sl × Int × Unit) (⟨none, 0, 0⟩, ⟨none, 0, 0⟩, (0 : Int), ()) w0 fun next4 x3 w2 => ∀ _ : Env,
JoinP (X := Unit) (fun R6 =>
gd (decide (x3.2.2.1 < (v1_list.len : Int))) (
gd (decide (x3.2.2.1 < (30 : Int))) (
R6 () w2) (
R2 (x3.1, x3.2.1, ()) w2)) (
R2 (x3.1, x3.2.1, ()) w2)) (fun x5 w3 => ∀ _ : Env,
JoinP (X := Sl × Sl × Unit) (fun R8 =>
idxK v1_list.a v1_list.len x3.2.2.1 6 fun p9 =>
∃ x10 : yevergreentop_Make.T, At w3 p9 (cells yevergreentop_Make x10) ∧
C_top_plain x3.2.1 x10 (fun x11 w5 =>
gd (!x11.2) (
R8 (x3.1, x3.2.1, ()) w5) (
idxK v1_list.a v1_list.len x3.2.2.1 6 fun p12 =>
∃ x13 : yevergreentop_Make.T, At w5 p12 (cells yevergreentop_Make x13) ∧
C_top_made v0_s x3.1 x3.2.1 x13 (fun x14 w6 =>
JoinP (X := Bool × Unit) (fun R16 =>
nilIfcK x14.2 fun b17 =>
gd (!b17) (
R16 (true, ()) w6) (
R16 (!((decide ((0 : Int) < x14.1)) == (decide ((0 : Int) < (x11.1.size : Int)))), ()) w6)) (fun x15 w7 => ∀ _ : Env,
gd x15.1 (
K (⟨none, 0, 0⟩, ⟨none, 0, 0⟩, false) w7) (
allocK (.cells #[.int .i64 x14.1] t_api_ID) w7 fun a18 w8 =>
appK t_api_ID 1 8 #[.int .i64 (0 : Int)] x3.1.a x3.1.len x3.1.cap (.slice (some a18) 1 1) 1 w8 fun s19 w9 =>
allocK (.cells #[.string x11.1] t_string) w9 fun a20 w10 =>
appK t_string 1 16 #[.string (⟨#[]⟩ : ByteArray)] x3.2.1.a x3.2.1.len x3.2.1.cap (.slice (some a20) 1 1) 1 w10 fun s21 w11 =>
R8 (s19, s21, ()) w11))) w5)) w3) (fun x7 w4 => ∀ _ : Env,
arith .i64 (x3.2.2.1 + (1 : Int)) fun n22 =>
next4 (x7.1, x7.2.1, n22, ()) w4))) (fun x1 w1 => ∀ _ : Env,
K (x1.1, x1.2.1, true) w1)
theorem S_top_build (v0_s : Option Addr) (v1_list : Sl) (K : (Sl × Sl × Bool) → World → Prop) (w0 : World) (h : F_top_build v0_s v1_list K w0) : C_top_build v0_s v1_list K w0 := by
  have e : denFn P [(12, [(7, .slice), (8, .slice)]), (1004, [(7, .slice), (8, .slice), (9, .int .i64)]), (6, []), (5, [(7, .slice), (8, .slice)]), (10, [(55, .bool)])] Tryz.f31 #[.pointer v0_s, .slice v1_list.a v1_list.len v1_list.cap] (.tup (.pair .slice (.pair .slice .bool))) K w0 = F_top_build v0_s v1_list K w0 := by kernel_rfl
  exact fn_sound mixed (f := 31) Tryz.func31 (by kernel_rfl) (e.mpr h)

end Go.Proofs.YtcmncfglcjcmhaaGreat
