/- Texts that belong together, joined: Text9. No conditions. -/
import Derived.Test.YtnmgjpcooncjlaaGreatX0
/- The typed texts of the functions, printed by a program; each proved to imply the call. -/
set_option linter.unusedVariables false
set_option maxRecDepth 100000
set_option maxHeartbeats 4000000
namespace Go.Proofs.YtnmgjpcooncjlaaGreat
open Go.Den

def F_varint_Put (v0_n : Int) (K : Sl → World → Prop) (w0 : World) : Prop :=
0 ≤ (0 : Int) ∧ (0 : Int) ≤ (10 : Int) ∧ (10 : Int) ≤ 9223372036854775807 ∧ 1 * (10 : Int) ≤ 281474976710656 ∧
allocK (.cells (zrow #[.int .u8 (0 : Int)] ((10 : Int).toNat * 1)) t_uint8) w0 fun a1 w1 =>
LoopP (X := Int × Sl × Unit) (v0_n, ⟨some a1, (0 : Int).toNat, (10 : Int).toNat⟩, ()) w1 fun next3 x2 w2 => ∀ _ : Env,
gd (decide ((128 : Int) ≤ x2.1)) (
arith .u8 (x2.1) fun n4 =>
arith .u8 ((BitVec.ofInt (IntKind.bits .u8) n4 ||| BitVec.ofInt (IntKind.bits .u8) (128 : Int)).toNat) fun n5 =>
allocK (.cells #[.int .u8 n5] t_uint8) w2 fun a6 w3 =>
appK t_uint8 1 1 #[.int .u8 (0 : Int)] x2.2.1.a x2.2.1.len x2.2.1.cap (.slice (some a6) 1 1) 1 w3 fun s7 w4 =>
0 ≤ (7 : Int) ∧
letZ (Int.fdiv x2.1 (2 ^ min (Int.toNat (7 : Int)) (IntKind.bits .u64))) fun n8 =>
next3 (n8, s7, ()) w4) (
arith .u8 (x2.1) fun n9 =>
allocK (.cells #[.int .u8 n9] t_uint8) w2 fun a10 w5 =>
appK t_uint8 1 1 #[.int .u8 (0 : Int)] x2.2.1.a x2.2.1.len x2.2.1.cap (.slice (some a10) 1 1) 1 w5 fun s11 w6 =>
K s11 w6)
theorem S_varint_Put (v0_n : Int) (K : Sl → World → Prop) (w0 : World) (h : F_varint_Put v0_n K w0) : C_varint_Put v0_n K w0 := by
  have e : denFn P [(1002, [(0, .int .u64), (3, .slice)])] Tryz.f62 #[.int .u64 v0_n] .slice K w0 = F_varint_Put v0_n K w0 := by kernel_rfl
  exact fn_sound mixed (f := 62) Tryz.func62 (by kernel_rfl) (e.mpr h)

def F_varint_PutBytes (v0_b : Sl) (K : Sl → World → Prop) (w0 : World) : Prop :=
arith .u64 ((v0_b.len : Int)) fun n1 =>
C_varint_Put n1 (fun x2 w1 =>
appK t_uint8 1 1 #[.int .u8 (0 : Int)] x2.a x2.len x2.cap (.slice v0_b.a v0_b.len v0_b.cap) v0_b.len w1 fun s3 w2 =>
K s3 w2) w0
theorem S_varint_PutBytes (v0_b : Sl) (K : Sl → World → Prop) (w0 : World) (h : F_varint_PutBytes v0_b K w0) : C_varint_PutBytes v0_b K w0 := by
  have e : denFn P [] Tryz.f63 #[.slice v0_b.a v0_b.len v0_b.cap] .slice K w0 = F_varint_PutBytes v0_b K w0 := by kernel_rfl
  exact fn_sound mixed (f := 63) Tryz.func63 (by kernel_rfl) (e.mpr h)

def F_intern_Store_Weight (v0_s : Option Addr) (v1_id : Int) (K : (yapi_Weight.T × Value) → World → Prop) (w0 : World) : Prop :=
allocK (.cells #[.int .i64 (0 : Int), .int .i64 (0 : Int), .int .i64 (0 : Int), .int .i64 (0 : Int), .int .u64 (0 : Int), .int .u64 (0 : Int)] t_api_Weight) w0 fun a1 w1 =>
gd v0_s.isNone (
stK w1 a1 ([.int .i64 (0 : Int), .int .i64 (0 : Int), .int .i64 (0 : Int), .int .i64 (0 : Int), .int .u64 (0 : Int), .int .u64 (0 : Int)]) fun w2 =>
∃ x2 : yapi_Weight.T, At w2 a1 (cells yapi_Weight x2) ∧
K (x2, .iface t_api_Errno (.int .i64 (5 : Int))) w2) (
C_intern_Store_known v0_s v1_id (fun x3 w3 =>
gd (!x3) (
stK w3 a1 ([.int .i64 (0 : Int), .int .i64 (0 : Int), .int .i64 (0 : Int), .int .i64 (0 : Int), .int .u64 (0 : Int), .int .u64 (0 : Int)]) fun w4 =>
∃ x4 : yapi_Weight.T, At w4 a1 (cells yapi_Weight x4) ∧
K (x4, .iface t_api_Errno (.int .i64 (1 : Int))) w4) (
C_intern_Store_at v0_s v1_id (fun x5 w5 =>
stK w5 a1 ([.int .i64 x5.2.1.1, .int .i64 x5.2.1.2.1, .int .i64 x5.2.1.2.2.1, .int .i64 x5.2.1.2.2.2.1, .int .u64 x5.2.1.2.2.2.2.1, .int .u64 x5.2.1.2.2.2.2.2]) fun w6 =>
∃ x6 : yapi_Weight.T, At w6 a1 (cells yapi_Weight x6) ∧
K (x6, .nilIface) w6) w3)) w1)
theorem S_intern_Store_Weight (v0_s : Option Addr) (v1_id : Int) (K : (yapi_Weight.T × Value) → World → Prop) (w0 : World) (h : F_intern_Store_Weight v0_s v1_id K w0) : C_intern_Store_Weight v0_s v1_id K w0 := by
  have e : denFn P [] Tryz.f64 #[.pointer v0_s, .int .i64 v1_id] (.tup (.pair yapi_Weight .iface)) K w0 = F_intern_Store_Weight v0_s v1_id K w0 := by kernel_rfl
  exact fn_sound mixed (f := 64) Tryz.func64 (by kernel_rfl) (e.mpr h)

def F_intern_Store_Export (v0_s : Option Addr) (v1_id : Int) (K : (Sl × Value) → World → Prop) (w0 : World) : Prop :=
gd v0_s.isNone (
K (⟨none, 0, 0⟩, .iface t_api_Errno (.int .i64 (5 : Int))) w0) (
C_intern_Store_known v0_s v1_id (fun x1 w1 =>
gd (!x1) (
K (⟨none, 0, 0⟩, .iface t_api_Errno (.int .i64 (1 : Int))) w1) (
C_intern_Store_reach v0_s v1_id (fun x2 w2 =>
allocK (.map #[] 0) w2 fun a3 w3 =>
0 ≤ (0 : Int) ∧ (0 : Int) ≤ (x2.len : Int) ∧ (x2.len : Int) ≤ 9223372036854775807 ∧ 40 * (x2.len : Int) ≤ 281474976710656 ∧
allocK (.cells (zrow #[.int .i64 (0 : Int), .int .u8 (0 : Int), .int .i64 (0 : Int), .int .i64 (0 : Int), .int .i64 (0 : Int)] ((x2.len : Int).toNat * 5)) t_api_Rule) w3 fun a4 w4 =>
LoopP (X := Sl × Int × Unit) (⟨some a4, (0 : Int).toNat, (x2.len : Int).toNat⟩, (0 : Int), ()) w4 fun next6 x5 w5 => ∀ _ : Env,
gd (decide (x5.2.1 < (x2.len : Int))) (
idxK x2.a x2.len x5.2.1 1 fun p7 =>
∃ x8 : Int, At w5 p7 (cells (.int .i64) x8) ∧
arith .i64 (x5.2.1 + (1 : Int)) fun n9 =>
runU P (Instr.mapUpdate t_map_api_ID_api_ID (.map (some a3.block)) (.int .i64 x8) (.int .i64 n9)) w5 fun w6 =>
nonNil v0_s fun p10 =>
∃ x11 : Sl, At w6 (p10.add 1) (cells .slice x11) ∧
arith .i64 (x8 - (1 : Int)) fun n12 =>
idxK x11.a x11.len n12 13 fun p13 =>
∃ x14 : yapi_Rule.T, At w6 (p13.add 0) (cells yapi_Rule x14) ∧
allocK (.cells #[.int .i64 (0 : Int), .int .u8 (0 : Int), .int .i64 (0 : Int), .int .i64 (0 : Int), .int .i64 (0 : Int)] t_api_Rule) w6 fun a15 w7 =>
stK w7 a15 (cells yapi_Rule x14) fun w8 =>
drawK w8 fun w9 =>
∃ x16 : Int, At w9 (a15.add 2) (cells (.int .i64) x16) ∧
∃ x17 : Int, Lk1 P t_map_api_ID_api_ID (.int .i64) (.map (some a3.block)) (.int .i64 x16) x17 w9 ∧
∃ x18 : Int, At w9 (a15.add 3) (cells (.int .i64) x18) ∧
∃ x19 : Int, Lk1 P t_map_api_ID_api_ID (.int .i64) (.map (some a3.block)) (.int .i64 x18) x19 w9 ∧
stK w9 (a15.add 2) ([.int .i64 x17]) fun w10 =>
Lk1 P t_map_api_ID_api_ID (.int .i64) (.map (some a3.block)) (.int .i64 x18) x19 w10 ∧
stK w10 (a15.add 3) ([.int .i64 x19]) fun w11 =>
∃ x20 : yapi_Rule.T, At w11 a15 (cells yapi_Rule x20) ∧
allocK (.cells (cells yapi_Rule x20).toArray t_api_Rule) w11 fun a21 w12 =>
appK t_api_Rule 5 40 #[.int .i64 (0 : Int), .int .u8 (0 : Int), .int .i64 (0 : Int), .int .i64 (0 : Int), .int .i64 (0 : Int)] x5.1.a x5.1.len x5.1.cap (.slice (some a21) 1 1) 1 w12 fun s22 w13 =>
arith .i64 (x5.2.1 + (1 : Int)) fun n23 =>
next6 (s22, n23, ()) w13) (
K (x5.1, .nilIface) w5)) w1)) w0)
theorem S_intern_Store_Export (v0_s : Option Addr) (v1_id : Int) (K : (Sl × Value) → World → Prop) (w0 : World) (h : F_intern_Store_Export v0_s v1_id K w0) : C_intern_Store_Export v0_s v1_id K w0 := by
  have e : denFn P [(1009, [(8, .slice), (31, .int .i64)])] Tryz.f65 #[.pointer v0_s, .int .i64 v1_id] (.tup (.pair .slice .iface)) K w0 = F_intern_Store_Export v0_s v1_id K w0 := by kernel_rfl
  exact fn_sound mixed (f := 65) Tryz.func65 (by kernel_rfl) (e.mpr h)

def F_history_Graph_ancestors (v0_g : Option Addr) (v1_n : Int) (K : Sl → World → Prop) (w0 : World) : Prop :=
arith .i64 (v1_n + (1 : Int)) fun n1 =>
0 ≤ n1 ∧ n1 ≤ n1 ∧ n1 ≤ 9223372036854775807 ∧ 1 * n1 ≤ 281474976710656 ∧
allocK (.cells (zrow #[.bool false] (n1.toNat * 1)) t_bool) w0 fun a2 w1 =>
idxK (some a2) n1.toNat v1_n 1 fun p3 =>
stK w1 p3 ([.bool true]) fun w2 =>
LoopP (X := Int × Unit) (v1_n, ()) w2 fun next5 x4 w3 => ∀ _ : Env,
gd (decide ((0 : Int) ≤ x4.1)) (
JoinP (X := Unit) (fun R7 =>
idxK (some a2) n1.toNat x4.1 1 fun p8 =>
∃ x9 : Bool, At w3 p8 (cells .bool x9) ∧
gd x9 (
nonNil v0_g fun p10 =>
∃ x11 : Sl, At w3 (p10.add 0) (cells .slice x11) ∧
idxK x11.a x11.len x4.1 3 fun p12 =>
∃ x13 : Sl, At w3 (p12.add 0) (cells .slice x13) ∧
LoopP (X := Int × Unit) ((0 : Int), ()) w3 fun next15 x14 w5 => ∀ _ : Env,
gd (decide (x14.1 < (x13.len : Int))) (
idxK x13.a x13.len x14.1 1 fun p16 =>
∃ x17 : Int, At w5 p16 (cells (.int .i64) x17) ∧
idxK (some a2) n1.toNat x17 1 fun p18 =>
stK w5 p18 ([.bool true]) fun w6 =>
arith .i64 (x14.1 + (1 : Int)) fun n19 =>
next15 (n19, ()) w6) (
R7 () w5)) (
R7 () w3)) (fun x6 w4 => ∀ _ : Env,
arith .i64 (x4.1 - (1 : Int)) fun n20 =>
next5 (n20, ()) w4)) (
K (⟨some a2, n1.toNat, n1.toNat⟩) w3)
theorem S_history_Graph_ancestors (v0_g : Option Addr) (v1_n : Int) (K : Sl → World → Prop) (w0 : World) (h : F_history_Graph_ancestors v0_g v1_n K w0) : C_history_Graph_ancestors v0_g v1_n K w0 := by
  have e : denFn P [(1004, [(6, .int .i64)]), (5, []), (1008, [(33, .int .i64)])] Tryz.f66 #[.pointer v0_g, .int .i64 v1_n] .slice K w0 = F_history_Graph_ancestors v0_g v1_n K w0 := by kernel_rfl
  exact fn_sound mixed (f := 66) Tryz.func66 (by kernel_rfl) (e.mpr h)

def F_length_Clip (v0_n : Int) (v1_low : Int) (v2_high : Int) (K : Int → World → Prop) (w0 : World) : Prop :=
gd (decide (v0_n < v1_low)) (
K v1_low w0) (
gd (decide (v2_high < v0_n)) (
K v2_high w0) (
K v0_n w0))
theorem S_length_Clip (v0_n : Int) (v1_low : Int) (v2_high : Int) (K : Int → World → Prop) (w0 : World) (h : F_length_Clip v0_n v1_low v2_high K w0) : C_length_Clip v0_n v1_low v2_high K w0 := by
  have e : denFn P [] Tryz.f67 #[.int .i64 v0_n, .int .i64 v1_low, .int .i64 v2_high] (.int .i64) K w0 = F_length_Clip v0_n v1_low v2_high K w0 := by kernel_rfl
  exact fn_sound mixed (f := 67) Tryz.func67 (by kernel_rfl) (e.mpr h)

def F_intern_Store_Letter (v0_s : Option Addr) (v1_b : Int) (K : (Int × Value) → World → Prop) (w0 : World) : Prop :=
gd v0_s.isNone (
K ((0 : Int), .iface t_api_Errno (.int .i64 (5 : Int))) w0) (
allocK (.cells #[.int .i64 (0 : Int), .int .u8 (0 : Int), .int .i64 (0 : Int), .int .i64 (0 : Int), .int .i64 (0 : Int)] t_api_Rule) w0 fun a1 w1 =>
stK w1 a1 ([.int .i64 (1 : Int), .int .u8 v1_b, .int .i64 (0 : Int), .int .i64 (0 : Int), .int .i64 (0 : Int)]) fun w2 =>
∃ x2 : yapi_Rule.T, At w2 a1 (cells yapi_Rule x2) ∧
C_intern_Store_find v0_s x2 (fun x3 w3 =>
JoinP (X := Bool × Unit) (fun R5 =>
gd (x3.1 != (0 : Int)) (
R5 (true, ()) w3) (
nilIfcK x3.2 fun b6 =>
R5 (!b6, ()) w3)) (fun x4 w4 => ∀ _ : Env,
gd x4.1 (
K (x3.1, x3.2) w4) (
drawK w4 fun w5 =>
∃ x7 : yapi_Rule.T, At w5 a1 (cells yapi_Rule x7) ∧
C_weight_Letter v1_b (fun x8 w6 =>
At w6 a1 (cells yapi_Rule x7) ∧
C_intern_Store_add v0_s ((x7.1, (x7.2.1, (x7.2.2.1, (x7.2.2.2.1, x7.2.2.2.2)))), ((x8.1, (x8.2.1, (x8.2.2.1, (x8.2.2.2.1, (x8.2.2.2.2.1, x8.2.2.2.2.2))))), ((0 : Int), true))) (fun x9 w7 =>
K (x9, .nilIface) w7) w6) w5))) w2)
theorem S_intern_Store_Letter (v0_s : Option Addr) (v1_b : Int) (K : (Int × Value) → World → Prop) (w0 : World) (h : F_intern_Store_Letter v0_s v1_b K w0) : C_intern_Store_Letter v0_s v1_b K w0 := by
  have e : denFn P [(6, [(25, .bool)])] Tryz.f68 #[.pointer v0_s, .int .u8 v1_b] (.tup (.pair (.int .i64) .iface)) K w0 = F_intern_Store_Letter v0_s v1_b K w0 := by kernel_rfl
  exact fn_sound mixed (f := 68) Tryz.func68 (by kernel_rfl) (e.mpr h)

def F_intern_Store_Power (v0_s : Option Addr) (v1_x : Int) (v2_k : Int) (K : (Int × Value) → World → Prop) (w0 : World) : Prop :=
gd v0_s.isNone (
K ((0 : Int), .iface t_api_Errno (.int .i64 (5 : Int))) w0) (
JoinP (X := Bool × Unit) (fun R2 =>
C_intern_Store_known v0_s v1_x (fun x3 w2 =>
gd (!x3) (
R2 (true, ()) w2) (
R2 (decide (v2_k < (0 : Int)), ()) w2)) w0) (fun x1 w1 => ∀ _ : Env,
gd x1.1 (
K ((0 : Int), .iface t_api_Errno (.int .i64 (1 : Int))) w1) (
JoinP (X := Bool × Unit) (fun R5 =>
gd (v2_k == (0 : Int)) (
R5 (true, ()) w1) (
R5 (v1_x == (0 : Int), ()) w1)) (fun x4 w3 => ∀ _ : Env,
gd x4.1 (
K ((0 : Int), .nilIface) w3) (
gd (v2_k == (1 : Int)) (
K (v1_x, .nilIface) w3) (
C_intern_Store_at v0_s v1_x (fun x6 w4 =>
allocK (.cells #[.int .i64 (0 : Int), .int .u8 (0 : Int), .int .i64 (0 : Int), .int .i64 (0 : Int), .int .i64 (0 : Int), .int .i64 (0 : Int), .int .i64 (0 : Int), .int .i64 (0 : Int), .int .i64 (0 : Int), .int .u64 (0 : Int), .int .u64 (0 : Int), .int .i64 (0 : Int), .bool false] t_intern_entry) w4 fun a7 w5 =>
stK w5 a7 (cells yintern_entry x6) fun w6 =>
∃ x8 : Int, At w6 ((a7.add 5).add 0) (cells (.int .i64) x8) ∧
C_length_Mul x8 v2_k (fun x9 w7 =>
nilIfcK x9.2 fun b10 =>
gd (!b10) (
K ((0 : Int), .iface t_api_Errno (.int .i64 (2 : Int))) w7) (
allocK (.cells #[.int .i64 (0 : Int), .int .u8 (0 : Int), .int .i64 (0 : Int), .int .i64 (0 : Int), .int .i64 (0 : Int)] t_api_Rule) w7 fun a11 w8 =>
stK w8 a11 ([.int .i64 (3 : Int), .int .u8 (0 : Int), .int .i64 v1_x, .int .i64 (0 : Int), .int .i64 v2_k]) fun w9 =>
∃ x12 : yapi_Rule.T, At w9 a11 (cells yapi_Rule x12) ∧
C_intern_Store_find v0_s x12 (fun x13 w10 =>
JoinP (X := Bool × Unit) (fun R15 =>
gd (x13.1 != (0 : Int)) (
R15 (true, ()) w10) (
nilIfcK x13.2 fun b16 =>
R15 (!b16, ()) w10)) (fun x14 w11 => ∀ _ : Env,
gd x14.1 (
K (x13.1, x13.2) w11) (
∃ x17 : yapi_Weight.T, At w11 (a7.add 5) (cells yapi_Weight x17) ∧
C_weight_Repeat x17 v2_k (fun x18 w12 =>
allocK (.cells #[.int .i64 (0 : Int), .int .i64 (0 : Int), .int .i64 (0 : Int), .int .i64 (0 : Int), .int .u64 (0 : Int), .int .u64 (0 : Int)] t_api_Weight) w12 fun a19 w13 =>
stK w13 a19 (cells yapi_Weight x18.1) fun w14 =>
nilIfcK x18.2 fun b20 =>
gd (!b20) (
K ((0 : Int), x18.2) w14) (
∃ x21 : yapi_Rule.T, At w14 a11 (cells yapi_Rule x21) ∧
∃ x22 : yapi_Weight.T, At w14 a19 (cells yapi_Weight x22) ∧
∃ x23 : Int, At w14 (a7.add 11) (cells (.int .i64) x23) ∧
arith .i64 ((1 : Int) + x23) fun n24 =>
C_intern_Store_add v0_s ((x21.1, (x21.2.1, (x21.2.2.1, (x21.2.2.2.1, x21.2.2.2.2)))), ((x22.1, (x22.2.1, (x22.2.2.1, (x22.2.2.2.1, (x22.2.2.2.2.1, x22.2.2.2.2.2))))), (n24, false))) (fun x25 w15 =>
K (x25, .nilIface) w15) w14)) w11))) w9)) w6) w3))))))
theorem S_intern_Store_Power (v0_s : Option Addr) (v1_x : Int) (v2_k : Int) (K : (Int × Value) → World → Prop) (w0 : World) (h : F_intern_Store_Power v0_s v1_x v2_k K w0) : C_intern_Store_Power v0_s v1_x v2_k K w0 := by
  have e : denFn P [(4, [(26, .bool)]), (6, [(33, .bool)]), (16, [(65, .bool)])] Tryz.f69 #[.pointer v0_s, .int .i64 v1_x, .int .i64 v2_k] (.tup (.pair (.int .i64) .iface)) K w0 = F_intern_Store_Power v0_s v1_x v2_k K w0 := by kernel_rfl
  exact fn_sound mixed (f := 69) Tryz.func69 (by kernel_rfl) (e.mpr h)

def F_intern_Store_Pair (v0_s : Option Addr) (v1_l : Int) (v2_r : Int) (K : (Int × Value) → World → Prop) (w0 : World) : Prop :=
gd v0_s.isNone (
K ((0 : Int), .iface t_api_Errno (.int .i64 (5 : Int))) w0) (
JoinP (X := Bool × Unit) (fun R2 =>
C_intern_Store_known v0_s v1_l (fun x3 w2 =>
gd (!x3) (
R2 (true, ()) w2) (
C_intern_Store_known v0_s v2_r (fun x4 w3 =>
R2 (!x4, ()) w3) w2)) w0) (fun x1 w1 => ∀ _ : Env,
gd x1.1 (
K ((0 : Int), .iface t_api_Errno (.int .i64 (1 : Int))) w1) (
gd (v1_l == (0 : Int)) (
K (v2_r, .nilIface) w1) (
gd (v2_r == (0 : Int)) (
K (v1_l, .nilIface) w1) (
C_intern_Store_at v0_s v1_l (fun x5 w4 =>
C_intern_Store_at v0_s v2_r (fun x6 w5 =>
allocK (.cells #[.int .i64 (0 : Int), .int .u8 (0 : Int), .int .i64 (0 : Int), .int .i64 (0 : Int), .int .i64 (0 : Int), .int .i64 (0 : Int), .int .i64 (0 : Int), .int .i64 (0 : Int), .int .i64 (0 : Int), .int .u64 (0 : Int), .int .u64 (0 : Int), .int .i64 (0 : Int), .bool false] t_intern_entry) w5 fun a7 w6 =>
allocK (.cells #[.int .i64 (0 : Int), .int .u8 (0 : Int), .int .i64 (0 : Int), .int .i64 (0 : Int), .int .i64 (0 : Int), .int .i64 (0 : Int), .int .i64 (0 : Int), .int .i64 (0 : Int), .int .i64 (0 : Int), .int .u64 (0 : Int), .int .u64 (0 : Int), .int .i64 (0 : Int), .bool false] t_intern_entry) w6 fun a8 w7 =>
stK w7 a7 (cells yintern_entry x5) fun w8 =>
stK w8 a8 (cells yintern_entry x6) fun w9 =>
∃ x9 : Int, At w9 ((a7.add 5).add 0) (cells (.int .i64) x9) ∧
∃ x10 : Int, At w9 ((a8.add 5).add 0) (cells (.int .i64) x10) ∧
C_length_Add x9 x10 (fun x11 w10 =>
nilIfcK x11.2 fun b12 =>
gd (!b12) (
K ((0 : Int), .iface t_api_Errno (.int .i64 (2 : Int))) w10) (
allocK (.cells #[.int .i64 (0 : Int), .int .u8 (0 : Int), .int .i64 (0 : Int), .int .i64 (0 : Int), .int .i64 (0 : Int)] t_api_Rule) w10 fun a13 w11 =>
stK w11 a13 ([.int .i64 (2 : Int), .int .u8 (0 : Int), .int .i64 v1_l, .int .i64 v2_r, .int .i64 (0 : Int)]) fun w12 =>
∃ x14 : yapi_Rule.T, At w12 a13 (cells yapi_Rule x14) ∧
C_intern_Store_find v0_s x14 (fun x15 w13 =>
JoinP (X := Bool × Unit) (fun R17 =>
gd (x15.1 != (0 : Int)) (
R17 (true, ()) w13) (
nilIfcK x15.2 fun b18 =>
R17 (!b18, ()) w13)) (fun x16 w14 => ∀ _ : Env,
gd x16.1 (
K (x15.1, x15.2) w14) (
∃ x19 : yapi_Weight.T, At w14 (a7.add 5) (cells yapi_Weight x19) ∧
∃ x20 : yapi_Weight.T, At w14 (a8.add 5) (cells yapi_Weight x20) ∧
C_weight_Join x19 x20 (fun x21 w15 =>
allocK (.cells #[.int .i64 (0 : Int), .int .i64 (0 : Int), .int .i64 (0 : Int), .int .i64 (0 : Int), .int .u64 (0 : Int), .int .u64 (0 : Int)] t_api_Weight) w15 fun a22 w16 =>
stK w16 a22 (cells yapi_Weight x21.1) fun w17 =>
nilIfcK x21.2 fun b23 =>
gd (!b23) (
K ((0 : Int), x21.2) w17) (
∃ x24 : Int, At w17 (a7.add 11) (cells (.int .i64) x24) ∧
∃ x25 : Int, At w17 (a8.add 11) (cells (.int .i64) x25) ∧
arith .i64 (x24 - x25) fun n26 =>
∃ x27 : yapi_Rule.T, At w17 a13 (cells yapi_Rule x27) ∧
∃ x28 : yapi_Weight.T, At w17 a22 (cells yapi_Weight x28) ∧
∃ x29 : Int, At w17 (a7.add 11) (cells (.int .i64) x29) ∧
∃ x30 : Int, At w17 (a8.add 11) (cells (.int .i64) x30) ∧
arith .i64 ((1 : Int) + (if x29 < x30 then x30 else x29)) fun n31 =>
∃ x32 : Bool, At w17 (a7.add 12) (cells .bool x32) ∧
gd x32 (
∃ x33 : Bool, At w17 (a8.add 12) (cells .bool x33) ∧
gd x33 (
gd (decide ((-1 : Int) ≤ n26)) (
C_intern_Store_add v0_s ((x27.1, (x27.2.1, (x27.2.2.1, (x27.2.2.2.1, x27.2.2.2.2)))), ((x28.1, (x28.2.1, (x28.2.2.1, (x28.2.2.2.1, (x28.2.2.2.2.1, x28.2.2.2.2.2))))), (n31, decide (n26 ≤ (1 : Int))))) (fun x34 w18 =>
K (x34, .nilIface) w18) w17) (
C_intern_Store_add v0_s ((x27.1, (x27.2.1, (x27.2.2.1, (x27.2.2.2.1, x27.2.2.2.2)))), ((x28.1, (x28.2.1, (x28.2.2.1, (x28.2.2.2.1, (x28.2.2.2.2.1, x28.2.2.2.2.2))))), (n31, false))) (fun x35 w19 =>
K (x35, .nilIface) w19) w17)) (
C_intern_Store_add v0_s ((x27.1, (x27.2.1, (x27.2.2.1, (x27.2.2.2.1, x27.2.2.2.2)))), ((x28.1, (x28.2.1, (x28.2.2.1, (x28.2.2.2.1, (x28.2.2.2.2.1, x28.2.2.2.2.2))))), (n31, false))) (fun x36 w20 =>
K (x36, .nilIface) w20) w17)) (
C_intern_Store_add v0_s ((x27.1, (x27.2.1, (x27.2.2.1, (x27.2.2.2.1, x27.2.2.2.2)))), ((x28.1, (x28.2.1, (x28.2.2.1, (x28.2.2.2.1, (x28.2.2.2.2.1, x28.2.2.2.2.2))))), (n31, false))) (fun x37 w21 =>
K (x37, .nilIface) w21) w17))) w14))) w12)) w9) w4) w1)))))
theorem S_intern_Store_Pair (v0_s : Option Addr) (v1_l : Int) (v2_r : Int) (K : (Int × Value) → World → Prop) (w0 : World) (h : F_intern_Store_Pair v0_s v1_l v2_r K w0) : C_intern_Store_Pair v0_s v1_l v2_r K w0 := by
  have e : denFn P [(4, [(30, .bool)]), (16, [(71, .bool)])] Tryz.f70 #[.pointer v0_s, .int .i64 v1_l, .int .i64 v2_r] (.tup (.pair (.int .i64) .iface)) K w0 = F_intern_Store_Pair v0_s v1_l v2_r K w0 := by kernel_rfl
  exact fn_sound mixed (f := 70) Tryz.func70 (by kernel_rfl) (e.mpr h)

end Go.Proofs.YtnmgjpcooncjlaaGreat
