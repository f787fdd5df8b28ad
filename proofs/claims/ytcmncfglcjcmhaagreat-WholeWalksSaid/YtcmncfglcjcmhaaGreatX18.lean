/- Texts that belong together, joined: Text18. No conditions. -/
import Derived.Test.YtcmncfglcjcmhaaGreatX0
/- The typed texts of the functions, printed by a program; each proved to imply the call. -/
set_option linter.unusedVariables false
set_option maxRecDepth 100000
set_option maxHeartbeats 4000000
namespace Go.Proofs.YtcmncfglcjcmhaaGreat
open Go.Den

def F_collect_Reach (v0_s : Option Addr) (v1_roots : Sl) (K : (Sl × Value) → World → Prop) (w0 : World) : Prop :=
gd v0_s.isNone (
K (⟨none, 0, 0⟩, .iface t_api_Errno (.int .i64 (5 : Int))) w0) (
allocK (.cells #[.slice none 0 0] t_sl_api_ID) w0 fun a1 w1 =>
allocK (.map #[] 0) w1 fun a2 w2 =>
runU P (Instr.mapUpdate t_map_api_ID_bool (.map (some a2.block)) (.int .i64 (0 : Int)) (.bool true)) w2 fun w3 =>
allocK (.cells #[.map none] t_map_api_ID_bool) w3 fun a3 w4 =>
stK w4 a3 ([.map (some a2.block)]) fun w5 =>
LoopP (X := Int × Unit) ((0 : Int), ()) w5 fun next5 x4 w6 => ∀ _ : Env,
gd (decide (x4.1 < (v1_roots.len : Int))) (
idxK v1_roots.a v1_roots.len x4.1 1 fun p6 =>
∃ x7 : Int, At w6 p6 (cells (.int .i64) x7) ∧
C_collect_known v0_s x7 (fun x8 w7 =>
gd (!x8) (
K (⟨none, 0, 0⟩, .iface t_api_Errno (.int .i64 (1 : Int))) w7) (
C_collect_Reach_1 x7 a3 a1 (fun x9 w8 =>
arith .i64 (x4.1 + (1 : Int)) fun n10 =>
next5 (n10, ()) w8) w7)) w6) (
LoopP (X := Int × Unit) ((0 : Int), ()) w6 fun next12 x11 w9 => ∀ _ : Env,
∃ x13 : Sl, At w9 a1 (cells .slice x13) ∧
gd (decide (x11.1 < (x13.len : Int))) (
∃ x14 : Sl, At w9 a1 (cells .slice x14) ∧
idxK x14.a x14.len x11.1 1 fun p15 =>
∃ x16 : Int, At w9 p15 (cells (.int .i64) x16) ∧
C_intern_Store_Rule v0_s x16 (fun x17 w10 =>
allocK (.cells #[.int .i64 (0 : Int), .int .u8 (0 : Int), .int .i64 (0 : Int), .int .i64 (0 : Int), .int .i64 (0 : Int)] t_api_Rule) w10 fun a18 w11 =>
stK w11 a18 (cells yapi_Rule x17.1) fun w12 =>
nilIfcK x17.2 fun b19 =>
gd (!b19) (
K (⟨none, 0, 0⟩, x17.2) w12) (
∃ x20 : yapi_Rule.T, At w12 a18 (cells yapi_Rule x20) ∧
C_rule_Refs x20 (fun x21 w13 =>
LoopP (X := Int × Unit) ((0 : Int), ()) w13 fun next23 x22 w14 => ∀ _ : Env,
gd (decide (x22.1 < (x21.len : Int))) (
idxK x21.a x21.len x22.1 1 fun p24 =>
∃ x25 : Int, At w14 p24 (cells (.int .i64) x25) ∧
C_collect_Reach_1 x25 a3 a1 (fun x26 w15 =>
arith .i64 (x22.1 + (1 : Int)) fun n27 =>
next23 (n27, ()) w15) w14) (
arith .i64 (x11.1 + (1 : Int)) fun n28 =>
next12 (n28, ()) w14)) w12)) w9) (
∃ x29 : Sl, At w9 a1 (cells .slice x29) ∧
C_slices_Sort x29 (fun x30 w16 =>
∃ x31 : Sl, At w16 a1 (cells .slice x31) ∧
K (x31, .nilIface) w16) w9)))
theorem S_collect_Reach (v0_s : Option Addr) (v1_roots : Sl) (K : (Sl × Value) → World → Prop) (w0 : World) (h : F_collect_Reach v0_s v1_roots K w0) : C_collect_Reach v0_s v1_roots K w0 := by
  have e : denFn P [(1007, [(24, .int .i64)]), (1014, [(11, .int .i64)]), (1020, [(58, .int .i64)])] Tryz.f96 #[.pointer v0_s, .slice v1_roots.a v1_roots.len v1_roots.cap] (.tup (.pair .slice .iface)) K w0 = F_collect_Reach v0_s v1_roots K w0 := by kernel_rfl
  exact fn_sound mixed (f := 96) Tryz.func96 (by kernel_rfl) (e.mpr h)

def F_balance_step (v0_s : Option Addr) (v1_id : Int) (v2_done : Option Nat) (K : (Int × Value) → World → Prop) (w0 : World) : Prop :=
C_avl_Balanced v0_s v1_id (fun x1 w1 =>
nilIfcK x1.2 fun b2 =>
gd (!b2) (
K ((0 : Int), x1.2) w1) (
gd x1.1 (
K (v1_id, .nilIface) w1) (
C_intern_Store_Rule v0_s v1_id (fun x3 w2 =>
allocK (.cells #[.int .i64 (0 : Int), .int .u8 (0 : Int), .int .i64 (0 : Int), .int .i64 (0 : Int), .int .i64 (0 : Int)] t_api_Rule) w2 fun a4 w3 =>
stK w3 a4 (cells yapi_Rule x3.1) fun w4 =>
nilIfcK x3.2 fun b5 =>
gd (!b5) (
K ((0 : Int), x3.2) w4) (
∃ x6 : Int, At w4 (a4.add 0) (cells (.int .i64) x6) ∧
gd (x6 == (3 : Int)) (
∃ x7 : Int, At w4 (a4.add 2) (cells (.int .i64) x7) ∧
∃ x8 : Int, Lk1 P t_map_api_ID_api_ID (.int .i64) (.map v2_done) (.int .i64 x7) x8 w4 ∧
∃ x9 : Int, At w4 (a4.add 4) (cells (.int .i64) x9) ∧
C_balance_repeat v0_s x8 x9 (fun x10 w5 =>
K (x10.1, x10.2) w5) w4) (
∃ x11 : Int, At w4 (a4.add 2) (cells (.int .i64) x11) ∧
∃ x12 : Int, Lk1 P t_map_api_ID_api_ID (.int .i64) (.map v2_done) (.int .i64 x11) x12 w4 ∧
∃ x13 : Int, At w4 (a4.add 3) (cells (.int .i64) x13) ∧
∃ x14 : Int, Lk1 P t_map_api_ID_api_ID (.int .i64) (.map v2_done) (.int .i64 x13) x14 w4 ∧
C_avl_Join v0_s x12 x14 (fun x15 w6 =>
K (x15.1, x15.2) w6) w4))) w1))) w0
theorem S_balance_step (v0_s : Option Addr) (v1_id : Int) (v2_done : Option Nat) (K : (Int × Value) → World → Prop) (w0 : World) (h : F_balance_step v0_s v1_id v2_done K w0) : C_balance_step v0_s v1_id v2_done K w0 := by
  have e : denFn P [] Tryz.f97 #[.pointer v0_s, .int .i64 v1_id, .map v2_done] (.tup (.pair (.int .i64) .iface)) K w0 = F_balance_step v0_s v1_id v2_done K w0 := by kernel_rfl
  exact fn_sound mixed (f := 97) Tryz.func97 (by kernel_rfl) (e.mpr h)

def F_modular_Reduce (v0_x : Int) (K : Int → World → Prop) (w0 : World) : Prop :=
arith .u64 ((BitVec.ofInt (IntKind.bits .u64) v0_x &&& BitVec.ofInt (IntKind.bits .u64) (2305843009213693951 : Int)).toNat) fun n1 =>
0 ≤ (61 : Int) ∧
letZ (Int.fdiv v0_x (2 ^ min (Int.toNat (61 : Int)) (IntKind.bits .u64))) fun n2 =>
arith .u64 (n1 + n2) fun n3 =>
JoinP (X := Int × Unit) (fun R5 =>
gd (decide ((2305843009213693951 : Int) ≤ n3)) (
arith .u64 (n3 - (2305843009213693951 : Int)) fun n6 =>
R5 (n6, ()) w0) (
R5 (n3, ()) w0)) (fun x4 w1 => ∀ _ : Env,
K x4.1 w1)
theorem S_modular_Reduce (v0_x : Int) (K : Int → World → Prop) (w0 : World) (h : F_modular_Reduce v0_x K w0) : C_modular_Reduce v0_x K w0 := by
  have e : denFn P [(4, [(0, .int .u64)])] Tryz.f98 #[.int .u64 v0_x] (.int .u64) K w0 = F_modular_Reduce v0_x K w0 := by kernel_rfl
  exact fn_sound mixed (f := 98) Tryz.func98 (by kernel_rfl) (e.mpr h)

def F_bits_Mul64 (v0_x : Int) (v1_y : Int) (K : (Int × Int) → World → Prop) (w0 : World) : Prop :=
arith .u64 ((BitVec.ofInt (IntKind.bits .u64) v0_x &&& BitVec.ofInt (IntKind.bits .u64) (4294967295 : Int)).toNat) fun n1 =>
0 ≤ (32 : Int) ∧
letZ (Int.fdiv v0_x (2 ^ min (Int.toNat (32 : Int)) (IntKind.bits .u64))) fun n2 =>
arith .u64 ((BitVec.ofInt (IntKind.bits .u64) v1_y &&& BitVec.ofInt (IntKind.bits .u64) (4294967295 : Int)).toNat) fun n3 =>
0 ≤ (32 : Int) ∧
letZ (Int.fdiv v1_y (2 ^ min (Int.toNat (32 : Int)) (IntKind.bits .u64))) fun n4 =>
arith .u64 (n1 * n3) fun n5 =>
arith .u64 (n2 * n3) fun n6 =>
0 ≤ (32 : Int) ∧
letZ (Int.fdiv n5 (2 ^ min (Int.toNat (32 : Int)) (IntKind.bits .u64))) fun n7 =>
arith .u64 (n6 + n7) fun n8 =>
arith .u64 ((BitVec.ofInt (IntKind.bits .u64) n8 &&& BitVec.ofInt (IntKind.bits .u64) (4294967295 : Int)).toNat) fun n9 =>
0 ≤ (32 : Int) ∧
letZ (Int.fdiv n8 (2 ^ min (Int.toNat (32 : Int)) (IntKind.bits .u64))) fun n10 =>
arith .u64 (n1 * n4) fun n11 =>
arith .u64 (n9 + n11) fun n12 =>
arith .u64 (n2 * n4) fun n13 =>
arith .u64 (n13 + n10) fun n14 =>
0 ≤ (32 : Int) ∧
letZ (Int.fdiv n12 (2 ^ min (Int.toNat (32 : Int)) (IntKind.bits .u64))) fun n15 =>
arith .u64 (n14 + n15) fun n16 =>
arith .u64 (v0_x * v1_y) fun n17 =>
K (n16, n17) w0
theorem S_bits_Mul64 (v0_x : Int) (v1_y : Int) (K : (Int × Int) → World → Prop) (w0 : World) (h : F_bits_Mul64 v0_x v1_y K w0) : C_bits_Mul64 v0_x v1_y K w0 := by
  have e : denFn P [] Tryz.f99 #[.int .u64 v0_x, .int .u64 v1_y] (.tup (.pair (.int .u64) (.int .u64))) K w0 = F_bits_Mul64 v0_x v1_y K w0 := by kernel_rfl
  exact fn_sound mixed (f := 99) Tryz.func99 (by kernel_rfl) (e.mpr h)

def F_bits_Len (v0_x : Int) (K : Int → World → Prop) (w0 : World) : Prop :=
C_bits_Len64 v0_x (fun x1 w1 =>
K x1 w1) w0
theorem S_bits_Len (v0_x : Int) (K : Int → World → Prop) (w0 : World) (h : F_bits_Len v0_x K w0) : C_bits_Len v0_x K w0 := by
  have e : denFn P [] Tryz.f101 #[.int .u64 v0_x] (.int .i64) K w0 = F_bits_Len v0_x K w0 := by kernel_rfl
  exact fn_sound mixed (f := 101) Tryz.func101 (by kernel_rfl) (e.mpr h)

def F_intern_Store_Letter (v0_s : Option Addr) (v1_b : Int) (K : (Int × Value) → World → Prop) (w0 : World) : Prop :=
gd v0_s.isNone (
K ((0 : Int), .iface t_api_Errno (.int .i64 (5 : Int))) w0) (
allocK (.cells #[.int .i64 (0 : Int), .int .u8 (0 : Int), .int .i64 (0 : Int), .int .i64 (0 : Int), .int .i64 (0 : Int)] t_api_Rule) w0 fun a1 w1 =>
stK w1 a1 ([.int .i64 (1 : Int), .int .u8 v1_b, .int .i64 (0 : Int), .int .i64 (0 : Int), .int .i64 (0 : Int)]) fun w2 =>
∃ x2 : yapi_Rule.T, At w2 a1 (cells yapi_Rule x2) ∧
C_intern_Store_find v0_s x2 (fun x3 w3 =>
JoinP (X := Bool × Unit) (fun R5 =>
gd (x3.1 != (0 : Int)) (
R5 (true, ()) w3) (
nilIfcK x3.2 fun b6 =>
R5 (!b6, ()) w3)) (fun x4 w4 => ∀ _ : Env,
gd x4.1 (
K (x3.1, x3.2) w4) (
drawK w4 fun w5 =>
∃ x7 : yapi_Rule.T, At w5 a1 (cells yapi_Rule x7) ∧
C_weight_Letter v1_b (fun x8 w6 =>
At w6 a1 (cells yapi_Rule x7) ∧
C_intern_Store_add v0_s ((x7.1, (x7.2.1, (x7.2.2.1, (x7.2.2.2.1, x7.2.2.2.2)))), ((x8.1, (x8.2.1, (x8.2.2.1, (x8.2.2.2.1, (x8.2.2.2.2.1, x8.2.2.2.2.2))))), ((0 : Int), true))) (fun x9 w7 =>
K (x9, .nilIface) w7) w6) w5))) w2)
theorem S_intern_Store_Letter (v0_s : Option Addr) (v1_b : Int) (K : (Int × Value) → World → Prop) (w0 : World) (h : F_intern_Store_Letter v0_s v1_b K w0) : C_intern_Store_Letter v0_s v1_b K w0 := by
  have e : denFn P [(6, [(25, .bool)])] Tryz.f102 #[.pointer v0_s, .int .u8 v1_b] (.tup (.pair (.int .i64) .iface)) K w0 = F_intern_Store_Letter v0_s v1_b K w0 := by kernel_rfl
  exact fn_sound mixed (f := 102) Tryz.func102 (by kernel_rfl) (e.mpr h)

end Go.Proofs.YtcmncfglcjcmhaaGreat
