/- Texts that belong together, joined: Text16. No conditions. -/
import Derived.Test.YtcmncfglcjcmhaaGreatX0
/- The typed texts of the functions, printed by a program; each proved to imply the call. -/
set_option linter.unusedVariables false
set_option maxRecDepth 100000
set_option maxHeartbeats 4000000
namespace Go.Proofs.YtcmncfglcjcmhaaGreat
open Go.Den

def F_modular_Pow (v0_a : Int) (v1_n : Int) (K : Int → World → Prop) (w0 : World) : Prop :=
C_modular_Reduce v0_a (fun x1 w1 =>
LoopP (X := Int × Int × Int × Unit) (x1, v1_n, (1 : Int), ()) w1 fun next3 x2 w2 => ∀ _ : Env,
gd (decide ((0 : Int) < x2.2.1)) (
JoinP (X := Int × Unit) (fun R5 =>
(2 : Int) ≠ 0 ∧
letZ (Int.tmod x2.2.1 (2 : Int)) fun n6 =>
gd (n6 == (1 : Int)) (
C_modular_Mul x2.2.2.1 x2.1 (fun x7 w4 =>
R5 (x7, ()) w4) w2) (
R5 (x2.2.2.1, ()) w2)) (fun x4 w3 => ∀ _ : Env,
C_modular_Mul x2.1 x2.1 (fun x8 w5 =>
(2 : Int) ≠ 0 ∧
arith .u64 (Int.tdiv x2.2.1 (2 : Int)) fun n9 =>
next3 (x8, n9, x4.1, ()) w5) w3)) (
K x2.2.2.1 w2)) w0
theorem S_modular_Pow (v0_a : Int) (v1_n : Int) (K : Int → World → Prop) (w0 : World) (h : F_modular_Pow v0_a v1_n K w0) : C_modular_Pow v0_a v1_n K w0 := by
  have e : denFn P [(1003, [(0, .int .u64), (1, .int .u64), (5, .int .u64)]), (7, [(5, .int .u64)])] Tryz.f81 #[.int .u64 v0_a, .int .u64 v1_n] (.int .u64) K w0 = F_modular_Pow v0_a v1_n K w0 := by kernel_rfl
  exact fn_sound mixed (f := 81) Tryz.func81 (by kernel_rfl) (e.mpr h)

def F_modular_Add (v0_a : Int) (v1_b : Int) (K : Int → World → Prop) (w0 : World) : Prop :=
C_modular_Reduce v0_a (fun x1 w1 =>
C_modular_Reduce v1_b (fun x2 w2 =>
arith .u64 (x1 + x2) fun n3 =>
C_modular_Reduce n3 (fun x4 w3 =>
K x4 w3) w2) w1) w0
theorem S_modular_Add (v0_a : Int) (v1_b : Int) (K : Int → World → Prop) (w0 : World) (h : F_modular_Add v0_a v1_b K w0) : C_modular_Add v0_a v1_b K w0 := by
  have e : denFn P [] Tryz.f82 #[.int .u64 v0_a, .int .u64 v1_b] (.int .u64) K w0 = F_modular_Add v0_a v1_b K w0 := by kernel_rfl
  exact fn_sound mixed (f := 82) Tryz.func82 (by kernel_rfl) (e.mpr h)

def F_modular_Mul (v0_a : Int) (v1_b : Int) (K : Int → World → Prop) (w0 : World) : Prop :=
C_modular_Reduce v0_a (fun x1 w1 =>
C_modular_Reduce v1_b (fun x2 w2 =>
C_bits_Mul64 x1 x2 (fun x3 w3 =>
0 ≤ (3 : Int) ∧
arith .u64 (x3.1 * 2 ^ min (Int.toNat (3 : Int)) (IntKind.bits .u64)) fun n4 =>
0 ≤ (61 : Int) ∧
letZ (Int.fdiv x3.2 (2 ^ min (Int.toNat (61 : Int)) (IntKind.bits .u64))) fun n5 =>
arith .u64 (n4 + n5) fun n6 =>
arith .u64 ((BitVec.ofInt (IntKind.bits .u64) x3.2 &&& BitVec.ofInt (IntKind.bits .u64) (2305843009213693951 : Int)).toNat) fun n7 =>
arith .u64 (n6 + n7) fun n8 =>
C_modular_Reduce n8 (fun x9 w4 =>
K x9 w4) w3) w2) w1) w0
theorem S_modular_Mul (v0_a : Int) (v1_b : Int) (K : Int → World → Prop) (w0 : World) (h : F_modular_Mul v0_a v1_b K w0) : C_modular_Mul v0_a v1_b K w0 := by
  have e : denFn P [] Tryz.f83 #[.int .u64 v0_a, .int .u64 v1_b] (.int .u64) K w0 = F_modular_Mul v0_a v1_b K w0 := by kernel_rfl
  exact fn_sound mixed (f := 83) Tryz.func83 (by kernel_rfl) (e.mpr h)

def F_rule_Refs (v0_r : yapi_Rule.T) (K : Sl → World → Prop) (w0 : World) : Prop :=
allocK (.cells (cells yapi_Rule v0_r).toArray t_api_Rule) w0 fun a1 w1 =>
∃ x2 : Int, At w1 (a1.add 0) (cells (.int .i64) x2) ∧
gd (x2 == (2 : Int)) (
∃ x3 : Int, At w1 (a1.add 2) (cells (.int .i64) x3) ∧
∃ x4 : Int, At w1 (a1.add 3) (cells (.int .i64) x4) ∧
allocK (.cells #[.int .i64 x3, .int .i64 x4] t_api_ID) w1 fun a5 w2 =>
K (⟨some a5, 2, 2⟩) w2) (
gd (x2 == (3 : Int)) (
∃ x6 : Int, At w1 (a1.add 2) (cells (.int .i64) x6) ∧
allocK (.cells #[.int .i64 x6] t_api_ID) w1 fun a7 w3 =>
K (⟨some a7, 1, 1⟩) w3) (
K (⟨none, 0, 0⟩) w1))
theorem S_rule_Refs (v0_r : yapi_Rule.T) (K : Sl → World → Prop) (w0 : World) (h : F_rule_Refs v0_r K w0) : C_rule_Refs v0_r K w0 := by
  have e : denFn P [] Tryz.f84 #[val yapi_Rule v0_r] .slice K w0 = F_rule_Refs v0_r K w0 := by kernel_rfl
  exact fn_sound mixed (f := 84) Tryz.func84 (by kernel_rfl) (e.mpr h)

def F_balance_text (v0_s : Option Addr) (v1_b : Sl) (K : (Int × Value) → World → Prop) (w0 : World) : Prop :=
gd ((v1_b.len : Int) == (1 : Int)) (
idxK v1_b.a v1_b.len (0 : Int) 1 fun p1 =>
∃ x2 : Int, At w0 p1 (cells (.int .u8) x2) ∧
C_intern_Store_Letter v0_s x2 (fun x3 w1 =>
K (x3.1, x3.2) w1) w0) (
(2 : Int) ≠ 0 ∧
arith .i64 (Int.tdiv (v1_b.len : Int) (2 : Int)) fun n4 =>
slK 1 v1_b.a v1_b.len v1_b.cap none (some n4) fun s5 =>
C_balance_text v0_s s5 (fun x6 w2 =>
nilIfcK x6.2 fun b7 =>
gd (!b7) (
K ((0 : Int), x6.2) w2) (
(2 : Int) ≠ 0 ∧
arith .i64 (Int.tdiv (v1_b.len : Int) (2 : Int)) fun n8 =>
slK 1 v1_b.a v1_b.len v1_b.cap (some n8) none fun s9 =>
C_balance_text v0_s s9 (fun x10 w3 =>
nilIfcK x10.2 fun b11 =>
gd (!b11) (
K ((0 : Int), x10.2) w3) (
C_intern_Store_Pair v0_s x6.1 x10.1 (fun x12 w4 =>
K (x12.1, x12.2) w4) w3)) w2)) w0)
theorem S_balance_text (v0_s : Option Addr) (v1_b : Sl) (K : (Int × Value) → World → Prop) (w0 : World) (h : F_balance_text v0_s v1_b K w0) : C_balance_text v0_s v1_b K w0 := by
  have e : denFn P [] Tryz.f86 #[.pointer v0_s, .slice v1_b.a v1_b.len v1_b.cap] (.tup (.pair (.int .i64) .iface)) K w0 = F_balance_text v0_s v1_b K w0 := by kernel_rfl
  exact fn_sound mixed (f := 86) Tryz.func86 (by kernel_rfl) (e.mpr h)

def F_length_Add (v0_a : Int) (v1_b : Int) (K : (Int × Value) → World → Prop) (w0 : World) : Prop :=
JoinP (X := Bool × Unit) (fun R2 =>
C_length_Valid v0_a (fun x3 w2 =>
gd (!x3) (
R2 (true, ()) w2) (
C_length_Valid v1_b (fun x4 w3 =>
R2 (!x4, ()) w3) w2)) w0) (fun x1 w1 => ∀ _ : Env,
gd x1.1 (
K ((0 : Int), .iface t_api_Errno (.int .i64 (1 : Int))) w1) (
arith .i64 ((1152921504606846976 : Int) - v1_b) fun n5 =>
gd (decide (n5 < v0_a)) (
K ((0 : Int), .iface t_api_Errno (.int .i64 (2 : Int))) w1) (
arith .i64 (v0_a + v1_b) fun n6 =>
K (n6, .nilIface) w1)))
theorem S_length_Add (v0_a : Int) (v1_b : Int) (K : (Int × Value) → World → Prop) (w0 : World) (h : F_length_Add v0_a v1_b K w0) : C_length_Add v0_a v1_b K w0 := by
  have e : denFn P [(2, [(13, .bool)])] Tryz.f87 #[.int .i64 v0_a, .int .i64 v1_b] (.tup (.pair (.int .i64) .iface)) K w0 = F_length_Add v0_a v1_b K w0 := by kernel_rfl
  exact fn_sound mixed (f := 87) Tryz.func87 (by kernel_rfl) (e.mpr h)

def F_avl_join (v0_s : Option Addr) (v1_a : Int) (v2_b : Int) (K : (Int × Value) → World → Prop) (w0 : World) : Prop :=
C_intern_Store_Depth v0_s v1_a (fun x1 w1 =>
nilIfcK x1.2 fun b2 =>
gd (!b2) (
K ((0 : Int), x1.2) w1) (
C_intern_Store_Depth v0_s v2_b (fun x3 w2 =>
nilIfcK x3.2 fun b4 =>
gd (!b4) (
K ((0 : Int), x3.2) w2) (
arith .i64 (x3.1 + (1 : Int)) fun n5 =>
gd (decide (n5 < x1.1)) (
C_avl_parts v0_s v1_a (fun x6 w3 =>
nilIfcK x6.2.2.2.2 fun b7 =>
gd (!b7) (
K ((0 : Int), x6.2.2.2.2) w3) (
C_avl_join v0_s x6.2.1 v2_b (fun x8 w4 =>
nilIfcK x8.2 fun b9 =>
gd (!b9) (
K ((0 : Int), x8.2) w4) (
C_avl_level v0_s x6.1 x8.1 (fun x10 w5 =>
K (x10.1, x10.2) w5) w4)) w3)) w2) (
arith .i64 (x1.1 + (1 : Int)) fun n11 =>
gd (decide (n11 < x3.1)) (
C_avl_parts v0_s v2_b (fun x12 w6 =>
nilIfcK x12.2.2.2.2 fun b13 =>
gd (!b13) (
K ((0 : Int), x12.2.2.2.2) w6) (
C_avl_join v0_s v1_a x12.1 (fun x14 w7 =>
nilIfcK x14.2 fun b15 =>
gd (!b15) (
K ((0 : Int), x14.2) w7) (
C_avl_level v0_s x14.1 x12.2.1 (fun x16 w8 =>
K (x16.1, x16.2) w8) w7)) w6)) w2) (
C_intern_Store_Pair v0_s v1_a v2_b (fun x17 w9 =>
K (x17.1, x17.2) w9) w2)))) w1)) w0
theorem S_avl_join (v0_s : Option Addr) (v1_a : Int) (v2_b : Int) (K : (Int × Value) → World → Prop) (w0 : World) (h : F_avl_join v0_s v1_a v2_b K w0) : C_avl_join v0_s v1_a v2_b K w0 := by
  have e : denFn P [] Tryz.f88 #[.pointer v0_s, .int .i64 v1_a, .int .i64 v2_b] (.tup (.pair (.int .i64) .iface)) K w0 = F_avl_join v0_s v1_a v2_b K w0 := by kernel_rfl
  exact fn_sound mixed (f := 88) Tryz.func88 (by kernel_rfl) (e.mpr h)

def F_balance_repeat (v0_s : Option Addr) (v1_id : Int) (v2_k : Int) (K : (Int × Value) → World → Prop) (w0 : World) : Prop :=
LoopP (X := Int × Int × Int × Unit) (v1_id, v2_k, (0 : Int), ()) w0 fun next2 x1 w1 => ∀ _ : Env,
JoinP (X := Int × Unit) (fun R4 =>
(2 : Int) ≠ 0 ∧
letZ (Int.tmod x1.2.1 (2 : Int)) fun n5 =>
gd (n5 == (1 : Int)) (
C_avl_Join v0_s x1.2.2.1 x1.1 (fun x6 w3 =>
nilIfcK x6.2 fun b7 =>
gd (!b7) (
K ((0 : Int), x6.2) w3) (
R4 (x6.1, ()) w3)) w1) (
R4 (x1.2.2.1, ()) w1)) (fun x3 w2 => ∀ _ : Env,
(2 : Int) ≠ 0 ∧
arith .i64 (Int.tdiv x1.2.1 (2 : Int)) fun n8 =>
gd (n8 == (0 : Int)) (
K (x3.1, .nilIface) w2) (
C_avl_Join v0_s x1.1 x1.1 (fun x9 w4 =>
nilIfcK x9.2 fun b10 =>
gd (!b10) (
K ((0 : Int), x9.2) w4) (
next2 (x9.1, n8, x3.1, ()) w4)) w2))
theorem S_balance_repeat (v0_s : Option Addr) (v1_id : Int) (v2_k : Int) (K : (Int × Value) → World → Prop) (w0 : World) (h : F_balance_repeat v0_s v1_id v2_k K w0) : C_balance_repeat v0_s v1_id v2_k K w0 := by
  have e : denFn P [(1002, [(1, .int .i64), (2, .int .i64), (8, .int .i64)]), (7, [(8, .int .i64)])] Tryz.f89 #[.pointer v0_s, .int .i64 v1_id, .int .i64 v2_k] (.tup (.pair (.int .i64) .iface)) K w0 = F_balance_repeat v0_s v1_id v2_k K w0 := by kernel_rfl
  exact fn_sound mixed (f := 89) Tryz.func89 (by kernel_rfl) (e.mpr h)

end Go.Proofs.YtcmncfglcjcmhaaGreat
