/- Texts that belong together, joined: Text13. No conditions. -/
import Derived.Test.YtnmgjpcooncjlaaGreatX0
/- The typed texts of the functions, printed by a program; each proved to imply the call. -/
set_option linter.unusedVariables false
set_option maxRecDepth 100000
set_option maxHeartbeats 4000000
namespace Go.Proofs.YtnmgjpcooncjlaaGreat
open Go.Den

def F_ref12_Length (v0_s : yevergreenref12_Store.T) (v1_id : Int) (K : Int → World → Prop) (w0 : World) : Prop :=
allocK (.cells (cells yevergreenref12_Store v0_s).toArray t_evergreenref12_Store) w0 fun a1 w1 =>
gd (v1_id == (0 : Int)) (
K (0 : Int) w1) (
∃ x2 : Sl, At w1 (a1.add 1) (cells .slice x2) ∧
arith .i64 (v1_id - (1 : Int)) fun n3 =>
idxK x2.a x2.len n3 1 fun p4 =>
∃ x5 : Int, At w1 p4 (cells (.int .i64) x5) ∧
K x5 w1)
theorem S_ref12_Length (v0_s : yevergreenref12_Store.T) (v1_id : Int) (K : Int → World → Prop) (w0 : World) (h : F_ref12_Length v0_s v1_id K w0) : C_ref12_Length v0_s v1_id K w0 := by
  have e : denFn P [] Tryz.f97 #[val yevergreenref12_Store v0_s, .int .i64 v1_id] (.int .i64) K w0 = F_ref12_Length v0_s v1_id K w0 := by kernel_rfl
  exact fn_sound mixed (f := 97) Tryz.func97 (by kernel_rfl) (e.mpr h)

def F_collect_Table_Roots (v0_t : Option Addr) (K : Sl → World → Prop) (w0 : World) : Prop :=
C_collect_Table_none v0_t (fun x1 w1 =>
gd x1 (
K (⟨none, 0, 0⟩) w1) (
nonNil v0_t fun p2 =>
∃ x3 : Option Nat, At w1 (p2.add 1) (cells .map x3) ∧
∃ n4 : Nat, mapLen w1 x3 n4 ∧
0 ≤ (0 : Int) ∧ (0 : Int) ≤ (n4 : Int) ∧ (n4 : Int) ≤ 9223372036854775807 ∧ 8 * (n4 : Int) ≤ 281474976710656 ∧
allocK (.cells (zrow #[.int .i64 (0 : Int)] ((n4 : Int).toNat * 1)) t_api_ID) w1 fun a5 w2 =>
nonNil v0_t fun p6 =>
∃ x7 : Option Nat, At w2 (p6.add 1) (cells .map x7) ∧
runK P .addr (Instr.range t_map_api_ID_int (.map x7)) w2 fun a8 w3 =>
LoopP (X := Sl × Unit) (⟨some a5, (0 : Int).toNat, (n4 : Int).toNat⟩, ()) w3 fun next10 x9 w4 => ∀ _ : Env,
∃ (b11 : Bool) (vs12 : List Value) (w5 : World), (Instr.next (.pointer (some a8)) false t_).run P w4 = .ok (.tuple (Value.bool b11 :: vs12).toArray) w5 ∧
gd b11 (
∃ (k13 : Int) (v14 : Value) (w6 : World), (Instr.entry (.pointer (some a8))).run P w5 = .ok (.tuple #[.int .i64 k13, v14]) w6 ∧
allocK (.cells #[.int .i64 k13] t_api_ID) w6 fun a15 w7 =>
appK t_api_ID 1 8 #[.int .i64 (0 : Int)] x9.1.a x9.1.len x9.1.cap (.slice (some a15) 1 1) 1 w7 fun s16 w8 =>
next10 (s16, ()) w8) (
C_slices_Sort x9.1 (fun x17 w9 =>
K x9.1 w9) w5))) w0
theorem S_collect_Table_Roots (v0_t : Option Addr) (K : Sl → World → Prop) (w0 : World) (h : F_collect_Table_Roots v0_t K w0) : C_collect_Table_Roots v0_t K w0 := by
  have e : denFn P [(1005, [(3, .slice)])] Tryz.f98 #[.pointer v0_t] .slice K w0 = F_collect_Table_Roots v0_t K w0 := by kernel_rfl
  exact fn_sound mixed (f := 98) Tryz.func98 (by kernel_rfl) (e.mpr h)

def F_rule_Check (v0_r : yapi_Rule.T) (v1_n : Int) (K : Value → World → Prop) (w0 : World) : Prop :=
allocK (.cells (cells yapi_Rule v0_r).toArray t_api_Rule) w0 fun a1 w1 =>
JoinP (X := Bool × Unit) (fun R3 =>
∃ x4 : Int, At w1 (a1.add 0) (cells (.int .i64) x4) ∧
gd (x4 == (1 : Int)) (
∃ x5 : Int, At w1 (a1.add 2) (cells (.int .i64) x5) ∧
gd (x5 == (0 : Int)) (
∃ x6 : Int, At w1 (a1.add 3) (cells (.int .i64) x6) ∧
gd (x6 == (0 : Int)) (
∃ x7 : Int, At w1 (a1.add 4) (cells (.int .i64) x7) ∧
R3 (x7 == (0 : Int), ()) w1) (
R3 (false, ()) w1)) (
R3 (false, ()) w1)) (
gd (x4 == (2 : Int)) (
∃ x8 : Int, At w1 (a1.add 1) (cells (.int .u8) x8) ∧
gd (x8 == (0 : Int)) (
∃ x9 : Int, At w1 (a1.add 4) (cells (.int .i64) x9) ∧
R3 (x9 == (0 : Int), ()) w1) (
R3 (false, ()) w1)) (
gd (x4 == (3 : Int)) (
∃ x10 : Int, At w1 (a1.add 1) (cells (.int .u8) x10) ∧
gd (x10 == (0 : Int)) (
∃ x11 : Int, At w1 (a1.add 3) (cells (.int .i64) x11) ∧
gd (x11 == (0 : Int)) (
∃ x12 : Int, At w1 (a1.add 4) (cells (.int .i64) x12) ∧
R3 (decide ((2 : Int) ≤ x12), ()) w1) (
R3 (false, ()) w1)) (
R3 (false, ()) w1)) (
R3 (false, ()) w1)))) (fun x2 w2 => ∀ _ : Env,
gd (!x2.1) (
K (.iface t_api_Errno (.int .i64 (4 : Int))) w2) (
∃ x13 : yapi_Rule.T, At w2 a1 (cells yapi_Rule x13) ∧
C_rule_place x13 v1_n (fun x14 w3 =>
K x14 w3) w2))
theorem S_rule_Check (v0_r : yapi_Rule.T) (v1_n : Int) (K : Value → World → Prop) (w0 : World) (h : F_rule_Check v0_r v1_n K w0) : C_rule_Check v0_r v1_n K w0 := by
  have e : denFn P [(9, [(5, .bool)])] Tryz.f99 #[val yapi_Rule v0_r, .int .i64 v1_n] .iface K w0 = F_rule_Check v0_r v1_n K w0 := by kernel_rfl
  exact fn_sound mixed (f := 99) Tryz.func99 (by kernel_rfl) (e.mpr h)

def F_intern_Store_put (v0_s : Option Addr) (v1_r : yapi_Rule.T) (v2_to : Sl) (K : (Int × Value) → World → Prop) (w0 : World) : Prop :=
allocK (.cells (cells yapi_Rule v1_r).toArray t_api_Rule) w0 fun a1 w1 =>
∃ x2 : Int, At w1 (a1.add 0) (cells (.int .i64) x2) ∧
gd (x2 == (1 : Int)) (
∃ x3 : Int, At w1 (a1.add 1) (cells (.int .u8) x3) ∧
C_intern_Store_Letter v0_s x3 (fun x4 w2 =>
K (x4.1, x4.2) w2) w1) (
gd (x2 == (2 : Int)) (
drawK w1 fun w3 =>
∃ x5 : Int, At w3 (a1.add 2) (cells (.int .i64) x5) ∧
idxK v2_to.a v2_to.len x5 1 fun p6 =>
∃ x7 : Int, At w3 p6 (cells (.int .i64) x7) ∧
∃ x8 : Int, At w3 (a1.add 3) (cells (.int .i64) x8) ∧
idxK v2_to.a v2_to.len x8 1 fun p9 =>
∃ x10 : Int, At w3 p9 (cells (.int .i64) x10) ∧
C_intern_Store_Pair v0_s x7 x10 (fun x11 w4 =>
K (x11.1, x11.2) w4) w3) (
drawK w1 fun w5 =>
∃ x12 : Int, At w5 (a1.add 2) (cells (.int .i64) x12) ∧
idxK v2_to.a v2_to.len x12 1 fun p13 =>
∃ x14 : Int, At w5 p13 (cells (.int .i64) x14) ∧
∃ x15 : Int, At w5 (a1.add 4) (cells (.int .i64) x15) ∧
C_intern_Store_Power v0_s x14 x15 (fun x16 w6 =>
K (x16.1, x16.2) w6) w5))
theorem S_intern_Store_put (v0_s : Option Addr) (v1_r : yapi_Rule.T) (v2_to : Sl) (K : (Int × Value) → World → Prop) (w0 : World) (h : F_intern_Store_put v0_s v1_r v2_to K w0) : C_intern_Store_put v0_s v1_r v2_to K w0 := by
  have e : denFn P [] Tryz.f100 #[.pointer v0_s, val yapi_Rule v1_r, .slice v2_to.a v2_to.len v2_to.cap] (.tup (.pair (.int .i64) .iface)) K w0 = F_intern_Store_put v0_s v1_r v2_to K w0 := by kernel_rfl
  exact fn_sound mixed (f := 100) Tryz.func100 (by kernel_rfl) (e.mpr h)

def F_bits_Len32 (v0_x : Int) (K : Int → World → Prop) (w0 : World) : Prop :=
JoinP (X := Int × Int × Unit) (fun R2 =>
gd (decide ((65536 : Int) ≤ v0_x)) (
0 ≤ (16 : Int) ∧
letZ (Int.fdiv v0_x (2 ^ min (Int.toNat (16 : Int)) (IntKind.bits .u32))) fun n3 =>
R2 (n3, (16 : Int), ()) w0) (
R2 (v0_x, (0 : Int), ()) w0)) (fun x1 w1 => ∀ _ : Env,
JoinP (X := Int × Int × Unit) (fun R5 =>
gd (decide ((256 : Int) ≤ x1.1)) (
0 ≤ (8 : Int) ∧
letZ (Int.fdiv x1.1 (2 ^ min (Int.toNat (8 : Int)) (IntKind.bits .u32))) fun n6 =>
arith .i64 (x1.2.1 + (8 : Int)) fun n7 =>
R5 (n6, n7, ()) w1) (
R5 (x1.1, x1.2.1, ()) w1)) (fun x4 w2 => ∀ _ : Env,
arith .u8 (x4.1) fun n8 =>
0 ≤ n8 ∧ ∃ hx : n8.toNat < (⟨#[0, 1, 2, 2, 3, 3, 3, 3, 4, 4, 4, 4, 4, 4, 4, 4, 5, 5, 5, 5, 5, 5, 5, 5, 5, 5, 5, 5, 5, 5, 5, 5, 6, 6, 6, 6, 6, 6, 6, 6, 6, 6, 6, 6, 6, 6, 6, 6, 6, 6, 6, 6, 6, 6, 6, 6, 6, 6, 6, 6, 6, 6, 6, 6, 7, 7, 7, 7, 7, 7, 7, 7, 7, 7, 7, 7, 7, 7, 7, 7, 7, 7, 7, 7, 7, 7, 7, 7, 7, 7, 7, 7, 7, 7, 7, 7, 7, 7, 7, 7, 7, 7, 7, 7, 7, 7, 7, 7, 7, 7, 7, 7, 7, 7, 7, 7, 7, 7, 7, 7, 7, 7, 7, 7, 7, 7, 7, 7, 8, 8, 8, 8, 8, 8, 8, 8, 8, 8, 8, 8, 8, 8, 8, 8, 8, 8, 8, 8, 8, 8, 8, 8, 8, 8, 8, 8, 8, 8, 8, 8, 8, 8, 8, 8, 8, 8, 8, 8, 8, 8, 8, 8, 8, 8, 8, 8, 8, 8, 8, 8, 8, 8, 8, 8, 8, 8, 8, 8, 8, 8, 8, 8, 8, 8, 8, 8, 8, 8, 8, 8, 8, 8, 8, 8, 8, 8, 8, 8, 8, 8, 8, 8, 8, 8, 8, 8, 8, 8, 8, 8, 8, 8, 8, 8, 8, 8, 8, 8, 8, 8, 8, 8, 8, 8, 8, 8, 8, 8, 8, 8, 8, 8, 8, 8, 8, 8, 8, 8, 8, 8, 8, 8, 8, 8, 8, 8]⟩ : ByteArray).size,
arith .i64 ((((⟨#[0, 1, 2, 2, 3, 3, 3, 3, 4, 4, 4, 4, 4, 4, 4, 4, 5, 5, 5, 5, 5, 5, 5, 5, 5, 5, 5, 5, 5, 5, 5, 5, 6, 6, 6, 6, 6, 6, 6, 6, 6, 6, 6, 6, 6, 6, 6, 6, 6, 6, 6, 6, 6, 6, 6, 6, 6, 6, 6, 6, 6, 6, 6, 6, 7, 7, 7, 7, 7, 7, 7, 7, 7, 7, 7, 7, 7, 7, 7, 7, 7, 7, 7, 7, 7, 7, 7, 7, 7, 7, 7, 7, 7, 7, 7, 7, 7, 7, 7, 7, 7, 7, 7, 7, 7, 7, 7, 7, 7, 7, 7, 7, 7, 7, 7, 7, 7, 7, 7, 7, 7, 7, 7, 7, 7, 7, 7, 7, 8, 8, 8, 8, 8, 8, 8, 8, 8, 8, 8, 8, 8, 8, 8, 8, 8, 8, 8, 8, 8, 8, 8, 8, 8, 8, 8, 8, 8, 8, 8, 8, 8, 8, 8, 8, 8, 8, 8, 8, 8, 8, 8, 8, 8, 8, 8, 8, 8, 8, 8, 8, 8, 8, 8, 8, 8, 8, 8, 8, 8, 8, 8, 8, 8, 8, 8, 8, 8, 8, 8, 8, 8, 8, 8, 8, 8, 8, 8, 8, 8, 8, 8, 8, 8, 8, 8, 8, 8, 8, 8, 8, 8, 8, 8, 8, 8, 8, 8, 8, 8, 8, 8, 8, 8, 8, 8, 8, 8, 8, 8, 8, 8, 8, 8, 8, 8, 8, 8, 8, 8, 8, 8, 8, 8, 8, 8, 8]⟩ : ByteArray)[n8.toNat]).toNat : Int)) fun n9 =>
arith .i64 (x4.2.1 + n9) fun n10 =>
K n10 w2))
theorem S_bits_Len32 (v0_x : Int) (K : Int → World → Prop) (w0 : World) (h : F_bits_Len32 v0_x K w0) : C_bits_Len32 v0_x K w0 := by
  have e : denFn P [(4, [(0, .int .u32), (2, .int .i64)]), (7, [(0, .int .u32), (2, .int .i64)])] Tryz.f110 #[.int .u32 v0_x] (.int .i64) K w0 = F_bits_Len32 v0_x K w0 := by kernel_rfl
  exact fn_sound mixed (f := 110) Tryz.func110 (by kernel_rfl) (e.mpr h)

def F_bits_Len64 (v0_x : Int) (K : Int → World → Prop) (w0 : World) : Prop :=
JoinP (X := Int × Int × Unit) (fun R2 =>
gd (decide ((4294967296 : Int) ≤ v0_x)) (
0 ≤ (32 : Int) ∧
letZ (Int.fdiv v0_x (2 ^ min (Int.toNat (32 : Int)) (IntKind.bits .u64))) fun n3 =>
R2 (n3, (32 : Int), ()) w0) (
R2 (v0_x, (0 : Int), ()) w0)) (fun x1 w1 => ∀ _ : Env,
JoinP (X := Int × Int × Unit) (fun R5 =>
gd (decide ((65536 : Int) ≤ x1.1)) (
0 ≤ (16 : Int) ∧
letZ (Int.fdiv x1.1 (2 ^ min (Int.toNat (16 : Int)) (IntKind.bits .u64))) fun n6 =>
arith .i64 (x1.2.1 + (16 : Int)) fun n7 =>
R5 (n6, n7, ()) w1) (
R5 (x1.1, x1.2.1, ()) w1)) (fun x4 w2 => ∀ _ : Env,
JoinP (X := Int × Int × Unit) (fun R9 =>
gd (decide ((256 : Int) ≤ x4.1)) (
0 ≤ (8 : Int) ∧
letZ (Int.fdiv x4.1 (2 ^ min (Int.toNat (8 : Int)) (IntKind.bits .u64))) fun n10 =>
arith .i64 (x4.2.1 + (8 : Int)) fun n11 =>
R9 (n10, n11, ()) w2) (
R9 (x4.1, x4.2.1, ()) w2)) (fun x8 w3 => ∀ _ : Env,
arith .u8 (x8.1) fun n12 =>
0 ≤ n12 ∧ ∃ hx : n12.toNat < (⟨#[0, 1, 2, 2, 3, 3, 3, 3, 4, 4, 4, 4, 4, 4, 4, 4, 5, 5, 5, 5, 5, 5, 5, 5, 5, 5, 5, 5, 5, 5, 5, 5, 6, 6, 6, 6, 6, 6, 6, 6, 6, 6, 6, 6, 6, 6, 6, 6, 6, 6, 6, 6, 6, 6, 6, 6, 6, 6, 6, 6, 6, 6, 6, 6, 7, 7, 7, 7, 7, 7, 7, 7, 7, 7, 7, 7, 7, 7, 7, 7, 7, 7, 7, 7, 7, 7, 7, 7, 7, 7, 7, 7, 7, 7, 7, 7, 7, 7, 7, 7, 7, 7, 7, 7, 7, 7, 7, 7, 7, 7, 7, 7, 7, 7, 7, 7, 7, 7, 7, 7, 7, 7, 7, 7, 7, 7, 7, 7, 8, 8, 8, 8, 8, 8, 8, 8, 8, 8, 8, 8, 8, 8, 8, 8, 8, 8, 8, 8, 8, 8, 8, 8, 8, 8, 8, 8, 8, 8, 8, 8, 8, 8, 8, 8, 8, 8, 8, 8, 8, 8, 8, 8, 8, 8, 8, 8, 8, 8, 8, 8, 8, 8, 8, 8, 8, 8, 8, 8, 8, 8, 8, 8, 8, 8, 8, 8, 8, 8, 8, 8, 8, 8, 8, 8, 8, 8, 8, 8, 8, 8, 8, 8, 8, 8, 8, 8, 8, 8, 8, 8, 8, 8, 8, 8, 8, 8, 8, 8, 8, 8, 8, 8, 8, 8, 8, 8, 8, 8, 8, 8, 8, 8, 8, 8, 8, 8, 8, 8, 8, 8, 8, 8, 8, 8, 8, 8]⟩ : ByteArray).size,
arith .i64 ((((⟨#[0, 1, 2, 2, 3, 3, 3, 3, 4, 4, 4, 4, 4, 4, 4, 4, 5, 5, 5, 5, 5, 5, 5, 5, 5, 5, 5, 5, 5, 5, 5, 5, 6, 6, 6, 6, 6, 6, 6, 6, 6, 6, 6, 6, 6, 6, 6, 6, 6, 6, 6, 6, 6, 6, 6, 6, 6, 6, 6, 6, 6, 6, 6, 6, 7, 7, 7, 7, 7, 7, 7, 7, 7, 7, 7, 7, 7, 7, 7, 7, 7, 7, 7, 7, 7, 7, 7, 7, 7, 7, 7, 7, 7, 7, 7, 7, 7, 7, 7, 7, 7, 7, 7, 7, 7, 7, 7, 7, 7, 7, 7, 7, 7, 7, 7, 7, 7, 7, 7, 7, 7, 7, 7, 7, 7, 7, 7, 7, 8, 8, 8, 8, 8, 8, 8, 8, 8, 8, 8, 8, 8, 8, 8, 8, 8, 8, 8, 8, 8, 8, 8, 8, 8, 8, 8, 8, 8, 8, 8, 8, 8, 8, 8, 8, 8, 8, 8, 8, 8, 8, 8, 8, 8, 8, 8, 8, 8, 8, 8, 8, 8, 8, 8, 8, 8, 8, 8, 8, 8, 8, 8, 8, 8, 8, 8, 8, 8, 8, 8, 8, 8, 8, 8, 8, 8, 8, 8, 8, 8, 8, 8, 8, 8, 8, 8, 8, 8, 8, 8, 8, 8, 8, 8, 8, 8, 8, 8, 8, 8, 8, 8, 8, 8, 8, 8, 8, 8, 8, 8, 8, 8, 8, 8, 8, 8, 8, 8, 8, 8, 8, 8, 8, 8, 8, 8, 8]⟩ : ByteArray)[n12.toNat]).toNat : Int)) fun n13 =>
arith .i64 (x8.2.1 + n13) fun n14 =>
K n14 w3)))
theorem S_bits_Len64 (v0_x : Int) (K : Int → World → Prop) (w0 : World) (h : F_bits_Len64 v0_x K w0) : C_bits_Len64 v0_x K w0 := by
  have e : denFn P [(4, [(0, .int .u64), (2, .int .i64)]), (7, [(0, .int .u64), (2, .int .i64)]), (10, [(0, .int .u64), (2, .int .i64)])] Tryz.f111 #[.int .u64 v0_x] (.int .i64) K w0 = F_bits_Len64 v0_x K w0 := by kernel_rfl
  exact fn_sound mixed (f := 111) Tryz.func111 (by kernel_rfl) (e.mpr h)

def F_weight_Unit  (K : yapi_Weight.T → World → Prop) (w0 : World) : Prop :=
allocK (.cells #[.int .i64 (0 : Int), .int .i64 (0 : Int), .int .i64 (0 : Int), .int .i64 (0 : Int), .int .u64 (0 : Int), .int .u64 (0 : Int)] t_api_Weight) w0 fun a1 w1 =>
C_digest_Unit  (fun x2 w2 =>
stK w2 a1 ([.int .i64 (0 : Int), .int .i64 (0 : Int), .int .i64 (0 : Int), .int .i64 (0 : Int), .int .u64 x2.1, .int .u64 x2.2]) fun w3 =>
∃ x3 : yapi_Weight.T, At w3 a1 (cells yapi_Weight x3) ∧
K x3 w3) w1
theorem S_weight_Unit  (K : yapi_Weight.T → World → Prop) (w0 : World) (h : F_weight_Unit  K w0) : C_weight_Unit  K w0 := by
  have e : denFn P [] Tryz.f114 #[] yapi_Weight K w0 = F_weight_Unit  K w0 := by kernel_rfl
  exact fn_sound mixed (f := 114) Tryz.func114 (by kernel_rfl) (e.mpr h)

def F_digest_Letter (v0_b : Int) (K : yapi_Digest.T → World → Prop) (w0 : World) : Prop :=
allocK (.cells #[.int .u64 (0 : Int), .int .u64 (0 : Int)] t_api_Digest) w0 fun a1 w1 =>
arith .u64 (v0_b) fun n2 =>
arith .u64 (n2 + (1 : Int)) fun n3 =>
stK w1 a1 ([.int .u64 n3, .int .u64 (1103515245 : Int)]) fun w2 =>
∃ x4 : yapi_Digest.T, At w2 a1 (cells yapi_Digest x4) ∧
K x4 w2
theorem S_digest_Letter (v0_b : Int) (K : yapi_Digest.T → World → Prop) (w0 : World) (h : F_digest_Letter v0_b K w0) : C_digest_Letter v0_b K w0 := by
  have e : denFn P [] Tryz.f115 #[.int .u8 v0_b] yapi_Digest K w0 = F_digest_Letter v0_b K w0 := by kernel_rfl
  exact fn_sound mixed (f := 115) Tryz.func115 (by kernel_rfl) (e.mpr h)

def F_length_Valid (v0_n : Int) (K : Bool → World → Prop) (w0 : World) : Prop :=
gd (decide ((0 : Int) ≤ v0_n)) (
K (decide (v0_n ≤ (1152921504606846976 : Int))) w0) (
K false w0)
theorem S_length_Valid (v0_n : Int) (K : Bool → World → Prop) (w0 : World) (h : F_length_Valid v0_n K w0) : C_length_Valid v0_n K w0 := by
  have e : denFn P [] Tryz.f116 #[.int .i64 v0_n] .bool K w0 = F_length_Valid v0_n K w0 := by kernel_rfl
  exact fn_sound mixed (f := 116) Tryz.func116 (by kernel_rfl) (e.mpr h)

def F_weight_Valid (v0_w : yapi_Weight.T) (K : Bool → World → Prop) (w0 : World) : Prop :=
allocK (.cells (cells yapi_Weight v0_w).toArray t_api_Weight) w0 fun a1 w1 =>
JoinP (X := Bool × Unit) (fun R3 =>
∃ x4 : Int, At w1 (a1.add 0) (cells (.int .i64) x4) ∧
C_length_Valid x4 (fun x5 w3 =>
gd (!x5) (
R3 (true, ()) w3) (
∃ x6 : Int, At w3 (a1.add 1) (cells (.int .i64) x6) ∧
R3 (decide (x6 < (0 : Int)), ()) w3)) w1) (fun x2 w2 => ∀ _ : Env,
gd x2.1 (
K false w2) (
JoinP (X := Unit) (fun R8 =>
∃ x9 : Int, At w2 (a1.add 1) (cells (.int .i64) x9) ∧
gd (x9 == (0 : Int)) (
JoinP (X := Bool × Unit) (fun R11 =>
∃ x12 : Int, At w2 (a1.add 2) (cells (.int .i64) x12) ∧
∃ x13 : Int, At w2 (a1.add 0) (cells (.int .i64) x13) ∧
gd (x12 != x13) (
R11 (true, ()) w2) (
∃ x14 : Int, At w2 (a1.add 3) (cells (.int .i64) x14) ∧
∃ x15 : Int, At w2 (a1.add 0) (cells (.int .i64) x15) ∧
R11 (x14 != x15, ()) w2)) (fun x10 w5 => ∀ _ : Env,
gd x10.1 (
K false w5) (
R8 () w5))) (
JoinP (X := Bool × Unit) (fun R17 =>
∃ x18 : Int, At w2 (a1.add 2) (cells (.int .i64) x18) ∧
gd (decide (x18 < (0 : Int))) (
R17 (true, ()) w2) (
∃ x19 : Int, At w2 (a1.add 2) (cells (.int .i64) x19) ∧
∃ x20 : Int, At w2 (a1.add 0) (cells (.int .i64) x20) ∧
gd (decide (x20 < x19)) (
R17 (true, ()) w2) (
∃ x21 : Int, At w2 (a1.add 3) (cells (.int .i64) x21) ∧
gd (decide (x21 < (0 : Int))) (
R17 (true, ()) w2) (
∃ x22 : Int, At w2 (a1.add 3) (cells (.int .i64) x22) ∧
∃ x23 : Int, At w2 (a1.add 0) (cells (.int .i64) x23) ∧
∃ x24 : Int, At w2 (a1.add 2) (cells (.int .i64) x24) ∧
arith .i64 (x23 - x24) fun n25 =>
R17 (decide (n25 < x22), ()) w2)))) (fun x16 w6 => ∀ _ : Env,
gd x16.1 (
K false w6) (
∃ x26 : Int, At w6 (a1.add 0) (cells (.int .i64) x26) ∧
∃ x27 : Int, At w6 (a1.add 2) (cells (.int .i64) x27) ∧
arith .i64 (x26 - x27) fun n28 =>
∃ x29 : Int, At w6 (a1.add 3) (cells (.int .i64) x29) ∧
arith .i64 (n28 - x29) fun n30 =>
JoinP (X := Bool × Unit) (fun R32 =>
∃ x33 : Int, At w6 (a1.add 1) (cells (.int .i64) x33) ∧
gd (decide (n30 < x33)) (
R32 (true, ()) w6) (
∃ x34 : Int, At w6 (a1.add 1) (cells (.int .i64) x34) ∧
gd (x34 == (1 : Int)) (
R32 (n30 != (1 : Int), ()) w6) (
R32 (false, ()) w6))) (fun x31 w7 => ∀ _ : Env,
gd x31.1 (
K false w7) (
R8 () w7)))))) (fun x7 w4 => ∀ _ : Env,
JoinP (X := Bool × Unit) (fun R36 =>
∃ x37 : Int, At w4 ((a1.add 4).add 0) (cells (.int .u64) x37) ∧
gd (decide ((2305843009213693951 : Int) ≤ x37)) (
R36 (true, ()) w4) (
∃ x38 : Int, At w4 (a1.add 0) (cells (.int .i64) x38) ∧
gd (x38 == (0 : Int)) (
∃ x39 : Int, At w4 ((a1.add 4).add 0) (cells (.int .u64) x39) ∧
R36 (x39 != (0 : Int), ()) w4) (
R36 (false, ()) w4))) (fun x35 w8 => ∀ _ : Env,
gd x35.1 (
K false w8) (
drawK w8 fun w9 =>
∃ x40 : Int, At w9 ((a1.add 4).add 1) (cells (.int .u64) x40) ∧
∃ x41 : Int, At w9 (a1.add 0) (cells (.int .i64) x41) ∧
arith .u64 (x41) fun n42 =>
C_modular_Pow (1103515245 : Int) n42 (fun x43 w10 =>
At w10 ((a1.add 4).add 1) (cells (.int .u64) x40) ∧
K (x40 == x43) w10) w9)))))
theorem S_weight_Valid (v0_w : yapi_Weight.T) (K : Bool → World → Prop) (w0 : World) (h : F_weight_Valid v0_w K w0) : C_weight_Valid v0_w K w0 := by
  have e : denFn P [(2, [(12, .bool)]), (11, []), (5, [(27, .bool)]), (7, [(52, .bool)]), (10, [(73, .bool)]), (12, [(88, .bool)])] Tryz.f117 #[val yapi_Weight v0_w] .bool K w0 = F_weight_Valid v0_w K w0 := by kernel_rfl
  exact fn_sound mixed (f := 117) Tryz.func117 (by kernel_rfl) (e.mpr h)

end Go.Proofs.YtnmgjpcooncjlaaGreat
