/- Texts that belong together, joined: Text20. No conditions. -/
import Derived.Test.YtcmncfglcjcmhaaGreatX0
/- The typed texts of the functions, printed by a program; each proved to imply the call. -/
set_option linter.unusedVariables false
set_option maxRecDepth 100000
set_option maxHeartbeats 4000000
namespace Go.Proofs.YtcmncfglcjcmhaaGreat
open Go.Den

def F_collect_Reach_1 (v0_id : Int) (v1 : Addr) (v2 : Addr) (K : Unit → World → Prop) (w0 : World) : Prop :=
∃ x1 : Option Nat, At w0 v1 (cells .map x1) ∧
∃ x2 : Bool, Lk1 P t_map_api_ID_bool .bool (.map x1) (.int .i64 v0_id) x2 w0 ∧
gd (!x2) (
∃ x3 : Option Nat, At w0 v1 (cells .map x3) ∧
runU P (Instr.mapUpdate t_map_api_ID_bool (.map x3) (.int .i64 v0_id) (.bool true)) w0 fun w1 =>
∃ x4 : Sl, At w1 v2 (cells .slice x4) ∧
allocK (.cells #[.int .i64 v0_id] t_api_ID) w1 fun a5 w2 =>
appK t_api_ID 1 8 #[.int .i64 (0 : Int)] x4.a x4.len x4.cap (.slice (some a5) 1 1) 1 w2 fun s6 w3 =>
stK w3 v2 ([.slice s6.a s6.len s6.cap]) fun w4 =>
K () w4) (
K () w0)
theorem S_collect_Reach_1 (v0_id : Int) (v1 : Addr) (v2 : Addr) (K : Unit → World → Prop) (w0 : World) (h : F_collect_Reach_1 v0_id v1 v2 K w0) : C_collect_Reach_1 v0_id v1 v2 K w0 := by
  have e : denFn P [] Tryz.f107 #[.int .i64 v0_id, .pointer (some v1), .pointer (some v2)] (.tup .unit) K w0 = F_collect_Reach_1 v0_id v1 v2 K w0 := by kernel_rfl
  exact fn_sound mixed (f := 107) Tryz.func107 (by kernel_rfl) (e.mpr h)

def F_collect_known (v0_s : Option Addr) (v1_id : Int) (K : Bool → World → Prop) (w0 : World) : Prop :=
gd (decide ((0 : Int) ≤ v1_id)) (
C_intern_Store_Len v0_s (fun x1 w1 =>
K (decide (v1_id ≤ x1)) w1) w0) (
K false w0)
theorem S_collect_known (v0_s : Option Addr) (v1_id : Int) (K : Bool → World → Prop) (w0 : World) (h : F_collect_known v0_s v1_id K w0) : C_collect_known v0_s v1_id K w0 := by
  have e : denFn P [] Tryz.f108 #[.pointer v0_s, .int .i64 v1_id] .bool K w0 = F_collect_known v0_s v1_id K w0 := by kernel_rfl
  exact fn_sound mixed (f := 108) Tryz.func108 (by kernel_rfl) (e.mpr h)

def F_bits_Len32 (v0_x : Int) (K : Int → World → Prop) (w0 : World) : Prop :=
JoinP (X := Int × Int × Unit) (fun R2 =>
gd (decide ((65536 : Int) ≤ v0_x)) (
0 ≤ (16 : Int) ∧
letZ (Int.fdiv v0_x (2 ^ min (Int.toNat (16 : Int)) (IntKind.bits .u32))) fun n3 =>
R2 (n3, (16 : Int), ()) w0) (
R2 (v0_x, (0 : Int), ()) w0)) (fun x1 w1 => ∀ _ : Env,
JoinP (X := Int × Int × Unit) (fun R5 =>
gd (decide ((256 : Int) ≤ x1.1)) (
0 ≤ (8 : Int) ∧
letZ (Int.fdiv x1.1 (2 ^ min (Int.toNat (8 : Int)) (IntKind.bits .u32))) fun n6 =>
arith .i64 (x1.2.1 + (8 : Int)) fun n7 =>
R5 (n6, n7, ()) w1) (
R5 (x1.1, x1.2.1, ()) w1)) (fun x4 w2 => ∀ _ : Env,
arith .u8 (x4.1) fun n8 =>
0 ≤ n8 ∧ ∃ hx : n8.toNat < (⟨#[0, 1, 2, 2, 3, 3, 3, 3, 4, 4, 4, 4, 4, 4, 4, 4, 5, 5, 5, 5, 5, 5, 5, 5, 5, 5, 5, 5, 5, 5, 5, 5, 6, 6, 6, 6, 6, 6, 6, 6, 6, 6, 6, 6, 6, 6, 6, 6, 6, 6, 6, 6, 6, 6, 6, 6, 6, 6, 6, 6, 6, 6, 6, 6, 7, 7, 7, 7, 7, 7, 7, 7, 7, 7, 7, 7, 7, 7, 7, 7, 7, 7, 7, 7, 7, 7, 7, 7, 7, 7, 7, 7, 7, 7, 7, 7, 7, 7, 7, 7, 7, 7, 7, 7, 7, 7, 7, 7, 7, 7, 7, 7, 7, 7, 7, 7, 7, 7, 7, 7, 7, 7, 7, 7, 7, 7, 7, 7, 8, 8, 8, 8, 8, 8, 8, 8, 8, 8, 8, 8, 8, 8, 8, 8, 8, 8, 8, 8, 8, 8, 8, 8, 8, 8, 8, 8, 8, 8, 8, 8, 8, 8, 8, 8, 8, 8, 8, 8, 8, 8, 8, 8, 8, 8, 8, 8, 8, 8, 8, 8, 8, 8, 8, 8, 8, 8, 8, 8, 8, 8, 8, 8, 8, 8, 8, 8, 8, 8, 8, 8, 8, 8, 8, 8, 8, 8, 8, 8, 8, 8, 8, 8, 8, 8, 8, 8, 8, 8, 8, 8, 8, 8, 8, 8, 8, 8, 8, 8, 8, 8, 8, 8, 8, 8, 8, 8, 8, 8, 8, 8, 8, 8, 8, 8, 8, 8, 8, 8, 8, 8, 8, 8, 8, 8, 8, 8]⟩ : ByteArray).size,
arith .i64 ((((⟨#[0, 1, 2, 2, 3, 3, 3, 3, 4, 4, 4, 4, 4, 4, 4, 4, 5, 5, 5, 5, 5, 5, 5, 5, 5, 5, 5, 5, 5, 5, 5, 5, 6, 6, 6, 6, 6, 6, 6, 6, 6, 6, 6, 6, 6, 6, 6, 6, 6, 6, 6, 6, 6, 6, 6, 6, 6, 6, 6, 6, 6, 6, 6, 6, 7, 7, 7, 7, 7, 7, 7, 7, 7, 7, 7, 7, 7, 7, 7, 7, 7, 7, 7, 7, 7, 7, 7, 7, 7, 7, 7, 7, 7, 7, 7, 7, 7, 7, 7, 7, 7, 7, 7, 7, 7, 7, 7, 7, 7, 7, 7, 7, 7, 7, 7, 7, 7, 7, 7, 7, 7, 7, 7, 7, 7, 7, 7, 7, 8, 8, 8, 8, 8, 8, 8, 8, 8, 8, 8, 8, 8, 8, 8, 8, 8, 8, 8, 8, 8, 8, 8, 8, 8, 8, 8, 8, 8, 8, 8, 8, 8, 8, 8, 8, 8, 8, 8, 8, 8, 8, 8, 8, 8, 8, 8, 8, 8, 8, 8, 8, 8, 8, 8, 8, 8, 8, 8, 8, 8, 8, 8, 8, 8, 8, 8, 8, 8, 8, 8, 8, 8, 8, 8, 8, 8, 8, 8, 8, 8, 8, 8, 8, 8, 8, 8, 8, 8, 8, 8, 8, 8, 8, 8, 8, 8, 8, 8, 8, 8, 8, 8, 8, 8, 8, 8, 8, 8, 8, 8, 8, 8, 8, 8, 8, 8, 8, 8, 8, 8, 8, 8, 8, 8, 8, 8, 8]⟩ : ByteArray)[n8.toNat]).toNat : Int)) fun n9 =>
arith .i64 (x4.2.1 + n9) fun n10 =>
K n10 w2))
theorem S_bits_Len32 (v0_x : Int) (K : Int → World → Prop) (w0 : World) (h : F_bits_Len32 v0_x K w0) : C_bits_Len32 v0_x K w0 := by
  have e : denFn P [(4, [(0, .int .u32), (2, .int .i64)]), (7, [(0, .int .u32), (2, .int .i64)])] Tryz.f118 #[.int .u32 v0_x] (.int .i64) K w0 = F_bits_Len32 v0_x K w0 := by kernel_rfl
  exact fn_sound mixed (f := 118) Tryz.func118 (by kernel_rfl) (e.mpr h)

def F_bits_Len64 (v0_x : Int) (K : Int → World → Prop) (w0 : World) : Prop :=
JoinP (X := Int × Int × Unit) (fun R2 =>
gd (decide ((4294967296 : Int) ≤ v0_x)) (
0 ≤ (32 : Int) ∧
letZ (Int.fdiv v0_x (2 ^ min (Int.toNat (32 : Int)) (IntKind.bits .u64))) fun n3 =>
R2 (n3, (32 : Int), ()) w0) (
R2 (v0_x, (0 : Int), ()) w0)) (fun x1 w1 => ∀ _ : Env,
JoinP (X := Int × Int × Unit) (fun R5 =>
gd (decide ((65536 : Int) ≤ x1.1)) (
0 ≤ (16 : Int) ∧
letZ (Int.fdiv x1.1 (2 ^ min (Int.toNat (16 : Int)) (IntKind.bits .u64))) fun n6 =>
arith .i64 (x1.2.1 + (16 : Int)) fun n7 =>
R5 (n6, n7, ()) w1) (
R5 (x1.1, x1.2.1, ()) w1)) (fun x4 w2 => ∀ _ : Env,
JoinP (X := Int × Int × Unit) (fun R9 =>
gd (decide ((256 : Int) ≤ x4.1)) (
0 ≤ (8 : Int) ∧
letZ (Int.fdiv x4.1 (2 ^ min (Int.toNat (8 : Int)) (IntKind.bits .u64))) fun n10 =>
arith .i64 (x4.2.1 + (8 : Int)) fun n11 =>
R9 (n10, n11, ()) w2) (
R9 (x4.1, x4.2.1, ()) w2)) (fun x8 w3 => ∀ _ : Env,
arith .u8 (x8.1) fun n12 =>
0 ≤ n12 ∧ ∃ hx : n12.toNat < (⟨#[0, 1, 2, 2, 3, 3, 3, 3, 4, 4, 4, 4, 4, 4, 4, 4, 5, 5, 5, 5, 5, 5, 5, 5, 5, 5, 5, 5, 5, 5, 5, 5, 6, 6, 6, 6, 6, 6, 6, 6, 6, 6, 6, 6, 6, 6, 6, 6, 6, 6, 6, 6, 6, 6, 6, 6, 6, 6, 6, 6, 6, 6, 6, 6, 7, 7, 7, 7, 7, 7, 7, 7, 7, 7, 7, 7, 7, 7, 7, 7, 7, 7, 7, 7, 7, 7, 7, 7, 7, 7, 7, 7, 7, 7, 7, 7, 7, 7, 7, 7, 7, 7, 7, 7, 7, 7, 7, 7, 7, 7, 7, 7, 7, 7, 7, 7, 7, 7, 7, 7, 7, 7, 7, 7, 7, 7, 7, 7, 8, 8, 8, 8, 8, 8, 8, 8, 8, 8, 8, 8, 8, 8, 8, 8, 8, 8, 8, 8, 8, 8, 8, 8, 8, 8, 8, 8, 8, 8, 8, 8, 8, 8, 8, 8, 8, 8, 8, 8, 8, 8, 8, 8, 8, 8, 8, 8, 8, 8, 8, 8, 8, 8, 8, 8, 8, 8, 8, 8, 8, 8, 8, 8, 8, 8, 8, 8, 8, 8, 8, 8, 8, 8, 8, 8, 8, 8, 8, 8, 8, 8, 8, 8, 8, 8, 8, 8, 8, 8, 8, 8, 8, 8, 8, 8, 8, 8, 8, 8, 8, 8, 8, 8, 8, 8, 8, 8, 8, 8, 8, 8, 8, 8, 8, 8, 8, 8, 8, 8, 8, 8, 8, 8, 8, 8, 8, 8]⟩ : ByteArray).size,
arith .i64 ((((⟨#[0, 1, 2, 2, 3, 3, 3, 3, 4, 4, 4, 4, 4, 4, 4, 4, 5, 5, 5, 5, 5, 5, 5, 5, 5, 5, 5, 5, 5, 5, 5, 5, 6, 6, 6, 6, 6, 6, 6, 6, 6, 6, 6, 6, 6, 6, 6, 6, 6, 6, 6, 6, 6, 6, 6, 6, 6, 6, 6, 6, 6, 6, 6, 6, 7, 7, 7, 7, 7, 7, 7, 7, 7, 7, 7, 7, 7, 7, 7, 7, 7, 7, 7, 7, 7, 7, 7, 7, 7, 7, 7, 7, 7, 7, 7, 7, 7, 7, 7, 7, 7, 7, 7, 7, 7, 7, 7, 7, 7, 7, 7, 7, 7, 7, 7, 7, 7, 7, 7, 7, 7, 7, 7, 7, 7, 7, 7, 7, 8, 8, 8, 8, 8, 8, 8, 8, 8, 8, 8, 8, 8, 8, 8, 8, 8, 8, 8, 8, 8, 8, 8, 8, 8, 8, 8, 8, 8, 8, 8, 8, 8, 8, 8, 8, 8, 8, 8, 8, 8, 8, 8, 8, 8, 8, 8, 8, 8, 8, 8, 8, 8, 8, 8, 8, 8, 8, 8, 8, 8, 8, 8, 8, 8, 8, 8, 8, 8, 8, 8, 8, 8, 8, 8, 8, 8, 8, 8, 8, 8, 8, 8, 8, 8, 8, 8, 8, 8, 8, 8, 8, 8, 8, 8, 8, 8, 8, 8, 8, 8, 8, 8, 8, 8, 8, 8, 8, 8, 8, 8, 8, 8, 8, 8, 8, 8, 8, 8, 8, 8, 8, 8, 8, 8, 8, 8, 8]⟩ : ByteArray)[n12.toNat]).toNat : Int)) fun n13 =>
arith .i64 (x8.2.1 + n13) fun n14 =>
K n14 w3)))
theorem S_bits_Len64 (v0_x : Int) (K : Int → World → Prop) (w0 : World) (h : F_bits_Len64 v0_x K w0) : C_bits_Len64 v0_x K w0 := by
  have e : denFn P [(4, [(0, .int .u64), (2, .int .i64)]), (7, [(0, .int .u64), (2, .int .i64)]), (10, [(0, .int .u64), (2, .int .i64)])] Tryz.f119 #[.int .u64 v0_x] (.int .i64) K w0 = F_bits_Len64 v0_x K w0 := by kernel_rfl
  exact fn_sound mixed (f := 119) Tryz.func119 (by kernel_rfl) (e.mpr h)

def F_weight_Letter (v0_b : Int) (K : yapi_Weight.T → World → Prop) (w0 : World) : Prop :=
allocK (.cells #[.int .i64 (0 : Int), .int .i64 (0 : Int), .int .i64 (0 : Int), .int .i64 (0 : Int), .int .u64 (0 : Int), .int .u64 (0 : Int)] t_api_Weight) w0 fun a1 w1 =>
gd (v0_b == (10 : Int)) (
C_digest_Letter v0_b (fun x2 w2 =>
stK w2 a1 ([.int .i64 (1 : Int), .int .i64 (1 : Int), .int .i64 (0 : Int), .int .i64 (0 : Int), .int .u64 x2.1, .int .u64 x2.2]) fun w3 =>
∃ x3 : yapi_Weight.T, At w3 a1 (cells yapi_Weight x3) ∧
K x3 w3) w1) (
C_digest_Letter v0_b (fun x4 w4 =>
stK w4 a1 ([.int .i64 (1 : Int), .int .i64 (0 : Int), .int .i64 (1 : Int), .int .i64 (1 : Int), .int .u64 x4.1, .int .u64 x4.2]) fun w5 =>
∃ x5 : yapi_Weight.T, At w5 a1 (cells yapi_Weight x5) ∧
K x5 w5) w1)
theorem S_weight_Letter (v0_b : Int) (K : yapi_Weight.T → World → Prop) (w0 : World) (h : F_weight_Letter v0_b K w0) : C_weight_Letter v0_b K w0 := by
  have e : denFn P [] Tryz.f120 #[.int .u8 v0_b] yapi_Weight K w0 = F_weight_Letter v0_b K w0 := by kernel_rfl
  exact fn_sound mixed (f := 120) Tryz.func120 (by kernel_rfl) (e.mpr h)

end Go.Proofs.YtcmncfglcjcmhaaGreat
