/- Texts that belong together, joined: Text13. No conditions. -/
import Derived.Test.YtcmncfglcjcmhaaGreatX0
/- The typed texts of the functions, printed by a program; each proved to imply the call. -/
set_option linter.unusedVariables false
set_option maxRecDepth 100000
set_option maxHeartbeats 4000000
namespace Go.Proofs.YtcmncfglcjcmhaaGreat
open Go.Den

def F_length_Valid (v0_n : Int) (K : Bool → World → Prop) (w0 : World) : Prop :=
gd (decide ((0 : Int) ≤ v0_n)) (
K (decide (v0_n ≤ (1152921504606846976 : Int))) w0) (
K false w0)
theorem S_length_Valid (v0_n : Int) (K : Bool → World → Prop) (w0 : World) (h : F_length_Valid v0_n K w0) : C_length_Valid v0_n K w0 := by
  have e : denFn P [] Tryz.f63 #[.int .i64 v0_n] .bool K w0 = F_length_Valid v0_n K w0 := by kernel_rfl
  exact fn_sound mixed (f := 63) Tryz.func63 (by kernel_rfl) (e.mpr h)

def F_intern_Store_Even (v0_s : Option Addr) (v1_id : Int) (K : Bool → World → Prop) (w0 : World) : Prop :=
gd (!v0_s.isNone) (
C_intern_Store_known v0_s v1_id (fun x1 w1 =>
gd x1 (
C_intern_Store_at v0_s v1_id (fun x2 w2 =>
K x2.2.2.2 w2) w1) (
K false w1)) w0) (
K false w0)
theorem S_intern_Store_Even (v0_s : Option Addr) (v1_id : Int) (K : Bool → World → Prop) (w0 : World) (h : F_intern_Store_Even v0_s v1_id K w0) : C_intern_Store_Even v0_s v1_id K w0 := by
  have e : denFn P [] Tryz.f64 #[.pointer v0_s, .int .i64 v1_id] .bool K w0 = F_intern_Store_Even v0_s v1_id K w0 := by kernel_rfl
  exact fn_sound mixed (f := 64) Tryz.func64 (by kernel_rfl) (e.mpr h)

def F_access_halve (v0_todo : Sl) (v1_r : yapi_Rule.T) (v2_left : Int) (v3_x : yaccess_span.T) (K : Sl → World → Prop) (w0 : World) : Prop :=
allocK (.cells (cells yapi_Rule v1_r).toArray t_api_Rule) w0 fun a1 w1 =>
allocK (.cells (cells yaccess_span v3_x).toArray t_access_span) w1 fun a2 w2 =>
∃ x3 : Int, At w2 (a2.add 1) (cells (.int .i64) x3) ∧
arith .i64 (v2_left - x3) fun n4 =>
∃ x5 : Int, At w2 (a2.add 2) (cells (.int .i64) x5) ∧
C_length_Clip n4 (0 : Int) x5 (fun x6 w3 =>
∃ x7 : Int, At w3 (a1.add 3) (cells (.int .i64) x7) ∧
∃ x8 : Int, At w3 (a2.add 1) (cells (.int .i64) x8) ∧
arith .i64 (x8 - v2_left) fun n9 =>
∃ x10 : Int, At w3 (a2.add 2) (cells (.int .i64) x10) ∧
arith .i64 (x10 - x6) fun n11 =>
∃ x12 : Int, At w3 (a1.add 2) (cells (.int .i64) x12) ∧
∃ x13 : Int, At w3 (a2.add 1) (cells (.int .i64) x13) ∧
allocK (.cells #[.int .i64 x7, .int .i64 (if n9 < (0 : Int) then (0 : Int) else n9), .int .i64 n11, .int .i64 (1 : Int), .int .i64 x12, .int .i64 (if v2_left < x13 then v2_left else x13), .int .i64 x6, .int .i64 (1 : Int)] t_access_span) w3 fun a14 w4 =>
appK t_access_span 4 32 #[.int .i64 (0 : Int), .int .i64 (0 : Int), .int .i64 (0 : Int), .int .i64 (0 : Int)] v0_todo.a v0_todo.len v0_todo.cap (.slice (some a14) 2 2) 2 w4 fun s15 w5 =>
K s15 w5) w2
theorem S_access_halve (v0_todo : Sl) (v1_r : yapi_Rule.T) (v2_left : Int) (v3_x : yaccess_span.T) (K : Sl → World → Prop) (w0 : World) (h : F_access_halve v0_todo v1_r v2_left v3_x K w0) : C_access_halve v0_todo v1_r v2_left v3_x K w0 := by
  have e : denFn P [] Tryz.f65 #[.slice v0_todo.a v0_todo.len v0_todo.cap, val yapi_Rule v1_r, .int .i64 v2_left, val yaccess_span v3_x] .slice K w0 = F_access_halve v0_todo v1_r v2_left v3_x K w0 := by kernel_rfl
  exact fn_sound mixed (f := 65) Tryz.func65 (by kernel_rfl) (e.mpr h)

def F_access_divide (v0_todo : Sl) (v1_r : yapi_Rule.T) (v2_left : Int) (v3_x : yaccess_span.T) (K : Sl → World → Prop) (w0 : World) : Prop :=
allocK (.cells (cells yapi_Rule v1_r).toArray t_api_Rule) w0 fun a1 w1 =>
allocK (.cells (cells yaccess_span v3_x).toArray t_access_span) w1 fun a2 w2 =>
∃ x3 : Int, At w2 (a2.add 1) (cells (.int .i64) x3) ∧
v2_left ≠ 0 ∧
letZ (Int.tmod x3 v2_left) fun n4 =>
∃ x5 : Int, At w2 (a2.add 2) (cells (.int .i64) x5) ∧
arith .i64 (n4 + x5) fun n6 =>
gd (decide (n6 ≤ v2_left)) (
∃ x7 : Int, At w2 (a1.add 2) (cells (.int .i64) x7) ∧
∃ x8 : Int, At w2 (a2.add 2) (cells (.int .i64) x8) ∧
allocK (.cells #[.int .i64 x7, .int .i64 n4, .int .i64 x8, .int .i64 (1 : Int)] t_access_span) w2 fun a9 w3 =>
appK t_access_span 4 32 #[.int .i64 (0 : Int), .int .i64 (0 : Int), .int .i64 (0 : Int), .int .i64 (0 : Int)] v0_todo.a v0_todo.len v0_todo.cap (.slice (some a9) 1 1) 1 w3 fun s10 w4 =>
K s10 w4) (
arith .i64 (v2_left - n4) fun n11 =>
v2_left ≠ 0 ∧
letZ (Int.tmod n11 v2_left) fun n12 =>
∃ x13 : Int, At w2 (a2.add 2) (cells (.int .i64) x13) ∧
arith .i64 (x13 - n12) fun n14 =>
drawK w2 fun w5 =>
∃ x15 : Int, At w5 (a1.add 2) (cells (.int .i64) x15) ∧
v2_left ≠ 0 ∧
letZ (Int.tmod n14 v2_left) fun n16 =>
∃ x17 : Int, At w5 (a1.add 2) (cells (.int .i64) x17) ∧
v2_left ≠ 0 ∧
arith .i64 (Int.tdiv n14 v2_left) fun n18 =>
∃ x19 : Int, At w5 (a1.add 2) (cells (.int .i64) x19) ∧
allocK (.cells #[.int .i64 x15, .int .i64 (0 : Int), .int .i64 n16, .int .i64 (1 : Int), .int .i64 x17, .int .i64 (0 : Int), .int .i64 v2_left, .int .i64 n18, .int .i64 x19, .int .i64 n4, .int .i64 n12, .int .i64 (1 : Int)] t_access_span) w5 fun a20 w6 =>
appK t_access_span 4 32 #[.int .i64 (0 : Int), .int .i64 (0 : Int), .int .i64 (0 : Int), .int .i64 (0 : Int)] v0_todo.a v0_todo.len v0_todo.cap (.slice (some a20) 3 3) 3 w6 fun s21 w7 =>
K s21 w7)
theorem S_access_divide (v0_todo : Sl) (v1_r : yapi_Rule.T) (v2_left : Int) (v3_x : yaccess_span.T) (K : Sl → World → Prop) (w0 : World) (h : F_access_divide v0_todo v1_r v2_left v3_x K w0) : C_access_divide v0_todo v1_r v2_left v3_x K w0 := by
  have e : denFn P [] Tryz.f66 #[.slice v0_todo.a v0_todo.len v0_todo.cap, val yapi_Rule v1_r, .int .i64 v2_left, val yaccess_span v3_x] .slice K w0 = F_access_divide v0_todo v1_r v2_left v3_x K w0 := by kernel_rfl
  exact fn_sound mixed (f := 66) Tryz.func66 (by kernel_rfl) (e.mpr h)

def F_digest_Unit  (K : yapi_Digest.T → World → Prop) (w0 : World) : Prop :=
allocK (.cells #[.int .u64 (0 : Int), .int .u64 (0 : Int)] t_api_Digest) w0 fun a1 w1 =>
stK w1 a1 ([.int .u64 (0 : Int), .int .u64 (1 : Int)]) fun w2 =>
∃ x2 : yapi_Digest.T, At w2 a1 (cells yapi_Digest x2) ∧
K x2 w2
theorem S_digest_Unit  (K : yapi_Digest.T → World → Prop) (w0 : World) (h : F_digest_Unit  K w0) : C_digest_Unit  K w0 := by
  have e : denFn P [] Tryz.f67 #[] yapi_Digest K w0 = F_digest_Unit  K w0 := by kernel_rfl
  exact fn_sound mixed (f := 67) Tryz.func67 (by kernel_rfl) (e.mpr h)

def F_weight_Valid (v0_w : yapi_Weight.T) (K : Bool → World → Prop) (w0 : World) : Prop :=
allocK (.cells (cells yapi_Weight v0_w).toArray t_api_Weight) w0 fun a1 w1 =>
JoinP (X := Bool × Unit) (fun R3 =>
∃ x4 : Int, At w1 (a1.add 0) (cells (.int .i64) x4) ∧
C_length_Valid x4 (fun x5 w3 =>
gd (!x5) (
R3 (true, ()) w3) (
∃ x6 : Int, At w3 (a1.add 1) (cells (.int .i64) x6) ∧
R3 (decide (x6 < (0 : Int)), ()) w3)) w1) (fun x2 w2 => ∀ _ : Env,
gd x2.1 (
K false w2) (
JoinP (X := Unit) (fun R8 =>
∃ x9 : Int, At w2 (a1.add 1) (cells (.int .i64) x9) ∧
gd (x9 == (0 : Int)) (
JoinP (X := Bool × Unit) (fun R11 =>
∃ x12 : Int, At w2 (a1.add 2) (cells (.int .i64) x12) ∧
∃ x13 : Int, At w2 (a1.add 0) (cells (.int .i64) x13) ∧
gd (x12 != x13) (
R11 (true, ()) w2) (
∃ x14 : Int, At w2 (a1.add 3) (cells (.int .i64) x14) ∧
∃ x15 : Int, At w2 (a1.add 0) (cells (.int .i64) x15) ∧
R11 (x14 != x15, ()) w2)) (fun x10 w5 => ∀ _ : Env,
gd x10.1 (
K false w5) (
R8 () w5))) (
JoinP (X := Bool × Unit) (fun R17 =>
∃ x18 : Int, At w2 (a1.add 2) (cells (.int .i64) x18) ∧
gd (decide (x18 < (0 : Int))) (
R17 (true, ()) w2) (
∃ x19 : Int, At w2 (a1.add 2) (cells (.int .i64) x19) ∧
∃ x20 : Int, At w2 (a1.add 0) (cells (.int .i64) x20) ∧
gd (decide (x20 < x19)) (
R17 (true, ()) w2) (
∃ x21 : Int, At w2 (a1.add 3) (cells (.int .i64) x21) ∧
gd (decide (x21 < (0 : Int))) (
R17 (true, ()) w2) (
∃ x22 : Int, At w2 (a1.add 3) (cells (.int .i64) x22) ∧
∃ x23 : Int, At w2 (a1.add 0) (cells (.int .i64) x23) ∧
∃ x24 : Int, At w2 (a1.add 2) (cells (.int .i64) x24) ∧
arith .i64 (x23 - x24) fun n25 =>
R17 (decide (n25 < x22), ()) w2)))) (fun x16 w6 => ∀ _ : Env,
gd x16.1 (
K false w6) (
∃ x26 : Int, At w6 (a1.add 0) (cells (.int .i64) x26) ∧
∃ x27 : Int, At w6 (a1.add 2) (cells (.int .i64) x27) ∧
arith .i64 (x26 - x27) fun n28 =>
∃ x29 : Int, At w6 (a1.add 3) (cells (.int .i64) x29) ∧
arith .i64 (n28 - x29) fun n30 =>
JoinP (X := Bool × Unit) (fun R32 =>
∃ x33 : Int, At w6 (a1.add 1) (cells (.int .i64) x33) ∧
gd (decide (n30 < x33)) (
R32 (true, ()) w6) (
∃ x34 : Int, At w6 (a1.add 1) (cells (.int .i64) x34) ∧
gd (x34 == (1 : Int)) (
R32 (n30 != (1 : Int), ()) w6) (
R32 (false, ()) w6))) (fun x31 w7 => ∀ _ : Env,
gd x31.1 (
K false w7) (
R8 () w7)))))) (fun x7 w4 => ∀ _ : Env,
JoinP (X := Bool × Unit) (fun R36 =>
∃ x37 : Int, At w4 ((a1.add 4).add 0) (cells (.int .u64) x37) ∧
gd (decide ((2305843009213693951 : Int) ≤ x37)) (
R36 (true, ()) w4) (
∃ x38 : Int, At w4 (a1.add 0) (cells (.int .i64) x38) ∧
gd (x38 == (0 : Int)) (
∃ x39 : Int, At w4 ((a1.add 4).add 0) (cells (.int .u64) x39) ∧
R36 (x39 != (0 : Int), ()) w4) (
R36 (false, ()) w4))) (fun x35 w8 => ∀ _ : Env,
gd x35.1 (
K false w8) (
drawK w8 fun w9 =>
∃ x40 : Int, At w9 ((a1.add 4).add 1) (cells (.int .u64) x40) ∧
∃ x41 : Int, At w9 (a1.add 0) (cells (.int .i64) x41) ∧
arith .u64 (x41) fun n42 =>
C_modular_Pow (1103515245 : Int) n42 (fun x43 w10 =>
At w10 ((a1.add 4).add 1) (cells (.int .u64) x40) ∧
K (x40 == x43) w10) w9)))))
theorem S_weight_Valid (v0_w : yapi_Weight.T) (K : Bool → World → Prop) (w0 : World) (h : F_weight_Valid v0_w K w0) : C_weight_Valid v0_w K w0 := by
  have e : denFn P [(2, [(12, .bool)]), (11, []), (5, [(27, .bool)]), (7, [(52, .bool)]), (10, [(73, .bool)]), (12, [(88, .bool)])] Tryz.f68 #[val yapi_Weight v0_w] .bool K w0 = F_weight_Valid v0_w K w0 := by kernel_rfl
  exact fn_sound mixed (f := 68) Tryz.func68 (by kernel_rfl) (e.mpr h)

end Go.Proofs.YtcmncfglcjcmhaaGreat
