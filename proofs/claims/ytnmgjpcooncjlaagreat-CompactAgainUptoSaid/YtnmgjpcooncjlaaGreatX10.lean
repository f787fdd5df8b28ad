/- Texts that belong together, joined: Text10. No conditions. -/
import Derived.Test.YtnmgjpcooncjlaaGreatX0
/- The typed texts of the functions, printed by a program; each proved to imply the call. -/
set_option linter.unusedVariables false
set_option maxRecDepth 100000
set_option maxHeartbeats 4000000
namespace Go.Proofs.YtnmgjpcooncjlaaGreat
open Go.Den

def F_ref12_One (v0_s : yevergreenref12_Store.T) (v1_m : yevergreenref12_Make.T) (v2_results : Sl) (K : (yevergreenref12_Store.T × Int) → World → Prop) (w0 : World) : Prop :=
allocK (.cells (cells yevergreenref12_Store v0_s).toArray t_evergreenref12_Store) w0 fun a1 w1 =>
allocK (.cells (cells yevergreenref12_Make v1_m).toArray t_evergreenref12_Make) w1 fun a2 w2 =>
allocK (.cells #[.slice none 0 0, .slice none 0 0] t_evergreenref12_Store) w2 fun a3 w3 =>
∃ x4 : Int, At w3 (a2.add 2) (cells (.int .i64) x4) ∧
C_ref12_Pick x4 (v2_results.len : Int) (fun x5 w4 =>
idxK v2_results.a v2_results.len x5 1 fun p6 =>
∃ x7 : Int, At w4 p6 (cells (.int .i64) x7) ∧
∃ x8 : Int, At w4 (a2.add 3) (cells (.int .i64) x8) ∧
C_ref12_Pick x8 (v2_results.len : Int) (fun x9 w5 =>
idxK v2_results.a v2_results.len x9 1 fun p10 =>
∃ x11 : Int, At w5 p10 (cells (.int .i64) x11) ∧
∃ x12 : Int, At w5 (a2.add 0) (cells (.int .i64) x12) ∧
C_ref12_Pick x12 (4 : Int) (fun x13 w6 =>
gd (x13 == (0 : Int)) (
∃ x14 : yevergreenref12_Store.T, At w6 a1 (cells yevergreenref12_Store x14) ∧
∃ x15 : Int, At w6 (a2.add 1) (cells (.int .u8) x15) ∧
C_ref12_Add x14 ((1 : Int), (x15, ((0 : Int), ((0 : Int), (0 : Int))))) (1 : Int) (fun x16 w7 =>
stK w7 a3 (cells yevergreenref12_Store x16.1) fun w8 =>
∃ x17 : yevergreenref12_Store.T, At w8 a3 (cells yevergreenref12_Store x17) ∧
K (x17, x16.2) w8) w6) (
gd (x13 == (3 : Int)) (
∃ x18 : yevergreenref12_Store.T, At w6 a1 (cells yevergreenref12_Store x18) ∧
C_ref12_Length x18 x7 (fun x19 w9 =>
JoinP (X := Bool × Unit) (fun R21 =>
drawK w9 fun w11 =>
gd (x7 == (0 : Int)) (
R21 (true, ()) w11) (
∃ x22 : Int, At w11 (a2.add 4) (cells (.int .i64) x22) ∧
gd (decide (x22 ≤ (0 : Int))) (
R21 (true, ()) w11) (
∃ x23 : Int, At w11 (a2.add 4) (cells (.int .i64) x23) ∧
x19 ≠ 0 ∧
arith .i64 (Int.tdiv (1152921504606846976 : Int) x19) fun n24 =>
R21 (decide (n24 < x23), ()) w11))) (fun x20 w10 => ∀ _ : Env,
gd x20.1 (
∃ x25 : yevergreenref12_Store.T, At w10 a1 (cells yevergreenref12_Store x25) ∧
stK w10 a3 (cells yevergreenref12_Store x25) fun w12 =>
∃ x26 : yevergreenref12_Store.T, At w12 a3 (cells yevergreenref12_Store x26) ∧
K (x26, (0 : Int)) w12) (
∃ x27 : Int, At w10 (a2.add 4) (cells (.int .i64) x27) ∧
gd (x27 == (1 : Int)) (
∃ x28 : yevergreenref12_Store.T, At w10 a1 (cells yevergreenref12_Store x28) ∧
stK w10 a3 (cells yevergreenref12_Store x28) fun w13 =>
∃ x29 : yevergreenref12_Store.T, At w13 a3 (cells yevergreenref12_Store x29) ∧
K (x29, x7) w13) (
∃ x30 : yevergreenref12_Store.T, At w10 a1 (cells yevergreenref12_Store x30) ∧
∃ x31 : Int, At w10 (a2.add 4) (cells (.int .i64) x31) ∧
∃ x32 : Int, At w10 (a2.add 4) (cells (.int .i64) x32) ∧
arith .i64 (x19 * x32) fun n33 =>
C_ref12_Add x30 ((3 : Int), ((0 : Int), (x7, ((0 : Int), x31)))) n33 (fun x34 w14 =>
stK w14 a3 (cells yevergreenref12_Store x34.1) fun w15 =>
∃ x35 : yevergreenref12_Store.T, At w15 a3 (cells yevergreenref12_Store x35) ∧
K (x35, x34.2) w15) w10)))) w6) (
gd (x7 == (0 : Int)) (
∃ x36 : yevergreenref12_Store.T, At w6 a1 (cells yevergreenref12_Store x36) ∧
stK w6 a3 (cells yevergreenref12_Store x36) fun w16 =>
∃ x37 : yevergreenref12_Store.T, At w16 a3 (cells yevergreenref12_Store x37) ∧
K (x37, x11) w16) (
gd (x11 == (0 : Int)) (
∃ x38 : yevergreenref12_Store.T, At w6 a1 (cells yevergreenref12_Store x38) ∧
stK w6 a3 (cells yevergreenref12_Store x38) fun w17 =>
∃ x39 : yevergreenref12_Store.T, At w17 a3 (cells yevergreenref12_Store x39) ∧
K (x39, x7) w17) (
drawK w6 fun w18 =>
∃ x40 : yevergreenref12_Store.T, At w18 a1 (cells yevergreenref12_Store x40) ∧
∃ x41 : yevergreenref12_Store.T, At w18 a1 (cells yevergreenref12_Store x41) ∧
C_ref12_Length x40 x7 (fun x42 w19 =>
At w19 a1 (cells yevergreenref12_Store x41) ∧
C_ref12_Length x41 x11 (fun x43 w20 =>
arith .i64 ((1152921504606846976 : Int) - x43) fun n44 =>
gd (decide (n44 < x42)) (
∃ x45 : yevergreenref12_Store.T, At w20 a1 (cells yevergreenref12_Store x45) ∧
stK w20 a3 (cells yevergreenref12_Store x45) fun w21 =>
∃ x46 : yevergreenref12_Store.T, At w21 a3 (cells yevergreenref12_Store x46) ∧
K (x46, (0 : Int)) w21) (
drawK w20 fun w22 =>
∃ x47 : yevergreenref12_Store.T, At w22 a1 (cells yevergreenref12_Store x47) ∧
∃ x48 : yevergreenref12_Store.T, At w22 a1 (cells yevergreenref12_Store x48) ∧
∃ x49 : yevergreenref12_Store.T, At w22 a1 (cells yevergreenref12_Store x49) ∧
C_ref12_Length x48 x7 (fun x50 w23 =>
At w23 a1 (cells yevergreenref12_Store x49) ∧
At w23 a1 (cells yevergreenref12_Store x47) ∧
C_ref12_Length x49 x11 (fun x51 w24 =>
At w24 a1 (cells yevergreenref12_Store x47) ∧
arith .i64 (x50 + x51) fun n52 =>
C_ref12_Add x47 ((2 : Int), ((0 : Int), (x7, (x11, (0 : Int))))) n52 (fun x53 w25 =>
stK w25 a3 (cells yevergreenref12_Store x53.1) fun w26 =>
∃ x54 : yevergreenref12_Store.T, At w26 a3 (cells yevergreenref12_Store x54) ∧
K (x54, x53.2) w26) w24) w23) w22)) w19) w18))))) w5) w4) w3
theorem S_ref12_One (v0_s : yevergreenref12_Store.T) (v1_m : yevergreenref12_Make.T) (v2_results : Sl) (K : (yevergreenref12_Store.T × Int) → World → Prop) (w0 : World) (h : F_ref12_One v0_s v1_m v2_results K w0) : C_ref12_One v0_s v1_m v2_results K w0 := by
  have e : denFn P [(9, [(57, .bool)])] Tryz.f71 #[val yevergreenref12_Store v0_s, val yevergreenref12_Make v1_m, .slice v2_results.a v2_results.len v2_results.cap] (.tup (.pair yevergreenref12_Store (.int .i64))) K w0 = F_ref12_One v0_s v1_m v2_results K w0 := by kernel_rfl
  exact fn_sound mixed (f := 71) Tryz.func71 (by kernel_rfl) (e.mpr h)

def F_ref12_Known (v0_s : yevergreenref12_Store.T) (v1_id : Int) (K : Bool → World → Prop) (w0 : World) : Prop :=
allocK (.cells (cells yevergreenref12_Store v0_s).toArray t_evergreenref12_Store) w0 fun a1 w1 =>
gd (decide ((0 : Int) ≤ v1_id)) (
∃ x2 : Sl, At w1 (a1.add 0) (cells .slice x2) ∧
K (decide (v1_id ≤ (x2.len : Int))) w1) (
K false w1)
theorem S_ref12_Known (v0_s : yevergreenref12_Store.T) (v1_id : Int) (K : Bool → World → Prop) (w0 : World) (h : F_ref12_Known v0_s v1_id K w0) : C_ref12_Known v0_s v1_id K w0 := by
  have e : denFn P [] Tryz.f72 #[val yevergreenref12_Store v0_s, .int .i64 v1_id] .bool K w0 = F_ref12_Known v0_s v1_id K w0 := by kernel_rfl
  exact fn_sound mixed (f := 72) Tryz.func72 (by kernel_rfl) (e.mpr h)

def F_ref12_Refs (v0_r : yapi_Rule.T) (K : Sl → World → Prop) (w0 : World) : Prop :=
allocK (.cells (cells yapi_Rule v0_r).toArray t_api_Rule) w0 fun a1 w1 =>
∃ x2 : Int, At w1 (a1.add 0) (cells (.int .i64) x2) ∧
gd (x2 == (2 : Int)) (
∃ x3 : Int, At w1 (a1.add 2) (cells (.int .i64) x3) ∧
∃ x4 : Int, At w1 (a1.add 3) (cells (.int .i64) x4) ∧
allocK (.cells #[.int .i64 x3, .int .i64 x4] t_api_ID) w1 fun a5 w2 =>
K (⟨some a5, 2, 2⟩) w2) (
∃ x6 : Int, At w1 (a1.add 0) (cells (.int .i64) x6) ∧
gd (x6 == (3 : Int)) (
∃ x7 : Int, At w1 (a1.add 2) (cells (.int .i64) x7) ∧
allocK (.cells #[.int .i64 x7] t_api_ID) w1 fun a8 w3 =>
K (⟨some a8, 1, 1⟩) w3) (
K (⟨none, 0, 0⟩) w1))
theorem S_ref12_Refs (v0_r : yapi_Rule.T) (K : Sl → World → Prop) (w0 : World) (h : F_ref12_Refs v0_r K w0) : C_ref12_Refs v0_r K w0 := by
  have e : denFn P [] Tryz.f73 #[val yapi_Rule v0_r] .slice K w0 = F_ref12_Refs v0_r K w0 := by kernel_rfl
  exact fn_sound mixed (f := 73) Tryz.func73 (by kernel_rfl) (e.mpr h)

def F_collect_Table_none (v0_t : Option Addr) (K : Bool → World → Prop) (w0 : World) : Prop :=
gd v0_t.isNone (
K true w0) (
nonNil v0_t fun p1 =>
∃ x2 : Option Addr, At w0 (p1.add 0) (cells .ptr x2) ∧
K x2.isNone w0)
theorem S_collect_Table_none (v0_t : Option Addr) (K : Bool → World → Prop) (w0 : World) (h : F_collect_Table_none v0_t K w0) : C_collect_Table_none v0_t K w0 := by
  have e : denFn P [] Tryz.f74 #[.pointer v0_t] .bool K w0 = F_collect_Table_none v0_t K w0 := by kernel_rfl
  exact fn_sound mixed (f := 74) Tryz.func74 (by kernel_rfl) (e.mpr h)

def F_collect_known (v0_s : Option Addr) (v1_id : Int) (K : Bool → World → Prop) (w0 : World) : Prop :=
gd (decide ((0 : Int) ≤ v1_id)) (
C_intern_Store_Len v0_s (fun x1 w1 =>
K (decide (v1_id ≤ x1)) w1) w0) (
K false w0)
theorem S_collect_known (v0_s : Option Addr) (v1_id : Int) (K : Bool → World → Prop) (w0 : World) (h : F_collect_known v0_s v1_id K w0) : C_collect_known v0_s v1_id K w0 := by
  have e : denFn P [] Tryz.f75 #[.pointer v0_s, .int .i64 v1_id] .bool K w0 = F_collect_known v0_s v1_id K w0 := by kernel_rfl
  exact fn_sound mixed (f := 75) Tryz.func75 (by kernel_rfl) (e.mpr h)

def F_collect_Table_Live (v0_t : Option Addr) (K : Sl → World → Prop) (w0 : World) : Prop :=
C_collect_Table_none v0_t (fun x1 w1 =>
gd x1 (
K (⟨none, 0, 0⟩) w1) (
drawK w1 fun w2 =>
nonNil v0_t fun p2 =>
∃ x3 : Option Addr, At w2 (p2.add 0) (cells .ptr x3) ∧
C_collect_Table_Roots v0_t (fun x4 w3 =>
At w3 (p2.add 0) (cells .ptr x3) ∧
C_collect_Reach x3 x4 (fun x5 w4 =>
nilIfcK x5.2 fun b6 =>
gd (!b6) (
K (⟨none, 0, 0⟩) w4) (
K x5.1 w4)) w3) w2)) w0
theorem S_collect_Table_Live (v0_t : Option Addr) (K : Sl → World → Prop) (w0 : World) (h : F_collect_Table_Live v0_t K w0) : C_collect_Table_Live v0_t K w0 := by
  have e : denFn P [] Tryz.f76 #[.pointer v0_t] .slice K w0 = F_collect_Table_Live v0_t K w0 := by kernel_rfl
  exact fn_sound mixed (f := 76) Tryz.func76 (by kernel_rfl) (e.mpr h)

def F_rule_Move (v0_r : yapi_Rule.T) (v1_to : Sl) (K : (yapi_Rule.T × Value) → World → Prop) (w0 : World) : Prop :=
allocK (.cells (cells yapi_Rule v0_r).toArray t_api_Rule) w0 fun a1 w1 =>
allocK (.cells #[.int .i64 (0 : Int), .int .u8 (0 : Int), .int .i64 (0 : Int), .int .i64 (0 : Int), .int .i64 (0 : Int)] t_api_Rule) w1 fun a2 w2 =>
∃ x3 : yapi_Rule.T, At w2 a1 (cells yapi_Rule x3) ∧
C_rule_Refs x3 (fun x4 w3 =>
LoopP (X := Int × Unit) ((0 : Int), ()) w3 fun next6 x5 w4 => ∀ _ : Env,
gd (decide (x5.1 < (x4.len : Int))) (
idxK x4.a x4.len x5.1 1 fun p7 =>
∃ x8 : Int, At w4 p7 (cells (.int .i64) x8) ∧
JoinP (X := Bool × Unit) (fun R10 =>
gd (decide (x8 < (0 : Int))) (
R10 (true, ()) w4) (
R10 (decide ((v1_to.len : Int) ≤ x8), ()) w4)) (fun x9 w5 => ∀ _ : Env,
gd x9.1 (
stK w5 a2 ([.int .i64 (0 : Int), .int .u8 (0 : Int), .int .i64 (0 : Int), .int .i64 (0 : Int), .int .i64 (0 : Int)]) fun w6 =>
∃ x11 : yapi_Rule.T, At w6 a2 (cells yapi_Rule x11) ∧
K (x11, .iface t_api_Errno (.int .i64 (1 : Int))) w6) (
arith .i64 (x5.1 + (1 : Int)) fun n12 =>
next6 (n12, ()) w5))) (
JoinP (X := Unit) (fun R14 =>
∃ x15 : Int, At w4 (a1.add 0) (cells (.int .i64) x15) ∧
gd (x15 == (2 : Int)) (
drawK w4 fun w8 =>
∃ x16 : Int, At w8 (a1.add 2) (cells (.int .i64) x16) ∧
idxK v1_to.a v1_to.len x16 1 fun p17 =>
∃ x18 : Int, At w8 p17 (cells (.int .i64) x18) ∧
∃ x19 : Int, At w8 (a1.add 3) (cells (.int .i64) x19) ∧
idxK v1_to.a v1_to.len x19 1 fun p20 =>
∃ x21 : Int, At w8 p20 (cells (.int .i64) x21) ∧
stK w8 (a1.add 2) ([.int .i64 x18]) fun w9 =>
At w9 p20 (cells (.int .i64) x21) ∧
stK w9 (a1.add 3) ([.int .i64 x21]) fun w10 =>
R14 () w10) (
gd (x15 == (3 : Int)) (
∃ x22 : Int, At w4 (a1.add 2) (cells (.int .i64) x22) ∧
idxK v1_to.a v1_to.len x22 1 fun p23 =>
∃ x24 : Int, At w4 p23 (cells (.int .i64) x24) ∧
stK w4 (a1.add 2) ([.int .i64 x24]) fun w11 =>
R14 () w11) (
R14 () w4))) (fun x13 w7 => ∀ _ : Env,
∃ x25 : yapi_Rule.T, At w7 a1 (cells yapi_Rule x25) ∧
stK w7 a2 (cells yapi_Rule x25) fun w12 =>
∃ x26 : yapi_Rule.T, At w12 a2 (cells yapi_Rule x26) ∧
K (x26, .nilIface) w12))) w2
theorem S_rule_Move (v0_r : yapi_Rule.T) (v1_to : Sl) (K : (yapi_Rule.T × Value) → World → Prop) (w0 : World) (h : F_rule_Move v0_r v1_to K w0) : C_rule_Move v0_r v1_to K w0 := by
  have e : denFn P [(1002, [(11, .int .i64)]), (5, [(22, .bool)]), (12, [])] Tryz.f77 #[val yapi_Rule v0_r, .slice v1_to.a v1_to.len v1_to.cap] (.tup (.pair yapi_Rule .iface)) K w0 = F_rule_Move v0_r v1_to K w0 := by kernel_rfl
  exact fn_sound mixed (f := 77) Tryz.func77 (by kernel_rfl) (e.mpr h)

def F_intern_Store_Import (v0_s : Option Addr) (v1_list : Sl) (K : (Int × Value) → World → Prop) (w0 : World) : Prop :=
gd v0_s.isNone (
K ((0 : Int), .iface t_api_Errno (.int .i64 (5 : Int))) w0) (
LoopP (X := Int × Unit) ((0 : Int), ()) w0 fun next2 x1 w1 => ∀ _ : Env,
gd (decide (x1.1 < (v1_list.len : Int))) (
idxK v1_list.a v1_list.len x1.1 5 fun p3 =>
∃ x4 : yapi_Rule.T, At w1 p3 (cells yapi_Rule x4) ∧
allocK (.cells #[.int .i64 (0 : Int), .int .u8 (0 : Int), .int .i64 (0 : Int), .int .i64 (0 : Int), .int .i64 (0 : Int)] t_api_Rule) w1 fun a5 w2 =>
stK w2 a5 (cells yapi_Rule x4) fun w3 =>
∃ x6 : yapi_Rule.T, At w3 a5 (cells yapi_Rule x6) ∧
arith .i64 (x1.1 + (1 : Int)) fun n7 =>
C_rule_Check x6 n7 (fun x8 w4 =>
nilIfcK x8 fun b9 =>
gd (!b9) (
K ((0 : Int), x8) w4) (
arith .i64 (x1.1 + (1 : Int)) fun n10 =>
next2 (n10, ()) w4)) w3) (
arith .i64 ((v1_list.len : Int) + (1 : Int)) fun n11 =>
0 ≤ n11 ∧ n11 ≤ n11 ∧ n11 ≤ 9223372036854775807 ∧ 8 * n11 ≤ 281474976710656 ∧
allocK (.cells (zrow #[.int .i64 (0 : Int)] (n11.toNat * 1)) t_api_ID) w1 fun a12 w5 =>
LoopP (X := Int × Unit) ((0 : Int), ()) w5 fun next14 x13 w6 => ∀ _ : Env,
gd (decide (x13.1 < (v1_list.len : Int))) (
idxK v1_list.a v1_list.len x13.1 5 fun p15 =>
∃ x16 : yapi_Rule.T, At w6 p15 (cells yapi_Rule x16) ∧
allocK (.cells #[.int .i64 (0 : Int), .int .u8 (0 : Int), .int .i64 (0 : Int), .int .i64 (0 : Int), .int .i64 (0 : Int)] t_api_Rule) w6 fun a17 w7 =>
stK w7 a17 (cells yapi_Rule x16) fun w8 =>
∃ x18 : yapi_Rule.T, At w8 a17 (cells yapi_Rule x18) ∧
C_intern_Store_put v0_s x18 (⟨some a12, n11.toNat, n11.toNat⟩) (fun x19 w9 =>
nilIfcK x19.2 fun b20 =>
gd (!b20) (
K ((0 : Int), x19.2) w9) (
arith .i64 (x13.1 + (1 : Int)) fun n21 =>
idxK (some a12) n11.toNat n21 1 fun p22 =>
stK w9 p22 ([.int .i64 x19.1]) fun w10 =>
arith .i64 (x13.1 + (1 : Int)) fun n23 =>
next14 (n23, ()) w10)) w8) (
idxK (some a12) n11.toNat (v1_list.len : Int) 1 fun p24 =>
∃ x25 : Int, At w6 p24 (cells (.int .i64) x25) ∧
K (x25, .nilIface) w6)))
theorem S_intern_Store_Import (v0_s : Option Addr) (v1_list : Sl) (K : (Int × Value) → World → Prop) (w0 : World) (h : F_intern_Store_Import v0_s v1_list K w0) : C_intern_Store_Import v0_s v1_list K w0 := by
  have e : denFn P [(1004, [(19, .int .i64)]), (1012, [(38, .int .i64)])] Tryz.f78 #[.pointer v0_s, .slice v1_list.a v1_list.len v1_list.cap] (.tup (.pair (.int .i64) .iface)) K w0 = F_intern_Store_Import v0_s v1_list K w0 := by kernel_rfl
  exact fn_sound mixed (f := 78) Tryz.func78 (by kernel_rfl) (e.mpr h)

end Go.Proofs.YtnmgjpcooncjlaaGreat
