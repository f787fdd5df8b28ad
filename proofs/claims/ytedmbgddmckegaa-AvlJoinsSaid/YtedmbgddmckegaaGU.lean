/- Texts that belong together, joined: Text3, TextAll. No conditions. -/
import Derived.Test.YtedmbgddmckegaaGT
/- The typed texts of the functions, printed by a program; each proved to imply the call. -/
set_option linter.unusedVariables false
set_option maxRecDepth 100000
set_option maxHeartbeats 4000000
namespace Go.Proofs.Ytedmbgddmckegaa
open Go.Den

def F_intern_Store_reach (v0_s : Option Addr) (v1_id : Int) (K : Sl → World → Prop) (w0 : World) : Prop :=
gd (v1_id == (0 : Int)) (
K (⟨none, 0, 0⟩) w0) (
allocK (.cells #[.int .i64 v1_id] t_api_ID) w0 fun a1 w1 =>
allocK (.map #[] 0) w1 fun a2 w2 =>
runU P (Instr.mapUpdate t_map_api_ID_bool (.map (some a2.block)) (.int .i64 v1_id) (.bool true)) w2 fun w3 =>
LoopP (X := Sl × Int × Unit) (⟨some a1, 1, 1⟩, (0 : Int), ()) w3 fun next4 x3 w4 => ∀ _ : Env,
gd (decide (x3.2.1 < (x3.1.len : Int))) (
drawK w4 fun w5 =>
nonNil v0_s fun p5 =>
∃ x6 : Sl, At w5 (p5.add 1) (cells .slice x6) ∧
idxK x3.1.a x3.1.len x3.2.1 1 fun p7 =>
∃ x8 : Int, At w5 p7 (cells (.int .i64) x8) ∧
arith .i64 (x8 - (1 : Int)) fun n9 =>
idxK x6.a x6.len n9 13 fun p10 =>
∃ x11 : yapi_Rule.T, At w5 (p10.add 0) (cells yapi_Rule x11) ∧
C_rule_Refs x11 (fun x12 w6 =>
LoopP (X := Sl × Int × Unit) (x3.1, (0 : Int), ()) w6 fun next14 x13 w7 => ∀ _ : Env,
gd (decide (x13.2.1 < (x12.len : Int))) (
JoinP (X := Sl × Unit) (fun R16 =>
idxK x12.a x12.len x13.2.1 1 fun p17 =>
∃ x18 : Int, At w7 p17 (cells (.int .i64) x18) ∧
∃ x19 : Bool, Lk1 P t_map_api_ID_bool .bool (.map (some a2.block)) (.int .i64 x18) x19 w7 ∧
gd (!x19) (
runU P (Instr.mapUpdate t_map_api_ID_bool (.map (some a2.block)) (.int .i64 x18) (.bool true)) w7 fun w9 =>
allocK (.cells #[.int .i64 x18] t_api_ID) w9 fun a20 w10 =>
appK t_api_ID 1 8 #[.int .i64 (0 : Int)] x13.1.a x13.1.len x13.1.cap (.slice (some a20) 1 1) 1 w10 fun s21 w11 =>
R16 (s21, ()) w11) (
R16 (x13.1, ()) w7)) (fun x15 w8 => ∀ _ : Env,
arith .i64 (x13.2.1 + (1 : Int)) fun n22 =>
next14 (x15.1, n22, ()) w8)) (
arith .i64 (x3.2.1 + (1 : Int)) fun n23 =>
next4 (x13.1, n23, ()) w7)) w5) (
C_slices_Sort x3.1 (fun x24 w12 =>
K x3.1 w12) w4))
theorem S_intern_Store_reach (v0_s : Option Addr) (v1_id : Int) (K : Sl → World → Prop) (w0 : World) (h : F_intern_Store_reach v0_s v1_id K w0) : C_intern_Store_reach v0_s v1_id K w0 := by
  have e : denFn P [(1006, [(5, .slice), (7, .int .i64)]), (1009, [(5, .slice), (37, .int .i64)]), (14, [(5, .slice)])] Try.f67 #[.pointer v0_s, .int .i64 v1_id] .slice K w0 = F_intern_Store_reach v0_s v1_id K w0 := by kernel_rfl
  exact fn_sound mixed (f := 67) Try.func67 (by kernel_rfl) (e.mpr h)

def F_ref11_Lengths (v0_g : Sl) (K : (Sl × Int) → World → Prop) (w0 : World) : Prop :=
C_ref11_Check v0_g (fun x1 w1 =>
gd (x1 != (0 : Int)) (
K (⟨none, 0, 0⟩, x1) w1) (
LoopP (X := Sl × Int × Unit) (⟨none, 0, 0⟩, (0 : Int), ()) w1 fun next3 x2 w2 => ∀ _ : Env,
gd (decide (x2.2.1 < (v0_g.len : Int))) (
JoinP (X := Int × Int × Unit) (fun R5 =>
idxK v0_g.a v0_g.len x2.2.1 5 fun p6 =>
∃ x7 : Int, At w2 (p6.add 0) (cells (.int .i64) x7) ∧
gd (x7 == (2 : Int)) (
drawK w2 fun w4 =>
idxK v0_g.a v0_g.len x2.2.1 5 fun p8 =>
∃ x9 : Int, At w4 (p8.add 2) (cells (.int .i64) x9) ∧
arith .i64 (x9 - (1 : Int)) fun n10 =>
idxK x2.1.a x2.1.len n10 1 fun p11 =>
∃ x12 : Int, At w4 p11 (cells (.int .i64) x12) ∧
idxK v0_g.a v0_g.len x2.2.1 5 fun p13 =>
∃ x14 : Int, At w4 (p13.add 3) (cells (.int .i64) x14) ∧
arith .i64 (x14 - (1 : Int)) fun n15 =>
idxK x2.1.a x2.1.len n15 1 fun p16 =>
∃ x17 : Int, At w4 p16 (cells (.int .i64) x17) ∧
C_ref01_Add x12 x17 (fun x18 w5 =>
R5 (x18.1, x18.2, ()) w5) w4) (
gd (x7 == (3 : Int)) (
drawK w2 fun w6 =>
idxK v0_g.a v0_g.len x2.2.1 5 fun p19 =>
∃ x20 : Int, At w6 (p19.add 2) (cells (.int .i64) x20) ∧
arith .i64 (x20 - (1 : Int)) fun n21 =>
idxK x2.1.a x2.1.len n21 1 fun p22 =>
∃ x23 : Int, At w6 p22 (cells (.int .i64) x23) ∧
idxK v0_g.a v0_g.len x2.2.1 5 fun p24 =>
∃ x25 : Int, At w6 (p24.add 4) (cells (.int .i64) x25) ∧
C_ref01_Mul x23 x25 (fun x26 w7 =>
R5 (x26.1, x26.2, ()) w7) w6) (
R5 ((1 : Int), (0 : Int), ()) w2))) (fun x4 w3 => ∀ _ : Env,
gd (x4.2.1 != (0 : Int)) (
K (⟨none, 0, 0⟩, x4.2.1) w3) (
allocK (.cells #[.int .i64 x4.1] t_int) w3 fun a27 w8 =>
appK t_int 1 8 #[.int .i64 (0 : Int)] x2.1.a x2.1.len x2.1.cap (.slice (some a27) 1 1) 1 w8 fun s28 w9 =>
arith .i64 (x2.2.1 + (1 : Int)) fun n29 =>
next3 (s28, n29, ()) w9))) (
K (x2.1, (0 : Int)) w2))) w0
theorem S_ref11_Lengths (v0_g : Sl) (K : (Sl × Int) → World → Prop) (w0 : World) (h : F_ref11_Lengths v0_g K w0) : C_ref11_Lengths v0_g K w0 := by
  have e : denFn P [(1006, [(5, .slice), (6, .int .i64)]), (14, [(7, .int .i64), (8, .int .i64)])] Try.f68 #[.slice v0_g.a v0_g.len v0_g.cap] (.tup (.pair .slice (.int .i64))) K w0 = F_ref11_Lengths v0_g K w0 := by kernel_rfl
  exact fn_sound mixed (f := 68) Try.func68 (by kernel_rfl) (e.mpr h)

def F_ref11_plain (v0_g : Sl) (v1_n : Int) (K : Sl → World → Prop) (w0 : World) : Prop :=
gd (v1_n == (0 : Int)) (
K (⟨none, 0, 0⟩) w0) (
arith .i64 (v1_n - (1 : Int)) fun n1 =>
idxK v0_g.a v0_g.len n1 5 fun p2 =>
∃ x3 : yapi_Rule.T, At w0 p2 (cells yapi_Rule x3) ∧
allocK (.cells #[.int .i64 (0 : Int), .int .u8 (0 : Int), .int .i64 (0 : Int), .int .i64 (0 : Int), .int .i64 (0 : Int)] t_api_Rule) w0 fun a4 w1 =>
stK w1 a4 (cells yapi_Rule x3) fun w2 =>
∃ x5 : Int, At w2 (a4.add 0) (cells (.int .i64) x5) ∧
gd (x5 == (1 : Int)) (
∃ x6 : Int, At w2 (a4.add 1) (cells (.int .u8) x6) ∧
allocK (.cells #[.int .u8 x6] t_uint8) w2 fun a7 w3 =>
K (⟨some a7, 1, 1⟩) w3) (
gd (x5 == (2 : Int)) (
drawK w2 fun w4 =>
∃ x8 : Int, At w4 (a4.add 2) (cells (.int .i64) x8) ∧
∃ x9 : Int, At w4 (a4.add 3) (cells (.int .i64) x9) ∧
C_ref11_plain v0_g x8 (fun x10 w5 =>
At w5 (a4.add 3) (cells (.int .i64) x9) ∧
C_ref11_plain v0_g x9 (fun x11 w6 =>
appK t_uint8 1 1 #[.int .u8 (0 : Int)] x10.a x10.len x10.cap (.slice x11.a x11.len x11.cap) x11.len w6 fun s12 w7 =>
K s12 w7) w5) w4) (
∃ x13 : Int, At w2 (a4.add 2) (cells (.int .i64) x13) ∧
C_ref11_plain v0_g x13 (fun x14 w8 =>
LoopP (X := Sl × Int × Unit) (⟨none, 0, 0⟩, (0 : Int), ()) w8 fun next16 x15 w9 => ∀ _ : Env,
∃ x17 : Int, At w9 (a4.add 4) (cells (.int .i64) x17) ∧
gd (decide (x15.2.1 < x17)) (
appK t_uint8 1 1 #[.int .u8 (0 : Int)] x15.1.a x15.1.len x15.1.cap (.slice x14.a x14.len x14.cap) x14.len w9 fun s18 w10 =>
arith .i64 (x15.2.1 + (1 : Int)) fun n19 =>
next16 (s18, n19, ()) w10) (
K x15.1 w9)) w2)))
theorem S_ref11_plain (v0_g : Sl) (v1_n : Int) (K : Sl → World → Prop) (w0 : World) (h : F_ref11_plain v0_g v1_n K w0) : C_ref11_plain v0_g v1_n K w0 := by
  have e : denFn P [(1012, [(7, .slice), (8, .int .i64)])] Try.f69 #[.slice v0_g.a v0_g.len v0_g.cap, .int .i64 v1_n] .slice K w0 = F_ref11_plain v0_g v1_n K w0 := by kernel_rfl
  exact fn_sound mixed (f := 69) Try.func69 (by kernel_rfl) (e.mpr h)

def F_collect_Reach_1 (v0_id : Int) (v1 : Addr) (v2 : Addr) (K : Unit → World → Prop) (w0 : World) : Prop :=
∃ x1 : Option Nat, At w0 v1 (cells .map x1) ∧
∃ x2 : Bool, Lk1 P t_map_api_ID_bool .bool (.map x1) (.int .i64 v0_id) x2 w0 ∧
gd (!x2) (
∃ x3 : Option Nat, At w0 v1 (cells .map x3) ∧
runU P (Instr.mapUpdate t_map_api_ID_bool (.map x3) (.int .i64 v0_id) (.bool true)) w0 fun w1 =>
∃ x4 : Sl, At w1 v2 (cells .slice x4) ∧
allocK (.cells #[.int .i64 v0_id] t_api_ID) w1 fun a5 w2 =>
appK t_api_ID 1 8 #[.int .i64 (0 : Int)] x4.a x4.len x4.cap (.slice (some a5) 1 1) 1 w2 fun s6 w3 =>
stK w3 v2 ([.slice s6.a s6.len s6.cap]) fun w4 =>
K () w4) (
K () w0)
theorem S_collect_Reach_1 (v0_id : Int) (v1 : Addr) (v2 : Addr) (K : Unit → World → Prop) (w0 : World) (h : F_collect_Reach_1 v0_id v1 v2 K w0) : C_collect_Reach_1 v0_id v1 v2 K w0 := by
  have e : denFn P [] Try.f70 #[.int .i64 v0_id, .pointer (some v1), .pointer (some v2)] (.tup .unit) K w0 = F_collect_Reach_1 v0_id v1 v2 K w0 := by kernel_rfl
  exact fn_sound mixed (f := 70) Try.func70 (by kernel_rfl) (e.mpr h)

def F_collect_known (v0_s : Option Addr) (v1_id : Int) (K : Bool → World → Prop) (w0 : World) : Prop :=
gd (decide ((0 : Int) ≤ v1_id)) (
C_intern_Store_Len v0_s (fun x1 w1 =>
K (decide (v1_id ≤ x1)) w1) w0) (
K false w0)
theorem S_collect_known (v0_s : Option Addr) (v1_id : Int) (K : Bool → World → Prop) (w0 : World) (h : F_collect_known v0_s v1_id K w0) : C_collect_known v0_s v1_id K w0 := by
  have e : denFn P [] Try.f71 #[.pointer v0_s, .int .i64 v1_id] .bool K w0 = F_collect_known v0_s v1_id K w0 := by kernel_rfl
  exact fn_sound mixed (f := 71) Try.func71 (by kernel_rfl) (e.mpr h)

def F_rule_Refs (v0_r : yapi_Rule.T) (K : Sl → World → Prop) (w0 : World) : Prop :=
allocK (.cells (cells yapi_Rule v0_r).toArray t_api_Rule) w0 fun a1 w1 =>
∃ x2 : Int, At w1 (a1.add 0) (cells (.int .i64) x2) ∧
gd (x2 == (2 : Int)) (
∃ x3 : Int, At w1 (a1.add 2) (cells (.int .i64) x3) ∧
∃ x4 : Int, At w1 (a1.add 3) (cells (.int .i64) x4) ∧
allocK (.cells #[.int .i64 x3, .int .i64 x4] t_api_ID) w1 fun a5 w2 =>
K (⟨some a5, 2, 2⟩) w2) (
gd (x2 == (3 : Int)) (
∃ x6 : Int, At w1 (a1.add 2) (cells (.int .i64) x6) ∧
allocK (.cells #[.int .i64 x6] t_api_ID) w1 fun a7 w3 =>
K (⟨some a7, 1, 1⟩) w3) (
K (⟨none, 0, 0⟩) w1))
theorem S_rule_Refs (v0_r : yapi_Rule.T) (K : Sl → World → Prop) (w0 : World) (h : F_rule_Refs v0_r K w0) : C_rule_Refs v0_r K w0 := by
  have e : denFn P [] Try.f72 #[val yapi_Rule v0_r] .slice K w0 = F_rule_Refs v0_r K w0 := by kernel_rfl
  exact fn_sound mixed (f := 72) Try.func72 (by kernel_rfl) (e.mpr h)

def F_digest_Unit  (K : yapi_Digest.T → World → Prop) (w0 : World) : Prop :=
allocK (.cells #[.int .u64 (0 : Int), .int .u64 (0 : Int)] t_api_Digest) w0 fun a1 w1 =>
stK w1 a1 ([.int .u64 (0 : Int), .int .u64 (1 : Int)]) fun w2 =>
∃ x2 : yapi_Digest.T, At w2 a1 (cells yapi_Digest x2) ∧
K x2 w2
theorem S_digest_Unit  (K : yapi_Digest.T → World → Prop) (w0 : World) (h : F_digest_Unit  K w0) : C_digest_Unit  K w0 := by
  have e : denFn P [] Try.f74 #[] yapi_Digest K w0 = F_digest_Unit  K w0 := by kernel_rfl
  exact fn_sound mixed (f := 74) Try.func74 (by kernel_rfl) (e.mpr h)

def F_avl_two (v0_s : Option Addr) (v1_a : Int) (v2_b : Int) (v3_c : Int) (K : (Int × Value) → World → Prop) (w0 : World) : Prop :=
C_intern_Store_Pair v0_s v2_b v3_c (fun x1 w1 =>
nilIfcK x1.2 fun b2 =>
gd (!b2) (
K ((0 : Int), x1.2) w1) (
C_intern_Store_Pair v0_s v1_a x1.1 (fun x3 w2 =>
K (x3.1, x3.2) w2) w1)) w0
theorem S_avl_two (v0_s : Option Addr) (v1_a : Int) (v2_b : Int) (v3_c : Int) (K : (Int × Value) → World → Prop) (w0 : World) (h : F_avl_two v0_s v1_a v2_b v3_c K w0) : C_avl_two v0_s v1_a v2_b v3_c K w0 := by
  have e : denFn P [] Try.f75 #[.pointer v0_s, .int .i64 v1_a, .int .i64 v2_b, .int .i64 v3_c] (.tup (.pair (.int .i64) .iface)) K w0 = F_avl_two v0_s v1_a v2_b v3_c K w0 := by kernel_rfl
  exact fn_sound mixed (f := 75) Try.func75 (by kernel_rfl) (e.mpr h)

def F_avl_four (v0_s : Option Addr) (v1_a : Int) (v2_b : Int) (v3_c : Int) (v4_d : Int) (K : (Int × Value) → World → Prop) (w0 : World) : Prop :=
C_intern_Store_Pair v0_s v1_a v2_b (fun x1 w1 =>
nilIfcK x1.2 fun b2 =>
gd (!b2) (
K ((0 : Int), x1.2) w1) (
C_avl_two v0_s x1.1 v3_c v4_d (fun x3 w2 =>
K (x3.1, x3.2) w2) w1)) w0
theorem S_avl_four (v0_s : Option Addr) (v1_a : Int) (v2_b : Int) (v3_c : Int) (v4_d : Int) (K : (Int × Value) → World → Prop) (w0 : World) (h : F_avl_four v0_s v1_a v2_b v3_c v4_d K w0) : C_avl_four v0_s v1_a v2_b v3_c v4_d K w0 := by
  have e : denFn P [] Try.f76 #[.pointer v0_s, .int .i64 v1_a, .int .i64 v2_b, .int .i64 v3_c, .int .i64 v4_d] (.tup (.pair (.int .i64) .iface)) K w0 = F_avl_four v0_s v1_a v2_b v3_c v4_d K w0 := by kernel_rfl
  exact fn_sound mixed (f := 76) Try.func76 (by kernel_rfl) (e.mpr h)

def F_weight_Valid (v0_w : yapi_Weight.T) (K : Bool → World → Prop) (w0 : World) : Prop :=
allocK (.cells (cells yapi_Weight v0_w).toArray t_api_Weight) w0 fun a1 w1 =>
JoinP (X := Bool × Unit) (fun R3 =>
∃ x4 : Int, At w1 (a1.add 0) (cells (.int .i64) x4) ∧
C_length_Valid x4 (fun x5 w3 =>
gd (!x5) (
R3 (true, ()) w3) (
∃ x6 : Int, At w3 (a1.add 1) (cells (.int .i64) x6) ∧
R3 (decide (x6 < (0 : Int)), ()) w3)) w1) (fun x2 w2 => ∀ _ : Env,
gd x2.1 (
K false w2) (
JoinP (X := Unit) (fun R8 =>
∃ x9 : Int, At w2 (a1.add 1) (cells (.int .i64) x9) ∧
gd (x9 == (0 : Int)) (
JoinP (X := Bool × Unit) (fun R11 =>
∃ x12 : Int, At w2 (a1.add 2) (cells (.int .i64) x12) ∧
∃ x13 : Int, At w2 (a1.add 0) (cells (.int .i64) x13) ∧
gd (x12 != x13) (
R11 (true, ()) w2) (
∃ x14 : Int, At w2 (a1.add 3) (cells (.int .i64) x14) ∧
∃ x15 : Int, At w2 (a1.add 0) (cells (.int .i64) x15) ∧
R11 (x14 != x15, ()) w2)) (fun x10 w5 => ∀ _ : Env,
gd x10.1 (
K false w5) (
R8 () w5))) (
JoinP (X := Bool × Unit) (fun R17 =>
∃ x18 : Int, At w2 (a1.add 2) (cells (.int .i64) x18) ∧
gd (decide (x18 < (0 : Int))) (
R17 (true, ()) w2) (
∃ x19 : Int, At w2 (a1.add 2) (cells (.int .i64) x19) ∧
∃ x20 : Int, At w2 (a1.add 0) (cells (.int .i64) x20) ∧
gd (decide (x20 < x19)) (
R17 (true, ()) w2) (
∃ x21 : Int, At w2 (a1.add 3) (cells (.int .i64) x21) ∧
gd (decide (x21 < (0 : Int))) (
R17 (true, ()) w2) (
∃ x22 : Int, At w2 (a1.add 3) (cells (.int .i64) x22) ∧
∃ x23 : Int, At w2 (a1.add 0) (cells (.int .i64) x23) ∧
∃ x24 : Int, At w2 (a1.add 2) (cells (.int .i64) x24) ∧
arith .i64 (x23 - x24) fun n25 =>
R17 (decide (n25 < x22), ()) w2)))) (fun x16 w6 => ∀ _ : Env,
gd x16.1 (
K false w6) (
∃ x26 : Int, At w6 (a1.add 0) (cells (.int .i64) x26) ∧
∃ x27 : Int, At w6 (a1.add 2) (cells (.int .i64) x27) ∧
arith .i64 (x26 - x27) fun n28 =>
∃ x29 : Int, At w6 (a1.add 3) (cells (.int .i64) x29) ∧
arith .i64 (n28 - x29) fun n30 =>
JoinP (X := Bool × Unit) (fun R32 =>
∃ x33 : Int, At w6 (a1.add 1) (cells (.int .i64) x33) ∧
gd (decide (n30 < x33)) (
R32 (true, ()) w6) (
∃ x34 : Int, At w6 (a1.add 1) (cells (.int .i64) x34) ∧
gd (x34 == (1 : Int)) (
R32 (n30 != (1 : Int), ()) w6) (
R32 (false, ()) w6))) (fun x31 w7 => ∀ _ : Env,
gd x31.1 (
K false w7) (
R8 () w7)))))) (fun x7 w4 => ∀ _ : Env,
JoinP (X := Bool × Unit) (fun R36 =>
∃ x37 : Int, At w4 ((a1.add 4).add 0) (cells (.int .u64) x37) ∧
gd (decide ((2305843009213693951 : Int) ≤ x37)) (
R36 (true, ()) w4) (
∃ x38 : Int, At w4 (a1.add 0) (cells (.int .i64) x38) ∧
gd (x38 == (0 : Int)) (
∃ x39 : Int, At w4 ((a1.add 4).add 0) (cells (.int .u64) x39) ∧
R36 (x39 != (0 : Int), ()) w4) (
R36 (false, ()) w4))) (fun x35 w8 => ∀ _ : Env,
gd x35.1 (
K false w8) (
drawK w8 fun w9 =>
∃ x40 : Int, At w9 ((a1.add 4).add 1) (cells (.int .u64) x40) ∧
∃ x41 : Int, At w9 (a1.add 0) (cells (.int .i64) x41) ∧
arith .u64 (x41) fun n42 =>
C_modular_Pow (1103515245 : Int) n42 (fun x43 w10 =>
At w10 ((a1.add 4).add 1) (cells (.int .u64) x40) ∧
K (x40 == x43) w10) w9)))))
theorem S_weight_Valid (v0_w : yapi_Weight.T) (K : Bool → World → Prop) (w0 : World) (h : F_weight_Valid v0_w K w0) : C_weight_Valid v0_w K w0 := by
  have e : denFn P [(2, [(12, .bool)]), (11, []), (5, [(27, .bool)]), (7, [(52, .bool)]), (10, [(73, .bool)]), (12, [(88, .bool)])] Try.f77 #[val yapi_Weight v0_w] .bool K w0 = F_weight_Valid v0_w K w0 := by kernel_rfl
  exact fn_sound mixed (f := 77) Try.func77 (by kernel_rfl) (e.mpr h)

def F_digest_Repeat (v0_d : yapi_Digest.T) (v1_k : Int) (K : yapi_Digest.T → World → Prop) (w0 : World) : Prop :=
allocK (.cells (cells yapi_Digest v0_d).toArray t_api_Digest) w0 fun a1 w1 =>
allocK (.cells #[.int .u64 (0 : Int), .int .u64 (0 : Int)] t_api_Digest) w1 fun a2 w2 =>
C_digest_Unit  (fun x3 w3 =>
allocK (.cells #[.int .u64 (0 : Int), .int .u64 (0 : Int)] t_api_Digest) w3 fun a4 w4 =>
stK w4 a4 (cells yapi_Digest x3) fun w5 =>
LoopP (X := Int × Unit) (v1_k, ()) w5 fun next6 x5 w6 => ∀ _ : Env,
gd (decide ((0 : Int) < x5.1)) (
JoinP (X := Unit) (fun R8 =>
(2 : Int) ≠ 0 ∧
letZ (Int.tmod x5.1 (2 : Int)) fun n9 =>
gd (n9 == (1 : Int)) (
∃ x10 : yapi_Digest.T, At w6 a4 (cells yapi_Digest x10) ∧
∃ x11 : yapi_Digest.T, At w6 a1 (cells yapi_Digest x11) ∧
C_digest_Join x10 x11 (fun x12 w8 =>
stK w8 a4 (cells yapi_Digest x12) fun w9 =>
R8 () w9) w6) (
R8 () w6)) (fun x7 w7 => ∀ _ : Env,
∃ x13 : yapi_Digest.T, At w7 a1 (cells yapi_Digest x13) ∧
∃ x14 : yapi_Digest.T, At w7 a1 (cells yapi_Digest x14) ∧
C_digest_Join x13 x14 (fun x15 w10 =>
stK w10 a1 (cells yapi_Digest x15) fun w11 =>
(2 : Int) ≠ 0 ∧
arith .i64 (Int.tdiv x5.1 (2 : Int)) fun n16 =>
next6 (n16, ()) w11) w7)) (
∃ x17 : yapi_Digest.T, At w6 a4 (cells yapi_Digest x17) ∧
stK w6 a2 (cells yapi_Digest x17) fun w12 =>
∃ x18 : yapi_Digest.T, At w12 a2 (cells yapi_Digest x18) ∧
K x18 w12)) w2
theorem S_digest_Repeat (v0_d : yapi_Digest.T) (v1_k : Int) (K : yapi_Digest.T → World → Prop) (w0 : World) (h : F_digest_Repeat v0_d v1_k K w0) : C_digest_Repeat v0_d v1_k K w0 := by
  have e : denFn P [(1002, [(1, .int .i64)]), (6, [])] Try.f78 #[val yapi_Digest v0_d, .int .i64 v1_k] yapi_Digest K w0 = F_digest_Repeat v0_d v1_k K w0 := by kernel_rfl
  exact fn_sound mixed (f := 78) Try.func78 (by kernel_rfl) (e.mpr h)

def F_digest_Join (v0_a : yapi_Digest.T) (v1_b : yapi_Digest.T) (K : yapi_Digest.T → World → Prop) (w0 : World) : Prop :=
allocK (.cells (cells yapi_Digest v0_a).toArray t_api_Digest) w0 fun a1 w1 =>
allocK (.cells (cells yapi_Digest v1_b).toArray t_api_Digest) w1 fun a2 w2 =>
allocK (.cells #[.int .u64 (0 : Int), .int .u64 (0 : Int)] t_api_Digest) w2 fun a3 w3 =>
drawK w3 fun w4 =>
∃ x4 : Int, At w4 (a1.add 0) (cells (.int .u64) x4) ∧
∃ x5 : Int, At w4 (a2.add 1) (cells (.int .u64) x5) ∧
∃ x6 : Int, At w4 (a2.add 0) (cells (.int .u64) x6) ∧
∃ x7 : Int, At w4 (a1.add 1) (cells (.int .u64) x7) ∧
∃ x8 : Int, At w4 (a2.add 1) (cells (.int .u64) x8) ∧
C_modular_Mul x4 x5 (fun x9 w5 =>
At w5 (a2.add 1) (cells (.int .u64) x8) ∧
At w5 (a1.add 1) (cells (.int .u64) x7) ∧
At w5 (a2.add 0) (cells (.int .u64) x6) ∧
C_modular_Add x9 x6 (fun x10 w6 =>
At w6 (a2.add 1) (cells (.int .u64) x8) ∧
At w6 (a1.add 1) (cells (.int .u64) x7) ∧
C_modular_Mul x7 x8 (fun x11 w7 =>
stK w7 a3 ([.int .u64 x10, .int .u64 x11]) fun w8 =>
∃ x12 : yapi_Digest.T, At w8 a3 (cells yapi_Digest x12) ∧
K x12 w8) w6) w5) w4
theorem S_digest_Join (v0_a : yapi_Digest.T) (v1_b : yapi_Digest.T) (K : yapi_Digest.T → World → Prop) (w0 : World) (h : F_digest_Join v0_a v1_b K w0) : C_digest_Join v0_a v1_b K w0 := by
  have e : denFn P [] Try.f79 #[val yapi_Digest v0_a, val yapi_Digest v1_b] yapi_Digest K w0 = F_digest_Join v0_a v1_b K w0 := by kernel_rfl
  exact fn_sound mixed (f := 79) Try.func79 (by kernel_rfl) (e.mpr h)

def F_ref11_Check (v0_g : Sl) (K : Int → World → Prop) (w0 : World) : Prop :=
LoopP (X := Int × Unit) ((0 : Int), ()) w0 fun next2 x1 w1 => ∀ _ : Env,
gd (decide (x1.1 < (v0_g.len : Int))) (
idxK v0_g.a v0_g.len x1.1 5 fun p3 =>
∃ x4 : yapi_Rule.T, At w1 p3 (cells yapi_Rule x4) ∧
arith .i64 (x1.1 + (1 : Int)) fun n5 =>
C_ref11_Rule x4 n5 (fun x6 w2 =>
gd (x6 != (0 : Int)) (
K x6 w2) (
arith .i64 (x1.1 + (1 : Int)) fun n7 =>
next2 (n7, ()) w2)) w1) (
K (0 : Int) w1)
theorem S_ref11_Check (v0_g : Sl) (K : Int → World → Prop) (w0 : World) (h : F_ref11_Check v0_g K w0) : C_ref11_Check v0_g K w0 := by
  have e : denFn P [(1002, [(3, .int .i64)])] Try.f80 #[.slice v0_g.a v0_g.len v0_g.cap] (.int .i64) K w0 = F_ref11_Check v0_g K w0 := by kernel_rfl
  exact fn_sound mixed (f := 80) Try.func80 (by kernel_rfl) (e.mpr h)

def F_ref01_Add (v0_a : Int) (v1_b : Int) (K : (Int × Int) → World → Prop) (w0 : World) : Prop :=
JoinP (X := Bool × Unit) (fun R2 =>
C_ref01_Valid v0_a (fun x3 w2 =>
gd (!x3) (
R2 (true, ()) w2) (
C_ref01_Valid v1_b (fun x4 w3 =>
R2 (!x4, ()) w3) w2)) w0) (fun x1 w1 => ∀ _ : Env,
gd x1.1 (
K ((0 : Int), (1 : Int)) w1) (
arith .i64 (v0_a + v1_b) fun n5 =>
gd (decide ((1152921504606846976 : Int) < n5)) (
K ((0 : Int), (2 : Int)) w1) (
arith .i64 (v0_a + v1_b) fun n6 =>
K (n6, (0 : Int)) w1)))
theorem S_ref01_Add (v0_a : Int) (v1_b : Int) (K : (Int × Int) → World → Prop) (w0 : World) (h : F_ref01_Add v0_a v1_b K w0) : C_ref01_Add v0_a v1_b K w0 := by
  have e : denFn P [(2, [(13, .bool)])] Try.f81 #[.int .i64 v0_a, .int .i64 v1_b] (.tup (.pair (.int .i64) (.int .i64))) K w0 = F_ref01_Add v0_a v1_b K w0 := by kernel_rfl
  exact fn_sound mixed (f := 81) Try.func81 (by kernel_rfl) (e.mpr h)

def F_ref01_Mul (v0_a : Int) (v1_k : Int) (K : (Int × Int) → World → Prop) (w0 : World) : Prop :=
JoinP (X := Bool × Unit) (fun R2 =>
C_ref01_Valid v0_a (fun x3 w2 =>
gd (!x3) (
R2 (true, ()) w2) (
R2 (decide (v1_k < (0 : Int)), ()) w2)) w0) (fun x1 w1 => ∀ _ : Env,
gd x1.1 (
K ((0 : Int), (1 : Int)) w1) (
JoinP (X := Bool × Unit) (fun R5 =>
gd (decide ((0 : Int) < v0_a)) (
v0_a ≠ 0 ∧
arith .i64 (Int.tdiv (1152921504606846976 : Int) v0_a) fun n6 =>
R5 (decide (n6 < v1_k), ()) w1) (
R5 (false, ()) w1)) (fun x4 w3 => ∀ _ : Env,
gd x4.1 (
K ((0 : Int), (2 : Int)) w3) (
arith .i64 (v0_a * v1_k) fun n7 =>
K (n7, (0 : Int)) w3))))
theorem S_ref01_Mul (v0_a : Int) (v1_k : Int) (K : (Int × Int) → World → Prop) (w0 : World) (h : F_ref01_Mul v0_a v1_k K w0) : C_ref01_Mul v0_a v1_k K w0 := by
  have e : denFn P [(2, [(12, .bool)]), (4, [(20, .bool)])] Try.f82 #[.int .i64 v0_a, .int .i64 v1_k] (.tup (.pair (.int .i64) (.int .i64))) K w0 = F_ref01_Mul v0_a v1_k K w0 := by kernel_rfl
  exact fn_sound mixed (f := 82) Try.func82 (by kernel_rfl) (e.mpr h)

def F_bits_Len (v0_x : Int) (K : Int → World → Prop) (w0 : World) : Prop :=
C_bits_Len64 v0_x (fun x1 w1 =>
K x1 w1) w0
theorem S_bits_Len (v0_x : Int) (K : Int → World → Prop) (w0 : World) (h : F_bits_Len v0_x K w0) : C_bits_Len v0_x K w0 := by
  have e : denFn P [] Try.f84 #[.int .u64 v0_x] (.int .i64) K w0 = F_bits_Len v0_x K w0 := by kernel_rfl
  exact fn_sound mixed (f := 84) Try.func84 (by kernel_rfl) (e.mpr h)

def F_modular_Pow (v0_a : Int) (v1_n : Int) (K : Int → World → Prop) (w0 : World) : Prop :=
C_modular_Reduce v0_a (fun x1 w1 =>
LoopP (X := Int × Int × Int × Unit) (x1, v1_n, (1 : Int), ()) w1 fun next3 x2 w2 => ∀ _ : Env,
gd (decide ((0 : Int) < x2.2.1)) (
JoinP (X := Int × Unit) (fun R5 =>
(2 : Int) ≠ 0 ∧
letZ (Int.tmod x2.2.1 (2 : Int)) fun n6 =>
gd (n6 == (1 : Int)) (
C_modular_Mul x2.2.2.1 x2.1 (fun x7 w4 =>
R5 (x7, ()) w4) w2) (
R5 (x2.2.2.1, ()) w2)) (fun x4 w3 => ∀ _ : Env,
C_modular_Mul x2.1 x2.1 (fun x8 w5 =>
(2 : Int) ≠ 0 ∧
arith .u64 (Int.tdiv x2.2.1 (2 : Int)) fun n9 =>
next3 (x8, n9, x4.1, ()) w5) w3)) (
K x2.2.2.1 w2)) w0
theorem S_modular_Pow (v0_a : Int) (v1_n : Int) (K : Int → World → Prop) (w0 : World) (h : F_modular_Pow v0_a v1_n K w0) : C_modular_Pow v0_a v1_n K w0 := by
  have e : denFn P [(1003, [(0, .int .u64), (1, .int .u64), (5, .int .u64)]), (7, [(5, .int .u64)])] Try.f85 #[.int .u64 v0_a, .int .u64 v1_n] (.int .u64) K w0 = F_modular_Pow v0_a v1_n K w0 := by kernel_rfl
  exact fn_sound mixed (f := 85) Try.func85 (by kernel_rfl) (e.mpr h)

def F_modular_Add (v0_a : Int) (v1_b : Int) (K : Int → World → Prop) (w0 : World) : Prop :=
C_modular_Reduce v0_a (fun x1 w1 =>
C_modular_Reduce v1_b (fun x2 w2 =>
arith .u64 (x1 + x2) fun n3 =>
C_modular_Reduce n3 (fun x4 w3 =>
K x4 w3) w2) w1) w0
theorem S_modular_Add (v0_a : Int) (v1_b : Int) (K : Int → World → Prop) (w0 : World) (h : F_modular_Add v0_a v1_b K w0) : C_modular_Add v0_a v1_b K w0 := by
  have e : denFn P [] Try.f86 #[.int .u64 v0_a, .int .u64 v1_b] (.int .u64) K w0 = F_modular_Add v0_a v1_b K w0 := by kernel_rfl
  exact fn_sound mixed (f := 86) Try.func86 (by kernel_rfl) (e.mpr h)

def F_modular_Mul (v0_a : Int) (v1_b : Int) (K : Int → World → Prop) (w0 : World) : Prop :=
C_modular_Reduce v0_a (fun x1 w1 =>
C_modular_Reduce v1_b (fun x2 w2 =>
C_bits_Mul64 x1 x2 (fun x3 w3 =>
0 ≤ (3 : Int) ∧
arith .u64 (x3.1 * 2 ^ min (Int.toNat (3 : Int)) (IntKind.bits .u64)) fun n4 =>
0 ≤ (61 : Int) ∧
letZ (Int.fdiv x3.2 (2 ^ min (Int.toNat (61 : Int)) (IntKind.bits .u64))) fun n5 =>
arith .u64 (n4 + n5) fun n6 =>
arith .u64 ((BitVec.ofInt (IntKind.bits .u64) x3.2 &&& BitVec.ofInt (IntKind.bits .u64) (2305843009213693951 : Int)).toNat) fun n7 =>
arith .u64 (n6 + n7) fun n8 =>
C_modular_Reduce n8 (fun x9 w4 =>
K x9 w4) w3) w2) w1) w0
theorem S_modular_Mul (v0_a : Int) (v1_b : Int) (K : Int → World → Prop) (w0 : World) (h : F_modular_Mul v0_a v1_b K w0) : C_modular_Mul v0_a v1_b K w0 := by
  have e : denFn P [] Try.f87 #[.int .u64 v0_a, .int .u64 v1_b] (.int .u64) K w0 = F_modular_Mul v0_a v1_b K w0 := by kernel_rfl
  exact fn_sound mixed (f := 87) Try.func87 (by kernel_rfl) (e.mpr h)

def F_ref11_Rule (v0_r : yapi_Rule.T) (v1_n : Int) (K : Int → World → Prop) (w0 : World) : Prop :=
allocK (.cells (cells yapi_Rule v0_r).toArray t_api_Rule) w0 fun a1 w1 =>
∃ x2 : Int, At w1 (a1.add 0) (cells (.int .i64) x2) ∧
gd (x2 == (1 : Int)) (
JoinP (X := Bool × Unit) (fun R4 =>
∃ x5 : Int, At w1 (a1.add 2) (cells (.int .i64) x5) ∧
gd (x5 != (0 : Int)) (
R4 (true, ()) w1) (
∃ x6 : Int, At w1 (a1.add 3) (cells (.int .i64) x6) ∧
gd (x6 != (0 : Int)) (
R4 (true, ()) w1) (
∃ x7 : Int, At w1 (a1.add 4) (cells (.int .i64) x7) ∧
R4 (x7 != (0 : Int), ()) w1))) (fun x3 w2 => ∀ _ : Env,
gd x3.1 (
K (4 : Int) w2) (
gd (decide (v1_n < (1 : Int))) (
K (1 : Int) w2) (
K (0 : Int) w2)))) (
gd (x2 == (2 : Int)) (
JoinP (X := Bool × Unit) (fun R9 =>
∃ x10 : Int, At w1 (a1.add 1) (cells (.int .u8) x10) ∧
gd (x10 != (0 : Int)) (
R9 (true, ()) w1) (
∃ x11 : Int, At w1 (a1.add 4) (cells (.int .i64) x11) ∧
R9 (x11 != (0 : Int), ()) w1)) (fun x8 w3 => ∀ _ : Env,
gd x8.1 (
K (4 : Int) w3) (
JoinP (X := Bool × Unit) (fun R13 =>
gd (decide (v1_n < (1 : Int))) (
R13 (true, ()) w3) (
∃ x14 : Int, At w3 (a1.add 2) (cells (.int .i64) x14) ∧
C_ref11_earlier x14 v1_n (fun x15 w5 =>
gd (!x15) (
R13 (true, ()) w5) (
∃ x16 : Int, At w5 (a1.add 3) (cells (.int .i64) x16) ∧
C_ref11_earlier x16 v1_n (fun x17 w6 =>
R13 (!x17, ()) w6) w5)) w3)) (fun x12 w4 => ∀ _ : Env,
gd x12.1 (
K (1 : Int) w4) (
K (0 : Int) w4))))) (
gd (x2 == (3 : Int)) (
JoinP (X := Bool × Unit) (fun R19 =>
∃ x20 : Int, At w1 (a1.add 1) (cells (.int .u8) x20) ∧
gd (x20 != (0 : Int)) (
R19 (true, ()) w1) (
∃ x21 : Int, At w1 (a1.add 3) (cells (.int .i64) x21) ∧
gd (x21 != (0 : Int)) (
R19 (true, ()) w1) (
∃ x22 : Int, At w1 (a1.add 4) (cells (.int .i64) x22) ∧
R19 (decide (x22 < (2 : Int)), ()) w1))) (fun x18 w7 => ∀ _ : Env,
gd x18.1 (
K (4 : Int) w7) (
JoinP (X := Bool × Unit) (fun R24 =>
gd (decide (v1_n < (1 : Int))) (
R24 (true, ()) w7) (
∃ x25 : Int, At w7 (a1.add 2) (cells (.int .i64) x25) ∧
C_ref11_earlier x25 v1_n (fun x26 w9 =>
R24 (!x26, ()) w9) w7)) (fun x23 w8 => ∀ _ : Env,
gd x23.1 (
K (1 : Int) w8) (
K (0 : Int) w8))))) (
K (4 : Int) w1)))
theorem S_ref11_Rule (v0_r : yapi_Rule.T) (v1_n : Int) (K : Int → World → Prop) (w0 : World) (h : F_ref11_Rule v0_r v1_n K w0) : C_ref11_Rule v0_r v1_n K w0 := by
  have e : denFn P [(4, [(21, .bool)]), (10, [(33, .bool)]), (12, [(49, .bool)]), (16, [(64, .bool)]), (18, [(73, .bool)])] Try.f88 #[val yapi_Rule v0_r, .int .i64 v1_n] (.int .i64) K w0 = F_ref11_Rule v0_r v1_n K w0 := by kernel_rfl
  exact fn_sound mixed (f := 88) Try.func88 (by kernel_rfl) (e.mpr h)

def F_ref01_Valid (v0_n : Int) (K : Bool → World → Prop) (w0 : World) : Prop :=
gd (decide ((0 : Int) ≤ v0_n)) (
K (decide (v0_n ≤ (1152921504606846976 : Int))) w0) (
K false w0)
theorem S_ref01_Valid (v0_n : Int) (K : Bool → World → Prop) (w0 : World) (h : F_ref01_Valid v0_n K w0) : C_ref01_Valid v0_n K w0 := by
  have e : denFn P [] Try.f89 #[.int .i64 v0_n] .bool K w0 = F_ref01_Valid v0_n K w0 := by kernel_rfl
  exact fn_sound mixed (f := 89) Try.func89 (by kernel_rfl) (e.mpr h)

def F_bits_Len32 (v0_x : Int) (K : Int → World → Prop) (w0 : World) : Prop :=
JoinP (X := Int × Int × Unit) (fun R2 =>
gd (decide ((65536 : Int) ≤ v0_x)) (
0 ≤ (16 : Int) ∧
letZ (Int.fdiv v0_x (2 ^ min (Int.toNat (16 : Int)) (IntKind.bits .u32))) fun n3 =>
R2 (n3, (16 : Int), ()) w0) (
R2 (v0_x, (0 : Int), ()) w0)) (fun x1 w1 => ∀ _ : Env,
JoinP (X := Int × Int × Unit) (fun R5 =>
gd (decide ((256 : Int) ≤ x1.1)) (
0 ≤ (8 : Int) ∧
letZ (Int.fdiv x1.1 (2 ^ min (Int.toNat (8 : Int)) (IntKind.bits .u32))) fun n6 =>
arith .i64 (x1.2.1 + (8 : Int)) fun n7 =>
R5 (n6, n7, ()) w1) (
R5 (x1.1, x1.2.1, ()) w1)) (fun x4 w2 => ∀ _ : Env,
arith .u8 (x4.1) fun n8 =>
0 ≤ n8 ∧ ∃ hx : n8.toNat < (⟨#[0, 1, 2, 2, 3, 3, 3, 3, 4, 4, 4, 4, 4, 4, 4, 4, 5, 5, 5, 5, 5, 5, 5, 5, 5, 5, 5, 5, 5, 5, 5, 5, 6, 6, 6, 6, 6, 6, 6, 6, 6, 6, 6, 6, 6, 6, 6, 6, 6, 6, 6, 6, 6, 6, 6, 6, 6, 6, 6, 6, 6, 6, 6, 6, 7, 7, 7, 7, 7, 7, 7, 7, 7, 7, 7, 7, 7, 7, 7, 7, 7, 7, 7, 7, 7, 7, 7, 7, 7, 7, 7, 7, 7, 7, 7, 7, 7, 7, 7, 7, 7, 7, 7, 7, 7, 7, 7, 7, 7, 7, 7, 7, 7, 7, 7, 7, 7, 7, 7, 7, 7, 7, 7, 7, 7, 7, 7, 7, 8, 8, 8, 8, 8, 8, 8, 8, 8, 8, 8, 8, 8, 8, 8, 8, 8, 8, 8, 8, 8, 8, 8, 8, 8, 8, 8, 8, 8, 8, 8, 8, 8, 8, 8, 8, 8, 8, 8, 8, 8, 8, 8, 8, 8, 8, 8, 8, 8, 8, 8, 8, 8, 8, 8, 8, 8, 8, 8, 8, 8, 8, 8, 8, 8, 8, 8, 8, 8, 8, 8, 8, 8, 8, 8, 8, 8, 8, 8, 8, 8, 8, 8, 8, 8, 8, 8, 8, 8, 8, 8, 8, 8, 8, 8, 8, 8, 8, 8, 8, 8, 8, 8, 8, 8, 8, 8, 8, 8, 8, 8, 8, 8, 8, 8, 8, 8, 8, 8, 8, 8, 8, 8, 8, 8, 8, 8, 8]⟩ : ByteArray).size,
arith .i64 ((((⟨#[0, 1, 2, 2, 3, 3, 3, 3, 4, 4, 4, 4, 4, 4, 4, 4, 5, 5, 5, 5, 5, 5, 5, 5, 5, 5, 5, 5, 5, 5, 5, 5, 6, 6, 6, 6, 6, 6, 6, 6, 6, 6, 6, 6, 6, 6, 6, 6, 6, 6, 6, 6, 6, 6, 6, 6, 6, 6, 6, 6, 6, 6, 6, 6, 7, 7, 7, 7, 7, 7, 7, 7, 7, 7, 7, 7, 7, 7, 7, 7, 7, 7, 7, 7, 7, 7, 7, 7, 7, 7, 7, 7, 7, 7, 7, 7, 7, 7, 7, 7, 7, 7, 7, 7, 7, 7, 7, 7, 7, 7, 7, 7, 7, 7, 7, 7, 7, 7, 7, 7, 7, 7, 7, 7, 7, 7, 7, 7, 8, 8, 8, 8, 8, 8, 8, 8, 8, 8, 8, 8, 8, 8, 8, 8, 8, 8, 8, 8, 8, 8, 8, 8, 8, 8, 8, 8, 8, 8, 8, 8, 8, 8, 8, 8, 8, 8, 8, 8, 8, 8, 8, 8, 8, 8, 8, 8, 8, 8, 8, 8, 8, 8, 8, 8, 8, 8, 8, 8, 8, 8, 8, 8, 8, 8, 8, 8, 8, 8, 8, 8, 8, 8, 8, 8, 8, 8, 8, 8, 8, 8, 8, 8, 8, 8, 8, 8, 8, 8, 8, 8, 8, 8, 8, 8, 8, 8, 8, 8, 8, 8, 8, 8, 8, 8, 8, 8, 8, 8, 8, 8, 8, 8, 8, 8, 8, 8, 8, 8, 8, 8, 8, 8, 8, 8, 8, 8]⟩ : ByteArray)[n8.toNat]).toNat : Int)) fun n9 =>
arith .i64 (x4.2.1 + n9) fun n10 =>
K n10 w2))
theorem S_bits_Len32 (v0_x : Int) (K : Int → World → Prop) (w0 : World) (h : F_bits_Len32 v0_x K w0) : C_bits_Len32 v0_x K w0 := by
  have e : denFn P [(4, [(0, .int .u32), (2, .int .i64)]), (7, [(0, .int .u32), (2, .int .i64)])] Try.f99 #[.int .u32 v0_x] (.int .i64) K w0 = F_bits_Len32 v0_x K w0 := by kernel_rfl
  exact fn_sound mixed (f := 99) Try.func99 (by kernel_rfl) (e.mpr h)

def F_bits_Len64 (v0_x : Int) (K : Int → World → Prop) (w0 : World) : Prop :=
JoinP (X := Int × Int × Unit) (fun R2 =>
gd (decide ((4294967296 : Int) ≤ v0_x)) (
0 ≤ (32 : Int) ∧
letZ (Int.fdiv v0_x (2 ^ min (Int.toNat (32 : Int)) (IntKind.bits .u64))) fun n3 =>
R2 (n3, (32 : Int), ()) w0) (
R2 (v0_x, (0 : Int), ()) w0)) (fun x1 w1 => ∀ _ : Env,
JoinP (X := Int × Int × Unit) (fun R5 =>
gd (decide ((65536 : Int) ≤ x1.1)) (
0 ≤ (16 : Int) ∧
letZ (Int.fdiv x1.1 (2 ^ min (Int.toNat (16 : Int)) (IntKind.bits .u64))) fun n6 =>
arith .i64 (x1.2.1 + (16 : Int)) fun n7 =>
R5 (n6, n7, ()) w1) (
R5 (x1.1, x1.2.1, ()) w1)) (fun x4 w2 => ∀ _ : Env,
JoinP (X := Int × Int × Unit) (fun R9 =>
gd (decide ((256 : Int) ≤ x4.1)) (
0 ≤ (8 : Int) ∧
letZ (Int.fdiv x4.1 (2 ^ min (Int.toNat (8 : Int)) (IntKind.bits .u64))) fun n10 =>
arith .i64 (x4.2.1 + (8 : Int)) fun n11 =>
R9 (n10, n11, ()) w2) (
R9 (x4.1, x4.2.1, ()) w2)) (fun x8 w3 => ∀ _ : Env,
arith .u8 (x8.1) fun n12 =>
0 ≤ n12 ∧ ∃ hx : n12.toNat < (⟨#[0, 1, 2, 2, 3, 3, 3, 3, 4, 4, 4, 4, 4, 4, 4, 4, 5, 5, 5, 5, 5, 5, 5, 5, 5, 5, 5, 5, 5, 5, 5, 5, 6, 6, 6, 6, 6, 6, 6, 6, 6, 6, 6, 6, 6, 6, 6, 6, 6, 6, 6, 6, 6, 6, 6, 6, 6, 6, 6, 6, 6, 6, 6, 6, 7, 7, 7, 7, 7, 7, 7, 7, 7, 7, 7, 7, 7, 7, 7, 7, 7, 7, 7, 7, 7, 7, 7, 7, 7, 7, 7, 7, 7, 7, 7, 7, 7, 7, 7, 7, 7, 7, 7, 7, 7, 7, 7, 7, 7, 7, 7, 7, 7, 7, 7, 7, 7, 7, 7, 7, 7, 7, 7, 7, 7, 7, 7, 7, 8, 8, 8, 8, 8, 8, 8, 8, 8, 8, 8, 8, 8, 8, 8, 8, 8, 8, 8, 8, 8, 8, 8, 8, 8, 8, 8, 8, 8, 8, 8, 8, 8, 8, 8, 8, 8, 8, 8, 8, 8, 8, 8, 8, 8, 8, 8, 8, 8, 8, 8, 8, 8, 8, 8, 8, 8, 8, 8, 8, 8, 8, 8, 8, 8, 8, 8, 8, 8, 8, 8, 8, 8, 8, 8, 8, 8, 8, 8, 8, 8, 8, 8, 8, 8, 8, 8, 8, 8, 8, 8, 8, 8, 8, 8, 8, 8, 8, 8, 8, 8, 8, 8, 8, 8, 8, 8, 8, 8, 8, 8, 8, 8, 8, 8, 8, 8, 8, 8, 8, 8, 8, 8, 8, 8, 8, 8, 8]⟩ : ByteArray).size,
arith .i64 ((((⟨#[0, 1, 2, 2, 3, 3, 3, 3, 4, 4, 4, 4, 4, 4, 4, 4, 5, 5, 5, 5, 5, 5, 5, 5, 5, 5, 5, 5, 5, 5, 5, 5, 6, 6, 6, 6, 6, 6, 6, 6, 6, 6, 6, 6, 6, 6, 6, 6, 6, 6, 6, 6, 6, 6, 6, 6, 6, 6, 6, 6, 6, 6, 6, 6, 7, 7, 7, 7, 7, 7, 7, 7, 7, 7, 7, 7, 7, 7, 7, 7, 7, 7, 7, 7, 7, 7, 7, 7, 7, 7, 7, 7, 7, 7, 7, 7, 7, 7, 7, 7, 7, 7, 7, 7, 7, 7, 7, 7, 7, 7, 7, 7, 7, 7, 7, 7, 7, 7, 7, 7, 7, 7, 7, 7, 7, 7, 7, 7, 8, 8, 8, 8, 8, 8, 8, 8, 8, 8, 8, 8, 8, 8, 8, 8, 8, 8, 8, 8, 8, 8, 8, 8, 8, 8, 8, 8, 8, 8, 8, 8, 8, 8, 8, 8, 8, 8, 8, 8, 8, 8, 8, 8, 8, 8, 8, 8, 8, 8, 8, 8, 8, 8, 8, 8, 8, 8, 8, 8, 8, 8, 8, 8, 8, 8, 8, 8, 8, 8, 8, 8, 8, 8, 8, 8, 8, 8, 8, 8, 8, 8, 8, 8, 8, 8, 8, 8, 8, 8, 8, 8, 8, 8, 8, 8, 8, 8, 8, 8, 8, 8, 8, 8, 8, 8, 8, 8, 8, 8, 8, 8, 8, 8, 8, 8, 8, 8, 8, 8, 8, 8, 8, 8, 8, 8, 8, 8]⟩ : ByteArray)[n12.toNat]).toNat : Int)) fun n13 =>
arith .i64 (x8.2.1 + n13) fun n14 =>
K n14 w3)))
theorem S_bits_Len64 (v0_x : Int) (K : Int → World → Prop) (w0 : World) (h : F_bits_Len64 v0_x K w0) : C_bits_Len64 v0_x K w0 := by
  have e : denFn P [(4, [(0, .int .u64), (2, .int .i64)]), (7, [(0, .int .u64), (2, .int .i64)]), (10, [(0, .int .u64), (2, .int .i64)])] Try.f100 #[.int .u64 v0_x] (.int .i64) K w0 = F_bits_Len64 v0_x K w0 := by kernel_rfl
  exact fn_sound mixed (f := 100) Try.func100 (by kernel_rfl) (e.mpr h)

def F_modular_Reduce (v0_x : Int) (K : Int → World → Prop) (w0 : World) : Prop :=
arith .u64 ((BitVec.ofInt (IntKind.bits .u64) v0_x &&& BitVec.ofInt (IntKind.bits .u64) (2305843009213693951 : Int)).toNat) fun n1 =>
0 ≤ (61 : Int) ∧
letZ (Int.fdiv v0_x (2 ^ min (Int.toNat (61 : Int)) (IntKind.bits .u64))) fun n2 =>
arith .u64 (n1 + n2) fun n3 =>
JoinP (X := Int × Unit) (fun R5 =>
gd (decide ((2305843009213693951 : Int) ≤ n3)) (
arith .u64 (n3 - (2305843009213693951 : Int)) fun n6 =>
R5 (n6, ()) w0) (
R5 (n3, ()) w0)) (fun x4 w1 => ∀ _ : Env,
K x4.1 w1)
theorem S_modular_Reduce (v0_x : Int) (K : Int → World → Prop) (w0 : World) (h : F_modular_Reduce v0_x K w0) : C_modular_Reduce v0_x K w0 := by
  have e : denFn P [(4, [(0, .int .u64)])] Try.f101 #[.int .u64 v0_x] (.int .u64) K w0 = F_modular_Reduce v0_x K w0 := by kernel_rfl
  exact fn_sound mixed (f := 101) Try.func101 (by kernel_rfl) (e.mpr h)

def F_bits_Mul64 (v0_x : Int) (v1_y : Int) (K : (Int × Int) → World → Prop) (w0 : World) : Prop :=
arith .u64 ((BitVec.ofInt (IntKind.bits .u64) v0_x &&& BitVec.ofInt (IntKind.bits .u64) (4294967295 : Int)).toNat) fun n1 =>
0 ≤ (32 : Int) ∧
letZ (Int.fdiv v0_x (2 ^ min (Int.toNat (32 : Int)) (IntKind.bits .u64))) fun n2 =>
arith .u64 ((BitVec.ofInt (IntKind.bits .u64) v1_y &&& BitVec.ofInt (IntKind.bits .u64) (4294967295 : Int)).toNat) fun n3 =>
0 ≤ (32 : Int) ∧
letZ (Int.fdiv v1_y (2 ^ min (Int.toNat (32 : Int)) (IntKind.bits .u64))) fun n4 =>
arith .u64 (n1 * n3) fun n5 =>
arith .u64 (n2 * n3) fun n6 =>
0 ≤ (32 : Int) ∧
letZ (Int.fdiv n5 (2 ^ min (Int.toNat (32 : Int)) (IntKind.bits .u64))) fun n7 =>
arith .u64 (n6 + n7) fun n8 =>
arith .u64 ((BitVec.ofInt (IntKind.bits .u64) n8 &&& BitVec.ofInt (IntKind.bits .u64) (4294967295 : Int)).toNat) fun n9 =>
0 ≤ (32 : Int) ∧
letZ (Int.fdiv n8 (2 ^ min (Int.toNat (32 : Int)) (IntKind.bits .u64))) fun n10 =>
arith .u64 (n1 * n4) fun n11 =>
arith .u64 (n9 + n11) fun n12 =>
arith .u64 (n2 * n4) fun n13 =>
arith .u64 (n13 + n10) fun n14 =>
0 ≤ (32 : Int) ∧
letZ (Int.fdiv n12 (2 ^ min (Int.toNat (32 : Int)) (IntKind.bits .u64))) fun n15 =>
arith .u64 (n14 + n15) fun n16 =>
arith .u64 (v0_x * v1_y) fun n17 =>
K (n16, n17) w0
theorem S_bits_Mul64 (v0_x : Int) (v1_y : Int) (K : (Int × Int) → World → Prop) (w0 : World) (h : F_bits_Mul64 v0_x v1_y K w0) : C_bits_Mul64 v0_x v1_y K w0 := by
  have e : denFn P [] Try.f102 #[.int .u64 v0_x, .int .u64 v1_y] (.tup (.pair (.int .u64) (.int .u64))) K w0 = F_bits_Mul64 v0_x v1_y K w0 := by kernel_rfl
  exact fn_sound mixed (f := 102) Try.func102 (by kernel_rfl) (e.mpr h)

def F_ref11_earlier (v0_id : Int) (v1_n : Int) (K : Bool → World → Prop) (w0 : World) : Prop :=
gd (decide ((1 : Int) ≤ v0_id)) (
K (decide (v0_id < v1_n)) w0) (
K false w0)
theorem S_ref11_earlier (v0_id : Int) (v1_n : Int) (K : Bool → World → Prop) (w0 : World) (h : F_ref11_earlier v0_id v1_n K w0) : C_ref11_earlier v0_id v1_n K w0 := by
  have e : denFn P [] Try.f103 #[.int .i64 v0_id, .int .i64 v1_n] .bool K w0 = F_ref11_earlier v0_id v1_n K w0 := by kernel_rfl
  exact fn_sound mixed (f := 103) Try.func103 (by kernel_rfl) (e.mpr h)

end Go.Proofs.Ytedmbgddmckegaa

/- All typed texts. -/
