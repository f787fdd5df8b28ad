/- Texts that belong together, joined: Text9. No conditions. -/
import Derived.Test.YtcmncfglcjcmhaaGreatX0
/- The typed texts of the functions, printed by a program; each proved to imply the call. -/
set_option linter.unusedVariables false
set_option maxRecDepth 100000
set_option maxHeartbeats 4000000
namespace Go.Proofs.YtcmncfglcjcmhaaGreat
open Go.Den

def F_walk_Pieces_2 (v0_yield : Value) (K : Unit → World → Prop) (w0 : World) : Prop :=
K () w0
theorem S_walk_Pieces_2 (v0_yield : Value) (K : Unit → World → Prop) (w0 : World) (h : F_walk_Pieces_2 v0_yield K w0) : C_walk_Pieces_2 v0_yield K w0 := by
  have e : denFn P [] Tryz.f44 #[v0_yield] (.tup .unit) K w0 = F_walk_Pieces_2 v0_yield K w0 := by kernel_rfl
  exact fn_sound mixed (f := 44) Tryz.func44 (by kernel_rfl) (e.mpr h)

def F_walk_Pieces_3 (v0_yield : Value) (v1 : Addr) (v2 : Addr) (v3 : Addr) (v4 : Addr) (K : Unit → World → Prop) (w0 : World) : Prop :=
∃ x1 : Option Addr, At w0 v1 (cells .ptr x1) ∧
∃ x2 : Int, At w0 v2 (cells (.int .i64) x2) ∧
∃ x3 : Int, At w0 v3 (cells (.int .i64) x3) ∧
∃ x4 : Int, At w0 v3 (cells (.int .i64) x4) ∧
∃ x5 : Int, At w0 v4 (cells (.int .i64) x5) ∧
arith .i64 (x4 + x5) fun n6 =>
C_walk_pieces x1 x2 x3 n6 v0_yield (fun x7 w1 =>
K () w1) w0
theorem S_walk_Pieces_3 (v0_yield : Value) (v1 : Addr) (v2 : Addr) (v3 : Addr) (v4 : Addr) (K : Unit → World → Prop) (w0 : World) (h : F_walk_Pieces_3 v0_yield v1 v2 v3 v4 K w0) : C_walk_Pieces_3 v0_yield v1 v2 v3 v4 K w0 := by
  have e : denFn P [] Tryz.f45 #[v0_yield, .pointer (some v1), .pointer (some v2), .pointer (some v3), .pointer (some v4)] (.tup .unit) K w0 = F_walk_Pieces_3 v0_yield v1 v2 v3 v4 K w0 := by kernel_rfl
  exact fn_sound mixed (f := 45) Tryz.func45 (by kernel_rfl) (e.mpr h)

def F_walk_pieces (v0_s : Option Addr) (v1_id : Int) (v2_from : Int) (v3_to : Int) (v4_yield : Value) (K : Unit → World → Prop) (w0 : World) : Prop :=
allocK (.cells #[.int .i64 v1_id, .int .i64 (0 : Int)] t_walk_node) w0 fun a1 w1 =>
LoopP (X := Sl × Unit) (⟨some a1, 1, 1⟩, ()) w1 fun next3 x2 w2 => ∀ _ : Env,
gd (decide ((0 : Int) < (x2.1.len : Int))) (
arith .i64 ((x2.1.len : Int) - (1 : Int)) fun n4 =>
idxK x2.1.a x2.1.len n4 2 fun p5 =>
∃ x6 : ywalk_node.T, At w2 p5 (cells ywalk_node x6) ∧
allocK (.cells #[.int .i64 (0 : Int), .int .i64 (0 : Int)] t_walk_node) w2 fun a7 w3 =>
stK w3 a7 (cells ywalk_node x6) fun w4 =>
arith .i64 ((x2.1.len : Int) - (1 : Int)) fun n8 =>
slK 2 x2.1.a x2.1.len x2.1.cap none (some n8) fun s9 =>
∃ x10 : Int, At w4 (a7.add 0) (cells (.int .i64) x10) ∧
C_intern_Store_Weight v0_s x10 (fun x11 w5 =>
allocK (.cells #[.int .i64 (0 : Int), .int .i64 (0 : Int), .int .i64 (0 : Int), .int .i64 (0 : Int), .int .u64 (0 : Int), .int .u64 (0 : Int)] t_api_Weight) w5 fun a12 w6 =>
stK w6 a12 (cells yapi_Weight x11.1) fun w7 =>
∃ x13 : Int, At w7 (a7.add 1) (cells (.int .i64) x13) ∧
∃ x14 : Int, At w7 (a12.add 0) (cells (.int .i64) x14) ∧
arith .i64 (x13 + x14) fun n15 =>
∃ x16 : Int, At w7 (a7.add 1) (cells (.int .i64) x16) ∧
gd (decide ((if n15 < v3_to then n15 else v3_to) ≤ (if v2_from < x16 then x16 else v2_from))) (
next3 (s9, ()) w7) (
JoinP (X := Bool × Unit) (fun R18 =>
∃ x19 : Int, At w7 (a7.add 1) (cells (.int .i64) x19) ∧
gd (decide (v2_from ≤ x19)) (
R18 (decide (n15 ≤ v3_to), ()) w7) (
R18 (false, ()) w7)) (fun x17 w8 => ∀ _ : Env,
gd x17.1 (
∃ x20 : Int, At w8 (a7.add 1) (cells (.int .i64) x20) ∧
∃ x21 : Int, At w8 (a7.add 0) (cells (.int .i64) x21) ∧
callV P v4_yield [.int .i64 x20, .int .i64 x21] .bool w8 fun x22 w9 =>
gd (!x22) (
K () w9) (
next3 (s9, ()) w9)) (
∃ x23 : Int, At w8 (a7.add 0) (cells (.int .i64) x23) ∧
C_intern_Store_Rule v0_s x23 (fun x24 w10 =>
allocK (.cells #[.int .i64 (0 : Int), .int .u8 (0 : Int), .int .i64 (0 : Int), .int .i64 (0 : Int), .int .i64 (0 : Int)] t_api_Rule) w10 fun a25 w11 =>
stK w11 a25 (cells yapi_Rule x24.1) fun w12 =>
∃ x26 : Int, At w12 (a25.add 2) (cells (.int .i64) x26) ∧
C_intern_Store_Weight v0_s x26 (fun x27 w13 =>
allocK (.cells #[.int .i64 (0 : Int), .int .i64 (0 : Int), .int .i64 (0 : Int), .int .i64 (0 : Int), .int .u64 (0 : Int), .int .u64 (0 : Int)] t_api_Weight) w13 fun a28 w14 =>
stK w14 a28 (cells yapi_Weight x27.1) fun w15 =>
∃ x29 : Int, At w15 (a25.add 3) (cells (.int .i64) x29) ∧
∃ x30 : Int, At w15 (a7.add 1) (cells (.int .i64) x30) ∧
∃ x31 : Int, At w15 (a28.add 0) (cells (.int .i64) x31) ∧
arith .i64 (x30 + x31) fun n32 =>
∃ x33 : Int, At w15 (a25.add 2) (cells (.int .i64) x33) ∧
∃ x34 : Int, At w15 (a7.add 1) (cells (.int .i64) x34) ∧
allocK (.cells #[.int .i64 x29, .int .i64 n32, .int .i64 x33, .int .i64 x34] t_walk_node) w15 fun a35 w16 =>
appK t_walk_node 2 16 #[.int .i64 (0 : Int), .int .i64 (0 : Int)] s9.a s9.len s9.cap (.slice (some a35) 2 2) 2 w16 fun s36 w17 =>
next3 (s36, ()) w17) w12) w8)))) w4) (
K () w2)
theorem S_walk_pieces (v0_s : Option Addr) (v1_id : Int) (v2_from : Int) (v3_to : Int) (v4_yield : Value) (K : Unit → World → Prop) (w0 : World) (h : F_walk_pieces v0_s v1_id v2_from v3_to v4_yield K w0) : C_walk_pieces v0_s v1_id v2_from v3_to v4_yield K w0 := by
  have e : denFn P [(1001, [(10, .slice)]), (8, [(64, .bool)])] Tryz.f46 #[.pointer v0_s, .int .i64 v1_id, .int .i64 v2_from, .int .i64 v3_to, v4_yield] (.tup .unit) K w0 = F_walk_pieces v0_s v1_id v2_from v3_to v4_yield K w0 := by kernel_rfl
  exact fn_sound mixed (f := 46) Tryz.func46 (by kernel_rfl) (e.mpr h)

def F_intern_Store_known (v0_s : Option Addr) (v1_id : Int) (K : Bool → World → Prop) (w0 : World) : Prop :=
gd (decide ((0 : Int) ≤ v1_id)) (
nonNil v0_s fun p1 =>
∃ x2 : Sl, At w0 (p1.add 1) (cells .slice x2) ∧
K (decide (v1_id ≤ (x2.len : Int))) w0) (
K false w0)
theorem S_intern_Store_known (v0_s : Option Addr) (v1_id : Int) (K : Bool → World → Prop) (w0 : World) (h : F_intern_Store_known v0_s v1_id K w0) : C_intern_Store_known v0_s v1_id K w0 := by
  have e : denFn P [] Tryz.f47 #[.pointer v0_s, .int .i64 v1_id] .bool K w0 = F_intern_Store_known v0_s v1_id K w0 := by kernel_rfl
  exact fn_sound mixed (f := 47) Tryz.func47 (by kernel_rfl) (e.mpr h)

def F_intern_Store_at (v0_s : Option Addr) (v1_id : Int) (K : yintern_entry.T → World → Prop) (w0 : World) : Prop :=
allocK (.cells #[.int .i64 (0 : Int), .int .u8 (0 : Int), .int .i64 (0 : Int), .int .i64 (0 : Int), .int .i64 (0 : Int), .int .i64 (0 : Int), .int .i64 (0 : Int), .int .i64 (0 : Int), .int .i64 (0 : Int), .int .u64 (0 : Int), .int .u64 (0 : Int), .int .i64 (0 : Int), .bool false] t_intern_entry) w0 fun a1 w1 =>
gd (v1_id == (0 : Int)) (
C_weight_Unit  (fun x2 w2 =>
stK w2 a1 ([.int .i64 (0 : Int), .int .u8 (0 : Int), .int .i64 (0 : Int), .int .i64 (0 : Int), .int .i64 (0 : Int), .int .i64 x2.1, .int .i64 x2.2.1, .int .i64 x2.2.2.1, .int .i64 x2.2.2.2.1, .int .u64 x2.2.2.2.2.1, .int .u64 x2.2.2.2.2.2, .int .i64 (0 : Int), .bool true]) fun w3 =>
∃ x3 : yintern_entry.T, At w3 a1 (cells yintern_entry x3) ∧
K x3 w3) w1) (
nonNil v0_s fun p4 =>
∃ x5 : Sl, At w1 (p4.add 1) (cells .slice x5) ∧
arith .i64 (v1_id - (1 : Int)) fun n6 =>
idxK x5.a x5.len n6 13 fun p7 =>
∃ x8 : yintern_entry.T, At w1 p7 (cells yintern_entry x8) ∧
stK w1 a1 (cells yintern_entry x8) fun w4 =>
∃ x9 : yintern_entry.T, At w4 a1 (cells yintern_entry x9) ∧
K x9 w4)
theorem S_intern_Store_at (v0_s : Option Addr) (v1_id : Int) (K : yintern_entry.T → World → Prop) (w0 : World) (h : F_intern_Store_at v0_s v1_id K w0) : C_intern_Store_at v0_s v1_id K w0 := by
  have e : denFn P [] Tryz.f48 #[.pointer v0_s, .int .i64 v1_id] yintern_entry K w0 = F_intern_Store_at v0_s v1_id K w0 := by kernel_rfl
  exact fn_sound mixed (f := 48) Tryz.func48 (by kernel_rfl) (e.mpr h)

def F_access_parts (v0_s : Option Addr) (v1_id : Int) (v2_from : Int) (v3_n : Int) (v4_visit : Value) (K : Value → World → Prop) (w0 : World) : Prop :=
allocK (.cells #[.int .i64 v1_id, .int .i64 v2_from, .int .i64 v3_n, .int .i64 (1 : Int)] t_access_span) w0 fun a1 w1 =>
LoopP (X := Sl × Unit) (⟨some a1, 1, 1⟩, ()) w1 fun next3 x2 w2 => ∀ _ : Env,
gd (decide ((0 : Int) < (x2.1.len : Int))) (
arith .i64 ((x2.1.len : Int) - (1 : Int)) fun n4 =>
idxK x2.1.a x2.1.len n4 4 fun p5 =>
∃ x6 : yaccess_span.T, At w2 p5 (cells yaccess_span x6) ∧
allocK (.cells #[.int .i64 (0 : Int), .int .i64 (0 : Int), .int .i64 (0 : Int), .int .i64 (0 : Int)] t_access_span) w2 fun a7 w3 =>
stK w3 a7 (cells yaccess_span x6) fun w4 =>
arith .i64 ((x2.1.len : Int) - (1 : Int)) fun n8 =>
slK 4 x2.1.a x2.1.len x2.1.cap none (some n8) fun s9 =>
JoinP (X := Unit) (fun R11 =>
∃ x12 : Int, At w4 (a7.add 2) (cells (.int .i64) x12) ∧
gd (x12 == (0 : Int)) (
next3 (s9, ()) w4) (
∃ x13 : Int, At w4 (a7.add 3) (cells (.int .i64) x13) ∧
gd (x13 == (0 : Int)) (
next3 (s9, ()) w4) (
R11 () w4))) (fun x10 w5 => ∀ _ : Env,
∃ x14 : Int, At w5 (a7.add 0) (cells (.int .i64) x14) ∧
C_intern_Store_Weight v0_s x14 (fun x15 w6 =>
allocK (.cells #[.int .i64 (0 : Int), .int .i64 (0 : Int), .int .i64 (0 : Int), .int .i64 (0 : Int), .int .u64 (0 : Int), .int .u64 (0 : Int)] t_api_Weight) w6 fun a16 w7 =>
stK w7 a16 (cells yapi_Weight x15.1) fun w8 =>
nilIfcK x15.2 fun b17 =>
gd (!b17) (
K x15.2 w8) (
∃ x18 : Int, At w8 (a7.add 2) (cells (.int .i64) x18) ∧
∃ x19 : Int, At w8 (a16.add 0) (cells (.int .i64) x19) ∧
gd (x18 == x19) (
∃ x20 : Int, At w8 (a7.add 0) (cells (.int .i64) x20) ∧
∃ x21 : Int, At w8 (a7.add 3) (cells (.int .i64) x21) ∧
callV P v4_visit [.int .i64 x20, .int .i64 x21] .iface w8 fun x22 w9 =>
nilIfcK x22 fun b23 =>
gd (!b23) (
K x22 w9) (
next3 (s9, ()) w9)) (
∃ x24 : Int, At w8 (a7.add 0) (cells (.int .i64) x24) ∧
C_intern_Store_Rule v0_s x24 (fun x25 w10 =>
allocK (.cells #[.int .i64 (0 : Int), .int .u8 (0 : Int), .int .i64 (0 : Int), .int .i64 (0 : Int), .int .i64 (0 : Int)] t_api_Rule) w10 fun a26 w11 =>
stK w11 a26 (cells yapi_Rule x25.1) fun w12 =>
nilIfcK x25.2 fun b27 =>
gd (!b27) (
K x25.2 w12) (
∃ x28 : Int, At w12 (a26.add 2) (cells (.int .i64) x28) ∧
C_intern_Store_Weight v0_s x28 (fun x29 w13 =>
allocK (.cells #[.int .i64 (0 : Int), .int .i64 (0 : Int), .int .i64 (0 : Int), .int .i64 (0 : Int), .int .u64 (0 : Int), .int .u64 (0 : Int)] t_api_Weight) w13 fun a30 w14 =>
stK w14 a30 (cells yapi_Weight x29.1) fun w15 =>
nilIfcK x29.2 fun b31 =>
gd (!b31) (
K x29.2 w15) (
∃ x32 : Int, At w15 (a26.add 0) (cells (.int .i64) x32) ∧
gd (x32 == (2 : Int)) (
∃ x33 : yapi_Rule.T, At w15 a26 (cells yapi_Rule x33) ∧
∃ x34 : Int, At w15 (a30.add 0) (cells (.int .i64) x34) ∧
∃ x35 : yaccess_span.T, At w15 a7 (cells yaccess_span x35) ∧
C_access_halve s9 x33 x34 x35 (fun x36 w16 =>
next3 (x36, ()) w16) w15) (
∃ x37 : yapi_Rule.T, At w15 a26 (cells yapi_Rule x37) ∧
∃ x38 : Int, At w15 (a30.add 0) (cells (.int .i64) x38) ∧
∃ x39 : yaccess_span.T, At w15 a7 (cells yaccess_span x39) ∧
C_access_divide s9 x37 x38 x39 (fun x40 w17 =>
next3 (x40, ()) w17) w15))) w12)) w8))) w5)) (
K .nilIface w2)
theorem S_access_parts (v0_s : Option Addr) (v1_id : Int) (v2_from : Int) (v3_n : Int) (v4_visit : Value) (K : Value → World → Prop) (w0 : World) (h : F_access_parts v0_s v1_id v2_from v3_n v4_visit K w0) : C_access_parts v0_s v1_id v2_from v3_n v4_visit K w0 := by
  have e : denFn P [(1002, [(11, .slice)]), (6, [])] Tryz.f49 #[.pointer v0_s, .int .i64 v1_id, .int .i64 v2_from, .int .i64 v3_n, v4_visit] .iface K w0 = F_access_parts v0_s v1_id v2_from v3_n v4_visit K w0 := by kernel_rfl
  exact fn_sound mixed (f := 49) Tryz.func49 (by kernel_rfl) (e.mpr h)

end Go.Proofs.YtcmncfglcjcmhaaGreat
