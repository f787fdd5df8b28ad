/- Texts that belong together, joined: Text12. No conditions. -/
import Derived.Test.YtcmncfglcjcmhaaGreatX0
/- The typed texts of the functions, printed by a program; each proved to imply the call. -/
set_option linter.unusedVariables false
set_option maxRecDepth 100000
set_option maxHeartbeats 4000000
namespace Go.Proofs.YtcmncfglcjcmhaaGreat
open Go.Den

def F_digest_Of (v0_text : Sl) (K : yapi_Digest.T → World → Prop) (w0 : World) : Prop :=
allocK (.cells #[.int .u64 (0 : Int), .int .u64 (0 : Int)] t_api_Digest) w0 fun a1 w1 =>
C_digest_Unit  (fun x2 w2 =>
allocK (.cells #[.int .u64 (0 : Int), .int .u64 (0 : Int)] t_api_Digest) w2 fun a3 w3 =>
stK w3 a3 (cells yapi_Digest x2) fun w4 =>
LoopP (X := Int × Unit) ((0 : Int), ()) w4 fun next5 x4 w5 => ∀ _ : Env,
gd (decide (x4.1 < (v0_text.len : Int))) (
idxK v0_text.a v0_text.len x4.1 1 fun p6 =>
∃ x7 : Int, At w5 p6 (cells (.int .u8) x7) ∧
drawK w5 fun w6 =>
∃ x8 : yapi_Digest.T, At w6 a3 (cells yapi_Digest x8) ∧
C_digest_Letter x7 (fun x9 w7 =>
At w7 a3 (cells yapi_Digest x8) ∧
C_digest_Join x8 x9 (fun x10 w8 =>
stK w8 a3 (cells yapi_Digest x10) fun w9 =>
arith .i64 (x4.1 + (1 : Int)) fun n11 =>
next5 (n11, ()) w9) w7) w6) (
∃ x12 : yapi_Digest.T, At w5 a3 (cells yapi_Digest x12) ∧
stK w5 a1 (cells yapi_Digest x12) fun w10 =>
∃ x13 : yapi_Digest.T, At w10 a1 (cells yapi_Digest x13) ∧
K x13 w10)) w1
theorem S_digest_Of (v0_text : Sl) (K : yapi_Digest.T → World → Prop) (w0 : World) (h : F_digest_Of v0_text K w0) : C_digest_Of v0_text K w0 := by
  have e : denFn P [(1003, [(9, .int .i64)])] Tryz.f59 #[.slice v0_text.a v0_text.len v0_text.cap] yapi_Digest K w0 = F_digest_Of v0_text K w0 := by kernel_rfl
  exact fn_sound mixed (f := 59) Tryz.func59 (by kernel_rfl) (e.mpr h)

def F_access_below (v0_r : yapi_Rule.T) (v1_left : Int) (v2_at : Int) (K : (Int × Int) → World → Prop) (w0 : World) : Prop :=
allocK (.cells (cells yapi_Rule v0_r).toArray t_api_Rule) w0 fun a1 w1 =>
∃ x2 : Int, At w1 (a1.add 0) (cells (.int .i64) x2) ∧
gd (x2 == (3 : Int)) (
drawK w1 fun w2 =>
∃ x3 : Int, At w2 (a1.add 2) (cells (.int .i64) x3) ∧
v1_left ≠ 0 ∧
letZ (Int.tmod v2_at v1_left) fun n4 =>
K (x3, n4) w2) (
gd (decide (v2_at < v1_left)) (
∃ x5 : Int, At w1 (a1.add 2) (cells (.int .i64) x5) ∧
K (x5, v2_at) w1) (
∃ x6 : Int, At w1 (a1.add 3) (cells (.int .i64) x6) ∧
arith .i64 (v2_at - v1_left) fun n7 =>
K (x6, n7) w1))
theorem S_access_below (v0_r : yapi_Rule.T) (v1_left : Int) (v2_at : Int) (K : (Int × Int) → World → Prop) (w0 : World) (h : F_access_below v0_r v1_left v2_at K w0) : C_access_below v0_r v1_left v2_at K w0 := by
  have e : denFn P [] Tryz.f60 #[val yapi_Rule v0_r, .int .i64 v1_left, .int .i64 v2_at] (.tup (.pair (.int .i64) (.int .i64))) K w0 = F_access_below v0_r v1_left v2_at K w0 := by kernel_rfl
  exact fn_sound mixed (f := 60) Tryz.func60 (by kernel_rfl) (e.mpr h)

def F_top_plain (v0_texts : Sl) (v1_m : yevergreentop_Make.T) (K : (ByteArray × Bool) → World → Prop) (w0 : World) : Prop :=
allocK (.cells (cells yevergreentop_Make v1_m).toArray t_evergreentop_Make) w0 fun a1 w1 =>
∃ x2 : Int, At w1 (a1.add 0) (cells (.int .i64) x2) ∧
C_top_at x2 (6 : Int) (fun x3 w2 =>
JoinP (X := Bool × Unit) (fun R5 =>
gd (x3 == (0 : Int)) (
R5 (true, ()) w2) (
R5 ((v0_texts.len : Int) == (0 : Int), ()) w2)) (fun x4 w3 => ∀ _ : Env,
gd x4.1 (
drawK w3 fun w4 =>
∃ x6 : ByteArray, At w4 (a1.add 5) (cells .str x6) ∧
∃ x7 : ByteArray, At w4 (a1.add 5) (cells .str x7) ∧
K (x6, decide ((x7.size : Int) ≤ (60 : Int))) w4) (
drawK w3 fun w5 =>
∃ x8 : Int, At w5 (a1.add 1) (cells (.int .i64) x8) ∧
∃ x9 : Int, At w5 (a1.add 2) (cells (.int .i64) x9) ∧
C_top_at x8 (v0_texts.len : Int) (fun x10 w6 =>
At w6 (a1.add 2) (cells (.int .i64) x9) ∧
idxK v0_texts.a v0_texts.len x10 1 fun p11 =>
∃ x12 : ByteArray, At w6 p11 (cells .str x12) ∧
C_top_at x9 (v0_texts.len : Int) (fun x13 w7 =>
At w7 p11 (cells .str x12) ∧
idxK v0_texts.a v0_texts.len x13 1 fun p14 =>
∃ x15 : ByteArray, At w7 p14 (cells .str x15) ∧
∃ x16 : Int, At w7 (a1.add 3) (cells (.int .i64) x16) ∧
C_top_at x16 (7 : Int) (fun x17 w8 =>
gd (x3 == (1 : Int)) (
((x12.size + x15.size : Nat) : Int) ≤ 9223372036854775807 ∧
arith .i64 ((x12.size : Int) + (x15.size : Int)) fun n18 =>
K (x12 ++ x15, decide (n18 ≤ (400 : Int))) w8) (
JoinP (X := Bool × Unit) (fun R20 =>
gd (x3 == (2 : Int)) (
R20 (x3 == (2 : Int), ()) w8) (
R20 (x3 == (5 : Int), ()) w8)) (fun x19 w9 => ∀ _ : Env,
gd x19.1 (
JoinP (X := ByteArray × Unit) (fun R22 =>
LoopP (X := ByteArray × Int × Unit) ((⟨#[]⟩ : ByteArray), (0 : Int), ()) w9 fun next24 x23 w11 => ∀ _ : Env,
JoinP (X := Unit) (fun R26 =>
gd (decide (x23.2.1 < x17)) (
gd (decide ((x23.1.size : Int) ≤ (400 : Int))) (
R26 () w11) (
R22 (x23.1, ()) w11)) (
R22 (x23.1, ()) w11)) (fun x25 w12 => ∀ _ : Env,
((x23.1.size + x12.size : Nat) : Int) ≤ 9223372036854775807 ∧
arith .i64 (x23.2.1 + (1 : Int)) fun n27 =>
next24 (x23.1 ++ x12, n27, ()) w12)) (fun x21 w10 => ∀ _ : Env,
K (x21.1, decide ((x21.1.size : Int) ≤ (400 : Int))) w10)) (
gd (x3 == (3 : Int)) (
∃ x28 : Int, At w9 (a1.add 3) (cells (.int .i64) x28) ∧
arith .i64 ((x12.size : Int) + (1 : Int)) fun n29 =>
C_top_at x28 n29 (fun x30 w13 =>
∃ x31 : Int, At w13 (a1.add 4) (cells (.int .i64) x31) ∧
arith .i64 ((x12.size : Int) - x30) fun n32 =>
arith .i64 (n32 + (1 : Int)) fun n33 =>
C_top_at x31 n33 (fun x34 w14 =>
arith .i64 (x30 + x34) fun n35 =>
strK x12 (some x30) (some n35) fun s36 =>
K (s36, true) w14) w13) w9) (
∃ x37 : Int, At w9 (a1.add 3) (cells (.int .i64) x37) ∧
arith .i64 ((x12.size : Int) + (1 : Int)) fun n38 =>
C_top_at x37 n38 (fun x39 w15 =>
drawK w15 fun w16 =>
strK x12 (some x39) none fun s40 =>
strK x12 none (some x39) fun s41 =>
((s40.size + s41.size : Nat) : Int) ≤ 9223372036854775807 ∧
K (s40 ++ s41, true) w16) w9))))) w7) w6) w5))) w1
theorem S_top_plain (v0_texts : Sl) (v1_m : yevergreentop_Make.T) (K : (ByteArray × Bool) → World → Prop) (w0 : World) (h : F_top_plain v0_texts v1_m K w0) : C_top_plain v0_texts v1_m K w0 := by
  have e : denFn P [(3, [(23, .bool)]), (11, [(61, .bool)]), (16, [(10, .str)]), (1013, [(10, .str), (11, .int .i64)]), (15, [])] Tryz.f61 #[.slice v0_texts.a v0_texts.len v0_texts.cap, val yevergreentop_Make v1_m] (.tup (.pair .str .bool)) K w0 = F_top_plain v0_texts v1_m K w0 := by kernel_rfl
  exact fn_sound mixed (f := 61) Tryz.func61 (by kernel_rfl) (e.mpr h)

def F_top_made (v0_s : Option Addr) (v1_ids : Sl) (v2_texts : Sl) (v3_m : yevergreentop_Make.T) (K : (Int × Value) → World → Prop) (w0 : World) : Prop :=
allocK (.cells (cells yevergreentop_Make v3_m).toArray t_evergreentop_Make) w0 fun a1 w1 =>
∃ x2 : Int, At w1 (a1.add 0) (cells (.int .i64) x2) ∧
C_top_at x2 (6 : Int) (fun x3 w2 =>
JoinP (X := Bool × Unit) (fun R5 =>
gd (x3 == (0 : Int)) (
R5 (true, ()) w2) (
R5 ((v1_ids.len : Int) == (0 : Int), ()) w2)) (fun x4 w3 => ∀ _ : Env,
gd x4.1 (
∃ x6 : ByteArray, At w3 (a1.add 5) (cells .str x6) ∧
runK P .slice (convert t_string t_sl_uint8 (.string x6)) w3 fun x7 w4 =>
C_balance_Text v0_s x7 (fun x8 w5 =>
K (x8.1, x8.2) w5) w4) (
drawK w3 fun w6 =>
∃ x9 : Int, At w6 (a1.add 1) (cells (.int .i64) x9) ∧
∃ x10 : Int, At w6 (a1.add 2) (cells (.int .i64) x10) ∧
C_top_at x9 (v1_ids.len : Int) (fun x11 w7 =>
At w7 (a1.add 2) (cells (.int .i64) x10) ∧
idxK v1_ids.a v1_ids.len x11 1 fun p12 =>
∃ x13 : Int, At w7 p12 (cells (.int .i64) x13) ∧
C_top_at x10 (v1_ids.len : Int) (fun x14 w8 =>
At w8 p12 (cells (.int .i64) x13) ∧
idxK v1_ids.a v1_ids.len x14 1 fun p15 =>
∃ x16 : Int, At w8 p15 (cells (.int .i64) x16) ∧
∃ x17 : Int, At w8 (a1.add 1) (cells (.int .i64) x17) ∧
C_top_at x17 (v2_texts.len : Int) (fun x18 w9 =>
idxK v2_texts.a v2_texts.len x18 1 fun p19 =>
∃ x20 : ByteArray, At w9 p19 (cells .str x20) ∧
∃ x21 : Int, At w9 (a1.add 3) (cells (.int .i64) x21) ∧
C_top_at x21 (7 : Int) (fun x22 w10 =>
gd (x3 == (1 : Int)) (
C_avl_Join v0_s x13 x16 (fun x23 w11 =>
K (x23.1, x23.2) w11) w10) (
gd (x3 == (2 : Int)) (
C_balance_Repeat v0_s x13 x22 (fun x24 w12 =>
K (x24.1, x24.2) w12) w10) (
gd (x3 == (3 : Int)) (
∃ x25 : Int, At w10 (a1.add 3) (cells (.int .i64) x25) ∧
arith .i64 ((x20.size : Int) + (1 : Int)) fun n26 =>
C_top_at x25 n26 (fun x27 w13 =>
∃ x28 : Int, At w13 (a1.add 4) (cells (.int .i64) x28) ∧
arith .i64 ((x20.size : Int) - x27) fun n29 =>
arith .i64 (n29 + (1 : Int)) fun n30 =>
C_top_at x28 n30 (fun x31 w14 =>
C_split_Section v0_s x13 x27 x31 (fun x32 w15 =>
K (x32.1, x32.2) w15) w14) w13) w10) (
gd (x3 == (4 : Int)) (
∃ x33 : Int, At w10 (a1.add 3) (cells (.int .i64) x33) ∧
arith .i64 ((x20.size : Int) + (1 : Int)) fun n34 =>
C_top_at x33 n34 (fun x35 w16 =>
C_split_Split v0_s x13 x35 (fun x36 w17 =>
nilIfcK x36.2.2 fun b37 =>
gd (!b37) (
K ((0 : Int), x36.2.2) w17) (
C_avl_Join v0_s x36.2.1 x36.1 (fun x38 w18 =>
K (x38.1, x38.2) w18) w17)) w16) w10) (
C_intern_Store_Power v0_s x13 x22 (fun x39 w19 =>
nilIfcK x39.2 fun b40 =>
gd (!b40) (
K ((0 : Int), x39.2) w19) (
C_balance_Of v0_s x39.1 (fun x41 w20 =>
K (x41.1, x41.2) w20) w19)) w10))))) w9) w8) w7) w6))) w1
theorem S_top_made (v0_s : Option Addr) (v1_ids : Sl) (v2_texts : Sl) (v3_m : yevergreentop_Make.T) (K : (Int × Value) → World → Prop) (w0 : World) (h : F_top_made v0_s v1_ids v2_texts v3_m K w0) : C_top_made v0_s v1_ids v2_texts v3_m K w0 := by
  have e : denFn P [(3, [(30, .bool)])] Tryz.f62 #[.pointer v0_s, .slice v1_ids.a v1_ids.len v1_ids.cap, .slice v2_texts.a v2_texts.len v2_texts.cap, val yevergreentop_Make v3_m] (.tup (.pair (.int .i64) .iface)) K w0 = F_top_made v0_s v1_ids v2_texts v3_m K w0 := by kernel_rfl
  exact fn_sound mixed (f := 62) Tryz.func62 (by kernel_rfl) (e.mpr h)

end Go.Proofs.YtcmncfglcjcmhaaGreat
