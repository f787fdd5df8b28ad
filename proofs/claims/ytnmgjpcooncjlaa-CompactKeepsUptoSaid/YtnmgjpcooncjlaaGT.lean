/- Texts that belong together, joined: TextC, Text1. No conditions. -/
import Derived.Test.YtnmgjpcooncjlaaProg
import Derived.Test.YtnmgjpcooncjlaaDenC
/- The typed texts of the functions, printed by a program; each proved to imply the call. -/
set_option linter.unusedVariables false
set_option maxRecDepth 100000
namespace Go.Proofs.Ytnmgjpcooncjlaa
open Go.Den

noncomputable def P : Program := Try.prog
theorem mixed : P.follows .mixedOrders = true := by kernel_rfl

abbrev t_ : Nat := 0
abbrev t_int : Nat := 3
abbrev t_bool : Nat := 4
abbrev t_uint8 : Nat := 5
abbrev t_string : Nat := 9
abbrev t_evergreenlaw51_Input : Nat := 26
abbrev t_sl_int : Nat := 31
abbrev t_evergreenref12_Store : Nat := 41
abbrev t_evergreenlaw51_world : Nat := 46
abbrev t_evergreenlaw51_Commit : Nat := 52
abbrev t_api_ID : Nat := 61
abbrev t_api_Commit : Nat := 66
abbrev t_evergreenlaw51_Name : Nat := 68
abbrev t_api_Errno : Nat := 73
abbrev t_map_api_Rule_api_ID : Nat := 80
abbrev t_intern_Store : Nat := 83
abbrev t_history_Graph : Nat := 86
abbrev t_map_string_refs_target : Nat := 87
abbrev t_refs_Table : Nat := 89
abbrev t_evergreenref12_Make : Nat := 91
abbrev t_sl_uint8 : Nat := 101
abbrev t_refs_target : Nat := 104
abbrev t_api_Rule : Nat := 110
abbrev t_api_Digest : Nat := 115
abbrev t_api_Weight : Nat := 117
abbrev t_intern_entry : Nat := 120

abbrev yevergreenlaw51_Input : Ty := .st (.pair .slice (.pair .slice .slice))
abbrev yevergreenlaw51_Commit : Ty := .st (.pair .slice (.int .i64))
abbrev yevergreenref12_Store : Ty := .st (.pair .slice .slice)
abbrev yevergreenlaw51_world : Ty := .st (.pair .ptr (.pair .ptr (.pair .ptr (.pair yevergreenref12_Store (.pair .slice (.pair .slice (.pair .slice .slice)))))))
abbrev yapi_Commit : Ty := .st (.pair .slice (.pair (.int .i64) .str))
abbrev yevergreenlaw51_Name : Ty := .st (.pair .bool (.int .i64))
abbrev yintern_Store : Ty := .st (.pair (.int .i64) (.pair .slice .map))
abbrev yhistory_Graph : Ty := .st .slice
abbrev yrefs_Table : Ty := .st .map
abbrev yevergreenref12_Make : Ty := .st (.pair (.int .i64) (.pair (.int .u8) (.pair (.int .i64) (.pair (.int .i64) (.int .i64)))))
abbrev yrefs_target : Ty := .st (.pair (.int .i64) .bool)
abbrev yapi_Rule : Ty := .st (.pair (.int .i64) (.pair (.int .u8) (.pair (.int .i64) (.pair (.int .i64) (.int .i64)))))
abbrev yapi_Digest : Ty := .st (.pair (.int .u64) (.int .u64))
abbrev yapi_Weight : Ty := .st (.pair (.int .i64) (.pair (.int .i64) (.pair (.int .i64) (.pair (.int .i64) yapi_Digest))))
abbrev yintern_entry : Ty := .st (.pair yapi_Rule (.pair yapi_Weight (.pair (.int .i64) .bool)))

instance : EntTys := ⟨fun o => match o.dst with
  | some 15 => some (.str, yrefs_target)
  | _ => none⟩

def C_law51_CompactKeeps (v0_x : yevergreenlaw51_Input.T) (K : Bool → World → Prop) (w0 : World) : Prop := callP P 3 #[val yevergreenlaw51_Input v0_x] .bool w0 K
def C_law51_good (v0_x : yevergreenlaw51_Input.T) (K : Bool → World → Prop) (w0 : World) : Prop := callP P 4 #[val yevergreenlaw51_Input v0_x] .bool w0 K
def C_law51_begun (v0_x : yevergreenlaw51_Input.T) (K : ((Option Addr) × Bool) → World → Prop) (w0 : World) : Prop := callP P 5 #[val yevergreenlaw51_Input v0_x] (.tup (.pair .ptr .bool)) w0 K
def C_compact_Keep (v0_g : Option Addr) (v1_r : Option Addr) (K : (Sl × Value) → World → Prop) (w0 : World) : Prop := callP P 6 #[.pointer v0_g, .pointer v1_r] (.tup (.pair .slice .iface)) w0 K
def C_ref51_Keep (v0_parents : Sl) (v1_targets : Sl) (K : (Sl × Bool) → World → Prop) (w0 : World) : Prop := callP P 7 #[.slice v0_parents.a v0_parents.len v0_parents.cap, .slice v1_targets.a v1_targets.len v1_targets.cap] (.tup (.pair .slice .bool)) w0 K
def C_base_Ints (v0_a : Sl) (v1_b : Sl) (K : Bool → World → Prop) (w0 : World) : Prop := callP P 8 #[.slice v0_a.a v0_a.len v0_a.cap, .slice v1_b.a v1_b.len v1_b.cap] .bool w0 K
def C_intern_New (v0_most : Int) (K : (Option Addr) → World → Prop) (w0 : World) : Prop := callP P 9 #[.int .i64 v0_most] .ptr w0 K
def C_history_New  (K : (Option Addr) → World → Prop) (w0 : World) : Prop := callP P 10 #[] .ptr w0 K
def C_refs_New  (K : (Option Addr) → World → Prop) (w0 : World) : Prop := callP P 11 #[] .ptr w0 K
def C_law12_Build (v0_s : Option Addr) (v1_list : Sl) (K : (Sl × Bool) → World → Prop) (w0 : World) : Prop := callP P 12 #[.pointer v0_s, .slice v1_list.a v1_list.len v1_list.cap] (.tup (.pair .slice .bool)) w0 K
def C_ref12_Build (v0_list : Sl) (K : (yevergreenref12_Store.T × Sl) → World → Prop) (w0 : World) : Prop := callP P 13 #[.slice v0_list.a v0_list.len v0_list.cap] (.tup (.pair yevergreenref12_Store .slice)) w0 K
def C_ref12_Pick (v0_n : Int) (v1_many : Int) (K : Int → World → Prop) (w0 : World) : Prop := callP P 14 #[.int .i64 v0_n, .int .i64 v1_many] (.int .i64) w0 K
def C_history_Graph_Add (v0_g : Option Addr) (v1_c : yapi_Commit.T) (K : (Int × Value) → World → Prop) (w0 : World) : Prop := callP P 15 #[.pointer v0_g, val yapi_Commit v1_c] (.tup (.pair (.int .i64) .iface)) w0 K
def C_law51_name (v0_i : Int) (K : ByteArray → World → Prop) (w0 : World) : Prop := callP P 16 #[.int .i64 v0_i] .str w0 K
def C_refs_Table_Branch (v0_t : Option Addr) (v1_name : ByteArray) (v2_old : Int) (v3_n : Int) (K : Value → World → Prop) (w0 : World) : Prop := callP P 17 #[.pointer v0_t, .string v1_name, .int .i64 v2_old, .int .i64 v3_n] .iface w0 K
def C_refs_Table_Drop (v0_t : Option Addr) (v1_name : ByteArray) (K : Value → World → Prop) (w0 : World) : Prop := callP P 18 #[.pointer v0_t, .string v1_name] .iface w0 K
def C_refs_Table_Tag (v0_t : Option Addr) (v1_name : ByteArray) (v2_n : Int) (K : Value → World → Prop) (w0 : World) : Prop := callP P 19 #[.pointer v0_t, .string v1_name, .int .i64 v2_n] .iface w0 K
def C_law51_alive  (K : Bool → World → Prop) (w0 : World) : Prop := callP P 20 #[] .bool w0 K
def C_history_Graph_Len (v0_g : Option Addr) (K : Int → World → Prop) (w0 : World) : Prop := callP P 21 #[.pointer v0_g] (.int .i64) w0 K
def C_refs_Table_Targets (v0_t : Option Addr) (K : Sl → World → Prop) (w0 : World) : Prop := callP P 22 #[.pointer v0_t] .slice w0 K
def C_history_Graph_Get (v0_g : Option Addr) (v1_n : Int) (K : (yapi_Commit.T × Value) → World → Prop) (w0 : World) : Prop := callP P 23 #[.pointer v0_g, .int .i64 v1_n] (.tup (.pair yapi_Commit .iface)) w0 K
def C_slices_Reverse (v0_s : Sl) (K : Unit → World → Prop) (w0 : World) : Prop := callP P 24 #[.slice v0_s.a v0_s.len v0_s.cap] (.tup .unit) w0 K
def C_length_Clip (v0_n : Int) (v1_low : Int) (v2_high : Int) (K : Int → World → Prop) (w0 : World) : Prop := callP P 25 #[.int .i64 v0_n, .int .i64 v1_low, .int .i64 v2_high] (.int .i64) w0 K
def C_intern_Store_Letter (v0_s : Option Addr) (v1_b : Int) (K : (Int × Value) → World → Prop) (w0 : World) : Prop := callP P 26 #[.pointer v0_s, .int .u8 v1_b] (.tup (.pair (.int .i64) .iface)) w0 K
def C_intern_Store_Power (v0_s : Option Addr) (v1_x : Int) (v2_k : Int) (K : (Int × Value) → World → Prop) (w0 : World) : Prop := callP P 27 #[.pointer v0_s, .int .i64 v1_x, .int .i64 v2_k] (.tup (.pair (.int .i64) .iface)) w0 K
def C_intern_Store_Pair (v0_s : Option Addr) (v1_l : Int) (v2_r : Int) (K : (Int × Value) → World → Prop) (w0 : World) : Prop := callP P 28 #[.pointer v0_s, .int .i64 v1_l, .int .i64 v2_r] (.tup (.pair (.int .i64) .iface)) w0 K
def C_ref12_One (v0_s : yevergreenref12_Store.T) (v1_m : yevergreenref12_Make.T) (v2_results : Sl) (K : (yevergreenref12_Store.T × Int) → World → Prop) (w0 : World) : Prop := callP P 29 #[val yevergreenref12_Store v0_s, val yevergreenref12_Make v1_m, .slice v2_results.a v2_results.len v2_results.cap] (.tup (.pair yevergreenref12_Store (.int .i64))) w0 K
def C_history_Graph_has (v0_g : Option Addr) (v1_n : Int) (K : Bool → World → Prop) (w0 : World) : Prop := callP P 30 #[.pointer v0_g, .int .i64 v1_n] .bool w0 K
def C_slices_Contains (v0_s : Sl) (v1_v : Int) (K : Bool → World → Prop) (w0 : World) : Prop := callP P 31 #[.slice v0_s.a v0_s.len v0_s.cap, .int .i64 v1_v] .bool w0 K
def C_slices_Clone (v0_s : Sl) (K : Sl → World → Prop) (w0 : World) : Prop := callP P 32 #[.slice v0_s.a v0_s.len v0_s.cap] .slice w0 K
def C_refs_Valid (v0_name : ByteArray) (K : Bool → World → Prop) (w0 : World) : Prop := callP P 33 #[.string v0_name] .bool w0 K
def C_refs_Table_set (v0_t : Option Addr) (v1_name : ByteArray) (v2_to : yrefs_target.T) (K : Unit → World → Prop) (w0 : World) : Prop := callP P 34 #[.pointer v0_t, .string v1_name, val yrefs_target v2_to] (.tup .unit) w0 K
def C_refs_Table_Get (v0_t : Option Addr) (v1_name : ByteArray) (K : (Int × Bool × Value) → World → Prop) (w0 : World) : Prop := callP P 35 #[.pointer v0_t, .string v1_name] (.tup (.pair (.int .i64) (.pair .bool .iface))) w0 K
def C_slices_SortI (a0 : Sl) (K : Unit → World → Prop) (w0 : World) : Prop := callP P 36 #[.slice a0.a a0.len a0.cap] (.tup .unit) w0 K
def C_slices_Compact (v0_s : Sl) (K : Sl → World → Prop) (w0 : World) : Prop := callP P 37 #[.slice v0_s.a v0_s.len v0_s.cap] .slice w0 K
def C_intern_Store_find (v0_s : Option Addr) (v1_r : yapi_Rule.T) (K : (Int × Value) → World → Prop) (w0 : World) : Prop := callP P 38 #[.pointer v0_s, val yapi_Rule v1_r] (.tup (.pair (.int .i64) .iface)) w0 K
def C_intern_Store_add (v0_s : Option Addr) (v1_e : yintern_entry.T) (K : Int → World → Prop) (w0 : World) : Prop := callP P 39 #[.pointer v0_s, val yintern_entry v1_e] (.int .i64) w0 K
def C_weight_Letter (v0_b : Int) (K : yapi_Weight.T → World → Prop) (w0 : World) : Prop := callP P 40 #[.int .u8 v0_b] yapi_Weight w0 K
def C_intern_Store_known (v0_s : Option Addr) (v1_id : Int) (K : Bool → World → Prop) (w0 : World) : Prop := callP P 41 #[.pointer v0_s, .int .i64 v1_id] .bool w0 K
def C_intern_Store_at (v0_s : Option Addr) (v1_id : Int) (K : yintern_entry.T → World → Prop) (w0 : World) : Prop := callP P 42 #[.pointer v0_s, .int .i64 v1_id] yintern_entry w0 K
def C_length_Mul (v0_a : Int) (v1_k : Int) (K : (Int × Value) → World → Prop) (w0 : World) : Prop := callP P 43 #[.int .i64 v0_a, .int .i64 v1_k] (.tup (.pair (.int .i64) .iface)) w0 K
def C_weight_Repeat (v0_w : yapi_Weight.T) (v1_k : Int) (K : (yapi_Weight.T × Value) → World → Prop) (w0 : World) : Prop := callP P 44 #[val yapi_Weight v0_w, .int .i64 v1_k] (.tup (.pair yapi_Weight .iface)) w0 K
def C_length_Add (v0_a : Int) (v1_b : Int) (K : (Int × Value) → World → Prop) (w0 : World) : Prop := callP P 45 #[.int .i64 v0_a, .int .i64 v1_b] (.tup (.pair (.int .i64) .iface)) w0 K
def C_weight_Join (v0_a : yapi_Weight.T) (v1_b : yapi_Weight.T) (K : (yapi_Weight.T × Value) → World → Prop) (w0 : World) : Prop := callP P 46 #[val yapi_Weight v0_a, val yapi_Weight v1_b] (.tup (.pair yapi_Weight .iface)) w0 K
def C_ref12_Add (v0_s : yevergreenref12_Store.T) (v1_r : yapi_Rule.T) (v2_length : Int) (K : (yevergreenref12_Store.T × Int) → World → Prop) (w0 : World) : Prop := callP P 47 #[val yevergreenref12_Store v0_s, val yapi_Rule v1_r, .int .i64 v2_length] (.tup (.pair yevergreenref12_Store (.int .i64))) w0 K
def C_ref12_Length (v0_s : yevergreenref12_Store.T) (v1_id : Int) (K : Int → World → Prop) (w0 : World) : Prop := callP P 48 #[val yevergreenref12_Store v0_s, .int .i64 v1_id] (.int .i64) w0 K
def C_slices_Index (v0_s : Sl) (v1_v : Int) (K : Int → World → Prop) (w0 : World) : Prop := callP P 49 #[.slice v0_s.a v0_s.len v0_s.cap, .int .i64 v1_v] (.int .i64) w0 K
def C_bits_Len (v0_x : Int) (K : Int → World → Prop) (w0 : World) : Prop := callP P 51 #[.int .u64 v0_x] (.int .i64) w0 K
def C_digest_Letter (v0_b : Int) (K : yapi_Digest.T → World → Prop) (w0 : World) : Prop := callP P 52 #[.int .u8 v0_b] yapi_Digest w0 K
def C_weight_Unit  (K : yapi_Weight.T → World → Prop) (w0 : World) : Prop := callP P 53 #[] yapi_Weight w0 K
def C_length_Valid (v0_n : Int) (K : Bool → World → Prop) (w0 : World) : Prop := callP P 54 #[.int .i64 v0_n] .bool w0 K
def C_weight_Valid (v0_w : yapi_Weight.T) (K : Bool → World → Prop) (w0 : World) : Prop := callP P 55 #[val yapi_Weight v0_w] .bool w0 K
def C_digest_Repeat (v0_d : yapi_Digest.T) (v1_k : Int) (K : yapi_Digest.T → World → Prop) (w0 : World) : Prop := callP P 56 #[val yapi_Digest v0_d, .int .i64 v1_k] yapi_Digest w0 K
def C_digest_Join (v0_a : yapi_Digest.T) (v1_b : yapi_Digest.T) (K : yapi_Digest.T → World → Prop) (w0 : World) : Prop := callP P 57 #[val yapi_Digest v0_a, val yapi_Digest v1_b] yapi_Digest w0 K
def C_bits_Len32 (v0_x : Int) (K : Int → World → Prop) (w0 : World) : Prop := callP P 67 #[.int .u32 v0_x] (.int .i64) w0 K
def C_bits_Len64 (v0_x : Int) (K : Int → World → Prop) (w0 : World) : Prop := callP P 68 #[.int .u64 v0_x] (.int .i64) w0 K
def C_digest_Unit  (K : yapi_Digest.T → World → Prop) (w0 : World) : Prop := callP P 69 #[] yapi_Digest w0 K
def C_modular_Pow (v0_a : Int) (v1_n : Int) (K : Int → World → Prop) (w0 : World) : Prop := callP P 70 #[.int .u64 v0_a, .int .u64 v1_n] (.int .u64) w0 K
def C_modular_Add (v0_a : Int) (v1_b : Int) (K : Int → World → Prop) (w0 : World) : Prop := callP P 71 #[.int .u64 v0_a, .int .u64 v1_b] (.int .u64) w0 K
def C_modular_Mul (v0_a : Int) (v1_b : Int) (K : Int → World → Prop) (w0 : World) : Prop := callP P 72 #[.int .u64 v0_a, .int .u64 v1_b] (.int .u64) w0 K
def C_modular_Reduce (v0_x : Int) (K : Int → World → Prop) (w0 : World) : Prop := callP P 79 #[.int .u64 v0_x] (.int .u64) w0 K
def C_bits_Mul64 (v0_x : Int) (v1_y : Int) (K : (Int × Int) → World → Prop) (w0 : World) : Prop := callP P 80 #[.int .u64 v0_x, .int .u64 v1_y] (.tup (.pair (.int .u64) (.int .u64))) w0 K

end Go.Proofs.Ytnmgjpcooncjlaa

/- The typed texts of the functions, printed by a program; each proved to imply the call. -/
set_option linter.unusedVariables false
set_option maxRecDepth 100000
set_option maxHeartbeats 4000000
namespace Go.Proofs.Ytnmgjpcooncjlaa
open Go.Den

def F_law51_CompactKeeps (v0_x : yevergreenlaw51_Input.T) (K : Bool → World → Prop) (w0 : World) : Prop :=
allocK (.cells (cells yevergreenlaw51_Input v0_x).toArray t_evergreenlaw51_Input) w0 fun a1 w1 =>
∃ x2 : yevergreenlaw51_Input.T, At w1 a1 (cells yevergreenlaw51_Input x2) ∧
C_law51_good x2 (fun x3 w2 =>
gd (!x3) (
K true w2) (
∃ x4 : yevergreenlaw51_Input.T, At w2 a1 (cells yevergreenlaw51_Input x4) ∧
C_law51_begun x4 (fun x5 w3 =>
gd (!x5.2) (
K false w3) (
drawK w3 fun w4 =>
nonNil x5.1 fun p6 =>
∃ x7 : Option Addr, At w4 (p6.add 1) (cells .ptr x7) ∧
nonNil x5.1 fun p8 =>
∃ x9 : Option Addr, At w4 (p8.add 2) (cells .ptr x9) ∧
C_compact_Keep x7 x9 (fun x10 w5 =>
drawK w5 fun w6 =>
nonNil x5.1 fun p11 =>
∃ x12 : Sl, At w6 (p11.add 5) (cells .slice x12) ∧
nonNil x5.1 fun p13 =>
∃ x14 : Sl, At w6 (p13.add 8) (cells .slice x14) ∧
C_ref51_Keep x12 x14 (fun x15 w7 =>
LoopP (X := Sl × Int × Unit) (⟨none, 0, 0⟩, (0 : Int), ()) w7 fun next17 x16 w8 => ∀ _ : Env,
gd (decide (x16.2.1 < (x15.1.len : Int))) (
JoinP (X := Sl × Unit) (fun R19 =>
idxK x15.1.a x15.1.len x16.2.1 1 fun p20 =>
∃ x21 : Bool, At w8 p20 (cells .bool x21) ∧
gd x21 (
allocK (.cells #[.int .i64 x16.2.1] t_int) w8 fun a22 w10 =>
appK t_int 1 8 #[.int .i64 (0 : Int)] x16.1.a x16.1.len x16.1.cap (.slice (some a22) 1 1) 1 w10 fun s23 w11 =>
R19 (s23, ()) w11) (
R19 (x16.1, ()) w8)) (fun x18 w9 => ∀ _ : Env,
arith .i64 (x16.2.1 + (1 : Int)) fun n24 =>
next17 (x18.1, n24, ()) w9)) (
nilIfcK x10.2 fun b25 =>
gd b25 (
C_base_Ints x10.1 x16.1 (fun x26 w12 =>
K x26 w12) w8) (
K false w8))) w6) w4)) w2)) w1
theorem S_law51_CompactKeeps (v0_x : yevergreenlaw51_Input.T) (K : Bool → World → Prop) (w0 : World) (h : F_law51_CompactKeeps v0_x K w0) : C_law51_CompactKeeps v0_x K w0 := by
  have e : denFn P [(1010, [(9, .slice), (48, .int .i64)]), (14, [(9, .slice)])] Try.f3 #[val yevergreenlaw51_Input v0_x] .bool K w0 = F_law51_CompactKeeps v0_x K w0 := by kernel_rfl
  exact fn_sound mixed (f := 3) Try.func3 (by kernel_rfl) (e.mpr h)

def F_law51_good (v0_x : yevergreenlaw51_Input.T) (K : Bool → World → Prop) (w0 : World) : Prop :=
allocK (.cells (cells yevergreenlaw51_Input v0_x).toArray t_evergreenlaw51_Input) w0 fun a1 w1 =>
∃ x2 : Sl, At w1 (a1.add 0) (cells .slice x2) ∧
∃ x3 : Sl, At w1 (a1.add 1) (cells .slice x3) ∧
arith .i64 ((x2.len : Int) + (x3.len : Int)) fun n4 =>
∃ x5 : Sl, At w1 (a1.add 2) (cells .slice x5) ∧
arith .i64 (n4 + (x5.len : Int)) fun n6 =>
∃ x7 : Sl, At w1 (a1.add 1) (cells .slice x7) ∧
LoopP (X := Int × Int × Unit) (n6, (0 : Int), ()) w1 fun next9 x8 w2 => ∀ _ : Env,
gd (decide (x8.2.1 < (x7.len : Int))) (
idxK x7.a x7.len x8.2.1 2 fun p10 =>
∃ x11 : yevergreenlaw51_Commit.T, At w2 p10 (cells yevergreenlaw51_Commit x11) ∧
allocK (.cells #[.slice none 0 0, .int .i64 (0 : Int)] t_evergreenlaw51_Commit) w2 fun a12 w3 =>
stK w3 a12 (cells yevergreenlaw51_Commit x11) fun w4 =>
∃ x13 : Sl, At w4 (a12.add 0) (cells .slice x13) ∧
arith .i64 (x8.1 + (x13.len : Int)) fun n14 =>
arith .i64 (x8.2.1 + (1 : Int)) fun n15 =>
next9 (n14, n15, ()) w4) (
K (decide (x8.1 ≤ (90 : Int))) w2)
theorem S_law51_good (v0_x : yevergreenlaw51_Input.T) (K : Bool → World → Prop) (w0 : World) (h : F_law51_good v0_x K w0) : C_law51_good v0_x K w0 := by
  have e : denFn P [(1003, [(3, .int .i64), (20, .int .i64)])] Try.f4 #[val yevergreenlaw51_Input v0_x] .bool K w0 = F_law51_good v0_x K w0 := by kernel_rfl
  exact fn_sound mixed (f := 4) Try.func4 (by kernel_rfl) (e.mpr h)

def F_law51_begun (v0_x : yevergreenlaw51_Input.T) (K : ((Option Addr) × Bool) → World → Prop) (w0 : World) : Prop :=
allocK (.cells (cells yevergreenlaw51_Input v0_x).toArray t_evergreenlaw51_Input) w0 fun a1 w1 =>
C_intern_New (1000 : Int) (fun x2 w2 =>
C_history_New  (fun x3 w3 =>
C_refs_New  (fun x4 w4 =>
allocK (.cells ([.pointer x2, .pointer x3, .pointer x4, .slice none 0 0, .slice none 0 0, .slice none 0 0, .slice none 0 0, .slice none 0 0, .slice none 0 0]).toArray t_evergreenlaw51_world) w4 fun a5 w5 =>
drawK w5 fun w6 =>
nonNil (some a5) fun p6 =>
∃ x7 : Option Addr, At w6 (p6.add 0) (cells .ptr x7) ∧
∃ x8 : Sl, At w6 (a1.add 0) (cells .slice x8) ∧
C_law12_Build x7 x8 (fun x9 w7 =>
JoinP (X := Bool × Unit) (fun R11 =>
gd (!x9.2) (
R11 (true, ()) w7) (
nonNil (some a5) fun p12 =>
∃ x13 : Option Addr, At w7 (p12.add 1) (cells .ptr x13) ∧
gd x13.isNone (
R11 (true, ()) w7) (
nonNil (some a5) fun p14 =>
∃ x15 : Option Addr, At w7 (p14.add 2) (cells .ptr x15) ∧
R11 (x15.isNone, ()) w7))) (fun x10 w8 => ∀ _ : Env,
gd x10.1 (
K (none, false) w8) (
∃ x16 : Sl, At w8 (a1.add 0) (cells .slice x16) ∧
C_ref12_Build x16 (fun x17 w9 =>
nonNil (some a5) fun p18 =>
stK w9 (p18.add 3) (cells yevergreenref12_Store x17.1) fun w10 =>
∃ x19 : Sl, At w10 (a1.add 1) (cells .slice x19) ∧
LoopP (X := Int × Unit) ((0 : Int), ()) w10 fun next21 x20 w11 => ∀ _ : Env,
gd (decide (x20.1 < (x19.len : Int))) (
idxK x19.a x19.len x20.1 2 fun p22 =>
∃ x23 : yevergreenlaw51_Commit.T, At w11 p22 (cells yevergreenlaw51_Commit x23) ∧
allocK (.cells #[.slice none 0 0, .int .i64 (0 : Int)] t_evergreenlaw51_Commit) w11 fun a24 w12 =>
stK w12 a24 (cells yevergreenlaw51_Commit x23) fun w13 =>
∃ x25 : Sl, At w13 (a24.add 0) (cells .slice x25) ∧
LoopP (X := Sl × Int × Unit) (⟨none, 0, 0⟩, (0 : Int), ()) w13 fun next27 x26 w14 => ∀ _ : Env,
gd (decide (x26.2.1 < (x25.len : Int))) (
JoinP (X := Sl × Unit) (fun R29 =>
idxK x25.a x25.len x26.2.1 1 fun p30 =>
∃ x31 : Int, At w14 p30 (cells (.int .i64) x31) ∧
JoinP (X := Bool × Unit) (fun R33 =>
gd (decide ((0 : Int) < x20.1)) (
R33 (decide ((x26.1.len : Int) < (8 : Int)), ()) w14) (
R33 (false, ()) w14)) (fun x32 w16 => ∀ _ : Env,
gd x32.1 (
C_ref12_Pick x31 x20.1 (fun x34 w17 =>
LoopP (X := Bool × Int × Unit) (false, (0 : Int), ()) w17 fun next36 x35 w18 => ∀ _ : Env,
gd (decide (x35.2.1 < (x26.1.len : Int))) (
JoinP (X := Bool × Unit) (fun R38 =>
idxK x26.1.a x26.1.len x35.2.1 1 fun p39 =>
∃ x40 : Int, At w18 p39 (cells (.int .i64) x40) ∧
gd x35.1 (
R38 (true, ()) w18) (
R38 (x34 == x40, ()) w18)) (fun x37 w19 => ∀ _ : Env,
arith .i64 (x35.2.1 + (1 : Int)) fun n41 =>
next36 (x37.1, n41, ()) w19)) (
gd (!x35.1) (
allocK (.cells #[.int .i64 x34] t_int) w18 fun a42 w20 =>
appK t_int 1 8 #[.int .i64 (0 : Int)] x26.1.a x26.1.len x26.1.cap (.slice (some a42) 1 1) 1 w20 fun s43 w21 =>
R29 (s43, ()) w21) (
R29 (x26.1, ()) w18))) w16) (
R29 (x26.1, ()) w16))) (fun x28 w15 => ∀ _ : Env,
arith .i64 (x26.2.1 + (1 : Int)) fun n44 =>
next27 (x28.1, n44, ()) w15)) (
∃ x45 : Int, At w14 (a24.add 1) (cells (.int .i64) x45) ∧
C_ref12_Pick x45 (x9.1.len : Int) (fun x46 w22 =>
idxK x9.1.a x9.1.len x46 1 fun p47 =>
∃ x48 : Int, At w22 p47 (cells (.int .i64) x48) ∧
drawK w22 fun w23 =>
nonNil (some a5) fun p49 =>
∃ x50 : Option Addr, At w23 (p49.add 1) (cells .ptr x50) ∧
C_law51_name x20.1 (fun x51 w24 =>
At w24 (p49.add 1) (cells .ptr x50) ∧
C_history_Graph_Add x50 (x26.1, (x48, x51)) (fun x52 w25 =>
JoinP (X := Bool × Unit) (fun R54 =>
nilIfcK x52.2 fun b55 =>
gd (!b55) (
R54 (true, ()) w25) (
R54 (x52.1 != x20.1, ()) w25)) (fun x53 w26 => ∀ _ : Env,
gd x53.1 (
K (none, false) w26) (
nonNil (some a5) fun p56 =>
∃ x57 : Sl, At w26 (p56.add 5) (cells .slice x57) ∧
allocK (.cells #[.slice x26.1.a x26.1.len x26.1.cap] t_sl_int) w26 fun a58 w27 =>
appK t_sl_int 1 24 #[.slice none 0 0] x57.a x57.len x57.cap (.slice (some a58) 1 1) 1 w27 fun s59 w28 =>
nonNil (some a5) fun p60 =>
stK w28 (p60.add 5) ([.slice s59.a s59.len s59.cap]) fun w29 =>
nonNil (some a5) fun p61 =>
∃ x62 : Sl, At w29 (p61.add 6) (cells .slice x62) ∧
allocK (.cells #[.int .i64 x48] t_api_ID) w29 fun a63 w30 =>
appK t_api_ID 1 8 #[.int .i64 (0 : Int)] x62.a x62.len x62.cap (.slice (some a63) 1 1) 1 w30 fun s64 w31 =>
nonNil (some a5) fun p65 =>
stK w31 (p65.add 6) ([.slice s64.a s64.len s64.cap]) fun w32 =>
arith .i64 (x20.1 + (1 : Int)) fun n66 =>
next21 (n66, ()) w32))) w24) w23) w14)) (
JoinP (X := Unit) (fun R68 =>
∃ x69 : Sl, At w11 (a1.add 2) (cells .slice x69) ∧
LoopP (X := Int × Unit) ((0 : Int), ()) w11 fun next71 x70 w34 => ∀ _ : Env,
gd (decide (x70.1 < (x69.len : Int))) (
idxK x69.a x69.len x70.1 2 fun p72 =>
∃ x73 : yevergreenlaw51_Name.T, At w34 p72 (cells yevergreenlaw51_Name x73) ∧
allocK (.cells #[.bool false, .int .i64 (0 : Int)] t_evergreenlaw51_Name) w34 fun a74 w35 =>
stK w35 a74 (cells yevergreenlaw51_Name x73) fun w36 =>
nonNil (some a5) fun p75 =>
∃ x76 : Sl, At w36 (p75.add 5) (cells .slice x76) ∧
gd ((x76.len : Int) == (0 : Int)) (
R68 () w36) (
drawK w36 fun w37 =>
∃ x77 : Int, At w37 (a74.add 1) (cells (.int .i64) x77) ∧
nonNil (some a5) fun p78 =>
∃ x79 : Sl, At w37 (p78.add 5) (cells .slice x79) ∧
C_ref12_Pick x77 (x79.len : Int) (fun x80 w38 =>
drawK w38 fun w39 =>
nonNil (some a5) fun p81 =>
∃ x82 : Option Addr, At w39 (p81.add 2) (cells .ptr x82) ∧
C_law51_name x70.1 (fun x83 w40 =>
At w40 (p81.add 2) (cells .ptr x82) ∧
C_refs_Table_Branch x82 x83 (-1 : Int) x80 (fun x84 w41 =>
JoinP (X := Value × Unit) (fun R86 =>
∃ x87 : Bool, At w41 (a74.add 0) (cells .bool x87) ∧
gd x87 (
drawK w41 fun w43 =>
nonNil (some a5) fun p88 =>
∃ x89 : Option Addr, At w43 (p88.add 2) (cells .ptr x89) ∧
C_law51_name x70.1 (fun x90 w44 =>
At w44 (p88.add 2) (cells .ptr x89) ∧
C_refs_Table_Drop x89 x90 (fun x91 w45 =>
drawK w45 fun w46 =>
nonNil (some a5) fun p92 =>
∃ x93 : Option Addr, At w46 (p92.add 2) (cells .ptr x93) ∧
C_law51_name x70.1 (fun x94 w47 =>
At w47 (p92.add 2) (cells .ptr x93) ∧
C_refs_Table_Tag x93 x94 x80 (fun x95 w48 =>
R86 (x95, ()) w48) w47) w46) w44) w43) (
R86 (x84, ()) w41)) (fun x85 w42 => ∀ _ : Env,
nilIfcK x85.1 fun b96 =>
gd (!b96) (
K (none, false) w42) (
drawK w42 fun w49 =>
nonNil (some a5) fun p97 =>
∃ x98 : Sl, At w49 (p97.add 7) (cells .slice x98) ∧
C_law51_name x70.1 (fun x99 w50 =>
At w50 (p97.add 7) (cells .slice x98) ∧
allocK (.cells #[.string x99] t_string) w50 fun a100 w51 =>
At w51 (p97.add 7) (cells .slice x98) ∧
appK t_string 1 16 #[.string (⟨#[]⟩ : ByteArray)] x98.a x98.len x98.cap (.slice (some a100) 1 1) 1 w51 fun s101 w52 =>
nonNil (some a5) fun p102 =>
stK w52 (p102.add 7) ([.slice s101.a s101.len s101.cap]) fun w53 =>
nonNil (some a5) fun p103 =>
∃ x104 : Sl, At w53 (p103.add 8) (cells .slice x104) ∧
allocK (.cells #[.int .i64 x80] t_int) w53 fun a105 w54 =>
appK t_int 1 8 #[.int .i64 (0 : Int)] x104.a x104.len x104.cap (.slice (some a105) 1 1) 1 w54 fun s106 w55 =>
nonNil (some a5) fun p107 =>
stK w55 (p107.add 8) ([.slice s106.a s106.len s106.cap]) fun w56 =>
arith .i64 (x70.1 + (1 : Int)) fun n108 =>
next71 (n108, ()) w56) w49))) w40) w39) w37)) (
R68 () w34)) (fun x67 w33 => ∀ _ : Env,
C_law51_alive  (fun x109 w57 =>
K (some a5, x109) w57) w33))) w8))) w6) w3) w2) w1
theorem S_law51_begun (v0_x : yevergreenlaw51_Input.T) (K : ((Option Addr) × Bool) → World → Prop) (w0 : World) (h : F_law51_begun v0_x K w0) : C_law51_begun v0_x K w0 := by
  have e : denFn P [(4, [(52, .bool)]), (1007, [(65, .int .i64)]), (1011, [(9, .slice), (73, .int .i64)]), (23, [(9, .slice)]), (14, [(83, .bool)]), (1017, [(12, .bool), (89, .int .i64)]), (20, [(12, .bool)]), (27, [(134, .bool)]), (45, []), (1032, [(159, .int .i64)]), (40, [(21, .iface)])] Try.f5 #[val yevergreenlaw51_Input v0_x] (.tup (.pair .ptr .bool)) K w0 = F_law51_begun v0_x K w0 := by kernel_rfl
  exact fn_sound mixed (f := 5) Try.func5 (by kernel_rfl) (e.mpr h)

def F_compact_Keep (v0_g : Option Addr) (v1_r : Option Addr) (K : (Sl × Value) → World → Prop) (w0 : World) : Prop :=
JoinP (X := Bool × Unit) (fun R2 =>
gd v0_g.isNone (
R2 (true, ()) w0) (
R2 (v1_r.isNone, ()) w0)) (fun x1 w1 => ∀ _ : Env,
gd x1.1 (
K (⟨none, 0, 0⟩, .iface t_api_Errno (.int .i64 (5 : Int))) w1) (
C_history_Graph_Len v0_g (fun x3 w2 =>
0 ≤ x3 ∧ x3 ≤ x3 ∧ x3 ≤ 9223372036854775807 ∧ 1 * x3 ≤ 281474976710656 ∧
allocK (.cells (zrow #[.bool false] (x3.toNat * 1)) t_bool) w2 fun a4 w3 =>
C_refs_Table_Targets v1_r (fun x5 w4 =>
LoopP (X := Int × Unit) ((0 : Int), ()) w4 fun next7 x6 w5 => ∀ _ : Env,
gd (decide (x6.1 < (x5.len : Int))) (
idxK x5.a x5.len x6.1 1 fun p8 =>
∃ x9 : Int, At w5 p8 (cells (.int .i64) x9) ∧
gd (decide ((x3.toNat : Int) ≤ x9)) (
K (⟨none, 0, 0⟩, .iface t_api_Errno (.int .i64 (1 : Int))) w5) (
idxK (some a4) x3.toNat x9 1 fun p10 =>
stK w5 p10 ([.bool true]) fun w6 =>
arith .i64 (x6.1 + (1 : Int)) fun n11 =>
next7 (n11, ()) w6)) (
arith .i64 ((x3.toNat : Int) - (1 : Int)) fun n12 =>
LoopP (X := Sl × Int × Unit) (⟨none, 0, 0⟩, n12, ()) w5 fun next14 x13 w7 => ∀ _ : Env,
gd (decide ((0 : Int) ≤ x13.2.1)) (
JoinP (X := Sl × Unit) (fun R16 =>
idxK (some a4) x3.toNat x13.2.1 1 fun p17 =>
∃ x18 : Bool, At w7 p17 (cells .bool x18) ∧
gd (!x18) (
R16 (x13.1, ()) w7) (
allocK (.cells #[.int .i64 x13.2.1] t_int) w7 fun a19 w9 =>
appK t_int 1 8 #[.int .i64 (0 : Int)] x13.1.a x13.1.len x13.1.cap (.slice (some a19) 1 1) 1 w9 fun s20 w10 =>
C_history_Graph_Get v0_g x13.2.1 (fun x21 w11 =>
allocK (.cells #[.slice none 0 0, .int .i64 (0 : Int), .string (⟨#[]⟩ : ByteArray)] t_api_Commit) w11 fun a22 w12 =>
stK w12 a22 (cells yapi_Commit x21.1) fun w13 =>
nilIfcK x21.2 fun b23 =>
gd (!b23) (
K (⟨none, 0, 0⟩, x21.2) w13) (
∃ x24 : Sl, At w13 (a22.add 0) (cells .slice x24) ∧
LoopP (X := Int × Unit) ((0 : Int), ()) w13 fun next26 x25 w14 => ∀ _ : Env,
gd (decide (x25.1 < (x24.len : Int))) (
idxK x24.a x24.len x25.1 1 fun p27 =>
∃ x28 : Int, At w14 p27 (cells (.int .i64) x28) ∧
idxK (some a4) x3.toNat x28 1 fun p29 =>
stK w14 p29 ([.bool true]) fun w15 =>
arith .i64 (x25.1 + (1 : Int)) fun n30 =>
next26 (n30, ()) w15) (
R16 (s20, ()) w14))) w10)) (fun x15 w8 => ∀ _ : Env,
arith .i64 (x13.2.1 - (1 : Int)) fun n31 =>
next14 (x15.1, n31, ()) w8)) (
C_slices_Reverse x13.1 (fun x32 w16 =>
K (x13.1, .nilIface) w16) w7))) w3) w1))
theorem S_compact_Keep (v0_g : Option Addr) (v1_r : Option Addr) (K : (Sl × Value) → World → Prop) (w0 : World) (h : F_compact_Keep v0_g v1_r K w0) : C_compact_Keep v0_g v1_r K w0 := by
  have e : denFn P [(2, [(20, .bool)]), (1005, [(28, .int .i64)]), (1013, [(9, .slice), (10, .int .i64)]), (14, [(9, .slice)]), (1021, [(69, .int .i64)])] Try.f6 #[.pointer v0_g, .pointer v1_r] (.tup (.pair .slice .iface)) K w0 = F_compact_Keep v0_g v1_r K w0 := by kernel_rfl
  exact fn_sound mixed (f := 6) Try.func6 (by kernel_rfl) (e.mpr h)

def F_ref51_Keep (v0_parents : Sl) (v1_targets : Sl) (K : (Sl × Bool) → World → Prop) (w0 : World) : Prop :=
0 ≤ (v0_parents.len : Int) ∧ (v0_parents.len : Int) ≤ (v0_parents.len : Int) ∧ (v0_parents.len : Int) ≤ 9223372036854775807 ∧ 1 * (v0_parents.len : Int) ≤ 281474976710656 ∧
allocK (.cells (zrow #[.bool false] ((v0_parents.len : Int).toNat * 1)) t_bool) w0 fun a1 w1 =>
LoopP (X := Int × Unit) ((0 : Int), ()) w1 fun next3 x2 w2 => ∀ _ : Env,
gd (decide (x2.1 < (v1_targets.len : Int))) (
JoinP (X := Bool × Unit) (fun R5 =>
idxK v1_targets.a v1_targets.len x2.1 1 fun p6 =>
∃ x7 : Int, At w2 p6 (cells (.int .i64) x7) ∧
gd (decide (x7 < (0 : Int))) (
R5 (true, ()) w2) (
idxK v1_targets.a v1_targets.len x2.1 1 fun p8 =>
∃ x9 : Int, At w2 p8 (cells (.int .i64) x9) ∧
R5 (decide ((v0_parents.len : Int) ≤ x9), ()) w2)) (fun x4 w3 => ∀ _ : Env,
gd x4.1 (
K (⟨none, 0, 0⟩, false) w3) (
idxK v1_targets.a v1_targets.len x2.1 1 fun p10 =>
∃ x11 : Int, At w3 p10 (cells (.int .i64) x11) ∧
idxK (some a1) ((v0_parents.len : Int).toNat) x11 1 fun p12 =>
stK w3 p12 ([.bool true]) fun w4 =>
arith .i64 (x2.1 + (1 : Int)) fun n13 =>
next3 (n13, ()) w4))) (
arith .i64 ((v0_parents.len : Int) - (1 : Int)) fun n14 =>
LoopP (X := Int × Unit) (n14, ()) w2 fun next16 x15 w5 => ∀ _ : Env,
gd (decide ((0 : Int) ≤ x15.1)) (
JoinP (X := Unit) (fun R18 =>
LoopP (X := Int × Unit) ((0 : Int), ()) w5 fun next20 x19 w7 => ∀ _ : Env,
JoinP (X := Unit) (fun R22 =>
idxK v0_parents.a v0_parents.len x15.1 1 fun p23 =>
∃ x24 : Sl, At w7 p23 (cells .slice x24) ∧
gd (decide (x19.1 < (x24.len : Int))) (
idxK (some a1) ((v0_parents.len : Int).toNat) x15.1 1 fun p25 =>
∃ x26 : Bool, At w7 p25 (cells .bool x26) ∧
gd x26 (
R22 () w7) (
R18 () w7)) (
R18 () w7)) (fun x21 w8 => ∀ _ : Env,
idxK v0_parents.a v0_parents.len x15.1 1 fun p27 =>
∃ x28 : Sl, At w8 p27 (cells .slice x28) ∧
idxK x28.a x28.len x19.1 1 fun p29 =>
∃ x30 : Int, At w8 p29 (cells (.int .i64) x30) ∧
idxK (some a1) ((v0_parents.len : Int).toNat) x30 1 fun p31 =>
stK w8 p31 ([.bool true]) fun w9 =>
arith .i64 (x19.1 + (1 : Int)) fun n32 =>
next20 (n32, ()) w9)) (fun x17 w6 => ∀ _ : Env,
arith .i64 (x15.1 - (1 : Int)) fun n33 =>
next16 (n33, ()) w6)) (
K (⟨some a1, (v0_parents.len : Int).toNat, (v0_parents.len : Int).toNat⟩, true) w5))
theorem S_ref51_Keep (v0_parents : Sl) (v1_targets : Sl) (K : (Sl × Bool) → World → Prop) (w0 : World) (h : F_ref51_Keep v0_parents v1_targets K w0) : C_ref51_Keep v0_parents v1_targets K w0 := by
  have e : denFn P [(1003, [(7, .int .i64)]), (6, [(32, .bool)]), (1009, [(8, .int .i64)]), (10, []), (1012, [(9, .int .i64)]), (14, [])] Try.f7 #[.slice v0_parents.a v0_parents.len v0_parents.cap, .slice v1_targets.a v1_targets.len v1_targets.cap] (.tup (.pair .slice .bool)) K w0 = F_ref51_Keep v0_parents v1_targets K w0 := by kernel_rfl
  exact fn_sound mixed (f := 7) Try.func7 (by kernel_rfl) (e.mpr h)

def F_base_Ints (v0_a : Sl) (v1_b : Sl) (K : Bool → World → Prop) (w0 : World) : Prop :=
gd ((v0_a.len : Int) != (v1_b.len : Int)) (
K false w0) (
LoopP (X := Int × Unit) ((0 : Int), ()) w0 fun next2 x1 w1 => ∀ _ : Env,
gd (decide (x1.1 < (v0_a.len : Int))) (
drawK w1 fun w2 =>
idxK v0_a.a v0_a.len x1.1 1 fun p3 =>
∃ x4 : Int, At w2 p3 (cells (.int .i64) x4) ∧
idxK v1_b.a v1_b.len x1.1 1 fun p5 =>
∃ x6 : Int, At w2 p5 (cells (.int .i64) x6) ∧
gd (x4 != x6) (
K false w2) (
arith .i64 (x1.1 + (1 : Int)) fun n7 =>
next2 (n7, ()) w2)) (
K true w1))
theorem S_base_Ints (v0_a : Sl) (v1_b : Sl) (K : Bool → World → Prop) (w0 : World) (h : F_base_Ints v0_a v1_b K w0) : C_base_Ints v0_a v1_b K w0 := by
  have e : denFn P [(1004, [(5, .int .i64)])] Try.f8 #[.slice v0_a.a v0_a.len v0_a.cap, .slice v1_b.a v1_b.len v1_b.cap] .bool K w0 = F_base_Ints v0_a v1_b K w0 := by kernel_rfl
  exact fn_sound mixed (f := 8) Try.func8 (by kernel_rfl) (e.mpr h)

def F_intern_New (v0_most : Int) (K : (Option Addr) → World → Prop) (w0 : World) : Prop :=
C_length_Clip v0_most (0 : Int) (1048576 : Int) (fun x1 w1 =>
allocK (.map #[] 0) w1 fun a2 w2 =>
allocK (.cells ([.int .i64 x1, .slice none 0 0, .map (some a2.block)]).toArray t_intern_Store) w2 fun a3 w3 =>
K (some a3) w3) w0
theorem S_intern_New (v0_most : Int) (K : (Option Addr) → World → Prop) (w0 : World) (h : F_intern_New v0_most K w0) : C_intern_New v0_most K w0 := by
  have e : denFn P [] Try.f9 #[.int .i64 v0_most] .ptr K w0 = F_intern_New v0_most K w0 := by kernel_rfl
  exact fn_sound mixed (f := 9) Try.func9 (by kernel_rfl) (e.mpr h)

def F_history_New  (K : (Option Addr) → World → Prop) (w0 : World) : Prop :=
allocK (.cells ([.slice none 0 0]).toArray t_history_Graph) w0 fun a1 w1 =>
K (some a1) w1
theorem S_history_New  (K : (Option Addr) → World → Prop) (w0 : World) (h : F_history_New  K w0) : C_history_New  K w0 := by
  have e : denFn P [] Try.f10 #[] .ptr K w0 = F_history_New  K w0 := by kernel_rfl
  exact fn_sound mixed (f := 10) Try.func10 (by kernel_rfl) (e.mpr h)

def F_refs_New  (K : (Option Addr) → World → Prop) (w0 : World) : Prop :=
allocK (.map #[] 0) w0 fun a1 w1 =>
allocK (.cells ([.map (some a1.block)]).toArray t_refs_Table) w1 fun a2 w2 =>
K (some a2) w2
theorem S_refs_New  (K : (Option Addr) → World → Prop) (w0 : World) (h : F_refs_New  K w0) : C_refs_New  K w0 := by
  have e : denFn P [] Try.f11 #[] .ptr K w0 = F_refs_New  K w0 := by kernel_rfl
  exact fn_sound mixed (f := 11) Try.func11 (by kernel_rfl) (e.mpr h)

def F_law12_Build (v0_s : Option Addr) (v1_list : Sl) (K : (Sl × Bool) → World → Prop) (w0 : World) : Prop :=
C_ref12_Build v1_list (fun x1 w1 =>
allocK (.cells #[.slice none 0 0, .slice none 0 0] t_evergreenref12_Store) w1 fun a2 w2 =>
stK w2 a2 (cells yevergreenref12_Store x1.1) fun w3 =>
allocK (.cells #[.int .i64 (0 : Int)] t_api_ID) w3 fun a3 w4 =>
LoopP (X := Sl × Int × Unit) (⟨some a3, 1, 1⟩, (0 : Int), ()) w4 fun next5 x4 w5 => ∀ _ : Env,
gd (decide (x4.2.1 < (v1_list.len : Int))) (
idxK v1_list.a v1_list.len x4.2.1 5 fun p6 =>
∃ x7 : yevergreenref12_Make.T, At w5 p6 (cells yevergreenref12_Make x7) ∧
allocK (.cells #[.int .i64 (0 : Int), .int .u8 (0 : Int), .int .i64 (0 : Int), .int .i64 (0 : Int), .int .i64 (0 : Int)] t_evergreenref12_Make) w5 fun a8 w6 =>
stK w6 a8 (cells yevergreenref12_Make x7) fun w7 =>
drawK w7 fun w8 =>
∃ x9 : Int, At w8 (a8.add 2) (cells (.int .i64) x9) ∧
∃ x10 : Int, At w8 (a8.add 3) (cells (.int .i64) x10) ∧
C_ref12_Pick x9 (x4.1.len : Int) (fun x11 w9 =>
At w9 (a8.add 3) (cells (.int .i64) x10) ∧
idxK x4.1.a x4.1.len x11 1 fun p12 =>
∃ x13 : Int, At w9 p12 (cells (.int .i64) x13) ∧
C_ref12_Pick x10 (x4.1.len : Int) (fun x14 w10 =>
At w10 p12 (cells (.int .i64) x13) ∧
idxK x4.1.a x4.1.len x14 1 fun p15 =>
∃ x16 : Int, At w10 p15 (cells (.int .i64) x16) ∧
JoinP (X := Int × Unit) (fun R18 =>
∃ x19 : Int, At w10 (a8.add 0) (cells (.int .i64) x19) ∧
C_ref12_Pick x19 (4 : Int) (fun x20 w12 =>
gd (x20 == (0 : Int)) (
∃ x21 : Int, At w12 (a8.add 1) (cells (.int .u8) x21) ∧
C_intern_Store_Letter v0_s x21 (fun x22 w13 =>
R18 (x22.1, ()) w13) w12) (
gd (x20 == (3 : Int)) (
∃ x23 : Int, At w12 (a8.add 4) (cells (.int .i64) x23) ∧
C_intern_Store_Power v0_s x13 (if x23 < (0 : Int) then (0 : Int) else x23) (fun x24 w14 =>
R18 (x24.1, ()) w14) w12) (
C_intern_Store_Pair v0_s x13 x16 (fun x25 w15 =>
R18 (x25.1, ()) w15) w12))) w10) (fun x17 w11 => ∀ _ : Env,
arith .i64 (x4.2.1 + (1 : Int)) fun n26 =>
idxK x1.2.a x1.2.len n26 1 fun p27 =>
∃ x28 : Int, At w11 p27 (cells (.int .i64) x28) ∧
gd (x17.1 != x28) (
K (⟨none, 0, 0⟩, false) w11) (
allocK (.cells #[.int .i64 x17.1] t_api_ID) w11 fun a29 w16 =>
appK t_api_ID 1 8 #[.int .i64 (0 : Int)] x4.1.a x4.1.len x4.1.cap (.slice (some a29) 1 1) 1 w16 fun s30 w17 =>
arith .i64 (x4.2.1 + (1 : Int)) fun n31 =>
next5 (s30, n31, ()) w17))) w9) w8) (
K (x4.1, true) w5)) w0
theorem S_law12_Build (v0_s : Option Addr) (v1_list : Sl) (K : (Sl × Bool) → World → Prop) (w0 : World) (h : F_law12_Build v0_s v1_list K w0) : C_law12_Build v0_s v1_list K w0 := by
  have e : denFn P [(1004, [(8, .slice), (22, .int .i64)]), (14, [(13, .int .i64)])] Try.f12 #[.pointer v0_s, .slice v1_list.a v1_list.len v1_list.cap] (.tup (.pair .slice .bool)) K w0 = F_law12_Build v0_s v1_list K w0 := by kernel_rfl
  exact fn_sound mixed (f := 12) Try.func12 (by kernel_rfl) (e.mpr h)

def F_ref12_Build (v0_list : Sl) (K : (yevergreenref12_Store.T × Sl) → World → Prop) (w0 : World) : Prop :=
allocK (.cells #[.slice none 0 0, .slice none 0 0] t_evergreenref12_Store) w0 fun a1 w1 =>
allocK (.cells #[.slice none 0 0, .slice none 0 0] t_evergreenref12_Store) w1 fun a2 w2 =>
stK w2 a2 ([.slice none 0 0, .slice none 0 0]) fun w3 =>
allocK (.cells #[.int .i64 (0 : Int)] t_api_ID) w3 fun a3 w4 =>
LoopP (X := Sl × Int × Unit) (⟨some a3, 1, 1⟩, (0 : Int), ()) w4 fun next5 x4 w5 => ∀ _ : Env,
gd (decide (x4.2.1 < (v0_list.len : Int))) (
JoinP (X := Addr × Int × Unit) (fun R7 =>
drawK w5 fun w7 =>
∃ x8 : yevergreenref12_Store.T, At w7 a2 (cells yevergreenref12_Store x8) ∧
idxK v0_list.a v0_list.len x4.2.1 5 fun p9 =>
∃ x10 : yevergreenref12_Make.T, At w7 p9 (cells yevergreenref12_Make x10) ∧
(C_ref12_One x8 x10 x4.1 (fun x11 w8 =>
allocK (.cells #[.slice none 0 0, .slice none 0 0] t_evergreenref12_Store) w8 fun a12 w9 =>
stK w9 a12 (cells yevergreenref12_Store x11.1) fun w10 =>
R7 (a12, x11.2, ()) w10) w7) ∧
(allocK (.cells #[.slice none 0 0, .slice none 0 0] t_evergreenref12_Store) w7 fun a13 w11 =>
At w11 p9 (cells yevergreenref12_Make x10) ∧
At w11 a2 (cells yevergreenref12_Store x8) ∧
C_ref12_One x8 x10 x4.1 (fun x14 w12 =>
stK w12 a13 (cells yevergreenref12_Store x14.1) fun w13 =>
R7 (a13, x14.2, ()) w13) w11)) (fun x6 w6 => ∀ _ : Env,
∃ x15 : yevergreenref12_Store.T, At w6 x6.1 (cells yevergreenref12_Store x15) ∧
stK w6 a2 (cells yevergreenref12_Store x15) fun w14 =>
allocK (.cells #[.int .i64 x6.2.1] t_api_ID) w14 fun a16 w15 =>
appK t_api_ID 1 8 #[.int .i64 (0 : Int)] x4.1.a x4.1.len x4.1.cap (.slice (some a16) 1 1) 1 w15 fun s17 w16 =>
arith .i64 (x4.2.1 + (1 : Int)) fun n18 =>
next5 (s17, n18, ()) w16)) (
∃ x19 : yevergreenref12_Store.T, At w5 a2 (cells yevergreenref12_Store x19) ∧
stK w5 a1 (cells yevergreenref12_Store x19) fun w17 =>
∃ x20 : yevergreenref12_Store.T, At w17 a1 (cells yevergreenref12_Store x20) ∧
K (x20, x4.1) w17)
theorem S_ref12_Build (v0_list : Sl) (K : (yevergreenref12_Store.T × Sl) → World → Prop) (w0 : World) (h : F_ref12_Build v0_list K w0) : C_ref12_Build v0_list K w0 := by
  have e : denFn P [(1004, [(5, .slice), (6, .int .i64)]), (7, [(7, .addr), (8, .int .i64)])] Try.f13 #[.slice v0_list.a v0_list.len v0_list.cap] (.tup (.pair yevergreenref12_Store .slice)) K w0 = F_ref12_Build v0_list K w0 := by kernel_rfl
  exact fn_sound mixed (f := 13) Try.func13 (by kernel_rfl) (e.mpr h)

def F_ref12_Pick (v0_n : Int) (v1_many : Int) (K : Int → World → Prop) (w0 : World) : Prop :=
v1_many ≠ 0 ∧
letZ (Int.tmod v0_n v1_many) fun n1 =>
JoinP (X := Int × Unit) (fun R3 =>
gd (decide (n1 < (0 : Int))) (
arith .i64 (n1 + v1_many) fun n4 =>
R3 (n4, ()) w0) (
R3 (n1, ()) w0)) (fun x2 w1 => ∀ _ : Env,
K x2.1 w1)
theorem S_ref12_Pick (v0_n : Int) (v1_many : Int) (K : Int → World → Prop) (w0 : World) (h : F_ref12_Pick v0_n v1_many K w0) : C_ref12_Pick v0_n v1_many K w0 := by
  have e : denFn P [(4, [(0, .int .i64)])] Try.f14 #[.int .i64 v0_n, .int .i64 v1_many] (.int .i64) K w0 = F_ref12_Pick v0_n v1_many K w0 := by kernel_rfl
  exact fn_sound mixed (f := 14) Try.func14 (by kernel_rfl) (e.mpr h)

def F_history_Graph_Add (v0_g : Option Addr) (v1_c : yapi_Commit.T) (K : (Int × Value) → World → Prop) (w0 : World) : Prop :=
allocK (.cells (cells yapi_Commit v1_c).toArray t_api_Commit) w0 fun a1 w1 =>
gd v0_g.isNone (
K ((0 : Int), .iface t_api_Errno (.int .i64 (5 : Int))) w1) (
JoinP (X := Bool × Unit) (fun R3 =>
∃ x4 : Sl, At w1 (a1.add 0) (cells .slice x4) ∧
gd (decide ((8 : Int) < (x4.len : Int))) (
R3 (true, ()) w1) (
∃ x5 : ByteArray, At w1 (a1.add 2) (cells .str x5) ∧
gd (decide ((200 : Int) < (x5.size : Int))) (
R3 (true, ()) w1) (
∃ x6 : Int, At w1 (a1.add 1) (cells (.int .i64) x6) ∧
R3 (decide (x6 < (0 : Int)), ()) w1))) (fun x2 w2 => ∀ _ : Env,
gd x2.1 (
K ((0 : Int), .iface t_api_Errno (.int .i64 (4 : Int))) w2) (
∃ x7 : Sl, At w2 (a1.add 0) (cells .slice x7) ∧
LoopP (X := Int × Unit) ((0 : Int), ()) w2 fun next9 x8 w3 => ∀ _ : Env,
gd (decide (x8.1 < (x7.len : Int))) (
idxK x7.a x7.len x8.1 1 fun p10 =>
∃ x11 : Int, At w3 p10 (cells (.int .i64) x11) ∧
C_history_Graph_has v0_g x11 (fun x12 w4 =>
gd (!x12) (
K ((0 : Int), .iface t_api_Errno (.int .i64 (1 : Int))) w4) (
arith .i64 (x8.1 + (1 : Int)) fun n13 =>
next9 (n13, ()) w4)) w3) (
∃ x14 : Sl, At w3 (a1.add 0) (cells .slice x14) ∧
LoopP (X := Int × Unit) ((0 : Int), ()) w3 fun next16 x15 w5 => ∀ _ : Env,
gd (decide (x15.1 < (x14.len : Int))) (
idxK x14.a x14.len x15.1 1 fun p17 =>
∃ x18 : Int, At w5 p17 (cells (.int .i64) x18) ∧
∃ x19 : Sl, At w5 (a1.add 0) (cells .slice x19) ∧
slK 1 x19.a x19.len x19.cap none (some x15.1) fun s20 =>
C_slices_Contains s20 x18 (fun x21 w6 =>
gd x21 (
K ((0 : Int), .iface t_api_Errno (.int .i64 (4 : Int))) w6) (
arith .i64 (x15.1 + (1 : Int)) fun n22 =>
next16 (n22, ()) w6)) w5) (
nonNil v0_g fun p23 =>
∃ x24 : Sl, At w5 (p23.add 0) (cells .slice x24) ∧
gd (decide ((65536 : Int) ≤ (x24.len : Int))) (
K ((0 : Int), .iface t_api_Errno (.int .i64 (3 : Int))) w5) (
∃ x25 : Sl, At w5 (a1.add 0) (cells .slice x25) ∧
C_slices_Clone x25 (fun x26 w7 =>
stK w7 (a1.add 0) ([.slice x26.a x26.len x26.cap]) fun w8 =>
drawK w8 fun w9 =>
nonNil v0_g fun p27 =>
∃ x28 : Sl, At w9 (p27.add 0) (cells .slice x28) ∧
∃ x29 : yapi_Commit.T, At w9 a1 (cells yapi_Commit x29) ∧
allocK (.cells (cells yapi_Commit x29).toArray t_api_Commit) w9 fun a30 w10 =>
At w10 (p27.add 0) (cells .slice x28) ∧
appK t_api_Commit 3 48 #[.slice none 0 0, .int .i64 (0 : Int), .string (⟨#[]⟩ : ByteArray)] x28.a x28.len x28.cap (.slice (some a30) 1 1) 1 w10 fun s31 w11 =>
nonNil v0_g fun p32 =>
stK w11 (p32.add 0) ([.slice s31.a s31.len s31.cap]) fun w12 =>
nonNil v0_g fun p33 =>
∃ x34 : Sl, At w12 (p33.add 0) (cells .slice x34) ∧
arith .i64 ((x34.len : Int) - (1 : Int)) fun n35 =>
K (n35, .nilIface) w12) w5))))))
theorem S_history_Graph_Add (v0_g : Option Addr) (v1_c : yapi_Commit.T) (K : (Int × Value) → World → Prop) (w0 : World) (h : F_history_Graph_Add v0_g v1_c K w0) : C_history_Graph_Add v0_g v1_c K w0 := by
  have e : denFn P [(4, [(27, .bool)]), (1006, [(32, .int .i64)]), (1012, [(45, .int .i64)])] Try.f15 #[.pointer v0_g, val yapi_Commit v1_c] (.tup (.pair (.int .i64) .iface)) K w0 = F_history_Graph_Add v0_g v1_c K w0 := by kernel_rfl
  exact fn_sound mixed (f := 15) Try.func15 (by kernel_rfl) (e.mpr h)

def F_law51_name (v0_i : Int) (K : ByteArray → World → Prop) (w0 : World) : Prop :=
(10 : Int) ≠ 0 ∧
arith .i64 (Int.tdiv v0_i (10 : Int)) fun n1 =>
(10 : Int) ≠ 0 ∧
letZ (Int.tmod n1 (10 : Int)) fun n2 =>
arith .u8 (n2) fun n3 =>
arith .u8 ((48 : Int) + n3) fun n4 =>
(10 : Int) ≠ 0 ∧
letZ (Int.tmod v0_i (10 : Int)) fun n5 =>
arith .u8 (n5) fun n6 =>
arith .u8 ((48 : Int) + n6) fun n7 =>
allocK (.cells #[.int .u8 n4, .int .u8 n7] t_uint8) w0 fun a8 w1 =>
runK P .str (convert t_sl_uint8 t_string (.slice (some a8) 2 2)) w1 fun x9 w2 =>
(((⟨#[110]⟩ : ByteArray).size + x9.size : Nat) : Int) ≤ 9223372036854775807 ∧
K ((⟨#[110]⟩ : ByteArray) ++ x9) w2
theorem S_law51_name (v0_i : Int) (K : ByteArray → World → Prop) (w0 : World) (h : F_law51_name v0_i K w0) : C_law51_name v0_i K w0 := by
  have e : denFn P [] Try.f16 #[.int .i64 v0_i] .str K w0 = F_law51_name v0_i K w0 := by kernel_rfl
  exact fn_sound mixed (f := 16) Try.func16 (by kernel_rfl) (e.mpr h)

def F_refs_Table_Branch (v0_t : Option Addr) (v1_name : ByteArray) (v2_old : Int) (v3_n : Int) (K : Value → World → Prop) (w0 : World) : Prop :=
gd v0_t.isNone (
K (.iface t_api_Errno (.int .i64 (5 : Int))) w0) (
C_refs_Valid v1_name (fun x1 w1 =>
gd (!x1) (
K (.iface t_api_Errno (.int .i64 (13 : Int))) w1) (
JoinP (X := Bool × Unit) (fun R3 =>
gd (decide (v3_n < (0 : Int))) (
R3 (true, ()) w1) (
R3 (decide (v2_old < (-1 : Int)), ()) w1)) (fun x2 w2 => ∀ _ : Env,
gd x2.1 (
K (.iface t_api_Errno (.int .i64 (1 : Int))) w2) (
nonNil v0_t fun p4 =>
∃ x5 : Option Nat, At w2 (p4.add 0) (cells .map x5) ∧
∃ (x6 : yrefs_target.T) (b7 : Bool), Lk2 P t_map_string_refs_target yrefs_target (.map x5) (.string v1_name) x6 b7 w2 ∧
allocK (.cells #[.int .i64 (0 : Int), .bool false] t_refs_target) w2 fun a8 w3 =>
stK w3 a8 (cells yrefs_target x6) fun w4 =>
JoinP (X := Unit) (fun R10 =>
JoinP (X := Bool × Unit) (fun R12 =>
gd (v2_old == (-1 : Int)) (
R12 (b7, ()) w4) (
R12 (false, ()) w4)) (fun x11 w6 => ∀ _ : Env,
gd x11.1 (
K (.iface t_api_Errno (.int .i64 (6 : Int))) w6) (
gd (v2_old == (-1 : Int)) (
R10 () w6) (
gd (!b7) (
K (.iface t_api_Errno (.int .i64 (5 : Int))) w6) (
∃ x13 : Bool, At w6 (a8.add 1) (cells .bool x13) ∧
gd x13 (
K (.iface t_api_Errno (.int .i64 (7 : Int))) w6) (
∃ x14 : Int, At w6 (a8.add 0) (cells (.int .i64) x14) ∧
gd (x14 != v2_old) (
K (.iface t_api_Errno (.int .i64 (11 : Int))) w6) (
R10 () w6))))))) (fun x9 w5 => ∀ _ : Env,
C_refs_Table_set v0_t v1_name (v3_n, false) (fun x15 w7 =>
K .nilIface w7) w5))))) w0)
theorem S_refs_Table_Branch (v0_t : Option Addr) (v1_name : ByteArray) (v2_old : Int) (v3_n : Int) (K : Value → World → Prop) (w0 : World) (h : F_refs_Table_Branch v0_t v1_name v2_old v3_n K w0) : C_refs_Table_Branch v0_t v1_name v2_old v3_n K w0 := by
  have e : denFn P [(6, [(23, .bool)]), (17, []), (9, [(34, .bool)])] Try.f17 #[.pointer v0_t, .string v1_name, .int .i64 v2_old, .int .i64 v3_n] .iface K w0 = F_refs_Table_Branch v0_t v1_name v2_old v3_n K w0 := by kernel_rfl
  exact fn_sound mixed (f := 17) Try.func17 (by kernel_rfl) (e.mpr h)

def F_refs_Table_Drop (v0_t : Option Addr) (v1_name : ByteArray) (K : Value → World → Prop) (w0 : World) : Prop :=
C_refs_Table_Get v0_t v1_name (fun x1 w1 =>
nilIfcK x1.2.2 fun b2 =>
gd (!b2) (
K x1.2.2 w1) (
nonNil v0_t fun p3 =>
∃ x4 : Option Nat, At w1 (p3.add 0) (cells .map x4) ∧
runK P (.tup .unit) (Builtin.delete_ #[t_map_string_refs_target, t_string] t_ #[.map x4, .string v1_name]) w1 fun u5 w2 =>
K .nilIface w2)) w0
theorem S_refs_Table_Drop (v0_t : Option Addr) (v1_name : ByteArray) (K : Value → World → Prop) (w0 : World) (h : F_refs_Table_Drop v0_t v1_name K w0) : C_refs_Table_Drop v0_t v1_name K w0 := by
  have e : denFn P [] Try.f18 #[.pointer v0_t, .string v1_name] .iface K w0 = F_refs_Table_Drop v0_t v1_name K w0 := by kernel_rfl
  exact fn_sound mixed (f := 18) Try.func18 (by kernel_rfl) (e.mpr h)

def F_refs_Table_Tag (v0_t : Option Addr) (v1_name : ByteArray) (v2_n : Int) (K : Value → World → Prop) (w0 : World) : Prop :=
gd v0_t.isNone (
K (.iface t_api_Errno (.int .i64 (5 : Int))) w0) (
C_refs_Valid v1_name (fun x1 w1 =>
gd (!x1) (
K (.iface t_api_Errno (.int .i64 (13 : Int))) w1) (
gd (decide (v2_n < (0 : Int))) (
K (.iface t_api_Errno (.int .i64 (1 : Int))) w1) (
nonNil v0_t fun p2 =>
∃ x3 : Option Nat, At w1 (p2.add 0) (cells .map x3) ∧
∃ (x4 : yrefs_target.T) (b5 : Bool), Lk2 P t_map_string_refs_target yrefs_target (.map x3) (.string v1_name) x4 b5 w1 ∧
allocK (.cells #[.int .i64 (0 : Int), .bool false] t_refs_target) w1 fun a6 w2 =>
stK w2 a6 (cells yrefs_target x4) fun w3 =>
gd b5 (
K (.iface t_api_Errno (.int .i64 (6 : Int))) w3) (
C_refs_Table_set v0_t v1_name (v2_n, true) (fun x7 w4 =>
K .nilIface w4) w3)))) w0)
theorem S_refs_Table_Tag (v0_t : Option Addr) (v1_name : ByteArray) (v2_n : Int) (K : Value → World → Prop) (w0 : World) (h : F_refs_Table_Tag v0_t v1_name v2_n K w0) : C_refs_Table_Tag v0_t v1_name v2_n K w0 := by
  have e : denFn P [] Try.f19 #[.pointer v0_t, .string v1_name, .int .i64 v2_n] .iface K w0 = F_refs_Table_Tag v0_t v1_name v2_n K w0 := by kernel_rfl
  exact fn_sound mixed (f := 19) Try.func19 (by kernel_rfl) (e.mpr h)

def F_law51_alive  (K : Bool → World → Prop) (w0 : World) : Prop :=
C_history_New  (fun x1 w1 =>
C_refs_New  (fun x2 w2 =>
C_history_Graph_Add x1 (⟨none, 0, 0⟩, ((0 : Int), (⟨#[]⟩ : ByteArray))) (fun x3 w3 =>
C_refs_Table_Branch x2 (⟨#[109, 97, 105, 110]⟩ : ByteArray) (-1 : Int) (0 : Int) (fun x4 w4 =>
C_compact_Keep x1 x2 (fun x5 w5 =>
nilIfcK x3.2 fun b6 =>
gd b6 (
nilIfcK x4 fun b7 =>
gd b7 (
nilIfcK x5.2 fun b8 =>
gd b8 (
gd ((x5.1.len : Int) == (1 : Int)) (
idxK x5.1.a x5.1.len (0 : Int) 1 fun p9 =>
∃ x10 : Int, At w5 p9 (cells (.int .i64) x10) ∧
K (x10 == (0 : Int)) w5) (
K false w5)) (
K false w5)) (
K false w5)) (
K false w5)) w4) w3) w2) w1) w0
theorem S_law51_alive  (K : Bool → World → Prop) (w0 : World) (h : F_law51_alive  K w0) : C_law51_alive  K w0 := by
  have e : denFn P [] Try.f20 #[] .bool K w0 = F_law51_alive  K w0 := by kernel_rfl
  exact fn_sound mixed (f := 20) Try.func20 (by kernel_rfl) (e.mpr h)

def F_history_Graph_Len (v0_g : Option Addr) (K : Int → World → Prop) (w0 : World) : Prop :=
gd v0_g.isNone (
K (0 : Int) w0) (
nonNil v0_g fun p1 =>
∃ x2 : Sl, At w0 (p1.add 0) (cells .slice x2) ∧
K (x2.len : Int) w0)
theorem S_history_Graph_Len (v0_g : Option Addr) (K : Int → World → Prop) (w0 : World) (h : F_history_Graph_Len v0_g K w0) : C_history_Graph_Len v0_g K w0 := by
  have e : denFn P [] Try.f21 #[.pointer v0_g] (.int .i64) K w0 = F_history_Graph_Len v0_g K w0 := by kernel_rfl
  exact fn_sound mixed (f := 21) Try.func21 (by kernel_rfl) (e.mpr h)

def F_refs_Table_Targets (v0_t : Option Addr) (K : Sl → World → Prop) (w0 : World) : Prop :=
gd v0_t.isNone (
K (⟨none, 0, 0⟩) w0) (
nonNil v0_t fun p1 =>
∃ x2 : Option Nat, At w0 (p1.add 0) (cells .map x2) ∧
runK P .addr (Instr.range t_map_string_refs_target (.map x2)) w0 fun a3 w1 =>
LoopP (X := Sl × Unit) (⟨none, 0, 0⟩, ()) w1 fun next5 x4 w2 => ∀ _ : Env,
∃ (b6 : Bool) (vs7 : List Value) (w3 : World), (Instr.next (.pointer (some a3)) false t_).run P w2 = .ok (.tuple (Value.bool b6 :: vs7).toArray) w3 ∧
gd b6 (
∃ (k8 : ByteArray) (v9 : yrefs_target.T) (w4 : World), (Instr.entry (.pointer (some a3))).run P w3 = .ok (.tuple #[.string k8, val yrefs_target v9]) w4 ∧
allocK (.cells #[.int .i64 (0 : Int), .bool false] t_refs_target) w4 fun a10 w5 =>
stK w5 a10 (cells yrefs_target v9) fun w6 =>
∃ x11 : Int, At w6 (a10.add 0) (cells (.int .i64) x11) ∧
allocK (.cells #[.int .i64 x11] t_int) w6 fun a12 w7 =>
appK t_int 1 8 #[.int .i64 (0 : Int)] x4.1.a x4.1.len x4.1.cap (.slice (some a12) 1 1) 1 w7 fun s13 w8 =>
next5 (s13, ()) w8) (
C_slices_SortI x4.1 (fun x14 w9 =>
C_slices_Compact x4.1 (fun x15 w10 =>
K x15 w10) w9) w3))
theorem S_refs_Table_Targets (v0_t : Option Addr) (K : Sl → World → Prop) (w0 : World) (h : F_refs_Table_Targets v0_t K w0) : C_refs_Table_Targets v0_t K w0 := by
  have e : denFn P [(1005, [(3, .slice)])] Try.f22 #[.pointer v0_t] .slice K w0 = F_refs_Table_Targets v0_t K w0 := by kernel_rfl
  exact fn_sound mixed (f := 22) Try.func22 (by kernel_rfl) (e.mpr h)

def F_history_Graph_Get (v0_g : Option Addr) (v1_n : Int) (K : (yapi_Commit.T × Value) → World → Prop) (w0 : World) : Prop :=
allocK (.cells #[.slice none 0 0, .int .i64 (0 : Int), .string (⟨#[]⟩ : ByteArray)] t_api_Commit) w0 fun a1 w1 =>
gd v0_g.isNone (
stK w1 a1 ([.slice none 0 0, .int .i64 (0 : Int), .string (⟨#[]⟩ : ByteArray)]) fun w2 =>
∃ x2 : yapi_Commit.T, At w2 a1 (cells yapi_Commit x2) ∧
K (x2, .iface t_api_Errno (.int .i64 (5 : Int))) w2) (
C_history_Graph_has v0_g v1_n (fun x3 w3 =>
gd (!x3) (
stK w3 a1 ([.slice none 0 0, .int .i64 (0 : Int), .string (⟨#[]⟩ : ByteArray)]) fun w4 =>
∃ x4 : yapi_Commit.T, At w4 a1 (cells yapi_Commit x4) ∧
K (x4, .iface t_api_Errno (.int .i64 (1 : Int))) w4) (
nonNil v0_g fun p5 =>
∃ x6 : Sl, At w3 (p5.add 0) (cells .slice x6) ∧
idxK x6.a x6.len v1_n 3 fun p7 =>
∃ x8 : yapi_Commit.T, At w3 p7 (cells yapi_Commit x8) ∧
allocK (.cells #[.slice none 0 0, .int .i64 (0 : Int), .string (⟨#[]⟩ : ByteArray)] t_api_Commit) w3 fun a9 w5 =>
stK w5 a9 (cells yapi_Commit x8) fun w6 =>
∃ x10 : Sl, At w6 (a9.add 0) (cells .slice x10) ∧
C_slices_Clone x10 (fun x11 w7 =>
stK w7 (a9.add 0) ([.slice x11.a x11.len x11.cap]) fun w8 =>
∃ x12 : yapi_Commit.T, At w8 a9 (cells yapi_Commit x12) ∧
stK w8 a1 (cells yapi_Commit x12) fun w9 =>
∃ x13 : yapi_Commit.T, At w9 a1 (cells yapi_Commit x13) ∧
K (x13, .nilIface) w9) w6)) w1)
theorem S_history_Graph_Get (v0_g : Option Addr) (v1_n : Int) (K : (yapi_Commit.T × Value) → World → Prop) (w0 : World) (h : F_history_Graph_Get v0_g v1_n K w0) : C_history_Graph_Get v0_g v1_n K w0 := by
  have e : denFn P [] Try.f23 #[.pointer v0_g, .int .i64 v1_n] (.tup (.pair yapi_Commit .iface)) K w0 = F_history_Graph_Get v0_g v1_n K w0 := by kernel_rfl
  exact fn_sound mixed (f := 23) Try.func23 (by kernel_rfl) (e.mpr h)

def F_slices_Reverse (v0_s : Sl) (K : Unit → World → Prop) (w0 : World) : Prop :=
arith .i64 ((v0_s.len : Int) - (1 : Int)) fun n1 =>
LoopP (X := Int × Int × Unit) ((0 : Int), n1, ()) w0 fun next3 x2 w1 => ∀ _ : Env,
gd (decide (x2.1 < x2.2.1)) (
drawK w1 fun w2 =>
idxK v0_s.a v0_s.len x2.2.1 1 fun p4 =>
∃ x5 : Int, At w2 p4 (cells (.int .i64) x5) ∧
idxK v0_s.a v0_s.len x2.1 1 fun p6 =>
∃ x7 : Int, At w2 p6 (cells (.int .i64) x7) ∧
idxK v0_s.a v0_s.len x2.1 1 fun p8 =>
stK w2 p8 ([.int .i64 x5]) fun w3 =>
idxK v0_s.a v0_s.len x2.2.1 1 fun p9 =>
stK w3 p9 ([.int .i64 x7]) fun w4 =>
arith .i64 (x2.1 + (1 : Int)) fun n10 =>
arith .i64 (x2.2.1 - (1 : Int)) fun n11 =>
next3 (n10, n11, ()) w4) (
K () w1)
theorem S_slices_Reverse (v0_s : Sl) (K : Unit → World → Prop) (w0 : World) (h : F_slices_Reverse v0_s K w0) : C_slices_Reverse v0_s K w0 := by
  have e : denFn P [(1001, [(2, .int .i64), (3, .int .i64)])] Try.f24 #[.slice v0_s.a v0_s.len v0_s.cap] (.tup .unit) K w0 = F_slices_Reverse v0_s K w0 := by kernel_rfl
  exact fn_sound mixed (f := 24) Try.func24 (by kernel_rfl) (e.mpr h)

def F_length_Clip (v0_n : Int) (v1_low : Int) (v2_high : Int) (K : Int → World → Prop) (w0 : World) : Prop :=
gd (decide (v0_n < v1_low)) (
K v1_low w0) (
gd (decide (v2_high < v0_n)) (
K v2_high w0) (
K v0_n w0))
theorem S_length_Clip (v0_n : Int) (v1_low : Int) (v2_high : Int) (K : Int → World → Prop) (w0 : World) (h : F_length_Clip v0_n v1_low v2_high K w0) : C_length_Clip v0_n v1_low v2_high K w0 := by
  have e : denFn P [] Try.f25 #[.int .i64 v0_n, .int .i64 v1_low, .int .i64 v2_high] (.int .i64) K w0 = F_length_Clip v0_n v1_low v2_high K w0 := by kernel_rfl
  exact fn_sound mixed (f := 25) Try.func25 (by kernel_rfl) (e.mpr h)

def F_intern_Store_Letter (v0_s : Option Addr) (v1_b : Int) (K : (Int × Value) → World → Prop) (w0 : World) : Prop :=
gd v0_s.isNone (
K ((0 : Int), .iface t_api_Errno (.int .i64 (5 : Int))) w0) (
allocK (.cells #[.int .i64 (0 : Int), .int .u8 (0 : Int), .int .i64 (0 : Int), .int .i64 (0 : Int), .int .i64 (0 : Int)] t_api_Rule) w0 fun a1 w1 =>
stK w1 a1 ([.int .i64 (1 : Int), .int .u8 v1_b, .int .i64 (0 : Int), .int .i64 (0 : Int), .int .i64 (0 : Int)]) fun w2 =>
∃ x2 : yapi_Rule.T, At w2 a1 (cells yapi_Rule x2) ∧
C_intern_Store_find v0_s x2 (fun x3 w3 =>
JoinP (X := Bool × Unit) (fun R5 =>
gd (x3.1 != (0 : Int)) (
R5 (true, ()) w3) (
nilIfcK x3.2 fun b6 =>
R5 (!b6, ()) w3)) (fun x4 w4 => ∀ _ : Env,
gd x4.1 (
K (x3.1, x3.2) w4) (
drawK w4 fun w5 =>
∃ x7 : yapi_Rule.T, At w5 a1 (cells yapi_Rule x7) ∧
C_weight_Letter v1_b (fun x8 w6 =>
At w6 a1 (cells yapi_Rule x7) ∧
C_intern_Store_add v0_s ((x7.1, (x7.2.1, (x7.2.2.1, (x7.2.2.2.1, x7.2.2.2.2)))), ((x8.1, (x8.2.1, (x8.2.2.1, (x8.2.2.2.1, (x8.2.2.2.2.1, x8.2.2.2.2.2))))), ((0 : Int), true))) (fun x9 w7 =>
K (x9, .nilIface) w7) w6) w5))) w2)
theorem S_intern_Store_Letter (v0_s : Option Addr) (v1_b : Int) (K : (Int × Value) → World → Prop) (w0 : World) (h : F_intern_Store_Letter v0_s v1_b K w0) : C_intern_Store_Letter v0_s v1_b K w0 := by
  have e : denFn P [(6, [(25, .bool)])] Try.f26 #[.pointer v0_s, .int .u8 v1_b] (.tup (.pair (.int .i64) .iface)) K w0 = F_intern_Store_Letter v0_s v1_b K w0 := by kernel_rfl
  exact fn_sound mixed (f := 26) Try.func26 (by kernel_rfl) (e.mpr h)

def F_intern_Store_Power (v0_s : Option Addr) (v1_x : Int) (v2_k : Int) (K : (Int × Value) → World → Prop) (w0 : World) : Prop :=
gd v0_s.isNone (
K ((0 : Int), .iface t_api_Errno (.int .i64 (5 : Int))) w0) (
JoinP (X := Bool × Unit) (fun R2 =>
C_intern_Store_known v0_s v1_x (fun x3 w2 =>
gd (!x3) (
R2 (true, ()) w2) (
R2 (decide (v2_k < (0 : Int)), ()) w2)) w0) (fun x1 w1 => ∀ _ : Env,
gd x1.1 (
K ((0 : Int), .iface t_api_Errno (.int .i64 (1 : Int))) w1) (
JoinP (X := Bool × Unit) (fun R5 =>
gd (v2_k == (0 : Int)) (
R5 (true, ()) w1) (
R5 (v1_x == (0 : Int), ()) w1)) (fun x4 w3 => ∀ _ : Env,
gd x4.1 (
K ((0 : Int), .nilIface) w3) (
gd (v2_k == (1 : Int)) (
K (v1_x, .nilIface) w3) (
C_intern_Store_at v0_s v1_x (fun x6 w4 =>
allocK (.cells #[.int .i64 (0 : Int), .int .u8 (0 : Int), .int .i64 (0 : Int), .int .i64 (0 : Int), .int .i64 (0 : Int), .int .i64 (0 : Int), .int .i64 (0 : Int), .int .i64 (0 : Int), .int .i64 (0 : Int), .int .u64 (0 : Int), .int .u64 (0 : Int), .int .i64 (0 : Int), .bool false] t_intern_entry) w4 fun a7 w5 =>
stK w5 a7 (cells yintern_entry x6) fun w6 =>
∃ x8 : Int, At w6 ((a7.add 5).add 0) (cells (.int .i64) x8) ∧
C_length_Mul x8 v2_k (fun x9 w7 =>
nilIfcK x9.2 fun b10 =>
gd (!b10) (
K ((0 : Int), .iface t_api_Errno (.int .i64 (2 : Int))) w7) (
allocK (.cells #[.int .i64 (0 : Int), .int .u8 (0 : Int), .int .i64 (0 : Int), .int .i64 (0 : Int), .int .i64 (0 : Int)] t_api_Rule) w7 fun a11 w8 =>
stK w8 a11 ([.int .i64 (3 : Int), .int .u8 (0 : Int), .int .i64 v1_x, .int .i64 (0 : Int), .int .i64 v2_k]) fun w9 =>
∃ x12 : yapi_Rule.T, At w9 a11 (cells yapi_Rule x12) ∧
C_intern_Store_find v0_s x12 (fun x13 w10 =>
JoinP (X := Bool × Unit) (fun R15 =>
gd (x13.1 != (0 : Int)) (
R15 (true, ()) w10) (
nilIfcK x13.2 fun b16 =>
R15 (!b16, ()) w10)) (fun x14 w11 => ∀ _ : Env,
gd x14.1 (
K (x13.1, x13.2) w11) (
∃ x17 : yapi_Weight.T, At w11 (a7.add 5) (cells yapi_Weight x17) ∧
C_weight_Repeat x17 v2_k (fun x18 w12 =>
allocK (.cells #[.int .i64 (0 : Int), .int .i64 (0 : Int), .int .i64 (0 : Int), .int .i64 (0 : Int), .int .u64 (0 : Int), .int .u64 (0 : Int)] t_api_Weight) w12 fun a19 w13 =>
stK w13 a19 (cells yapi_Weight x18.1) fun w14 =>
nilIfcK x18.2 fun b20 =>
gd (!b20) (
K ((0 : Int), x18.2) w14) (
∃ x21 : yapi_Rule.T, At w14 a11 (cells yapi_Rule x21) ∧
∃ x22 : yapi_Weight.T, At w14 a19 (cells yapi_Weight x22) ∧
∃ x23 : Int, At w14 (a7.add 11) (cells (.int .i64) x23) ∧
arith .i64 ((1 : Int) + x23) fun n24 =>
C_intern_Store_add v0_s ((x21.1, (x21.2.1, (x21.2.2.1, (x21.2.2.2.1, x21.2.2.2.2)))), ((x22.1, (x22.2.1, (x22.2.2.1, (x22.2.2.2.1, (x22.2.2.2.2.1, x22.2.2.2.2.2))))), (n24, false))) (fun x25 w15 =>
K (x25, .nilIface) w15) w14)) w11))) w9)) w6) w3))))))
theorem S_intern_Store_Power (v0_s : Option Addr) (v1_x : Int) (v2_k : Int) (K : (Int × Value) → World → Prop) (w0 : World) (h : F_intern_Store_Power v0_s v1_x v2_k K w0) : C_intern_Store_Power v0_s v1_x v2_k K w0 := by
  have e : denFn P [(4, [(26, .bool)]), (6, [(33, .bool)]), (16, [(65, .bool)])] Try.f27 #[.pointer v0_s, .int .i64 v1_x, .int .i64 v2_k] (.tup (.pair (.int .i64) .iface)) K w0 = F_intern_Store_Power v0_s v1_x v2_k K w0 := by kernel_rfl
  exact fn_sound mixed (f := 27) Try.func27 (by kernel_rfl) (e.mpr h)

def F_intern_Store_Pair (v0_s : Option Addr) (v1_l : Int) (v2_r : Int) (K : (Int × Value) → World → Prop) (w0 : World) : Prop :=
gd v0_s.isNone (
K ((0 : Int), .iface t_api_Errno (.int .i64 (5 : Int))) w0) (
JoinP (X := Bool × Unit) (fun R2 =>
C_intern_Store_known v0_s v1_l (fun x3 w2 =>
gd (!x3) (
R2 (true, ()) w2) (
C_intern_Store_known v0_s v2_r (fun x4 w3 =>
R2 (!x4, ()) w3) w2)) w0) (fun x1 w1 => ∀ _ : Env,
gd x1.1 (
K ((0 : Int), .iface t_api_Errno (.int .i64 (1 : Int))) w1) (
gd (v1_l == (0 : Int)) (
K (v2_r, .nilIface) w1) (
gd (v2_r == (0 : Int)) (
K (v1_l, .nilIface) w1) (
C_intern_Store_at v0_s v1_l (fun x5 w4 =>
C_intern_Store_at v0_s v2_r (fun x6 w5 =>
allocK (.cells #[.int .i64 (0 : Int), .int .u8 (0 : Int), .int .i64 (0 : Int), .int .i64 (0 : Int), .int .i64 (0 : Int), .int .i64 (0 : Int), .int .i64 (0 : Int), .int .i64 (0 : Int), .int .i64 (0 : Int), .int .u64 (0 : Int), .int .u64 (0 : Int), .int .i64 (0 : Int), .bool false] t_intern_entry) w5 fun a7 w6 =>
allocK (.cells #[.int .i64 (0 : Int), .int .u8 (0 : Int), .int .i64 (0 : Int), .int .i64 (0 : Int), .int .i64 (0 : Int), .int .i64 (0 : Int), .int .i64 (0 : Int), .int .i64 (0 : Int), .int .i64 (0 : Int), .int .u64 (0 : Int), .int .u64 (0 : Int), .int .i64 (0 : Int), .bool false] t_intern_entry) w6 fun a8 w7 =>
stK w7 a7 (cells yintern_entry x5) fun w8 =>
stK w8 a8 (cells yintern_entry x6) fun w9 =>
∃ x9 : Int, At w9 ((a7.add 5).add 0) (cells (.int .i64) x9) ∧
∃ x10 : Int, At w9 ((a8.add 5).add 0) (cells (.int .i64) x10) ∧
C_length_Add x9 x10 (fun x11 w10 =>
nilIfcK x11.2 fun b12 =>
gd (!b12) (
K ((0 : Int), .iface t_api_Errno (.int .i64 (2 : Int))) w10) (
allocK (.cells #[.int .i64 (0 : Int), .int .u8 (0 : Int), .int .i64 (0 : Int), .int .i64 (0 : Int), .int .i64 (0 : Int)] t_api_Rule) w10 fun a13 w11 =>
stK w11 a13 ([.int .i64 (2 : Int), .int .u8 (0 : Int), .int .i64 v1_l, .int .i64 v2_r, .int .i64 (0 : Int)]) fun w12 =>
∃ x14 : yapi_Rule.T, At w12 a13 (cells yapi_Rule x14) ∧
C_intern_Store_find v0_s x14 (fun x15 w13 =>
JoinP (X := Bool × Unit) (fun R17 =>
gd (x15.1 != (0 : Int)) (
R17 (true, ()) w13) (
nilIfcK x15.2 fun b18 =>
R17 (!b18, ()) w13)) (fun x16 w14 => ∀ _ : Env,
gd x16.1 (
K (x15.1, x15.2) w14) (
∃ x19 : yapi_Weight.T, At w14 (a7.add 5) (cells yapi_Weight x19) ∧
∃ x20 : yapi_Weight.T, At w14 (a8.add 5) (cells yapi_Weight x20) ∧
C_weight_Join x19 x20 (fun x21 w15 =>
allocK (.cells #[.int .i64 (0 : Int), .int .i64 (0 : Int), .int .i64 (0 : Int), .int .i64 (0 : Int), .int .u64 (0 : Int), .int .u64 (0 : Int)] t_api_Weight) w15 fun a22 w16 =>
stK w16 a22 (cells yapi_Weight x21.1) fun w17 =>
nilIfcK x21.2 fun b23 =>
gd (!b23) (
K ((0 : Int), x21.2) w17) (
∃ x24 : Int, At w17 (a7.add 11) (cells (.int .i64) x24) ∧
∃ x25 : Int, At w17 (a8.add 11) (cells (.int .i64) x25) ∧
arith .i64 (x24 - x25) fun n26 =>
∃ x27 : yapi_Rule.T, At w17 a13 (cells yapi_Rule x27) ∧
∃ x28 : yapi_Weight.T, At w17 a22 (cells yapi_Weight x28) ∧
∃ x29 : Int, At w17 (a7.add 11) (cells (.int .i64) x29) ∧
∃ x30 : Int, At w17 (a8.add 11) (cells (.int .i64) x30) ∧
arith .i64 ((1 : Int) + (if x29 < x30 then x30 else x29)) fun n31 =>
∃ x32 : Bool, At w17 (a7.add 12) (cells .bool x32) ∧
gd x32 (
∃ x33 : Bool, At w17 (a8.add 12) (cells .bool x33) ∧
gd x33 (
gd (decide ((-1 : Int) ≤ n26)) (
C_intern_Store_add v0_s ((x27.1, (x27.2.1, (x27.2.2.1, (x27.2.2.2.1, x27.2.2.2.2)))), ((x28.1, (x28.2.1, (x28.2.2.1, (x28.2.2.2.1, (x28.2.2.2.2.1, x28.2.2.2.2.2))))), (n31, decide (n26 ≤ (1 : Int))))) (fun x34 w18 =>
K (x34, .nilIface) w18) w17) (
C_intern_Store_add v0_s ((x27.1, (x27.2.1, (x27.2.2.1, (x27.2.2.2.1, x27.2.2.2.2)))), ((x28.1, (x28.2.1, (x28.2.2.1, (x28.2.2.2.1, (x28.2.2.2.2.1, x28.2.2.2.2.2))))), (n31, false))) (fun x35 w19 =>
K (x35, .nilIface) w19) w17)) (
C_intern_Store_add v0_s ((x27.1, (x27.2.1, (x27.2.2.1, (x27.2.2.2.1, x27.2.2.2.2)))), ((x28.1, (x28.2.1, (x28.2.2.1, (x28.2.2.2.1, (x28.2.2.2.2.1, x28.2.2.2.2.2))))), (n31, false))) (fun x36 w20 =>
K (x36, .nilIface) w20) w17)) (
C_intern_Store_add v0_s ((x27.1, (x27.2.1, (x27.2.2.1, (x27.2.2.2.1, x27.2.2.2.2)))), ((x28.1, (x28.2.1, (x28.2.2.1, (x28.2.2.2.1, (x28.2.2.2.2.1, x28.2.2.2.2.2))))), (n31, false))) (fun x37 w21 =>
K (x37, .nilIface) w21) w17))) w14))) w12)) w9) w4) w1)))))
theorem S_intern_Store_Pair (v0_s : Option Addr) (v1_l : Int) (v2_r : Int) (K : (Int × Value) → World → Prop) (w0 : World) (h : F_intern_Store_Pair v0_s v1_l v2_r K w0) : C_intern_Store_Pair v0_s v1_l v2_r K w0 := by
  have e : denFn P [(4, [(30, .bool)]), (16, [(71, .bool)])] Try.f28 #[.pointer v0_s, .int .i64 v1_l, .int .i64 v2_r] (.tup (.pair (.int .i64) .iface)) K w0 = F_intern_Store_Pair v0_s v1_l v2_r K w0 := by kernel_rfl
  exact fn_sound mixed (f := 28) Try.func28 (by kernel_rfl) (e.mpr h)

def F_ref12_One (v0_s : yevergreenref12_Store.T) (v1_m : yevergreenref12_Make.T) (v2_results : Sl) (K : (yevergreenref12_Store.T × Int) → World → Prop) (w0 : World) : Prop :=
allocK (.cells (cells yevergreenref12_Store v0_s).toArray t_evergreenref12_Store) w0 fun a1 w1 =>
allocK (.cells (cells yevergreenref12_Make v1_m).toArray t_evergreenref12_Make) w1 fun a2 w2 =>
allocK (.cells #[.slice none 0 0, .slice none 0 0] t_evergreenref12_Store) w2 fun a3 w3 =>
∃ x4 : Int, At w3 (a2.add 2) (cells (.int .i64) x4) ∧
C_ref12_Pick x4 (v2_results.len : Int) (fun x5 w4 =>
idxK v2_results.a v2_results.len x5 1 fun p6 =>
∃ x7 : Int, At w4 p6 (cells (.int .i64) x7) ∧
∃ x8 : Int, At w4 (a2.add 3) (cells (.int .i64) x8) ∧
C_ref12_Pick x8 (v2_results.len : Int) (fun x9 w5 =>
idxK v2_results.a v2_results.len x9 1 fun p10 =>
∃ x11 : Int, At w5 p10 (cells (.int .i64) x11) ∧
∃ x12 : Int, At w5 (a2.add 0) (cells (.int .i64) x12) ∧
C_ref12_Pick x12 (4 : Int) (fun x13 w6 =>
gd (x13 == (0 : Int)) (
∃ x14 : yevergreenref12_Store.T, At w6 a1 (cells yevergreenref12_Store x14) ∧
∃ x15 : Int, At w6 (a2.add 1) (cells (.int .u8) x15) ∧
C_ref12_Add x14 ((1 : Int), (x15, ((0 : Int), ((0 : Int), (0 : Int))))) (1 : Int) (fun x16 w7 =>
stK w7 a3 (cells yevergreenref12_Store x16.1) fun w8 =>
∃ x17 : yevergreenref12_Store.T, At w8 a3 (cells yevergreenref12_Store x17) ∧
K (x17, x16.2) w8) w6) (
gd (x13 == (3 : Int)) (
∃ x18 : yevergreenref12_Store.T, At w6 a1 (cells yevergreenref12_Store x18) ∧
C_ref12_Length x18 x7 (fun x19 w9 =>
JoinP (X := Bool × Unit) (fun R21 =>
drawK w9 fun w11 =>
gd (x7 == (0 : Int)) (
R21 (true, ()) w11) (
∃ x22 : Int, At w11 (a2.add 4) (cells (.int .i64) x22) ∧
gd (decide (x22 ≤ (0 : Int))) (
R21 (true, ()) w11) (
∃ x23 : Int, At w11 (a2.add 4) (cells (.int .i64) x23) ∧
x19 ≠ 0 ∧
arith .i64 (Int.tdiv (1152921504606846976 : Int) x19) fun n24 =>
R21 (decide (n24 < x23), ()) w11))) (fun x20 w10 => ∀ _ : Env,
gd x20.1 (
∃ x25 : yevergreenref12_Store.T, At w10 a1 (cells yevergreenref12_Store x25) ∧
stK w10 a3 (cells yevergreenref12_Store x25) fun w12 =>
∃ x26 : yevergreenref12_Store.T, At w12 a3 (cells yevergreenref12_Store x26) ∧
K (x26, (0 : Int)) w12) (
∃ x27 : Int, At w10 (a2.add 4) (cells (.int .i64) x27) ∧
gd (x27 == (1 : Int)) (
∃ x28 : yevergreenref12_Store.T, At w10 a1 (cells yevergreenref12_Store x28) ∧
stK w10 a3 (cells yevergreenref12_Store x28) fun w13 =>
∃ x29 : yevergreenref12_Store.T, At w13 a3 (cells yevergreenref12_Store x29) ∧
K (x29, x7) w13) (
∃ x30 : yevergreenref12_Store.T, At w10 a1 (cells yevergreenref12_Store x30) ∧
∃ x31 : Int, At w10 (a2.add 4) (cells (.int .i64) x31) ∧
∃ x32 : Int, At w10 (a2.add 4) (cells (.int .i64) x32) ∧
arith .i64 (x19 * x32) fun n33 =>
C_ref12_Add x30 ((3 : Int), ((0 : Int), (x7, ((0 : Int), x31)))) n33 (fun x34 w14 =>
stK w14 a3 (cells yevergreenref12_Store x34.1) fun w15 =>
∃ x35 : yevergreenref12_Store.T, At w15 a3 (cells yevergreenref12_Store x35) ∧
K (x35, x34.2) w15) w10)))) w6) (
gd (x7 == (0 : Int)) (
∃ x36 : yevergreenref12_Store.T, At w6 a1 (cells yevergreenref12_Store x36) ∧
stK w6 a3 (cells yevergreenref12_Store x36) fun w16 =>
∃ x37 : yevergreenref12_Store.T, At w16 a3 (cells yevergreenref12_Store x37) ∧
K (x37, x11) w16) (
gd (x11 == (0 : Int)) (
∃ x38 : yevergreenref12_Store.T, At w6 a1 (cells yevergreenref12_Store x38) ∧
stK w6 a3 (cells yevergreenref12_Store x38) fun w17 =>
∃ x39 : yevergreenref12_Store.T, At w17 a3 (cells yevergreenref12_Store x39) ∧
K (x39, x7) w17) (
drawK w6 fun w18 =>
∃ x40 : yevergreenref12_Store.T, At w18 a1 (cells yevergreenref12_Store x40) ∧
∃ x41 : yevergreenref12_Store.T, At w18 a1 (cells yevergreenref12_Store x41) ∧
C_ref12_Length x40 x7 (fun x42 w19 =>
At w19 a1 (cells yevergreenref12_Store x41) ∧
C_ref12_Length x41 x11 (fun x43 w20 =>
arith .i64 ((1152921504606846976 : Int) - x43) fun n44 =>
gd (decide (n44 < x42)) (
∃ x45 : yevergreenref12_Store.T, At w20 a1 (cells yevergreenref12_Store x45) ∧
stK w20 a3 (cells yevergreenref12_Store x45) fun w21 =>
∃ x46 : yevergreenref12_Store.T, At w21 a3 (cells yevergreenref12_Store x46) ∧
K (x46, (0 : Int)) w21) (
drawK w20 fun w22 =>
∃ x47 : yevergreenref12_Store.T, At w22 a1 (cells yevergreenref12_Store x47) ∧
∃ x48 : yevergreenref12_Store.T, At w22 a1 (cells yevergreenref12_Store x48) ∧
∃ x49 : yevergreenref12_Store.T, At w22 a1 (cells yevergreenref12_Store x49) ∧
C_ref12_Length x48 x7 (fun x50 w23 =>
At w23 a1 (cells yevergreenref12_Store x49) ∧
At w23 a1 (cells yevergreenref12_Store x47) ∧
C_ref12_Length x49 x11 (fun x51 w24 =>
At w24 a1 (cells yevergreenref12_Store x47) ∧
arith .i64 (x50 + x51) fun n52 =>
C_ref12_Add x47 ((2 : Int), ((0 : Int), (x7, (x11, (0 : Int))))) n52 (fun x53 w25 =>
stK w25 a3 (cells yevergreenref12_Store x53.1) fun w26 =>
∃ x54 : yevergreenref12_Store.T, At w26 a3 (cells yevergreenref12_Store x54) ∧
K (x54, x53.2) w26) w24) w23) w22)) w19) w18))))) w5) w4) w3
theorem S_ref12_One (v0_s : yevergreenref12_Store.T) (v1_m : yevergreenref12_Make.T) (v2_results : Sl) (K : (yevergreenref12_Store.T × Int) → World → Prop) (w0 : World) (h : F_ref12_One v0_s v1_m v2_results K w0) : C_ref12_One v0_s v1_m v2_results K w0 := by
  have e : denFn P [(9, [(57, .bool)])] Try.f29 #[val yevergreenref12_Store v0_s, val yevergreenref12_Make v1_m, .slice v2_results.a v2_results.len v2_results.cap] (.tup (.pair yevergreenref12_Store (.int .i64))) K w0 = F_ref12_One v0_s v1_m v2_results K w0 := by kernel_rfl
  exact fn_sound mixed (f := 29) Try.func29 (by kernel_rfl) (e.mpr h)

def F_history_Graph_has (v0_g : Option Addr) (v1_n : Int) (K : Bool → World → Prop) (w0 : World) : Prop :=
gd (decide ((0 : Int) ≤ v1_n)) (
nonNil v0_g fun p1 =>
∃ x2 : Sl, At w0 (p1.add 0) (cells .slice x2) ∧
K (decide (v1_n < (x2.len : Int))) w0) (
K false w0)
theorem S_history_Graph_has (v0_g : Option Addr) (v1_n : Int) (K : Bool → World → Prop) (w0 : World) (h : F_history_Graph_has v0_g v1_n K w0) : C_history_Graph_has v0_g v1_n K w0 := by
  have e : denFn P [] Try.f30 #[.pointer v0_g, .int .i64 v1_n] .bool K w0 = F_history_Graph_has v0_g v1_n K w0 := by kernel_rfl
  exact fn_sound mixed (f := 30) Try.func30 (by kernel_rfl) (e.mpr h)

def F_slices_Contains (v0_s : Sl) (v1_v : Int) (K : Bool → World → Prop) (w0 : World) : Prop :=
C_slices_Index v0_s v1_v (fun x1 w1 =>
K (decide ((0 : Int) ≤ x1)) w1) w0
theorem S_slices_Contains (v0_s : Sl) (v1_v : Int) (K : Bool → World → Prop) (w0 : World) (h : F_slices_Contains v0_s v1_v K w0) : C_slices_Contains v0_s v1_v K w0 := by
  have e : denFn P [] Try.f31 #[.slice v0_s.a v0_s.len v0_s.cap, .int .i64 v1_v] .bool K w0 = F_slices_Contains v0_s v1_v K w0 := by kernel_rfl
  exact fn_sound mixed (f := 31) Try.func31 (by kernel_rfl) (e.mpr h)

def F_slices_Clone (v0_s : Sl) (K : Sl → World → Prop) (w0 : World) : Prop :=
gd v0_s.a.isNone (
K (⟨none, 0, 0⟩) w0) (
allocK (.cells #[] t_int) w0 fun a1 w1 =>
appK t_int 1 8 #[.int .i64 (0 : Int)] (some a1) 0 0 (.slice v0_s.a v0_s.len v0_s.cap) v0_s.len w1 fun s2 w2 =>
K s2 w2)
theorem S_slices_Clone (v0_s : Sl) (K : Sl → World → Prop) (w0 : World) (h : F_slices_Clone v0_s K w0) : C_slices_Clone v0_s K w0 := by
  have e : denFn P [] Try.f32 #[.slice v0_s.a v0_s.len v0_s.cap] .slice K w0 = F_slices_Clone v0_s K w0 := by kernel_rfl
  exact fn_sound mixed (f := 32) Try.func32 (by kernel_rfl) (e.mpr h)

end Go.Proofs.Ytnmgjpcooncjlaa
