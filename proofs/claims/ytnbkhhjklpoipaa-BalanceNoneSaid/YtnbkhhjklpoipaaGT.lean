/- Texts that belong together, joined: TextC, Text1. No conditions. -/
import Derived.Test.YtnbkhhjklpoipaaProg
import Derived.Test.YtnbkhhjklpoipaaDenC
/- The typed texts of the functions, printed by a program; each proved to imply the call. -/
set_option linter.unusedVariables false
set_option maxRecDepth 100000
namespace Go.Proofs.Ytnbkhhjklpoipaa
open Go.Den

noncomputable def P : Program := Try.prog
theorem mixed : P.follows .mixedOrders = true := by kernel_rfl

abbrev t_int : Nat := 3
abbrev t_bool : Nat := 4
abbrev t_uint8 : Nat := 5
abbrev t_string : Nat := 9
abbrev t_sl_uint8 : Nat := 22
abbrev t_sl_api_ID : Nat := 24
abbrev t_evergreenref12_Store : Nat := 28
abbrev t_api_ID : Nat := 32
abbrev t_api_Errno : Nat := 38
abbrev t_api_Digest : Nat := 41
abbrev t_api_Weight : Nat := 43
abbrev t_map_api_Rule_api_ID : Nat := 79
abbrev t_intern_Store : Nat := 82
abbrev t_api_Rule : Nat := 85
abbrev t_intern_entry : Nat := 87
abbrev t_map_api_ID_api_ID : Nat := 102
abbrev t_evergreenref12_Make : Nat := 111
abbrev t_map_api_ID_bool : Nat := 119

abbrev yevergreenref12_Store : Ty := .st (.pair .slice .slice)
abbrev yapi_Digest : Ty := .st (.pair (.int .u64) (.int .u64))
abbrev yapi_Weight : Ty := .st (.pair (.int .i64) (.pair (.int .i64) (.pair (.int .i64) (.pair (.int .i64) yapi_Digest))))
abbrev yintern_Store : Ty := .st (.pair (.int .i64) (.pair .slice .map))
abbrev yapi_Rule : Ty := .st (.pair (.int .i64) (.pair (.int .u8) (.pair (.int .i64) (.pair (.int .i64) (.int .i64)))))
abbrev yintern_entry : Ty := .st (.pair yapi_Rule (.pair yapi_Weight (.pair (.int .i64) .bool)))
abbrev yevergreenref12_Make : Ty := .st (.pair (.int .i64) (.pair (.int .u8) (.pair (.int .i64) (.pair (.int .i64) (.int .i64)))))

def C_law15_BalanceLimits (v0_letters : Sl) (v1_many : Int) (K : Bool → World → Prop) (w0 : World) : Prop := callP P 3 #[.slice v0_letters.a v0_letters.len v0_letters.cap, .int .i64 v1_many] .bool w0 K
def C_law15_BalanceTexts (v0_b : Sl) (K : Bool → World → Prop) (w0 : World) : Prop := callP P 4 #[.slice v0_b.a v0_b.len v0_b.cap] .bool w0 K
def C_law15_BalanceFull (v0_b : Sl) (v1_most : Int) (K : Bool → World → Prop) (w0 : World) : Prop := callP P 5 #[.slice v0_b.a v0_b.len v0_b.cap, .int .i64 v1_most] .bool w0 K
def C_law15_BalanceRepeats (v0_list : Sl) (v1_n : Int) (v2_k : Int) (K : Bool → World → Prop) (w0 : World) : Prop := callP P 6 #[.slice v0_list.a v0_list.len v0_list.cap, .int .i64 v1_n, .int .i64 v2_k] .bool w0 K
def C_law15_BalanceConcats (v0_list : Sl) (v1_picks : Sl) (K : Bool → World → Prop) (w0 : World) : Prop := callP P 7 #[.slice v0_list.a v0_list.len v0_list.cap, .slice v1_picks.a v1_picks.len v1_picks.cap] .bool w0 K
def C_law15_BalanceOf (v0_list : Sl) (v1_n : Int) (K : Bool → World → Prop) (w0 : World) : Prop := callP P 8 #[.slice v0_list.a v0_list.len v0_list.cap, .int .i64 v1_n] .bool w0 K
def C_law15_BalanceGreat (v0_list : Sl) (v1_n : Int) (K : Bool → World → Prop) (w0 : World) : Prop := callP P 9 #[.slice v0_list.a v0_list.len v0_list.cap, .int .i64 v1_n] .bool w0 K
def C_law15_BalancePowers (v0_b : Sl) (v1_i : Int) (v2_j : Int) (K : Bool → World → Prop) (w0 : World) : Prop := callP P 10 #[.slice v0_b.a v0_b.len v0_b.cap, .int .i64 v1_i, .int .i64 v2_j] .bool w0 K
def C_law15_BalanceNone (v0_b : Sl) (v1_id : Int) (v2_k : Int) (K : Bool → World → Prop) (w0 : World) : Prop := callP P 11 #[.slice v0_b.a v0_b.len v0_b.cap, .int .i64 v1_id, .int .i64 v2_k] .bool w0 K
def C_law15_begun (v0_list : Sl) (K : ((Option Addr) × Sl × yevergreenref12_Store.T × Bool) → World → Prop) (w0 : World) : Prop := callP P 12 #[.slice v0_list.a v0_list.len v0_list.cap] (.tup (.pair .ptr (.pair .slice (.pair yevergreenref12_Store .bool)))) w0 K
def C_intern_New (v0_most : Int) (K : (Option Addr) → World → Prop) (w0 : World) : Prop := callP P 13 #[.int .i64 v0_most] .ptr w0 K
def C_balance_Text (v0_s : Option Addr) (v1_b : Sl) (K : (Int × Value) → World → Prop) (w0 : World) : Prop := callP P 14 #[.pointer v0_s, .slice v1_b.a v1_b.len v1_b.cap] (.tup (.pair (.int .i64) .iface)) w0 K
def C_base_Is (v0_e : Value) (v1_want : Int) (K : Bool → World → Prop) (w0 : World) : Prop := callP P 15 #[v0_e, .int .i64 v1_want] .bool w0 K
def C_intern_Store_Weight (v0_s : Option Addr) (v1_id : Int) (K : (yapi_Weight.T × Value) → World → Prop) (w0 : World) : Prop := callP P 16 #[.pointer v0_s, .int .i64 v1_id] (.tup (.pair yapi_Weight .iface)) w0 K
def C_law15_fits (v0_s : Option Addr) (v1_id : Int) (K : Bool → World → Prop) (w0 : World) : Prop := callP P 17 #[.pointer v0_s, .int .i64 v1_id] .bool w0 K
def C_law15_is (v0_s : Option Addr) (v1_id : Int) (v2_b : Sl) (K : Bool → World → Prop) (w0 : World) : Prop := callP P 18 #[.pointer v0_s, .int .i64 v1_id, .slice v2_b.a v2_b.len v2_b.cap] .bool w0 K
def C_intern_Store_Len (v0_s : Option Addr) (K : Int → World → Prop) (w0 : World) : Prop := callP P 19 #[.pointer v0_s] (.int .i64) w0 K
def C_law15_pick (v0_s : Option Addr) (v1_results : Sl) (v2_n : Int) (K : Int → World → Prop) (w0 : World) : Prop := callP P 20 #[.pointer v0_s, .slice v1_results.a v1_results.len v1_results.cap, .int .i64 v2_n] (.int .i64) w0 K
def C_balance_Repeat (v0_s : Option Addr) (v1_id : Int) (v2_k : Int) (K : (Int × Value) → World → Prop) (w0 : World) : Prop := callP P 21 #[.pointer v0_s, .int .i64 v1_id, .int .i64 v2_k] (.tup (.pair (.int .i64) .iface)) w0 K
def C_ref15_Repeat (v0_s : yevergreenref12_Store.T) (v1_id : Int) (v2_k : Int) (K : Int → World → Prop) (w0 : World) : Prop := callP P 22 #[val yevergreenref12_Store v0_s, .int .i64 v1_id, .int .i64 v2_k] (.int .i64) w0 K
def C_base_Num (v0_e : Value) (K : Int → World → Prop) (w0 : World) : Prop := callP P 23 #[v0_e] (.int .i64) w0 K
def C_ref12_Length (v0_s : yevergreenref12_Store.T) (v1_id : Int) (K : Int → World → Prop) (w0 : World) : Prop := callP P 24 #[val yevergreenref12_Store v0_s, .int .i64 v1_id] (.int .i64) w0 K
def C_ref15_Bound (v0_length : Int) (K : Int → World → Prop) (w0 : World) : Prop := callP P 25 #[.int .i64 v0_length] (.int .i64) w0 K
def C_ref15_Log (v0_n : Int) (K : Int → World → Prop) (w0 : World) : Prop := callP P 26 #[.int .i64 v0_n] (.int .i64) w0 K
def C_ref12_Text (v0_s : yevergreenref12_Store.T) (v1_id : Int) (v2_most : Int) (K : (Sl × Bool) → World → Prop) (w0 : World) : Prop := callP P 27 #[val yevergreenref12_Store v0_s, .int .i64 v1_id, .int .i64 v2_most] (.tup (.pair .slice .bool)) w0 K
def C_balance_Concat (v0_s : Option Addr) (v1_ids : Sl) (K : (Int × Value) → World → Prop) (w0 : World) : Prop := callP P 28 #[.pointer v0_s, .slice v1_ids.a v1_ids.len v1_ids.cap] (.tup (.pair (.int .i64) .iface)) w0 K
def C_ref15_Concat (v0_s : yevergreenref12_Store.T) (v1_ids : Sl) (K : Int → World → Prop) (w0 : World) : Prop := callP P 29 #[val yevergreenref12_Store v0_s, .slice v1_ids.a v1_ids.len v1_ids.cap] (.int .i64) w0 K
def C_balance_Of (v0_s : Option Addr) (v1_id : Int) (K : (Int × Value) → World → Prop) (w0 : World) : Prop := callP P 30 #[.pointer v0_s, .int .i64 v1_id] (.tup (.pair (.int .i64) .iface)) w0 K
def C_ref12_Known (v0_s : yevergreenref12_Store.T) (v1_id : Int) (K : Bool → World → Prop) (w0 : World) : Prop := callP P 31 #[val yevergreenref12_Store v0_s, .int .i64 v1_id] .bool w0 K
def C_ref15_Is (v0_s : yevergreenref12_Store.T) (v1_id : Int) (K : Bool → World → Prop) (w0 : World) : Prop := callP P 32 #[val yevergreenref12_Store v0_s, .int .i64 v1_id] .bool w0 K
def C_ref12_Pick (v0_n : Int) (v1_many : Int) (K : Int → World → Prop) (w0 : World) : Prop := callP P 33 #[.int .i64 v0_n, .int .i64 v1_many] (.int .i64) w0 K
def C_intern_Store_Export (v0_s : Option Addr) (v1_id : Int) (K : (Sl × Value) → World → Prop) (w0 : World) : Prop := callP P 34 #[.pointer v0_s, .int .i64 v1_id] (.tup (.pair .slice .iface)) w0 K
def C_ref15_Work (v0_rules : Sl) (v1_length : Int) (K : Int → World → Prop) (w0 : World) : Prop := callP P 35 #[.slice v0_rules.a v0_rules.len v0_rules.cap, .int .i64 v1_length] (.int .i64) w0 K
def C_intern_Store_Power (v0_s : Option Addr) (v1_x : Int) (v2_k : Int) (K : (Int × Value) → World → Prop) (w0 : World) : Prop := callP P 36 #[.pointer v0_s, .int .i64 v1_x, .int .i64 v2_k] (.tup (.pair (.int .i64) .iface)) w0 K
def C_ref12_Build (v0_list : Sl) (K : (yevergreenref12_Store.T × Sl) → World → Prop) (w0 : World) : Prop := callP P 37 #[.slice v0_list.a v0_list.len v0_list.cap] (.tup (.pair yevergreenref12_Store .slice)) w0 K
def C_law12_Build (v0_s : Option Addr) (v1_list : Sl) (K : (Sl × Bool) → World → Prop) (w0 : World) : Prop := callP P 38 #[.pointer v0_s, .slice v1_list.a v1_list.len v1_list.cap] (.tup (.pair .slice .bool)) w0 K
def C_length_Clip (v0_n : Int) (v1_low : Int) (v2_high : Int) (K : Int → World → Prop) (w0 : World) : Prop := callP P 39 #[.int .i64 v0_n, .int .i64 v1_low, .int .i64 v2_high] (.int .i64) w0 K
def C_balance_text (v0_s : Option Addr) (v1_b : Sl) (K : (Int × Value) → World → Prop) (w0 : World) : Prop := callP P 40 #[.pointer v0_s, .slice v1_b.a v1_b.len v1_b.cap] (.tup (.pair (.int .i64) .iface)) w0 K
def C_intern_Store_known (v0_s : Option Addr) (v1_id : Int) (K : Bool → World → Prop) (w0 : World) : Prop := callP P 41 #[.pointer v0_s, .int .i64 v1_id] .bool w0 K
def C_intern_Store_at (v0_s : Option Addr) (v1_id : Int) (K : yintern_entry.T → World → Prop) (w0 : World) : Prop := callP P 42 #[.pointer v0_s, .int .i64 v1_id] yintern_entry w0 K
def C_intern_Store_Depth (v0_s : Option Addr) (v1_id : Int) (K : (Int × Value) → World → Prop) (w0 : World) : Prop := callP P 43 #[.pointer v0_s, .int .i64 v1_id] (.tup (.pair (.int .i64) .iface)) w0 K
def C_ref15_Balanced (v0_rules : Sl) (K : Bool → World → Prop) (w0 : World) : Prop := callP P 44 #[.slice v0_rules.a v0_rules.len v0_rules.cap] .bool w0 K
def C_ref12_Expand (v0_rules : Sl) (v1_most : Int) (K : (Sl × Bool) → World → Prop) (w0 : World) : Prop := callP P 45 #[.slice v0_rules.a v0_rules.len v0_rules.cap, .int .i64 v1_most] (.tup (.pair .slice .bool)) w0 K
def C_base_Bytes (v0_a : Sl) (v1_b : Sl) (K : Bool → World → Prop) (w0 : World) : Prop := callP P 46 #[.slice v0_a.a v0_a.len v0_a.cap, .slice v1_b.a v1_b.len v1_b.cap] .bool w0 K
def C_avl_Balanced (v0_s : Option Addr) (v1_id : Int) (K : (Bool × Value) → World → Prop) (w0 : World) : Prop := callP P 47 #[.pointer v0_s, .int .i64 v1_id] (.tup (.pair .bool .iface)) w0 K
def C_length_Mul (v0_a : Int) (v1_k : Int) (K : (Int × Value) → World → Prop) (w0 : World) : Prop := callP P 48 #[.int .i64 v0_a, .int .i64 v1_k] (.tup (.pair (.int .i64) .iface)) w0 K
def C_balance_repeat (v0_s : Option Addr) (v1_id : Int) (v2_k : Int) (K : (Int × Value) → World → Prop) (w0 : World) : Prop := callP P 49 #[.pointer v0_s, .int .i64 v1_id, .int .i64 v2_k] (.tup (.pair (.int .i64) .iface)) w0 K
def C_length_Sum (v0_list : Sl) (K : (Int × Value) → World → Prop) (w0 : World) : Prop := callP P 50 #[.slice v0_list.a v0_list.len v0_list.cap] (.tup (.pair (.int .i64) .iface)) w0 K
def C_avl_Join (v0_s : Option Addr) (v1_a : Int) (v2_b : Int) (K : (Int × Value) → World → Prop) (w0 : World) : Prop := callP P 51 #[.pointer v0_s, .int .i64 v1_a, .int .i64 v2_b] (.tup (.pair (.int .i64) .iface)) w0 K
def C_collect_Reach (v0_s : Option Addr) (v1_roots : Sl) (K : (Sl × Value) → World → Prop) (w0 : World) : Prop := callP P 52 #[.pointer v0_s, .slice v1_roots.a v1_roots.len v1_roots.cap] (.tup (.pair .slice .iface)) w0 K
def C_balance_step (v0_s : Option Addr) (v1_id : Int) (v2_done : Option Nat) (K : (Int × Value) → World → Prop) (w0 : World) : Prop := callP P 53 #[.pointer v0_s, .int .i64 v1_id, .map v2_done] (.tup (.pair (.int .i64) .iface)) w0 K
def C_intern_Store_reach (v0_s : Option Addr) (v1_id : Int) (K : Sl → World → Prop) (w0 : World) : Prop := callP P 54 #[.pointer v0_s, .int .i64 v1_id] .slice w0 K
def C_intern_Store_find (v0_s : Option Addr) (v1_r : yapi_Rule.T) (K : (Int × Value) → World → Prop) (w0 : World) : Prop := callP P 55 #[.pointer v0_s, val yapi_Rule v1_r] (.tup (.pair (.int .i64) .iface)) w0 K
def C_weight_Repeat (v0_w : yapi_Weight.T) (v1_k : Int) (K : (yapi_Weight.T × Value) → World → Prop) (w0 : World) : Prop := callP P 56 #[val yapi_Weight v0_w, .int .i64 v1_k] (.tup (.pair yapi_Weight .iface)) w0 K
def C_intern_Store_add (v0_s : Option Addr) (v1_e : yintern_entry.T) (K : Int → World → Prop) (w0 : World) : Prop := callP P 57 #[.pointer v0_s, val yintern_entry v1_e] (.int .i64) w0 K
def C_ref12_One (v0_s : yevergreenref12_Store.T) (v1_m : yevergreenref12_Make.T) (v2_results : Sl) (K : (yevergreenref12_Store.T × Int) → World → Prop) (w0 : World) : Prop := callP P 58 #[val yevergreenref12_Store v0_s, val yevergreenref12_Make v1_m, .slice v2_results.a v2_results.len v2_results.cap] (.tup (.pair yevergreenref12_Store (.int .i64))) w0 K
def C_intern_Store_Letter (v0_s : Option Addr) (v1_b : Int) (K : (Int × Value) → World → Prop) (w0 : World) : Prop := callP P 59 #[.pointer v0_s, .int .u8 v1_b] (.tup (.pair (.int .i64) .iface)) w0 K
def C_intern_Store_Pair (v0_s : Option Addr) (v1_l : Int) (v2_r : Int) (K : (Int × Value) → World → Prop) (w0 : World) : Prop := callP P 60 #[.pointer v0_s, .int .i64 v1_l, .int .i64 v2_r] (.tup (.pair (.int .i64) .iface)) w0 K
def C_weight_Unit  (K : yapi_Weight.T → World → Prop) (w0 : World) : Prop := callP P 61 #[] yapi_Weight w0 K
def C_ref12_Refs (v0_r : yapi_Rule.T) (K : Sl → World → Prop) (w0 : World) : Prop := callP P 62 #[val yapi_Rule v0_r] .slice w0 K
def C_ref12_derive (v0_rules : Sl) (v1_id : Int) (K : Sl → World → Prop) (w0 : World) : Prop := callP P 63 #[.slice v0_rules.a v0_rules.len v0_rules.cap, .int .i64 v1_id] .slice w0 K
def C_intern_Store_Even (v0_s : Option Addr) (v1_id : Int) (K : Bool → World → Prop) (w0 : World) : Prop := callP P 64 #[.pointer v0_s, .int .i64 v1_id] .bool w0 K
def C_length_Valid (v0_n : Int) (K : Bool → World → Prop) (w0 : World) : Prop := callP P 65 #[.int .i64 v0_n] .bool w0 K
def C_length_Add (v0_a : Int) (v1_b : Int) (K : (Int × Value) → World → Prop) (w0 : World) : Prop := callP P 66 #[.int .i64 v0_a, .int .i64 v1_b] (.tup (.pair (.int .i64) .iface)) w0 K
def C_avl_join (v0_s : Option Addr) (v1_a : Int) (v2_b : Int) (K : (Int × Value) → World → Prop) (w0 : World) : Prop := callP P 67 #[.pointer v0_s, .int .i64 v1_a, .int .i64 v2_b] (.tup (.pair (.int .i64) .iface)) w0 K
def C_collect_Reach_1 (v0_id : Int) (v1 : Addr) (v2 : Addr) (K : Unit → World → Prop) (w0 : World) : Prop := callP P 68 #[.int .i64 v0_id, .pointer (some v1), .pointer (some v2)] (.tup .unit) w0 K
def C_collect_known (v0_s : Option Addr) (v1_id : Int) (K : Bool → World → Prop) (w0 : World) : Prop := callP P 69 #[.pointer v0_s, .int .i64 v1_id] .bool w0 K
def C_intern_Store_Rule (v0_s : Option Addr) (v1_id : Int) (K : (yapi_Rule.T × Value) → World → Prop) (w0 : World) : Prop := callP P 70 #[.pointer v0_s, .int .i64 v1_id] (.tup (.pair yapi_Rule .iface)) w0 K
def C_rule_Refs (v0_r : yapi_Rule.T) (K : Sl → World → Prop) (w0 : World) : Prop := callP P 71 #[val yapi_Rule v0_r] .slice w0 K
def C_slices_Sort (a0 : Sl) (K : Unit → World → Prop) (w0 : World) : Prop := callP P 72 #[.slice a0.a a0.len a0.cap] (.tup .unit) w0 K
def C_weight_Valid (v0_w : yapi_Weight.T) (K : Bool → World → Prop) (w0 : World) : Prop := callP P 73 #[val yapi_Weight v0_w] .bool w0 K
def C_digest_Repeat (v0_d : yapi_Digest.T) (v1_k : Int) (K : yapi_Digest.T → World → Prop) (w0 : World) : Prop := callP P 74 #[val yapi_Digest v0_d, .int .i64 v1_k] yapi_Digest w0 K
def C_ref12_Add (v0_s : yevergreenref12_Store.T) (v1_r : yapi_Rule.T) (v2_length : Int) (K : (yevergreenref12_Store.T × Int) → World → Prop) (w0 : World) : Prop := callP P 75 #[val yevergreenref12_Store v0_s, val yapi_Rule v1_r, .int .i64 v2_length] (.tup (.pair yevergreenref12_Store (.int .i64))) w0 K
def C_weight_Letter (v0_b : Int) (K : yapi_Weight.T → World → Prop) (w0 : World) : Prop := callP P 76 #[.int .u8 v0_b] yapi_Weight w0 K
def C_weight_Join (v0_a : yapi_Weight.T) (v1_b : yapi_Weight.T) (K : (yapi_Weight.T × Value) → World → Prop) (w0 : World) : Prop := callP P 77 #[val yapi_Weight v0_a, val yapi_Weight v1_b] (.tup (.pair yapi_Weight .iface)) w0 K
def C_digest_Unit  (K : yapi_Digest.T → World → Prop) (w0 : World) : Prop := callP P 78 #[] yapi_Digest w0 K
def C_avl_parts (v0_s : Option Addr) (v1_id : Int) (K : (Int × Int × Int × Int × Value) → World → Prop) (w0 : World) : Prop := callP P 79 #[.pointer v0_s, .int .i64 v1_id] (.tup (.pair (.int .i64) (.pair (.int .i64) (.pair (.int .i64) (.pair (.int .i64) .iface))))) w0 K
def C_avl_level (v0_s : Option Addr) (v1_a : Int) (v2_b : Int) (K : (Int × Value) → World → Prop) (w0 : World) : Prop := callP P 80 #[.pointer v0_s, .int .i64 v1_a, .int .i64 v2_b] (.tup (.pair (.int .i64) .iface)) w0 K
def C_bits_Len (v0_x : Int) (K : Int → World → Prop) (w0 : World) : Prop := callP P 82 #[.int .u64 v0_x] (.int .i64) w0 K
def C_modular_Pow (v0_a : Int) (v1_n : Int) (K : Int → World → Prop) (w0 : World) : Prop := callP P 83 #[.int .u64 v0_a, .int .u64 v1_n] (.int .u64) w0 K
def C_digest_Join (v0_a : yapi_Digest.T) (v1_b : yapi_Digest.T) (K : yapi_Digest.T → World → Prop) (w0 : World) : Prop := callP P 84 #[val yapi_Digest v0_a, val yapi_Digest v1_b] yapi_Digest w0 K
def C_digest_Letter (v0_b : Int) (K : yapi_Digest.T → World → Prop) (w0 : World) : Prop := callP P 85 #[.int .u8 v0_b] yapi_Digest w0 K
def C_avl_two (v0_s : Option Addr) (v1_a : Int) (v2_b : Int) (v3_c : Int) (K : (Int × Value) → World → Prop) (w0 : World) : Prop := callP P 86 #[.pointer v0_s, .int .i64 v1_a, .int .i64 v2_b, .int .i64 v3_c] (.tup (.pair (.int .i64) .iface)) w0 K
def C_avl_four (v0_s : Option Addr) (v1_a : Int) (v2_b : Int) (v3_c : Int) (v4_d : Int) (K : (Int × Value) → World → Prop) (w0 : World) : Prop := callP P 87 #[.pointer v0_s, .int .i64 v1_a, .int .i64 v2_b, .int .i64 v3_c, .int .i64 v4_d] (.tup (.pair (.int .i64) .iface)) w0 K
def C_bits_Len32 (v0_x : Int) (K : Int → World → Prop) (w0 : World) : Prop := callP P 97 #[.int .u32 v0_x] (.int .i64) w0 K
def C_bits_Len64 (v0_x : Int) (K : Int → World → Prop) (w0 : World) : Prop := callP P 98 #[.int .u64 v0_x] (.int .i64) w0 K
def C_modular_Reduce (v0_x : Int) (K : Int → World → Prop) (w0 : World) : Prop := callP P 99 #[.int .u64 v0_x] (.int .u64) w0 K
def C_modular_Mul (v0_a : Int) (v1_b : Int) (K : Int → World → Prop) (w0 : World) : Prop := callP P 100 #[.int .u64 v0_a, .int .u64 v1_b] (.int .u64) w0 K
def C_modular_Add (v0_a : Int) (v1_b : Int) (K : Int → World → Prop) (w0 : World) : Prop := callP P 101 #[.int .u64 v0_a, .int .u64 v1_b] (.int .u64) w0 K
def C_bits_Mul64 (v0_x : Int) (v1_y : Int) (K : (Int × Int) → World → Prop) (w0 : World) : Prop := callP P 108 #[.int .u64 v0_x, .int .u64 v1_y] (.tup (.pair (.int .u64) (.int .u64))) w0 K

end Go.Proofs.Ytnbkhhjklpoipaa

/- The typed texts of the functions, printed by a program; each proved to imply the call. -/
set_option linter.unusedVariables false
set_option maxRecDepth 100000
set_option maxHeartbeats 4000000
namespace Go.Proofs.Ytnbkhhjklpoipaa
open Go.Den

def F_law15_BalanceLimits (v0_letters : Sl) (v1_many : Int) (K : Bool → World → Prop) (w0 : World) : Prop :=
C_law15_begun (⟨none, 0, 0⟩) (fun x1 w1 =>
allocK (.cells #[.slice none 0 0, .slice none 0 0] t_evergreenref12_Store) w1 fun a2 w2 =>
stK w2 a2 (cells yevergreenref12_Store x1.2.2.1) fun w3 =>
gd (!x1.2.2.2) (
K false w3) (
JoinP (X := Bool × Unit) (fun R4 =>
gd ((v0_letters.len : Int) == (0 : Int)) (
R4 (true, ()) w3) (
gd (decide ((100 : Int) < (v0_letters.len : Int))) (
R4 (true, ()) w3) (
gd (decide (v1_many < (65436 : Int))) (
R4 (true, ()) w3) (
R4 (decide ((65636 : Int) < v1_many), ()) w3)))) (fun x3 w4 => ∀ _ : Env,
gd x3.1 (
K true w4) (
LoopP (X := Sl × Int × Unit) (⟨none, 0, 0⟩, (0 : Int), ()) w4 fun next6 x5 w5 => ∀ _ : Env,
gd (decide (x5.2.1 < v1_many)) (
(v0_letters.len : Int) ≠ 0 ∧
letZ (Int.tmod x5.2.1 (v0_letters.len : Int)) fun n7 =>
idxK v0_letters.a v0_letters.len n7 1 fun p8 =>
∃ x9 : Int, At w5 p8 (cells (.int .u8) x9) ∧
allocK (.cells #[.int .u8 x9] t_uint8) w5 fun a10 w6 =>
appK t_uint8 1 1 #[.int .u8 (0 : Int)] x5.1.a x5.1.len x5.1.cap (.slice (some a10) 1 1) 1 w6 fun s11 w7 =>
arith .i64 (x5.2.1 + (1 : Int)) fun n12 =>
next6 (s11, n12, ()) w7) (
C_intern_New (1048576 : Int) (fun x13 w8 =>
C_balance_Text x13 x5.1 (fun x14 w9 =>
gd (decide ((65536 : Int) < v1_many)) (
gd (x14.1 == (0 : Int)) (
C_base_Is x14.2 (9 : Int) (fun x15 w10 =>
K x15 w10) w9) (
K false w9)) (
C_intern_Store_Weight x13 x14.1 (fun x16 w11 =>
allocK (.cells #[.int .i64 (0 : Int), .int .i64 (0 : Int), .int .i64 (0 : Int), .int .i64 (0 : Int), .int .u64 (0 : Int), .int .u64 (0 : Int)] t_api_Weight) w11 fun a17 w12 =>
stK w12 a17 (cells yapi_Weight x16.1) fun w13 =>
nilIfcK x14.2 fun b18 =>
gd b18 (
nilIfcK x16.2 fun b19 =>
gd b19 (
∃ x20 : Int, At w13 (a17.add 0) (cells (.int .i64) x20) ∧
gd (x20 == v1_many) (
C_law15_fits x13 x14.1 (fun x21 w14 =>
K x21 w14) w13) (
K false w13)) (
K false w13)) (
K false w13)) w9)) w8) w5))))) w0
theorem S_law15_BalanceLimits (v0_letters : Sl) (v1_many : Int) (K : Bool → World → Prop) (w0 : World) (h : F_law15_BalanceLimits v0_letters v1_many K w0) : C_law15_BalanceLimits v0_letters v1_many K w0 := by
  have e : denFn P [(5, [(39, .bool)]), (1008, [(9, .slice), (10, .int .i64)])] Try.f3 #[.slice v0_letters.a v0_letters.len v0_letters.cap, .int .i64 v1_many] .bool K w0 = F_law15_BalanceLimits v0_letters v1_many K w0 := by kernel_rfl
  exact fn_sound mixed (f := 3) Try.func3 (by kernel_rfl) (e.mpr h)

def F_law15_BalanceTexts (v0_b : Sl) (K : Bool → World → Prop) (w0 : World) : Prop :=
gd (decide ((4096 : Int) < (v0_b.len : Int))) (
K true w0) (
C_law15_begun (⟨none, 0, 0⟩) (fun x1 w1 =>
allocK (.cells #[.slice none 0 0, .slice none 0 0] t_evergreenref12_Store) w1 fun a2 w2 =>
stK w2 a2 (cells yevergreenref12_Store x1.2.2.1) fun w3 =>
gd (!x1.2.2.2) (
K false w3) (
C_balance_Text x1.1 v0_b (fun x3 w4 =>
nilIfcK x3.2 fun b4 =>
gd b4 (
C_law15_is x1.1 x3.1 v0_b (fun x5 w5 =>
gd x5 (
C_law15_fits x1.1 x3.1 (fun x6 w6 =>
gd x6 (
C_intern_Store_Len x1.1 (fun x7 w7 =>
arith .i64 ((4 : Int) * (v0_b.len : Int)) fun n8 =>
K (decide (x7 ≤ n8)) w7) w6) (
K false w6)) w5) (
K false w5)) w4) (
K false w4)) w3)) w0)
theorem S_law15_BalanceTexts (v0_b : Sl) (K : Bool → World → Prop) (w0 : World) (h : F_law15_BalanceTexts v0_b K w0) : C_law15_BalanceTexts v0_b K w0 := by
  have e : denFn P [] Try.f4 #[.slice v0_b.a v0_b.len v0_b.cap] .bool K w0 = F_law15_BalanceTexts v0_b K w0 := by kernel_rfl
  exact fn_sound mixed (f := 4) Try.func4 (by kernel_rfl) (e.mpr h)

def F_law15_BalanceFull (v0_b : Sl) (v1_most : Int) (K : Bool → World → Prop) (w0 : World) : Prop :=
gd (decide ((1000 : Int) < (v0_b.len : Int))) (
K true w0) (
C_law15_begun (⟨none, 0, 0⟩) (fun x1 w1 =>
allocK (.cells #[.slice none 0 0, .slice none 0 0] t_evergreenref12_Store) w1 fun a2 w2 =>
stK w2 a2 (cells yevergreenref12_Store x1.2.2.1) fun w3 =>
gd (!x1.2.2.2) (
K false w3) (
C_intern_New v1_most (fun x3 w4 =>
C_balance_Text x3 v0_b (fun x4 w5 =>
nilIfcK x4.2 fun b5 =>
gd (!b5) (
gd (x4.1 == (0 : Int)) (
C_base_Is x4.2 (3 : Int) (fun x6 w6 =>
gd x6 (
arith .i64 ((4 : Int) * (v0_b.len : Int)) fun n7 =>
K (decide (v1_most < n7)) w6) (
K false w6)) w5) (
K false w5)) (
C_law15_is x3 x4.1 v0_b (fun x8 w7 =>
gd x8 (
C_law15_fits x3 x4.1 (fun x9 w8 =>
gd x9 (
C_intern_Store_Len x3 (fun x10 w9 =>
K (decide (x10 ≤ (if v1_most < (0 : Int) then (0 : Int) else v1_most))) w9) w8) (
K false w8)) w7) (
K false w7)) w5)) w4) w3)) w0)
theorem S_law15_BalanceFull (v0_b : Sl) (v1_most : Int) (K : Bool → World → Prop) (w0 : World) (h : F_law15_BalanceFull v0_b v1_most K w0) : C_law15_BalanceFull v0_b v1_most K w0 := by
  have e : denFn P [] Try.f5 #[.slice v0_b.a v0_b.len v0_b.cap, .int .i64 v1_most] .bool K w0 = F_law15_BalanceFull v0_b v1_most K w0 := by kernel_rfl
  exact fn_sound mixed (f := 5) Try.func5 (by kernel_rfl) (e.mpr h)

def F_law15_BalanceRepeats (v0_list : Sl) (v1_n : Int) (v2_k : Int) (K : Bool → World → Prop) (w0 : World) : Prop :=
gd (decide ((20 : Int) < (v0_list.len : Int))) (
K true w0) (
C_law15_begun v0_list (fun x1 w1 =>
allocK (.cells #[.slice none 0 0, .slice none 0 0] t_evergreenref12_Store) w1 fun a2 w2 =>
stK w2 a2 (cells yevergreenref12_Store x1.2.2.1) fun w3 =>
gd (!x1.2.2.2) (
K false w3) (
C_law15_pick x1.1 x1.2.1 v1_n (fun x3 w4 =>
C_intern_Store_Len x1.1 (fun x4 w5 =>
C_balance_Repeat x1.1 x3 v2_k (fun x5 w6 =>
∃ x6 : yevergreenref12_Store.T, At w6 a2 (cells yevergreenref12_Store x6) ∧
C_ref15_Repeat x6 x3 v2_k (fun x7 w7 =>
gd (x7 != (0 : Int)) (
gd (x5.1 == (0 : Int)) (
C_base_Num x5.2 (fun x8 w8 =>
K (x8 == x7) w8) w7) (
K false w7)) (
∃ x9 : yevergreenref12_Store.T, At w7 a2 (cells yevergreenref12_Store x9) ∧
C_ref12_Length x9 x3 (fun x10 w9 =>
arith .i64 (x10 * v2_k) fun n11 =>
JoinP (X := Bool × Unit) (fun R13 =>
nilIfcK x5.2 fun b14 =>
gd (!b14) (
R13 (true, ()) w9) (
C_law15_fits x1.1 x5.1 (fun x15 w11 =>
gd (!x15) (
R13 (true, ()) w11) (
C_intern_Store_Len x1.1 (fun x16 w12 =>
arith .i64 (x16 - x4) fun n17 =>
C_ref15_Bound n11 (fun x18 w13 =>
arith .i64 (x18 + (1 : Int)) fun n19 =>
arith .i64 ((8 : Int) * n19) fun n20 =>
C_ref15_Log v2_k (fun x21 w14 =>
arith .i64 (x21 + (1 : Int)) fun n22 =>
arith .i64 (n20 * n22) fun n23 =>
R13 (decide (n23 < n17), ()) w14) w13) w12) w11)) w9)) (fun x12 w10 => ∀ _ : Env,
gd x12.1 (
K false w10) (
C_intern_Store_Weight x1.1 x5.1 (fun x24 w15 =>
allocK (.cells #[.int .i64 (0 : Int), .int .i64 (0 : Int), .int .i64 (0 : Int), .int .i64 (0 : Int), .int .u64 (0 : Int), .int .u64 (0 : Int)] t_api_Weight) w15 fun a25 w16 =>
stK w16 a25 (cells yapi_Weight x24.1) fun w17 =>
JoinP (X := Bool × Unit) (fun R27 =>
nilIfcK x24.2 fun b28 =>
gd (!b28) (
R27 (true, ()) w17) (
∃ x29 : Int, At w17 (a25.add 0) (cells (.int .i64) x29) ∧
R27 (x29 != n11, ()) w17)) (fun x26 w18 => ∀ _ : Env,
gd x26.1 (
K false w18) (
∃ x30 : yevergreenref12_Store.T, At w18 a2 (cells yevergreenref12_Store x30) ∧
C_ref12_Text x30 x3 (4096 : Int) (fun x31 w19 =>
JoinP (X := Bool × Unit) (fun R33 =>
gd (!x31.2) (
R33 (true, ()) w19) (
R33 (decide ((4096 : Int) < n11), ()) w19)) (fun x32 w20 => ∀ _ : Env,
gd x32.1 (
K true w20) (
JoinP (X := Sl × Unit) (fun R35 =>
LoopP (X := Sl × Int × Unit) (⟨none, 0, 0⟩, (0 : Int), ()) w20 fun next37 x36 w22 => ∀ _ : Env,
JoinP (X := Unit) (fun R39 =>
gd (decide (x36.2.1 < v2_k)) (
gd (decide ((0 : Int) < (x31.1.len : Int))) (
R39 () w22) (
R35 (x36.1, ()) w22)) (
R35 (x36.1, ()) w22)) (fun x38 w23 => ∀ _ : Env,
appK t_uint8 1 1 #[.int .u8 (0 : Int)] x36.1.a x36.1.len x36.1.cap (.slice x31.1.a x31.1.len x31.1.cap) x31.1.len w23 fun s40 w24 =>
arith .i64 (x36.2.1 + (1 : Int)) fun n41 =>
next37 (s40, n41, ()) w24)) (fun x34 w21 => ∀ _ : Env,
C_law15_is x1.1 x5.1 x34.1 (fun x42 w25 =>
K x42 w25) w21)))) w18))) w10))) w7)) w6) w5) w4) w3)) w0)
theorem S_law15_BalanceRepeats (v0_list : Sl) (v1_n : Int) (v2_k : Int) (K : Bool → World → Prop) (w0 : World) (h : F_law15_BalanceRepeats v0_list v1_n v2_k K w0) : C_law15_BalanceRepeats v0_list v1_n v2_k K w0 := by
  have e : denFn P [(14, [(88, .bool)]), (17, [(102, .bool)]), (20, [(114, .bool)]), (26, [(20, .slice)]), (1023, [(20, .slice), (21, .int .i64)]), (25, [])] Try.f6 #[.slice v0_list.a v0_list.len v0_list.cap, .int .i64 v1_n, .int .i64 v2_k] .bool K w0 = F_law15_BalanceRepeats v0_list v1_n v2_k K w0 := by kernel_rfl
  exact fn_sound mixed (f := 6) Try.func6 (by kernel_rfl) (e.mpr h)

def F_law15_BalanceConcats (v0_list : Sl) (v1_picks : Sl) (K : Bool → World → Prop) (w0 : World) : Prop :=
JoinP (X := Bool × Unit) (fun R2 =>
gd (decide ((20 : Int) < (v0_list.len : Int))) (
R2 (true, ()) w0) (
R2 (decide ((40 : Int) < (v1_picks.len : Int)), ()) w0)) (fun x1 w1 => ∀ _ : Env,
gd x1.1 (
K true w1) (
C_law15_begun v0_list (fun x3 w2 =>
allocK (.cells #[.slice none 0 0, .slice none 0 0] t_evergreenref12_Store) w2 fun a4 w3 =>
stK w3 a4 (cells yevergreenref12_Store x3.2.2.1) fun w4 =>
gd (!x3.2.2.2) (
K false w4) (
LoopP (X := Sl × Int × Unit) (⟨none, 0, 0⟩, (0 : Int), ()) w4 fun next6 x5 w5 => ∀ _ : Env,
gd (decide (x5.2.1 < (v1_picks.len : Int))) (
idxK v1_picks.a v1_picks.len x5.2.1 1 fun p7 =>
∃ x8 : Int, At w5 p7 (cells (.int .i64) x8) ∧
C_law15_pick x3.1 x3.2.1 x8 (fun x9 w6 =>
allocK (.cells #[.int .i64 x9] t_api_ID) w6 fun a10 w7 =>
appK t_api_ID 1 8 #[.int .i64 (0 : Int)] x5.1.a x5.1.len x5.1.cap (.slice (some a10) 1 1) 1 w7 fun s11 w8 =>
arith .i64 (x5.2.1 + (1 : Int)) fun n12 =>
next6 (s11, n12, ()) w8) w5) (
C_intern_Store_Len x3.1 (fun x13 w9 =>
C_balance_Concat x3.1 x5.1 (fun x14 w10 =>
∃ x15 : yevergreenref12_Store.T, At w10 a4 (cells yevergreenref12_Store x15) ∧
C_ref15_Concat x15 x5.1 (fun x16 w11 =>
gd (x16 != (0 : Int)) (
gd (x14.1 == (0 : Int)) (
C_base_Num x14.2 (fun x17 w12 =>
K (x17 == x16) w12) w11) (
K false w11)) (
LoopP (X := Int × Sl × Int × Unit) ((0 : Int), ⟨none, 0, 0⟩, (0 : Int), ()) w11 fun next19 x18 w13 => ∀ _ : Env,
gd (decide (x18.2.2.1 < (x5.1.len : Int))) (
JoinP (X := Int × Sl × Unit) (fun R21 =>
idxK x5.1.a x5.1.len x18.2.2.1 1 fun p22 =>
∃ x23 : Int, At w13 p22 (cells (.int .i64) x23) ∧
∃ x24 : yevergreenref12_Store.T, At w13 a4 (cells yevergreenref12_Store x24) ∧
C_ref12_Length x24 x23 (fun x25 w15 =>
arith .i64 (x18.1 + x25) fun n26 =>
gd (decide (n26 ≤ (4096 : Int))) (
∃ x27 : yevergreenref12_Store.T, At w15 a4 (cells yevergreenref12_Store x27) ∧
C_ref12_Text x27 x23 (4096 : Int) (fun x28 w16 =>
appK t_uint8 1 1 #[.int .u8 (0 : Int)] x18.2.1.a x18.2.1.len x18.2.1.cap (.slice x28.1.a x28.1.len x28.1.cap) x28.1.len w16 fun s29 w17 =>
R21 (n26, s29, ()) w17) w15) (
R21 (n26, x18.2.1, ()) w15)) w13) (fun x20 w14 => ∀ _ : Env,
arith .i64 (x18.2.2.1 + (1 : Int)) fun n30 =>
next19 (x20.1, x20.2.1, n30, ()) w14)) (
C_intern_Store_Weight x3.1 x14.1 (fun x31 w18 =>
allocK (.cells #[.int .i64 (0 : Int), .int .i64 (0 : Int), .int .i64 (0 : Int), .int .i64 (0 : Int), .int .u64 (0 : Int), .int .u64 (0 : Int)] t_api_Weight) w18 fun a32 w19 =>
stK w19 a32 (cells yapi_Weight x31.1) fun w20 =>
JoinP (X := Bool × Unit) (fun R34 =>
nilIfcK x14.2 fun b35 =>
gd (!b35) (
R34 (true, ()) w20) (
nilIfcK x31.2 fun b36 =>
gd (!b36) (
R34 (true, ()) w20) (
∃ x37 : Int, At w20 (a32.add 0) (cells (.int .i64) x37) ∧
gd (x37 != x18.1) (
R34 (true, ()) w20) (
C_law15_fits x3.1 x14.1 (fun x38 w22 =>
gd (!x38) (
R34 (true, ()) w22) (
C_intern_Store_Len x3.1 (fun x39 w23 =>
arith .i64 (x39 - x13) fun n40 =>
C_ref15_Bound x18.1 (fun x41 w24 =>
arith .i64 (x41 + (1 : Int)) fun n42 =>
arith .i64 ((8 : Int) * n42) fun n43 =>
arith .i64 (n43 * (x5.1.len : Int)) fun n44 =>
R34 (decide (n44 < n40), ()) w24) w23) w22)) w20)))) (fun x33 w21 => ∀ _ : Env,
gd x33.1 (
K false w21) (
gd (decide ((4096 : Int) < x18.1)) (
K true w21) (
C_law15_is x3.1 x14.1 x18.2.1 (fun x45 w25 =>
K x45 w25) w21)))) w13))) w10) w9) w5))) w1))
theorem S_law15_BalanceConcats (v0_list : Sl) (v1_picks : Sl) (K : Bool → World → Prop) (w0 : World) (h : F_law15_BalanceConcats v0_list v1_picks K w0) : C_law15_BalanceConcats v0_list v1_picks K w0 := by
  have e : denFn P [(2, [(31, .bool)]), (1009, [(9, .slice), (43, .int .i64)]), (1020, [(10, .int .i64), (17, .slice), (78, .int .i64)]), (26, [(10, .int .i64), (17, .slice)]), (29, [(136, .bool)])] Try.f7 #[.slice v0_list.a v0_list.len v0_list.cap, .slice v1_picks.a v1_picks.len v1_picks.cap] .bool K w0 = F_law15_BalanceConcats v0_list v1_picks K w0 := by kernel_rfl
  exact fn_sound mixed (f := 7) Try.func7 (by kernel_rfl) (e.mpr h)

def F_law15_BalanceOf (v0_list : Sl) (v1_n : Int) (K : Bool → World → Prop) (w0 : World) : Prop :=
gd (decide ((20 : Int) < (v0_list.len : Int))) (
K true w0) (
C_law15_begun v0_list (fun x1 w1 =>
allocK (.cells #[.slice none 0 0, .slice none 0 0] t_evergreenref12_Store) w1 fun a2 w2 =>
stK w2 a2 (cells yevergreenref12_Store x1.2.2.1) fun w3 =>
gd (!x1.2.2.2) (
K false w3) (
C_law15_pick x1.1 x1.2.1 v1_n (fun x3 w4 =>
C_balance_Of x1.1 x3 (fun x4 w5 =>
∃ x5 : yevergreenref12_Store.T, At w5 a2 (cells yevergreenref12_Store x5) ∧
C_ref12_Known x5 x3 (fun x6 w6 =>
gd (!x6) (
gd (x4.1 == (0 : Int)) (
C_base_Is x4.2 (1 : Int) (fun x7 w7 =>
K x7 w7) w6) (
K false w6)) (
JoinP (X := Bool × Unit) (fun R9 =>
nilIfcK x4.2 fun b10 =>
gd (!b10) (
R9 (true, ()) w6) (
C_law15_fits x1.1 x4.1 (fun x11 w9 =>
gd (!x11) (
R9 (true, ()) w9) (
∃ x12 : yevergreenref12_Store.T, At w9 a2 (cells yevergreenref12_Store x12) ∧
C_ref15_Is x12 x3 (fun x13 w10 =>
gd x13 (
R9 (x4.1 != x3, ()) w10) (
R9 (false, ()) w10)) w9)) w6)) (fun x8 w8 => ∀ _ : Env,
gd x8.1 (
K false w8) (
C_balance_Of x1.1 x4.1 (fun x14 w11 =>
JoinP (X := Bool × Unit) (fun R16 =>
nilIfcK x14.2 fun b17 =>
gd (!b17) (
R16 (true, ()) w11) (
R16 (x14.1 != x4.1, ()) w11)) (fun x15 w12 => ∀ _ : Env,
gd x15.1 (
K false w12) (
∃ x18 : yevergreenref12_Store.T, At w12 a2 (cells yevergreenref12_Store x18) ∧
C_ref12_Text x18 x3 (4096 : Int) (fun x19 w13 =>
gd (!x19.2) (
K true w13) (
C_law15_is x1.1 x4.1 x19.1 (fun x20 w14 =>
K x20 w14) w13)) w12))) w8)))) w5) w4) w3)) w0)
theorem S_law15_BalanceOf (v0_list : Sl) (v1_n : Int) (K : Bool → World → Prop) (w0 : World) (h : F_law15_BalanceOf v0_list v1_n K w0) : C_law15_BalanceOf v0_list v1_n K w0 := by
  have e : denFn P [(11, [(65, .bool)]), (14, [(78, .bool)])] Try.f8 #[.slice v0_list.a v0_list.len v0_list.cap, .int .i64 v1_n] .bool K w0 = F_law15_BalanceOf v0_list v1_n K w0 := by kernel_rfl
  exact fn_sound mixed (f := 8) Try.func8 (by kernel_rfl) (e.mpr h)

def F_law15_BalanceGreat (v0_list : Sl) (v1_n : Int) (K : Bool → World → Prop) (w0 : World) : Prop :=
gd (decide ((20 : Int) < (v0_list.len : Int))) (
K true w0) (
C_law15_begun v0_list (fun x1 w1 =>
allocK (.cells #[.slice none 0 0, .slice none 0 0] t_evergreenref12_Store) w1 fun a2 w2 =>
stK w2 a2 (cells yevergreenref12_Store x1.2.2.1) fun w3 =>
gd (!x1.2.2.2) (
K false w3) (
C_ref12_Pick v1_n (x1.2.1.len : Int) (fun x3 w4 =>
idxK x1.2.1.a x1.2.1.len x3 1 fun p4 =>
∃ x5 : Int, At w4 p4 (cells (.int .i64) x5) ∧
C_intern_Store_Export x1.1 x5 (fun x6 w5 =>
C_intern_Store_Len x1.1 (fun x7 w6 =>
C_balance_Of x1.1 x5 (fun x8 w7 =>
C_intern_Store_Weight x1.1 x5 (fun x9 w8 =>
allocK (.cells #[.int .i64 (0 : Int), .int .i64 (0 : Int), .int .i64 (0 : Int), .int .i64 (0 : Int), .int .u64 (0 : Int), .int .u64 (0 : Int)] t_api_Weight) w8 fun a10 w9 =>
stK w9 a10 (cells yapi_Weight x9.1) fun w10 =>
C_intern_Store_Weight x1.1 x8.1 (fun x11 w11 =>
allocK (.cells #[.int .i64 (0 : Int), .int .i64 (0 : Int), .int .i64 (0 : Int), .int .i64 (0 : Int), .int .u64 (0 : Int), .int .u64 (0 : Int)] t_api_Weight) w11 fun a12 w12 =>
stK w12 a12 (cells yapi_Weight x11.1) fun w13 =>
drawK w13 fun w14 =>
nilIfcK x6.2 fun b13 =>
gd b13 (
nilIfcK x8.2 fun b14 =>
gd b14 (
nilIfcK x9.2 fun b15 =>
gd b15 (
nilIfcK x11.2 fun b16 =>
gd b16 (
∃ x17 : yapi_Weight.T, At w14 a10 (cells yapi_Weight x17) ∧
∃ x18 : yapi_Weight.T, At w14 a12 (cells yapi_Weight x18) ∧
testK P (do eqGuard .eql t_api_Weight (.tmp 79) (.tmp 80) (val yapi_Weight x17) (val yapi_Weight x18); binOp .eql t_api_Weight (val yapi_Weight x17) (val yapi_Weight x18)) fun b19 =>
gd b19 (
C_law15_fits x1.1 x8.1 (fun x20 w15 =>
gd x20 (
∃ x21 : yevergreenref12_Store.T, At w15 a2 (cells yevergreenref12_Store x21) ∧
C_intern_Store_Len x1.1 (fun x22 w16 =>
At w16 a2 (cells yevergreenref12_Store x21) ∧
arith .i64 (x22 - x7) fun n23 =>
C_ref12_Length x21 x5 (fun x24 w17 =>
C_ref15_Work x6.1 x24 (fun x25 w18 =>
K (decide (n23 ≤ x25)) w18) w17) w16) w15) (
K false w15)) w14) (
K false w14)) (
K false w14)) (
K false w14)) (
K false w14)) (
K false w14)) w10) w7) w6) w5) w4) w3)) w0)
theorem S_law15_BalanceGreat (v0_list : Sl) (v1_n : Int) (K : Bool → World → Prop) (w0 : World) (h : F_law15_BalanceGreat v0_list v1_n K w0) : C_law15_BalanceGreat v0_list v1_n K w0 := by
  have e : denFn P [] Try.f9 #[.slice v0_list.a v0_list.len v0_list.cap, .int .i64 v1_n] .bool K w0 = F_law15_BalanceGreat v0_list v1_n K w0 := by kernel_rfl
  exact fn_sound mixed (f := 9) Try.func9 (by kernel_rfl) (e.mpr h)

def F_law15_BalancePowers (v0_b : Sl) (v1_i : Int) (v2_j : Int) (K : Bool → World → Prop) (w0 : World) : Prop :=
gd (decide ((200 : Int) < (v0_b.len : Int))) (
K true w0) (
C_law15_begun (⟨none, 0, 0⟩) (fun x1 w1 =>
allocK (.cells #[.slice none 0 0, .slice none 0 0] t_evergreenref12_Store) w1 fun a2 w2 =>
stK w2 a2 (cells yevergreenref12_Store x1.2.2.1) fun w3 =>
gd (!x1.2.2.2) (
K false w3) (
JoinP (X := Bool × Unit) (fun R4 =>
gd (decide (v1_i < (0 : Int))) (
R4 (true, ()) w3) (
gd (decide (v2_j < (0 : Int))) (
R4 (true, ()) w3) (
gd (decide ((268435456 : Int) < v1_i)) (
R4 (true, ()) w3) (
gd (decide ((268435456 : Int) < v2_j)) (
R4 (true, ()) w3) (
gd (decide ((0 : Int) < (v0_b.len : Int))) (
arith .i64 (v1_i * v2_j) fun n5 =>
(v0_b.len : Int) ≠ 0 ∧
arith .i64 (Int.tdiv (1152921504606846976 : Int) (v0_b.len : Int)) fun n6 =>
R4 (decide (n6 < n5), ()) w3) (
R4 (false, ()) w3)))))) (fun x3 w4 => ∀ _ : Env,
gd x3.1 (
K true w4) (
C_balance_Text x1.1 v0_b (fun x7 w5 =>
arith .i64 (v1_i * v2_j) fun n8 =>
C_balance_Repeat x1.1 x7.1 n8 (fun x9 w6 =>
arith .i64 (v1_i * v2_j) fun n10 =>
C_intern_Store_Power x1.1 x7.1 n10 (fun x11 w7 =>
C_balance_Of x1.1 x11.1 (fun x12 w8 =>
JoinP (X := Bool × Unit) (fun R14 =>
nilIfcK x7.2 fun b15 =>
gd (!b15) (
R14 (true, ()) w8) (
nilIfcK x9.2 fun b16 =>
gd (!b16) (
R14 (true, ()) w8) (
nilIfcK x11.2 fun b17 =>
gd (!b17) (
R14 (true, ()) w8) (
nilIfcK x12.2 fun b18 =>
R14 (!b18, ()) w8)))) (fun x13 w9 => ∀ _ : Env,
gd x13.1 (
K false w9) (
C_intern_Store_Weight x1.1 x9.1 (fun x19 w10 =>
allocK (.cells #[.int .i64 (0 : Int), .int .i64 (0 : Int), .int .i64 (0 : Int), .int .i64 (0 : Int), .int .u64 (0 : Int), .int .u64 (0 : Int)] t_api_Weight) w10 fun a20 w11 =>
stK w11 a20 (cells yapi_Weight x19.1) fun w12 =>
C_intern_Store_Weight x1.1 x12.1 (fun x21 w13 =>
allocK (.cells #[.int .i64 (0 : Int), .int .i64 (0 : Int), .int .i64 (0 : Int), .int .i64 (0 : Int), .int .u64 (0 : Int), .int .u64 (0 : Int)] t_api_Weight) w13 fun a22 w14 =>
stK w14 a22 (cells yapi_Weight x21.1) fun w15 =>
JoinP (X := Bool × Unit) (fun R24 =>
nilIfcK x19.2 fun b25 =>
gd (!b25) (
R24 (true, ()) w15) (
nilIfcK x21.2 fun b26 =>
gd (!b26) (
R24 (true, ()) w15) (
∃ x27 : yapi_Weight.T, At w15 a20 (cells yapi_Weight x27) ∧
∃ x28 : yapi_Weight.T, At w15 a22 (cells yapi_Weight x28) ∧
testK P (do eqGuard .neq t_api_Weight (.tmp 126) (.tmp 127) (val yapi_Weight x27) (val yapi_Weight x28); binOp .neq t_api_Weight (val yapi_Weight x27) (val yapi_Weight x28)) fun b29 =>
gd b29 (
R24 (true, ()) w15) (
∃ x30 : Int, At w15 (a20.add 0) (cells (.int .i64) x30) ∧
arith .i64 ((v0_b.len : Int) * v1_i) fun n31 =>
arith .i64 (n31 * v2_j) fun n32 =>
R24 (x30 != n32, ()) w15)))) (fun x23 w16 => ∀ _ : Env,
gd x23.1 (
K false w16) (
gd (v2_j == (0 : Int)) (
gd (x9.1 == (0 : Int)) (
K (x12.1 == (0 : Int)) w16) (
K false w16)) (
C_balance_Repeat x1.1 x7.1 v1_i (fun x33 w17 =>
C_balance_Repeat x1.1 x33.1 v2_j (fun x34 w18 =>
C_intern_Store_Weight x1.1 x34.1 (fun x35 w19 =>
allocK (.cells #[.int .i64 (0 : Int), .int .i64 (0 : Int), .int .i64 (0 : Int), .int .i64 (0 : Int), .int .u64 (0 : Int), .int .u64 (0 : Int)] t_api_Weight) w19 fun a36 w20 =>
stK w20 a36 (cells yapi_Weight x35.1) fun w21 =>
nilIfcK x33.2 fun b37 =>
gd b37 (
nilIfcK x34.2 fun b38 =>
gd b38 (
nilIfcK x35.2 fun b39 =>
gd b39 (
∃ x40 : yapi_Weight.T, At w21 a36 (cells yapi_Weight x40) ∧
∃ x41 : yapi_Weight.T, At w21 a20 (cells yapi_Weight x41) ∧
testK P (do eqGuard .eql t_api_Weight (.tmp 180) (.tmp 181) (val yapi_Weight x40) (val yapi_Weight x41); binOp .eql t_api_Weight (val yapi_Weight x40) (val yapi_Weight x41)) fun b42 =>
gd b42 (
C_law15_fits x1.1 x34.1 (fun x43 w22 =>
K x43 w22) w21) (
K false w21)) (
K false w21)) (
K false w21)) (
K false w21)) w18) w17) w16)))) w12) w9))) w7) w6) w5) w4)))) w0)
theorem S_law15_BalancePowers (v0_b : Sl) (v1_i : Int) (v2_j : Int) (K : Bool → World → Prop) (w0 : World) (h : F_law15_BalancePowers v0_b v1_i v2_j K w0) : C_law15_BalancePowers v0_b v1_i v2_j K w0 := by
  have e : denFn P [(7, [(62, .bool)]), (13, [(106, .bool)]), (17, [(140, .bool)])] Try.f10 #[.slice v0_b.a v0_b.len v0_b.cap, .int .i64 v1_i, .int .i64 v2_j] .bool K w0 = F_law15_BalancePowers v0_b v1_i v2_j K w0 := by kernel_rfl
  exact fn_sound mixed (f := 10) Try.func10 (by kernel_rfl) (e.mpr h)

def F_law15_BalanceNone (v0_b : Sl) (v1_id : Int) (v2_k : Int) (K : Bool → World → Prop) (w0 : World) : Prop :=
C_law15_begun (⟨none, 0, 0⟩) (fun x1 w1 =>
allocK (.cells #[.slice none 0 0, .slice none 0 0] t_evergreenref12_Store) w1 fun a2 w2 =>
stK w2 a2 (cells yevergreenref12_Store x1.2.2.1) fun w3 =>
gd (!x1.2.2.2) (
K false w3) (
C_balance_Text none v0_b (fun x3 w4 =>
C_balance_Of none v1_id (fun x4 w5 =>
C_balance_Repeat none v1_id v2_k (fun x5 w6 =>
allocK (.cells #[.int .i64 v1_id] t_api_ID) w6 fun a6 w7 =>
C_balance_Concat none (⟨some a6, 1, 1⟩) (fun x7 w8 =>
gd (x3.1 == (0 : Int)) (
gd (x4.1 == (0 : Int)) (
gd (x5.1 == (0 : Int)) (
gd (x7.1 == (0 : Int)) (
C_base_Is x3.2 (5 : Int) (fun x8 w9 =>
gd x8 (
C_base_Is x4.2 (5 : Int) (fun x9 w10 =>
gd x9 (
C_base_Is x5.2 (5 : Int) (fun x10 w11 =>
gd x10 (
C_base_Is x7.2 (5 : Int) (fun x11 w12 =>
K x11 w12) w11) (
K false w11)) w10) (
K false w10)) w9) (
K false w9)) w8) (
K false w8)) (
K false w8)) (
K false w8)) (
K false w8)) w7) w5) w4) w3)) w0
theorem S_law15_BalanceNone (v0_b : Sl) (v1_id : Int) (v2_k : Int) (K : Bool → World → Prop) (w0 : World) (h : F_law15_BalanceNone v0_b v1_id v2_k K w0) : C_law15_BalanceNone v0_b v1_id v2_k K w0 := by
  have e : denFn P [] Try.f11 #[.slice v0_b.a v0_b.len v0_b.cap, .int .i64 v1_id, .int .i64 v2_k] .bool K w0 = F_law15_BalanceNone v0_b v1_id v2_k K w0 := by kernel_rfl
  exact fn_sound mixed (f := 11) Try.func11 (by kernel_rfl) (e.mpr h)

def F_law15_begun (v0_list : Sl) (K : ((Option Addr) × Sl × yevergreenref12_Store.T × Bool) → World → Prop) (w0 : World) : Prop :=
allocK (.cells #[.slice none 0 0, .slice none 0 0] t_evergreenref12_Store) w0 fun a1 w1 =>
C_intern_New (1048576 : Int) (fun x2 w2 =>
C_ref12_Build v0_list (fun x3 w3 =>
allocK (.cells #[.slice none 0 0, .slice none 0 0] t_evergreenref12_Store) w3 fun a4 w4 =>
stK w4 a4 (cells yevergreenref12_Store x3.1) fun w5 =>
gd x2.isNone (
drawK w5 fun w6 =>
∃ x5 : yevergreenref12_Store.T, At w6 a4 (cells yevergreenref12_Store x5) ∧
stK w6 a1 (cells yevergreenref12_Store x5) fun w7 =>
∃ x6 : yevergreenref12_Store.T, At w7 a1 (cells yevergreenref12_Store x6) ∧
K (none, ⟨none, 0, 0⟩, x6, false) w7) (
C_law12_Build x2 v0_list (fun x7 w8 =>
C_intern_New (10 : Int) (fun x8 w9 =>
allocK (.cells #[.int .u8 (97 : Int), .int .u8 (98 : Int)] t_uint8) w9 fun a9 w10 =>
runK P .slice (convert t_sl_uint8 t_sl_uint8 (.slice (some a9) 2 2)) w10 fun x10 w11 =>
C_balance_Text x8 x10 (fun x11 w12 =>
C_intern_Store_Weight x8 x11.1 (fun x12 w13 =>
allocK (.cells #[.int .i64 (0 : Int), .int .i64 (0 : Int), .int .i64 (0 : Int), .int .i64 (0 : Int), .int .u64 (0 : Int), .int .u64 (0 : Int)] t_api_Weight) w13 fun a13 w14 =>
stK w14 a13 (cells yapi_Weight x12.1) fun w15 =>
drawK w15 fun w16 =>
∃ x14 : yevergreenref12_Store.T, At w16 a4 (cells yevergreenref12_Store x14) ∧
gd x7.2 (
nilIfcK x11.2 fun b15 =>
gd b15 (
nilIfcK x12.2 fun b16 =>
gd b16 (
∃ x17 : Int, At w16 (a13.add 0) (cells (.int .i64) x17) ∧
stK w16 a1 (cells yevergreenref12_Store x14) fun w17 =>
At w17 (a13.add 0) (cells (.int .i64) x17) ∧
∃ x18 : yevergreenref12_Store.T, At w17 a1 (cells yevergreenref12_Store x18) ∧
K (x2, x7.1, x18, x17 == (2 : Int)) w17) (
stK w16 a1 (cells yevergreenref12_Store x14) fun w18 =>
∃ x19 : yevergreenref12_Store.T, At w18 a1 (cells yevergreenref12_Store x19) ∧
K (x2, x7.1, x19, false) w18)) (
stK w16 a1 (cells yevergreenref12_Store x14) fun w19 =>
∃ x20 : yevergreenref12_Store.T, At w19 a1 (cells yevergreenref12_Store x20) ∧
K (x2, x7.1, x20, false) w19)) (
stK w16 a1 (cells yevergreenref12_Store x14) fun w20 =>
∃ x21 : yevergreenref12_Store.T, At w20 a1 (cells yevergreenref12_Store x21) ∧
K (x2, x7.1, x21, false) w20)) w12) w11) w8) w5)) w2) w1
theorem S_law15_begun (v0_list : Sl) (K : ((Option Addr) × Sl × yevergreenref12_Store.T × Bool) → World → Prop) (w0 : World) (h : F_law15_begun v0_list K w0) : C_law15_begun v0_list K w0 := by
  have e : denFn P [] Try.f12 #[.slice v0_list.a v0_list.len v0_list.cap] (.tup (.pair .ptr (.pair .slice (.pair yevergreenref12_Store .bool)))) K w0 = F_law15_begun v0_list K w0 := by kernel_rfl
  exact fn_sound mixed (f := 12) Try.func12 (by kernel_rfl) (e.mpr h)

def F_intern_New (v0_most : Int) (K : (Option Addr) → World → Prop) (w0 : World) : Prop :=
C_length_Clip v0_most (0 : Int) (1048576 : Int) (fun x1 w1 =>
allocK (.map #[] 0) w1 fun a2 w2 =>
allocK (.cells ([.int .i64 x1, .slice none 0 0, .map (some a2.block)]).toArray t_intern_Store) w2 fun a3 w3 =>
K (some a3) w3) w0
theorem S_intern_New (v0_most : Int) (K : (Option Addr) → World → Prop) (w0 : World) (h : F_intern_New v0_most K w0) : C_intern_New v0_most K w0 := by
  have e : denFn P [] Try.f13 #[.int .i64 v0_most] .ptr K w0 = F_intern_New v0_most K w0 := by kernel_rfl
  exact fn_sound mixed (f := 13) Try.func13 (by kernel_rfl) (e.mpr h)

def F_balance_Text (v0_s : Option Addr) (v1_b : Sl) (K : (Int × Value) → World → Prop) (w0 : World) : Prop :=
gd v0_s.isNone (
K ((0 : Int), .iface t_api_Errno (.int .i64 (5 : Int))) w0) (
gd (decide ((65536 : Int) < (v1_b.len : Int))) (
K ((0 : Int), .iface t_api_Errno (.int .i64 (9 : Int))) w0) (
gd ((v1_b.len : Int) == (0 : Int)) (
K ((0 : Int), .nilIface) w0) (
C_balance_text v0_s v1_b (fun x1 w1 =>
K (x1.1, x1.2) w1) w0)))
theorem S_balance_Text (v0_s : Option Addr) (v1_b : Sl) (K : (Int × Value) → World → Prop) (w0 : World) (h : F_balance_Text v0_s v1_b K w0) : C_balance_Text v0_s v1_b K w0 := by
  have e : denFn P [] Try.f14 #[.pointer v0_s, .slice v1_b.a v1_b.len v1_b.cap] (.tup (.pair (.int .i64) .iface)) K w0 = F_balance_Text v0_s v1_b K w0 := by kernel_rfl
  exact fn_sound mixed (f := 14) Try.func14 (by kernel_rfl) (e.mpr h)

def F_base_Is (v0_e : Value) (v1_want : Int) (K : Bool → World → Prop) (w0 : World) : Prop :=
C_base_Num v0_e (fun x1 w1 =>
gd (x1 == v1_want) (
K (v1_want != (0 : Int)) w1) (
K false w1)) w0
theorem S_base_Is (v0_e : Value) (v1_want : Int) (K : Bool → World → Prop) (w0 : World) (h : F_base_Is v0_e v1_want K w0) : C_base_Is v0_e v1_want K w0 := by
  have e : denFn P [] Try.f15 #[v0_e, .int .i64 v1_want] .bool K w0 = F_base_Is v0_e v1_want K w0 := by kernel_rfl
  exact fn_sound mixed (f := 15) Try.func15 (by kernel_rfl) (e.mpr h)

def F_intern_Store_Weight (v0_s : Option Addr) (v1_id : Int) (K : (yapi_Weight.T × Value) → World → Prop) (w0 : World) : Prop :=
allocK (.cells #[.int .i64 (0 : Int), .int .i64 (0 : Int), .int .i64 (0 : Int), .int .i64 (0 : Int), .int .u64 (0 : Int), .int .u64 (0 : Int)] t_api_Weight) w0 fun a1 w1 =>
gd v0_s.isNone (
stK w1 a1 ([.int .i64 (0 : Int), .int .i64 (0 : Int), .int .i64 (0 : Int), .int .i64 (0 : Int), .int .u64 (0 : Int), .int .u64 (0 : Int)]) fun w2 =>
∃ x2 : yapi_Weight.T, At w2 a1 (cells yapi_Weight x2) ∧
K (x2, .iface t_api_Errno (.int .i64 (5 : Int))) w2) (
C_intern_Store_known v0_s v1_id (fun x3 w3 =>
gd (!x3) (
stK w3 a1 ([.int .i64 (0 : Int), .int .i64 (0 : Int), .int .i64 (0 : Int), .int .i64 (0 : Int), .int .u64 (0 : Int), .int .u64 (0 : Int)]) fun w4 =>
∃ x4 : yapi_Weight.T, At w4 a1 (cells yapi_Weight x4) ∧
K (x4, .iface t_api_Errno (.int .i64 (1 : Int))) w4) (
C_intern_Store_at v0_s v1_id (fun x5 w5 =>
stK w5 a1 ([.int .i64 x5.2.1.1, .int .i64 x5.2.1.2.1, .int .i64 x5.2.1.2.2.1, .int .i64 x5.2.1.2.2.2.1, .int .u64 x5.2.1.2.2.2.2.1, .int .u64 x5.2.1.2.2.2.2.2]) fun w6 =>
∃ x6 : yapi_Weight.T, At w6 a1 (cells yapi_Weight x6) ∧
K (x6, .nilIface) w6) w3)) w1)
theorem S_intern_Store_Weight (v0_s : Option Addr) (v1_id : Int) (K : (yapi_Weight.T × Value) → World → Prop) (w0 : World) (h : F_intern_Store_Weight v0_s v1_id K w0) : C_intern_Store_Weight v0_s v1_id K w0 := by
  have e : denFn P [] Try.f16 #[.pointer v0_s, .int .i64 v1_id] (.tup (.pair yapi_Weight .iface)) K w0 = F_intern_Store_Weight v0_s v1_id K w0 := by kernel_rfl
  exact fn_sound mixed (f := 16) Try.func16 (by kernel_rfl) (e.mpr h)

def F_law15_fits (v0_s : Option Addr) (v1_id : Int) (K : Bool → World → Prop) (w0 : World) : Prop :=
C_intern_Store_Export v0_s v1_id (fun x1 w1 =>
C_intern_Store_Weight v0_s v1_id (fun x2 w2 =>
allocK (.cells #[.int .i64 (0 : Int), .int .i64 (0 : Int), .int .i64 (0 : Int), .int .i64 (0 : Int), .int .u64 (0 : Int), .int .u64 (0 : Int)] t_api_Weight) w2 fun a3 w3 =>
stK w3 a3 (cells yapi_Weight x2.1) fun w4 =>
C_intern_Store_Depth v0_s v1_id (fun x4 w5 =>
nilIfcK x1.2 fun b5 =>
gd b5 (
nilIfcK x2.2 fun b6 =>
gd b6 (
nilIfcK x4.2 fun b7 =>
gd b7 (
C_ref15_Balanced x1.1 (fun x8 w6 =>
gd x8 (
∃ x9 : Int, At w6 (a3.add 0) (cells (.int .i64) x9) ∧
C_ref15_Bound x9 (fun x10 w7 =>
K (decide (x4.1 ≤ x10)) w7) w6) (
K false w6)) w5) (
K false w5)) (
K false w5)) (
K false w5)) w4) w1) w0
theorem S_law15_fits (v0_s : Option Addr) (v1_id : Int) (K : Bool → World → Prop) (w0 : World) (h : F_law15_fits v0_s v1_id K w0) : C_law15_fits v0_s v1_id K w0 := by
  have e : denFn P [] Try.f17 #[.pointer v0_s, .int .i64 v1_id] .bool K w0 = F_law15_fits v0_s v1_id K w0 := by kernel_rfl
  exact fn_sound mixed (f := 17) Try.func17 (by kernel_rfl) (e.mpr h)

def F_law15_is (v0_s : Option Addr) (v1_id : Int) (v2_b : Sl) (K : Bool → World → Prop) (w0 : World) : Prop :=
C_intern_Store_Export v0_s v1_id (fun x1 w1 =>
C_ref12_Expand x1.1 (v2_b.len : Int) (fun x2 w2 =>
nilIfcK x1.2 fun b3 =>
gd b3 (
gd x2.2 (
C_base_Bytes x2.1 v2_b (fun x4 w3 =>
K x4 w3) w2) (
K false w2)) (
K false w2)) w1) w0
theorem S_law15_is (v0_s : Option Addr) (v1_id : Int) (v2_b : Sl) (K : Bool → World → Prop) (w0 : World) (h : F_law15_is v0_s v1_id v2_b K w0) : C_law15_is v0_s v1_id v2_b K w0 := by
  have e : denFn P [] Try.f18 #[.pointer v0_s, .int .i64 v1_id, .slice v2_b.a v2_b.len v2_b.cap] .bool K w0 = F_law15_is v0_s v1_id v2_b K w0 := by kernel_rfl
  exact fn_sound mixed (f := 18) Try.func18 (by kernel_rfl) (e.mpr h)

def F_intern_Store_Len (v0_s : Option Addr) (K : Int → World → Prop) (w0 : World) : Prop :=
gd v0_s.isNone (
K (0 : Int) w0) (
nonNil v0_s fun p1 =>
∃ x2 : Sl, At w0 (p1.add 1) (cells .slice x2) ∧
K (x2.len : Int) w0)
theorem S_intern_Store_Len (v0_s : Option Addr) (K : Int → World → Prop) (w0 : World) (h : F_intern_Store_Len v0_s K w0) : C_intern_Store_Len v0_s K w0 := by
  have e : denFn P [] Try.f19 #[.pointer v0_s] (.int .i64) K w0 = F_intern_Store_Len v0_s K w0 := by kernel_rfl
  exact fn_sound mixed (f := 19) Try.func19 (by kernel_rfl) (e.mpr h)

def F_law15_pick (v0_s : Option Addr) (v1_results : Sl) (v2_n : Int) (K : Int → World → Prop) (w0 : World) : Prop :=
gd (v2_n == (-4 : Int)) (
K (-1 : Int) w0) (
gd (v2_n == (-5 : Int)) (
C_intern_Store_Len v0_s (fun x1 w1 =>
arith .i64 (x1 + (1 : Int)) fun n2 =>
K n2 w1) w0) (
C_ref12_Pick v2_n (v1_results.len : Int) (fun x3 w2 =>
idxK v1_results.a v1_results.len x3 1 fun p4 =>
∃ x5 : Int, At w2 p4 (cells (.int .i64) x5) ∧
K x5 w2) w0))
theorem S_law15_pick (v0_s : Option Addr) (v1_results : Sl) (v2_n : Int) (K : Int → World → Prop) (w0 : World) (h : F_law15_pick v0_s v1_results v2_n K w0) : C_law15_pick v0_s v1_results v2_n K w0 := by
  have e : denFn P [] Try.f20 #[.pointer v0_s, .slice v1_results.a v1_results.len v1_results.cap, .int .i64 v2_n] (.int .i64) K w0 = F_law15_pick v0_s v1_results v2_n K w0 := by kernel_rfl
  exact fn_sound mixed (f := 20) Try.func20 (by kernel_rfl) (e.mpr h)

def F_balance_Repeat (v0_s : Option Addr) (v1_id : Int) (v2_k : Int) (K : (Int × Value) → World → Prop) (w0 : World) : Prop :=
C_avl_Balanced v0_s v1_id (fun x1 w1 =>
nilIfcK x1.2 fun b2 =>
gd (!b2) (
K ((0 : Int), x1.2) w1) (
gd (!x1.1) (
K ((0 : Int), .iface t_api_Errno (.int .i64 (4 : Int))) w1) (
gd (decide (v2_k < (0 : Int))) (
K ((0 : Int), .iface t_api_Errno (.int .i64 (1 : Int))) w1) (
C_intern_Store_Weight v0_s v1_id (fun x3 w2 =>
allocK (.cells #[.int .i64 (0 : Int), .int .i64 (0 : Int), .int .i64 (0 : Int), .int .i64 (0 : Int), .int .u64 (0 : Int), .int .u64 (0 : Int)] t_api_Weight) w2 fun a4 w3 =>
stK w3 a4 (cells yapi_Weight x3.1) fun w4 =>
nilIfcK x3.2 fun b5 =>
gd (!b5) (
K ((0 : Int), x3.2) w4) (
∃ x6 : Int, At w4 (a4.add 0) (cells (.int .i64) x6) ∧
C_length_Mul x6 v2_k (fun x7 w5 =>
nilIfcK x7.2 fun b8 =>
gd (!b8) (
K ((0 : Int), .iface t_api_Errno (.int .i64 (2 : Int))) w5) (
JoinP (X := Bool × Unit) (fun R10 =>
gd (v2_k == (0 : Int)) (
R10 (true, ()) w5) (
R10 (v1_id == (0 : Int), ()) w5)) (fun x9 w6 => ∀ _ : Env,
gd x9.1 (
K ((0 : Int), .nilIface) w6) (
C_balance_repeat v0_s v1_id v2_k (fun x11 w7 =>
K (x11.1, x11.2) w7) w6)))) w4)) w1)))) w0
theorem S_balance_Repeat (v0_s : Option Addr) (v1_id : Int) (v2_k : Int) (K : (Int × Value) → World → Prop) (w0 : World) (h : F_balance_Repeat v0_s v1_id v2_k K w0) : C_balance_Repeat v0_s v1_id v2_k K w0 := by
  have e : denFn P [(15, [(52, .bool)])] Try.f21 #[.pointer v0_s, .int .i64 v1_id, .int .i64 v2_k] (.tup (.pair (.int .i64) .iface)) K w0 = F_balance_Repeat v0_s v1_id v2_k K w0 := by kernel_rfl
  exact fn_sound mixed (f := 21) Try.func21 (by kernel_rfl) (e.mpr h)

def F_ref15_Repeat (v0_s : yevergreenref12_Store.T) (v1_id : Int) (v2_k : Int) (K : Int → World → Prop) (w0 : World) : Prop :=
allocK (.cells (cells yevergreenref12_Store v0_s).toArray t_evergreenref12_Store) w0 fun a1 w1 =>
∃ x2 : yevergreenref12_Store.T, At w1 a1 (cells yevergreenref12_Store x2) ∧
C_ref12_Known x2 v1_id (fun x3 w2 =>
gd (!x3) (
K (1 : Int) w2) (
∃ x4 : yevergreenref12_Store.T, At w2 a1 (cells yevergreenref12_Store x4) ∧
C_ref15_Is x4 v1_id (fun x5 w3 =>
gd (!x5) (
K (4 : Int) w3) (
gd (decide (v2_k < (0 : Int))) (
K (1 : Int) w3) (
∃ x6 : yevergreenref12_Store.T, At w3 a1 (cells yevergreenref12_Store x6) ∧
C_ref12_Length x6 v1_id (fun x7 w4 =>
JoinP (X := Bool × Unit) (fun R9 =>
gd (decide ((0 : Int) < x7)) (
x7 ≠ 0 ∧
arith .i64 (Int.tdiv (1152921504606846976 : Int) x7) fun n10 =>
R9 (decide (n10 < v2_k), ()) w4) (
R9 (false, ()) w4)) (fun x8 w5 => ∀ _ : Env,
gd x8.1 (
K (2 : Int) w5) (
K (0 : Int) w5))) w3))) w2)) w1
theorem S_ref15_Repeat (v0_s : yevergreenref12_Store.T) (v1_id : Int) (v2_k : Int) (K : Int → World → Prop) (w0 : World) (h : F_ref15_Repeat v0_s v1_id v2_k K w0) : C_ref15_Repeat v0_s v1_id v2_k K w0 := by
  have e : denFn P [(9, [(28, .bool)])] Try.f22 #[val yevergreenref12_Store v0_s, .int .i64 v1_id, .int .i64 v2_k] (.int .i64) K w0 = F_ref15_Repeat v0_s v1_id v2_k K w0 := by kernel_rfl
  exact fn_sound mixed (f := 22) Try.func22 (by kernel_rfl) (e.mpr h)

def F_base_Num (v0_e : Value) (K : Int → World → Prop) (w0 : World) : Prop :=
nilIfcK v0_e fun b1 =>
gd b1 (
K (0 : Int) w0) (
assertK t_api_Errno (.int .i64) (0 : Int) v0_e fun y2 b3 =>
gd (!b3) (
K (-1 : Int) w0) (
K y2 w0))
theorem S_base_Num (v0_e : Value) (K : Int → World → Prop) (w0 : World) (h : F_base_Num v0_e K w0) : C_base_Num v0_e K w0 := by
  have e : denFn P [] Try.f23 #[v0_e] (.int .i64) K w0 = F_base_Num v0_e K w0 := by kernel_rfl
  exact fn_sound mixed (f := 23) Try.func23 (by kernel_rfl) (e.mpr h)

def F_ref12_Length (v0_s : yevergreenref12_Store.T) (v1_id : Int) (K : Int → World → Prop) (w0 : World) : Prop :=
allocK (.cells (cells yevergreenref12_Store v0_s).toArray t_evergreenref12_Store) w0 fun a1 w1 =>
gd (v1_id == (0 : Int)) (
K (0 : Int) w1) (
∃ x2 : Sl, At w1 (a1.add 1) (cells .slice x2) ∧
arith .i64 (v1_id - (1 : Int)) fun n3 =>
idxK x2.a x2.len n3 1 fun p4 =>
∃ x5 : Int, At w1 p4 (cells (.int .i64) x5) ∧
K x5 w1)
theorem S_ref12_Length (v0_s : yevergreenref12_Store.T) (v1_id : Int) (K : Int → World → Prop) (w0 : World) (h : F_ref12_Length v0_s v1_id K w0) : C_ref12_Length v0_s v1_id K w0 := by
  have e : denFn P [] Try.f24 #[val yevergreenref12_Store v0_s, .int .i64 v1_id] (.int .i64) K w0 = F_ref12_Length v0_s v1_id K w0 := by kernel_rfl
  exact fn_sound mixed (f := 24) Try.func24 (by kernel_rfl) (e.mpr h)

def F_ref15_Bound (v0_length : Int) (K : Int → World → Prop) (w0 : World) : Prop :=
LoopP (X := Int × Int × Int × Unit) ((1 : Int), (2 : Int), (0 : Int), ()) w0 fun next2 x1 w1 => ∀ _ : Env,
gd (decide (x1.2.1 ≤ v0_length)) (
arith .i64 (x1.1 + x1.2.1) fun n3 =>
arith .i64 (x1.2.2.1 + (1 : Int)) fun n4 =>
next2 (x1.2.1, n3, n4, ()) w1) (
K x1.2.2.1 w1)
theorem S_ref15_Bound (v0_length : Int) (K : Int → World → Prop) (w0 : World) (h : F_ref15_Bound v0_length K w0) : C_ref15_Bound v0_length K w0 := by
  have e : denFn P [(1003, [(3, .int .i64), (4, .int .i64), (5, .int .i64)])] Try.f25 #[.int .i64 v0_length] (.int .i64) K w0 = F_ref15_Bound v0_length K w0 := by kernel_rfl
  exact fn_sound mixed (f := 25) Try.func25 (by kernel_rfl) (e.mpr h)

def F_ref15_Log (v0_n : Int) (K : Int → World → Prop) (w0 : World) : Prop :=
LoopP (X := Int × Int × Unit) (v0_n, (0 : Int), ()) w0 fun next2 x1 w1 => ∀ _ : Env,
gd (decide ((1 : Int) < x1.1)) (
(2 : Int) ≠ 0 ∧
arith .i64 (Int.tdiv x1.1 (2 : Int)) fun n3 =>
arith .i64 (x1.2.1 + (1 : Int)) fun n4 =>
next2 (n3, n4, ()) w1) (
K x1.2.1 w1)
theorem S_ref15_Log (v0_n : Int) (K : Int → World → Prop) (w0 : World) (h : F_ref15_Log v0_n K w0) : C_ref15_Log v0_n K w0 := by
  have e : denFn P [(1002, [(0, .int .i64), (3, .int .i64)])] Try.f26 #[.int .i64 v0_n] (.int .i64) K w0 = F_ref15_Log v0_n K w0 := by kernel_rfl
  exact fn_sound mixed (f := 26) Try.func26 (by kernel_rfl) (e.mpr h)

def F_ref12_Text (v0_s : yevergreenref12_Store.T) (v1_id : Int) (v2_most : Int) (K : (Sl × Bool) → World → Prop) (w0 : World) : Prop :=
allocK (.cells (cells yevergreenref12_Store v0_s).toArray t_evergreenref12_Store) w0 fun a1 w1 =>
∃ x2 : Sl, At w1 (a1.add 0) (cells .slice x2) ∧
slK 5 x2.a x2.len x2.cap none (some v1_id) fun s3 =>
C_ref12_Expand s3 v2_most (fun x4 w2 =>
K (x4.1, x4.2) w2) w1
theorem S_ref12_Text (v0_s : yevergreenref12_Store.T) (v1_id : Int) (v2_most : Int) (K : (Sl × Bool) → World → Prop) (w0 : World) (h : F_ref12_Text v0_s v1_id v2_most K w0) : C_ref12_Text v0_s v1_id v2_most K w0 := by
  have e : denFn P [] Try.f27 #[val yevergreenref12_Store v0_s, .int .i64 v1_id, .int .i64 v2_most] (.tup (.pair .slice .bool)) K w0 = F_ref12_Text v0_s v1_id v2_most K w0 := by kernel_rfl
  exact fn_sound mixed (f := 27) Try.func27 (by kernel_rfl) (e.mpr h)

def F_balance_Concat (v0_s : Option Addr) (v1_ids : Sl) (K : (Int × Value) → World → Prop) (w0 : World) : Prop :=
gd v0_s.isNone (
K ((0 : Int), .iface t_api_Errno (.int .i64 (5 : Int))) w0) (
0 ≤ (0 : Int) ∧ (0 : Int) ≤ (v1_ids.len : Int) ∧ (v1_ids.len : Int) ≤ 9223372036854775807 ∧ 8 * (v1_ids.len : Int) ≤ 281474976710656 ∧
allocK (.cells (zrow #[.int .i64 (0 : Int)] ((v1_ids.len : Int).toNat * 1)) t_int) w0 fun a1 w1 =>
LoopP (X := Sl × Int × Unit) (⟨some a1, (0 : Int).toNat, (v1_ids.len : Int).toNat⟩, (0 : Int), ()) w1 fun next3 x2 w2 => ∀ _ : Env,
gd (decide (x2.2.1 < (v1_ids.len : Int))) (
idxK v1_ids.a v1_ids.len x2.2.1 1 fun p4 =>
∃ x5 : Int, At w2 p4 (cells (.int .i64) x5) ∧
C_avl_Balanced v0_s x5 (fun x6 w3 =>
nilIfcK x6.2 fun b7 =>
gd (!b7) (
K ((0 : Int), x6.2) w3) (
gd (!x6.1) (
K ((0 : Int), .iface t_api_Errno (.int .i64 (4 : Int))) w3) (
C_intern_Store_Weight v0_s x5 (fun x8 w4 =>
allocK (.cells #[.int .i64 (0 : Int), .int .i64 (0 : Int), .int .i64 (0 : Int), .int .i64 (0 : Int), .int .u64 (0 : Int), .int .u64 (0 : Int)] t_api_Weight) w4 fun a9 w5 =>
stK w5 a9 (cells yapi_Weight x8.1) fun w6 =>
nilIfcK x8.2 fun b10 =>
gd (!b10) (
K ((0 : Int), x8.2) w6) (
∃ x11 : Int, At w6 (a9.add 0) (cells (.int .i64) x11) ∧
allocK (.cells #[.int .i64 x11] t_int) w6 fun a12 w7 =>
appK t_int 1 8 #[.int .i64 (0 : Int)] x2.1.a x2.1.len x2.1.cap (.slice (some a12) 1 1) 1 w7 fun s13 w8 =>
arith .i64 (x2.2.1 + (1 : Int)) fun n14 =>
next3 (s13, n14, ()) w8)) w3))) w2) (
C_length_Sum x2.1 (fun x15 w9 =>
nilIfcK x15.2 fun b16 =>
gd (!b16) (
K ((0 : Int), .iface t_api_Errno (.int .i64 (2 : Int))) w9) (
LoopP (X := Int × Int × Unit) ((0 : Int), (0 : Int), ()) w9 fun next18 x17 w10 => ∀ _ : Env,
gd (decide (x17.2.1 < (v1_ids.len : Int))) (
idxK v1_ids.a v1_ids.len x17.2.1 1 fun p19 =>
∃ x20 : Int, At w10 p19 (cells (.int .i64) x20) ∧
C_avl_Join v0_s x17.1 x20 (fun x21 w11 =>
nilIfcK x21.2 fun b22 =>
gd (!b22) (
K ((0 : Int), x21.2) w11) (
arith .i64 (x17.2.1 + (1 : Int)) fun n23 =>
next18 (x21.1, n23, ()) w11)) w10) (
K (x17.1, .nilIface) w10))) w2))
theorem S_balance_Concat (v0_s : Option Addr) (v1_ids : Sl) (K : (Int × Value) → World → Prop) (w0 : World) (h : F_balance_Concat v0_s v1_ids K w0) : C_balance_Concat v0_s v1_ids K w0 := by
  have e : denFn P [(1005, [(6, .slice), (27, .int .i64)]), (1022, [(14, .int .i64), (68, .int .i64)])] Try.f28 #[.pointer v0_s, .slice v1_ids.a v1_ids.len v1_ids.cap] (.tup (.pair (.int .i64) .iface)) K w0 = F_balance_Concat v0_s v1_ids K w0 := by kernel_rfl
  exact fn_sound mixed (f := 28) Try.func28 (by kernel_rfl) (e.mpr h)

def F_ref15_Concat (v0_s : yevergreenref12_Store.T) (v1_ids : Sl) (K : Int → World → Prop) (w0 : World) : Prop :=
allocK (.cells (cells yevergreenref12_Store v0_s).toArray t_evergreenref12_Store) w0 fun a1 w1 =>
LoopP (X := Int × Unit) ((0 : Int), ()) w1 fun next3 x2 w2 => ∀ _ : Env,
gd (decide (x2.1 < (v1_ids.len : Int))) (
drawK w2 fun w3 =>
∃ x4 : yevergreenref12_Store.T, At w3 a1 (cells yevergreenref12_Store x4) ∧
idxK v1_ids.a v1_ids.len x2.1 1 fun p5 =>
∃ x6 : Int, At w3 p5 (cells (.int .i64) x6) ∧
C_ref12_Known x4 x6 (fun x7 w4 =>
gd (!x7) (
K (1 : Int) w4) (
drawK w4 fun w5 =>
∃ x8 : yevergreenref12_Store.T, At w5 a1 (cells yevergreenref12_Store x8) ∧
idxK v1_ids.a v1_ids.len x2.1 1 fun p9 =>
∃ x10 : Int, At w5 p9 (cells (.int .i64) x10) ∧
C_ref15_Is x8 x10 (fun x11 w6 =>
gd (!x11) (
K (4 : Int) w6) (
arith .i64 (x2.1 + (1 : Int)) fun n12 =>
next3 (n12, ()) w6)) w5)) w3) (
LoopP (X := Int × Int × Unit) ((0 : Int), (0 : Int), ()) w2 fun next14 x13 w7 => ∀ _ : Env,
gd (decide (x13.2.1 < (v1_ids.len : Int))) (
drawK w7 fun w8 =>
∃ x15 : yevergreenref12_Store.T, At w8 a1 (cells yevergreenref12_Store x15) ∧
idxK v1_ids.a v1_ids.len x13.2.1 1 fun p16 =>
∃ x17 : Int, At w8 p16 (cells (.int .i64) x17) ∧
arith .i64 ((1152921504606846976 : Int) - x13.1) fun n18 =>
C_ref12_Length x15 x17 (fun x19 w9 =>
gd (decide (n18 < x19)) (
K (2 : Int) w9) (
drawK w9 fun w10 =>
∃ x20 : yevergreenref12_Store.T, At w10 a1 (cells yevergreenref12_Store x20) ∧
idxK v1_ids.a v1_ids.len x13.2.1 1 fun p21 =>
∃ x22 : Int, At w10 p21 (cells (.int .i64) x22) ∧
C_ref12_Length x20 x22 (fun x23 w11 =>
arith .i64 (x13.1 + x23) fun n24 =>
arith .i64 (x13.2.1 + (1 : Int)) fun n25 =>
next14 (n24, n25, ()) w11) w10)) w8) (
K (0 : Int) w7))
theorem S_ref15_Concat (v0_s : yevergreenref12_Store.T) (v1_ids : Sl) (K : Int → World → Prop) (w0 : World) (h : F_ref15_Concat v0_s v1_ids K w0) : C_ref15_Concat v0_s v1_ids K w0 := by
  have e : denFn P [(1002, [(5, .int .i64)]), (1010, [(6, .int .i64), (7, .int .i64)])] Try.f29 #[val yevergreenref12_Store v0_s, .slice v1_ids.a v1_ids.len v1_ids.cap] (.int .i64) K w0 = F_ref15_Concat v0_s v1_ids K w0 := by kernel_rfl
  exact fn_sound mixed (f := 29) Try.func29 (by kernel_rfl) (e.mpr h)

def F_balance_Of (v0_s : Option Addr) (v1_id : Int) (K : (Int × Value) → World → Prop) (w0 : World) : Prop :=
C_avl_Balanced v0_s v1_id (fun x1 w1 =>
nilIfcK x1.2 fun b2 =>
gd (!b2) (
K ((0 : Int), x1.2) w1) (
gd x1.1 (
K (v1_id, .nilIface) w1) (
allocK (.cells #[.int .i64 v1_id] t_api_ID) w1 fun a3 w2 =>
C_collect_Reach v0_s (⟨some a3, 1, 1⟩) (fun x4 w3 =>
nilIfcK x4.2 fun b5 =>
gd (!b5) (
K ((0 : Int), x4.2) w3) (
allocK (.map #[] 0) w3 fun a6 w4 =>
LoopP (X := Int × Unit) ((0 : Int), ()) w4 fun next8 x7 w5 => ∀ _ : Env,
gd (decide (x7.1 < (x4.1.len : Int))) (
idxK x4.1.a x4.1.len x7.1 1 fun p9 =>
∃ x10 : Int, At w5 p9 (cells (.int .i64) x10) ∧
C_balance_step v0_s x10 (some a6.block) (fun x11 w6 =>
runU P (Instr.mapUpdate t_map_api_ID_api_ID (.map (some a6.block)) (.int .i64 x10) (.int .i64 x11.1)) w6 fun w7 =>
nilIfcK x11.2 fun b12 =>
gd (!b12) (
K ((0 : Int), x11.2) w7) (
arith .i64 (x7.1 + (1 : Int)) fun n13 =>
next8 (n13, ()) w7)) w5) (
∃ x14 : Int, Lk1 P t_map_api_ID_api_ID (.int .i64) (.map (some a6.block)) (.int .i64 v1_id) x14 w5 ∧
K (x14, .nilIface) w5))) w2))) w0
theorem S_balance_Of (v0_s : Option Addr) (v1_id : Int) (K : (Int × Value) → World → Prop) (w0 : World) (h : F_balance_Of v0_s v1_id K w0) : C_balance_Of v0_s v1_id K w0 := by
  have e : denFn P [(1011, [(38, .int .i64)])] Try.f30 #[.pointer v0_s, .int .i64 v1_id] (.tup (.pair (.int .i64) .iface)) K w0 = F_balance_Of v0_s v1_id K w0 := by kernel_rfl
  exact fn_sound mixed (f := 30) Try.func30 (by kernel_rfl) (e.mpr h)

def F_ref12_Known (v0_s : yevergreenref12_Store.T) (v1_id : Int) (K : Bool → World → Prop) (w0 : World) : Prop :=
allocK (.cells (cells yevergreenref12_Store v0_s).toArray t_evergreenref12_Store) w0 fun a1 w1 =>
gd (decide ((0 : Int) ≤ v1_id)) (
∃ x2 : Sl, At w1 (a1.add 0) (cells .slice x2) ∧
K (decide (v1_id ≤ (x2.len : Int))) w1) (
K false w1)
theorem S_ref12_Known (v0_s : yevergreenref12_Store.T) (v1_id : Int) (K : Bool → World → Prop) (w0 : World) (h : F_ref12_Known v0_s v1_id K w0) : C_ref12_Known v0_s v1_id K w0 := by
  have e : denFn P [] Try.f31 #[val yevergreenref12_Store v0_s, .int .i64 v1_id] .bool K w0 = F_ref12_Known v0_s v1_id K w0 := by kernel_rfl
  exact fn_sound mixed (f := 31) Try.func31 (by kernel_rfl) (e.mpr h)

def F_ref15_Is (v0_s : yevergreenref12_Store.T) (v1_id : Int) (K : Bool → World → Prop) (w0 : World) : Prop :=
allocK (.cells (cells yevergreenref12_Store v0_s).toArray t_evergreenref12_Store) w0 fun a1 w1 =>
∃ x2 : Sl, At w1 (a1.add 0) (cells .slice x2) ∧
slK 5 x2.a x2.len x2.cap none (some v1_id) fun s3 =>
C_ref15_Balanced s3 (fun x4 w2 =>
K x4 w2) w1
theorem S_ref15_Is (v0_s : yevergreenref12_Store.T) (v1_id : Int) (K : Bool → World → Prop) (w0 : World) (h : F_ref15_Is v0_s v1_id K w0) : C_ref15_Is v0_s v1_id K w0 := by
  have e : denFn P [] Try.f32 #[val yevergreenref12_Store v0_s, .int .i64 v1_id] .bool K w0 = F_ref15_Is v0_s v1_id K w0 := by kernel_rfl
  exact fn_sound mixed (f := 32) Try.func32 (by kernel_rfl) (e.mpr h)

def F_ref12_Pick (v0_n : Int) (v1_many : Int) (K : Int → World → Prop) (w0 : World) : Prop :=
v1_many ≠ 0 ∧
letZ (Int.tmod v0_n v1_many) fun n1 =>
JoinP (X := Int × Unit) (fun R3 =>
gd (decide (n1 < (0 : Int))) (
arith .i64 (n1 + v1_many) fun n4 =>
R3 (n4, ()) w0) (
R3 (n1, ()) w0)) (fun x2 w1 => ∀ _ : Env,
K x2.1 w1)
theorem S_ref12_Pick (v0_n : Int) (v1_many : Int) (K : Int → World → Prop) (w0 : World) (h : F_ref12_Pick v0_n v1_many K w0) : C_ref12_Pick v0_n v1_many K w0 := by
  have e : denFn P [(4, [(0, .int .i64)])] Try.f33 #[.int .i64 v0_n, .int .i64 v1_many] (.int .i64) K w0 = F_ref12_Pick v0_n v1_many K w0 := by kernel_rfl
  exact fn_sound mixed (f := 33) Try.func33 (by kernel_rfl) (e.mpr h)

def F_intern_Store_Export (v0_s : Option Addr) (v1_id : Int) (K : (Sl × Value) → World → Prop) (w0 : World) : Prop :=
gd v0_s.isNone (
K (⟨none, 0, 0⟩, .iface t_api_Errno (.int .i64 (5 : Int))) w0) (
C_intern_Store_known v0_s v1_id (fun x1 w1 =>
gd (!x1) (
K (⟨none, 0, 0⟩, .iface t_api_Errno (.int .i64 (1 : Int))) w1) (
C_intern_Store_reach v0_s v1_id (fun x2 w2 =>
allocK (.map #[] 0) w2 fun a3 w3 =>
0 ≤ (0 : Int) ∧ (0 : Int) ≤ (x2.len : Int) ∧ (x2.len : Int) ≤ 9223372036854775807 ∧ 40 * (x2.len : Int) ≤ 281474976710656 ∧
allocK (.cells (zrow #[.int .i64 (0 : Int), .int .u8 (0 : Int), .int .i64 (0 : Int), .int .i64 (0 : Int), .int .i64 (0 : Int)] ((x2.len : Int).toNat * 5)) t_api_Rule) w3 fun a4 w4 =>
LoopP (X := Sl × Int × Unit) (⟨some a4, (0 : Int).toNat, (x2.len : Int).toNat⟩, (0 : Int), ()) w4 fun next6 x5 w5 => ∀ _ : Env,
gd (decide (x5.2.1 < (x2.len : Int))) (
idxK x2.a x2.len x5.2.1 1 fun p7 =>
∃ x8 : Int, At w5 p7 (cells (.int .i64) x8) ∧
arith .i64 (x5.2.1 + (1 : Int)) fun n9 =>
runU P (Instr.mapUpdate t_map_api_ID_api_ID (.map (some a3.block)) (.int .i64 x8) (.int .i64 n9)) w5 fun w6 =>
nonNil v0_s fun p10 =>
∃ x11 : Sl, At w6 (p10.add 1) (cells .slice x11) ∧
arith .i64 (x8 - (1 : Int)) fun n12 =>
idxK x11.a x11.len n12 13 fun p13 =>
∃ x14 : yapi_Rule.T, At w6 (p13.add 0) (cells yapi_Rule x14) ∧
allocK (.cells #[.int .i64 (0 : Int), .int .u8 (0 : Int), .int .i64 (0 : Int), .int .i64 (0 : Int), .int .i64 (0 : Int)] t_api_Rule) w6 fun a15 w7 =>
stK w7 a15 (cells yapi_Rule x14) fun w8 =>
drawK w8 fun w9 =>
∃ x16 : Int, At w9 (a15.add 2) (cells (.int .i64) x16) ∧
∃ x17 : Int, Lk1 P t_map_api_ID_api_ID (.int .i64) (.map (some a3.block)) (.int .i64 x16) x17 w9 ∧
∃ x18 : Int, At w9 (a15.add 3) (cells (.int .i64) x18) ∧
∃ x19 : Int, Lk1 P t_map_api_ID_api_ID (.int .i64) (.map (some a3.block)) (.int .i64 x18) x19 w9 ∧
stK w9 (a15.add 2) ([.int .i64 x17]) fun w10 =>
Lk1 P t_map_api_ID_api_ID (.int .i64) (.map (some a3.block)) (.int .i64 x18) x19 w10 ∧
stK w10 (a15.add 3) ([.int .i64 x19]) fun w11 =>
∃ x20 : yapi_Rule.T, At w11 a15 (cells yapi_Rule x20) ∧
allocK (.cells (cells yapi_Rule x20).toArray t_api_Rule) w11 fun a21 w12 =>
appK t_api_Rule 5 40 #[.int .i64 (0 : Int), .int .u8 (0 : Int), .int .i64 (0 : Int), .int .i64 (0 : Int), .int .i64 (0 : Int)] x5.1.a x5.1.len x5.1.cap (.slice (some a21) 1 1) 1 w12 fun s22 w13 =>
arith .i64 (x5.2.1 + (1 : Int)) fun n23 =>
next6 (s22, n23, ()) w13) (
K (x5.1, .nilIface) w5)) w1)) w0)
theorem S_intern_Store_Export (v0_s : Option Addr) (v1_id : Int) (K : (Sl × Value) → World → Prop) (w0 : World) (h : F_intern_Store_Export v0_s v1_id K w0) : C_intern_Store_Export v0_s v1_id K w0 := by
  have e : denFn P [(1009, [(8, .slice), (31, .int .i64)])] Try.f34 #[.pointer v0_s, .int .i64 v1_id] (.tup (.pair .slice .iface)) K w0 = F_intern_Store_Export v0_s v1_id K w0 := by kernel_rfl
  exact fn_sound mixed (f := 34) Try.func34 (by kernel_rfl) (e.mpr h)

def F_ref15_Work (v0_rules : Sl) (v1_length : Int) (K : Int → World → Prop) (w0 : World) : Prop :=
LoopP (X := Int × Int × Unit) ((v0_rules.len : Int), (0 : Int), ()) w0 fun next2 x1 w1 => ∀ _ : Env,
gd (decide (x1.2.1 < (v0_rules.len : Int))) (
JoinP (X := Int × Unit) (fun R4 =>
idxK v0_rules.a v0_rules.len x1.2.1 5 fun p5 =>
∃ x6 : Int, At w1 (p5.add 0) (cells (.int .i64) x6) ∧
gd (x6 == (3 : Int)) (
idxK v0_rules.a v0_rules.len x1.2.1 5 fun p7 =>
∃ x8 : Int, At w1 (p7.add 4) (cells (.int .i64) x8) ∧
C_ref15_Log x8 (fun x9 w3 =>
arith .i64 (x1.1 + x9) fun n10 =>
R4 (n10, ()) w3) w1) (
R4 (x1.1, ()) w1)) (fun x3 w2 => ∀ _ : Env,
arith .i64 (x1.2.1 + (1 : Int)) fun n11 =>
next2 (x3.1, n11, ()) w2)) (
C_ref15_Bound v1_length (fun x12 w4 =>
arith .i64 (x12 + (1 : Int)) fun n13 =>
arith .i64 ((8 : Int) * n13) fun n14 =>
arith .i64 (n14 * x1.1) fun n15 =>
K n15 w4) w1)
theorem S_ref15_Work (v0_rules : Sl) (v1_length : Int) (K : Int → World → Prop) (w0 : World) (h : F_ref15_Work v0_rules v1_length K w0) : C_ref15_Work v0_rules v1_length K w0 := by
  have e : denFn P [(1003, [(5, .int .i64), (6, .int .i64)]), (4, [(5, .int .i64)])] Try.f35 #[.slice v0_rules.a v0_rules.len v0_rules.cap, .int .i64 v1_length] (.int .i64) K w0 = F_ref15_Work v0_rules v1_length K w0 := by kernel_rfl
  exact fn_sound mixed (f := 35) Try.func35 (by kernel_rfl) (e.mpr h)

def F_intern_Store_Power (v0_s : Option Addr) (v1_x : Int) (v2_k : Int) (K : (Int × Value) → World → Prop) (w0 : World) : Prop :=
gd v0_s.isNone (
K ((0 : Int), .iface t_api_Errno (.int .i64 (5 : Int))) w0) (
JoinP (X := Bool × Unit) (fun R2 =>
C_intern_Store_known v0_s v1_x (fun x3 w2 =>
gd (!x3) (
R2 (true, ()) w2) (
R2 (decide (v2_k < (0 : Int)), ()) w2)) w0) (fun x1 w1 => ∀ _ : Env,
gd x1.1 (
K ((0 : Int), .iface t_api_Errno (.int .i64 (1 : Int))) w1) (
JoinP (X := Bool × Unit) (fun R5 =>
gd (v2_k == (0 : Int)) (
R5 (true, ()) w1) (
R5 (v1_x == (0 : Int), ()) w1)) (fun x4 w3 => ∀ _ : Env,
gd x4.1 (
K ((0 : Int), .nilIface) w3) (
gd (v2_k == (1 : Int)) (
K (v1_x, .nilIface) w3) (
C_intern_Store_at v0_s v1_x (fun x6 w4 =>
allocK (.cells #[.int .i64 (0 : Int), .int .u8 (0 : Int), .int .i64 (0 : Int), .int .i64 (0 : Int), .int .i64 (0 : Int), .int .i64 (0 : Int), .int .i64 (0 : Int), .int .i64 (0 : Int), .int .i64 (0 : Int), .int .u64 (0 : Int), .int .u64 (0 : Int), .int .i64 (0 : Int), .bool false] t_intern_entry) w4 fun a7 w5 =>
stK w5 a7 (cells yintern_entry x6) fun w6 =>
∃ x8 : Int, At w6 ((a7.add 5).add 0) (cells (.int .i64) x8) ∧
C_length_Mul x8 v2_k (fun x9 w7 =>
nilIfcK x9.2 fun b10 =>
gd (!b10) (
K ((0 : Int), .iface t_api_Errno (.int .i64 (2 : Int))) w7) (
allocK (.cells #[.int .i64 (0 : Int), .int .u8 (0 : Int), .int .i64 (0 : Int), .int .i64 (0 : Int), .int .i64 (0 : Int)] t_api_Rule) w7 fun a11 w8 =>
stK w8 a11 ([.int .i64 (3 : Int), .int .u8 (0 : Int), .int .i64 v1_x, .int .i64 (0 : Int), .int .i64 v2_k]) fun w9 =>
∃ x12 : yapi_Rule.T, At w9 a11 (cells yapi_Rule x12) ∧
C_intern_Store_find v0_s x12 (fun x13 w10 =>
JoinP (X := Bool × Unit) (fun R15 =>
gd (x13.1 != (0 : Int)) (
R15 (true, ()) w10) (
nilIfcK x13.2 fun b16 =>
R15 (!b16, ()) w10)) (fun x14 w11 => ∀ _ : Env,
gd x14.1 (
K (x13.1, x13.2) w11) (
∃ x17 : yapi_Weight.T, At w11 (a7.add 5) (cells yapi_Weight x17) ∧
C_weight_Repeat x17 v2_k (fun x18 w12 =>
allocK (.cells #[.int .i64 (0 : Int), .int .i64 (0 : Int), .int .i64 (0 : Int), .int .i64 (0 : Int), .int .u64 (0 : Int), .int .u64 (0 : Int)] t_api_Weight) w12 fun a19 w13 =>
stK w13 a19 (cells yapi_Weight x18.1) fun w14 =>
nilIfcK x18.2 fun b20 =>
gd (!b20) (
K ((0 : Int), x18.2) w14) (
∃ x21 : yapi_Rule.T, At w14 a11 (cells yapi_Rule x21) ∧
∃ x22 : yapi_Weight.T, At w14 a19 (cells yapi_Weight x22) ∧
∃ x23 : Int, At w14 (a7.add 11) (cells (.int .i64) x23) ∧
arith .i64 ((1 : Int) + x23) fun n24 =>
C_intern_Store_add v0_s ((x21.1, (x21.2.1, (x21.2.2.1, (x21.2.2.2.1, x21.2.2.2.2)))), ((x22.1, (x22.2.1, (x22.2.2.1, (x22.2.2.2.1, (x22.2.2.2.2.1, x22.2.2.2.2.2))))), (n24, false))) (fun x25 w15 =>
K (x25, .nilIface) w15) w14)) w11))) w9)) w6) w3))))))
theorem S_intern_Store_Power (v0_s : Option Addr) (v1_x : Int) (v2_k : Int) (K : (Int × Value) → World → Prop) (w0 : World) (h : F_intern_Store_Power v0_s v1_x v2_k K w0) : C_intern_Store_Power v0_s v1_x v2_k K w0 := by
  have e : denFn P [(4, [(26, .bool)]), (6, [(33, .bool)]), (16, [(65, .bool)])] Try.f36 #[.pointer v0_s, .int .i64 v1_x, .int .i64 v2_k] (.tup (.pair (.int .i64) .iface)) K w0 = F_intern_Store_Power v0_s v1_x v2_k K w0 := by kernel_rfl
  exact fn_sound mixed (f := 36) Try.func36 (by kernel_rfl) (e.mpr h)

def F_ref12_Build (v0_list : Sl) (K : (yevergreenref12_Store.T × Sl) → World → Prop) (w0 : World) : Prop :=
allocK (.cells #[.slice none 0 0, .slice none 0 0] t_evergreenref12_Store) w0 fun a1 w1 =>
allocK (.cells #[.slice none 0 0, .slice none 0 0] t_evergreenref12_Store) w1 fun a2 w2 =>
stK w2 a2 ([.slice none 0 0, .slice none 0 0]) fun w3 =>
allocK (.cells #[.int .i64 (0 : Int)] t_api_ID) w3 fun a3 w4 =>
LoopP (X := Sl × Int × Unit) (⟨some a3, 1, 1⟩, (0 : Int), ()) w4 fun next5 x4 w5 => ∀ _ : Env,
gd (decide (x4.2.1 < (v0_list.len : Int))) (
JoinP (X := Addr × Int × Unit) (fun R7 =>
drawK w5 fun w7 =>
∃ x8 : yevergreenref12_Store.T, At w7 a2 (cells yevergreenref12_Store x8) ∧
idxK v0_list.a v0_list.len x4.2.1 5 fun p9 =>
∃ x10 : yevergreenref12_Make.T, At w7 p9 (cells yevergreenref12_Make x10) ∧
(C_ref12_One x8 x10 x4.1 (fun x11 w8 =>
allocK (.cells #[.slice none 0 0, .slice none 0 0] t_evergreenref12_Store) w8 fun a12 w9 =>
stK w9 a12 (cells yevergreenref12_Store x11.1) fun w10 =>
R7 (a12, x11.2, ()) w10) w7) ∧
(allocK (.cells #[.slice none 0 0, .slice none 0 0] t_evergreenref12_Store) w7 fun a13 w11 =>
At w11 p9 (cells yevergreenref12_Make x10) ∧
At w11 a2 (cells yevergreenref12_Store x8) ∧
C_ref12_One x8 x10 x4.1 (fun x14 w12 =>
stK w12 a13 (cells yevergreenref12_Store x14.1) fun w13 =>
R7 (a13, x14.2, ()) w13) w11)) (fun x6 w6 => ∀ _ : Env,
∃ x15 : yevergreenref12_Store.T, At w6 x6.1 (cells yevergreenref12_Store x15) ∧
stK w6 a2 (cells yevergreenref12_Store x15) fun w14 =>
allocK (.cells #[.int .i64 x6.2.1] t_api_ID) w14 fun a16 w15 =>
appK t_api_ID 1 8 #[.int .i64 (0 : Int)] x4.1.a x4.1.len x4.1.cap (.slice (some a16) 1 1) 1 w15 fun s17 w16 =>
arith .i64 (x4.2.1 + (1 : Int)) fun n18 =>
next5 (s17, n18, ()) w16)) (
∃ x19 : yevergreenref12_Store.T, At w5 a2 (cells yevergreenref12_Store x19) ∧
stK w5 a1 (cells yevergreenref12_Store x19) fun w17 =>
∃ x20 : yevergreenref12_Store.T, At w17 a1 (cells yevergreenref12_Store x20) ∧
K (x20, x4.1) w17)
theorem S_ref12_Build (v0_list : Sl) (K : (yevergreenref12_Store.T × Sl) → World → Prop) (w0 : World) (h : F_ref12_Build v0_list K w0) : C_ref12_Build v0_list K w0 := by
  have e : denFn P [(1004, [(5, .slice), (6, .int .i64)]), (7, [(7, .addr), (8, .int .i64)])] Try.f37 #[.slice v0_list.a v0_list.len v0_list.cap] (.tup (.pair yevergreenref12_Store .slice)) K w0 = F_ref12_Build v0_list K w0 := by kernel_rfl
  exact fn_sound mixed (f := 37) Try.func37 (by kernel_rfl) (e.mpr h)

def F_law12_Build (v0_s : Option Addr) (v1_list : Sl) (K : (Sl × Bool) → World → Prop) (w0 : World) : Prop :=
C_ref12_Build v1_list (fun x1 w1 =>
allocK (.cells #[.slice none 0 0, .slice none 0 0] t_evergreenref12_Store) w1 fun a2 w2 =>
stK w2 a2 (cells yevergreenref12_Store x1.1) fun w3 =>
allocK (.cells #[.int .i64 (0 : Int)] t_api_ID) w3 fun a3 w4 =>
LoopP (X := Sl × Int × Unit) (⟨some a3, 1, 1⟩, (0 : Int), ()) w4 fun next5 x4 w5 => ∀ _ : Env,
gd (decide (x4.2.1 < (v1_list.len : Int))) (
idxK v1_list.a v1_list.len x4.2.1 5 fun p6 =>
∃ x7 : yevergreenref12_Make.T, At w5 p6 (cells yevergreenref12_Make x7) ∧
allocK (.cells #[.int .i64 (0 : Int), .int .u8 (0 : Int), .int .i64 (0 : Int), .int .i64 (0 : Int), .int .i64 (0 : Int)] t_evergreenref12_Make) w5 fun a8 w6 =>
stK w6 a8 (cells yevergreenref12_Make x7) fun w7 =>
drawK w7 fun w8 =>
∃ x9 : Int, At w8 (a8.add 2) (cells (.int .i64) x9) ∧
∃ x10 : Int, At w8 (a8.add 3) (cells (.int .i64) x10) ∧
C_ref12_Pick x9 (x4.1.len : Int) (fun x11 w9 =>
At w9 (a8.add 3) (cells (.int .i64) x10) ∧
idxK x4.1.a x4.1.len x11 1 fun p12 =>
∃ x13 : Int, At w9 p12 (cells (.int .i64) x13) ∧
C_ref12_Pick x10 (x4.1.len : Int) (fun x14 w10 =>
At w10 p12 (cells (.int .i64) x13) ∧
idxK x4.1.a x4.1.len x14 1 fun p15 =>
∃ x16 : Int, At w10 p15 (cells (.int .i64) x16) ∧
JoinP (X := Int × Unit) (fun R18 =>
∃ x19 : Int, At w10 (a8.add 0) (cells (.int .i64) x19) ∧
C_ref12_Pick x19 (4 : Int) (fun x20 w12 =>
gd (x20 == (0 : Int)) (
∃ x21 : Int, At w12 (a8.add 1) (cells (.int .u8) x21) ∧
C_intern_Store_Letter v0_s x21 (fun x22 w13 =>
R18 (x22.1, ()) w13) w12) (
gd (x20 == (3 : Int)) (
∃ x23 : Int, At w12 (a8.add 4) (cells (.int .i64) x23) ∧
C_intern_Store_Power v0_s x13 (if x23 < (0 : Int) then (0 : Int) else x23) (fun x24 w14 =>
R18 (x24.1, ()) w14) w12) (
C_intern_Store_Pair v0_s x13 x16 (fun x25 w15 =>
R18 (x25.1, ()) w15) w12))) w10) (fun x17 w11 => ∀ _ : Env,
arith .i64 (x4.2.1 + (1 : Int)) fun n26 =>
idxK x1.2.a x1.2.len n26 1 fun p27 =>
∃ x28 : Int, At w11 p27 (cells (.int .i64) x28) ∧
gd (x17.1 != x28) (
K (⟨none, 0, 0⟩, false) w11) (
allocK (.cells #[.int .i64 x17.1] t_api_ID) w11 fun a29 w16 =>
appK t_api_ID 1 8 #[.int .i64 (0 : Int)] x4.1.a x4.1.len x4.1.cap (.slice (some a29) 1 1) 1 w16 fun s30 w17 =>
arith .i64 (x4.2.1 + (1 : Int)) fun n31 =>
next5 (s30, n31, ()) w17))) w9) w8) (
K (x4.1, true) w5)) w0
theorem S_law12_Build (v0_s : Option Addr) (v1_list : Sl) (K : (Sl × Bool) → World → Prop) (w0 : World) (h : F_law12_Build v0_s v1_list K w0) : C_law12_Build v0_s v1_list K w0 := by
  have e : denFn P [(1004, [(8, .slice), (22, .int .i64)]), (14, [(13, .int .i64)])] Try.f38 #[.pointer v0_s, .slice v1_list.a v1_list.len v1_list.cap] (.tup (.pair .slice .bool)) K w0 = F_law12_Build v0_s v1_list K w0 := by kernel_rfl
  exact fn_sound mixed (f := 38) Try.func38 (by kernel_rfl) (e.mpr h)

def F_length_Clip (v0_n : Int) (v1_low : Int) (v2_high : Int) (K : Int → World → Prop) (w0 : World) : Prop :=
gd (decide (v0_n < v1_low)) (
K v1_low w0) (
gd (decide (v2_high < v0_n)) (
K v2_high w0) (
K v0_n w0))
theorem S_length_Clip (v0_n : Int) (v1_low : Int) (v2_high : Int) (K : Int → World → Prop) (w0 : World) (h : F_length_Clip v0_n v1_low v2_high K w0) : C_length_Clip v0_n v1_low v2_high K w0 := by
  have e : denFn P [] Try.f39 #[.int .i64 v0_n, .int .i64 v1_low, .int .i64 v2_high] (.int .i64) K w0 = F_length_Clip v0_n v1_low v2_high K w0 := by kernel_rfl
  exact fn_sound mixed (f := 39) Try.func39 (by kernel_rfl) (e.mpr h)

def F_balance_text (v0_s : Option Addr) (v1_b : Sl) (K : (Int × Value) → World → Prop) (w0 : World) : Prop :=
gd ((v1_b.len : Int) == (1 : Int)) (
idxK v1_b.a v1_b.len (0 : Int) 1 fun p1 =>
∃ x2 : Int, At w0 p1 (cells (.int .u8) x2) ∧
C_intern_Store_Letter v0_s x2 (fun x3 w1 =>
K (x3.1, x3.2) w1) w0) (
(2 : Int) ≠ 0 ∧
arith .i64 (Int.tdiv (v1_b.len : Int) (2 : Int)) fun n4 =>
slK 1 v1_b.a v1_b.len v1_b.cap none (some n4) fun s5 =>
C_balance_text v0_s s5 (fun x6 w2 =>
nilIfcK x6.2 fun b7 =>
gd (!b7) (
K ((0 : Int), x6.2) w2) (
(2 : Int) ≠ 0 ∧
arith .i64 (Int.tdiv (v1_b.len : Int) (2 : Int)) fun n8 =>
slK 1 v1_b.a v1_b.len v1_b.cap (some n8) none fun s9 =>
C_balance_text v0_s s9 (fun x10 w3 =>
nilIfcK x10.2 fun b11 =>
gd (!b11) (
K ((0 : Int), x10.2) w3) (
C_intern_Store_Pair v0_s x6.1 x10.1 (fun x12 w4 =>
K (x12.1, x12.2) w4) w3)) w2)) w0)
theorem S_balance_text (v0_s : Option Addr) (v1_b : Sl) (K : (Int × Value) → World → Prop) (w0 : World) (h : F_balance_text v0_s v1_b K w0) : C_balance_text v0_s v1_b K w0 := by
  have e : denFn P [] Try.f40 #[.pointer v0_s, .slice v1_b.a v1_b.len v1_b.cap] (.tup (.pair (.int .i64) .iface)) K w0 = F_balance_text v0_s v1_b K w0 := by kernel_rfl
  exact fn_sound mixed (f := 40) Try.func40 (by kernel_rfl) (e.mpr h)

def F_intern_Store_known (v0_s : Option Addr) (v1_id : Int) (K : Bool → World → Prop) (w0 : World) : Prop :=
gd (decide ((0 : Int) ≤ v1_id)) (
nonNil v0_s fun p1 =>
∃ x2 : Sl, At w0 (p1.add 1) (cells .slice x2) ∧
K (decide (v1_id ≤ (x2.len : Int))) w0) (
K false w0)
theorem S_intern_Store_known (v0_s : Option Addr) (v1_id : Int) (K : Bool → World → Prop) (w0 : World) (h : F_intern_Store_known v0_s v1_id K w0) : C_intern_Store_known v0_s v1_id K w0 := by
  have e : denFn P [] Try.f41 #[.pointer v0_s, .int .i64 v1_id] .bool K w0 = F_intern_Store_known v0_s v1_id K w0 := by kernel_rfl
  exact fn_sound mixed (f := 41) Try.func41 (by kernel_rfl) (e.mpr h)

def F_intern_Store_at (v0_s : Option Addr) (v1_id : Int) (K : yintern_entry.T → World → Prop) (w0 : World) : Prop :=
allocK (.cells #[.int .i64 (0 : Int), .int .u8 (0 : Int), .int .i64 (0 : Int), .int .i64 (0 : Int), .int .i64 (0 : Int), .int .i64 (0 : Int), .int .i64 (0 : Int), .int .i64 (0 : Int), .int .i64 (0 : Int), .int .u64 (0 : Int), .int .u64 (0 : Int), .int .i64 (0 : Int), .bool false] t_intern_entry) w0 fun a1 w1 =>
gd (v1_id == (0 : Int)) (
C_weight_Unit  (fun x2 w2 =>
stK w2 a1 ([.int .i64 (0 : Int), .int .u8 (0 : Int), .int .i64 (0 : Int), .int .i64 (0 : Int), .int .i64 (0 : Int), .int .i64 x2.1, .int .i64 x2.2.1, .int .i64 x2.2.2.1, .int .i64 x2.2.2.2.1, .int .u64 x2.2.2.2.2.1, .int .u64 x2.2.2.2.2.2, .int .i64 (0 : Int), .bool true]) fun w3 =>
∃ x3 : yintern_entry.T, At w3 a1 (cells yintern_entry x3) ∧
K x3 w3) w1) (
nonNil v0_s fun p4 =>
∃ x5 : Sl, At w1 (p4.add 1) (cells .slice x5) ∧
arith .i64 (v1_id - (1 : Int)) fun n6 =>
idxK x5.a x5.len n6 13 fun p7 =>
∃ x8 : yintern_entry.T, At w1 p7 (cells yintern_entry x8) ∧
stK w1 a1 (cells yintern_entry x8) fun w4 =>
∃ x9 : yintern_entry.T, At w4 a1 (cells yintern_entry x9) ∧
K x9 w4)
theorem S_intern_Store_at (v0_s : Option Addr) (v1_id : Int) (K : yintern_entry.T → World → Prop) (w0 : World) (h : F_intern_Store_at v0_s v1_id K w0) : C_intern_Store_at v0_s v1_id K w0 := by
  have e : denFn P [] Try.f42 #[.pointer v0_s, .int .i64 v1_id] yintern_entry K w0 = F_intern_Store_at v0_s v1_id K w0 := by kernel_rfl
  exact fn_sound mixed (f := 42) Try.func42 (by kernel_rfl) (e.mpr h)

def F_intern_Store_Depth (v0_s : Option Addr) (v1_id : Int) (K : (Int × Value) → World → Prop) (w0 : World) : Prop :=
gd v0_s.isNone (
K ((0 : Int), .iface t_api_Errno (.int .i64 (5 : Int))) w0) (
C_intern_Store_known v0_s v1_id (fun x1 w1 =>
gd (!x1) (
K ((0 : Int), .iface t_api_Errno (.int .i64 (1 : Int))) w1) (
C_intern_Store_at v0_s v1_id (fun x2 w2 =>
K (x2.2.2.1, .nilIface) w2) w1)) w0)
theorem S_intern_Store_Depth (v0_s : Option Addr) (v1_id : Int) (K : (Int × Value) → World → Prop) (w0 : World) (h : F_intern_Store_Depth v0_s v1_id K w0) : C_intern_Store_Depth v0_s v1_id K w0 := by
  have e : denFn P [] Try.f43 #[.pointer v0_s, .int .i64 v1_id] (.tup (.pair (.int .i64) .iface)) K w0 = F_intern_Store_Depth v0_s v1_id K w0 := by kernel_rfl
  exact fn_sound mixed (f := 43) Try.func43 (by kernel_rfl) (e.mpr h)

def F_ref15_Balanced (v0_rules : Sl) (K : Bool → World → Prop) (w0 : World) : Prop :=
arith .i64 ((v0_rules.len : Int) + (1 : Int)) fun n1 =>
0 ≤ n1 ∧ n1 ≤ n1 ∧ n1 ≤ 9223372036854775807 ∧ 8 * n1 ≤ 281474976710656 ∧
allocK (.cells (zrow #[.int .i64 (0 : Int)] (n1.toNat * 1)) t_int) w0 fun a2 w1 =>
arith .i64 ((v0_rules.len : Int) + (1 : Int)) fun n3 =>
0 ≤ n3 ∧ n3 ≤ n3 ∧ n3 ≤ 9223372036854775807 ∧ 1 * n3 ≤ 281474976710656 ∧
allocK (.cells (zrow #[.bool false] (n3.toNat * 1)) t_bool) w1 fun a4 w2 =>
idxK (some a4) n3.toNat (0 : Int) 1 fun p5 =>
stK w2 p5 ([.bool true]) fun w3 =>
LoopP (X := Int × Unit) ((0 : Int), ()) w3 fun next7 x6 w4 => ∀ _ : Env,
gd (decide (x6.1 < (v0_rules.len : Int))) (
JoinP (X := Unit) (fun R9 =>
idxK v0_rules.a v0_rules.len x6.1 5 fun p10 =>
∃ x11 : yapi_Rule.T, At w4 p10 (cells yapi_Rule x11) ∧
allocK (.cells #[.int .i64 (0 : Int), .int .u8 (0 : Int), .int .i64 (0 : Int), .int .i64 (0 : Int), .int .i64 (0 : Int)] t_api_Rule) w4 fun a12 w6 =>
stK w6 a12 (cells yapi_Rule x11) fun w7 =>
∃ x13 : Int, At w7 (a12.add 0) (cells (.int .i64) x13) ∧
gd (x13 == (1 : Int)) (
arith .i64 (x6.1 + (1 : Int)) fun n14 =>
idxK (some a4) n3.toNat n14 1 fun p15 =>
stK w7 p15 ([.bool true]) fun w8 =>
R9 () w8) (
gd (x13 == (2 : Int)) (
drawK w7 fun w9 =>
∃ x16 : Int, At w9 (a12.add 2) (cells (.int .i64) x16) ∧
idxK (some a2) n1.toNat x16 1 fun p17 =>
∃ x18 : Int, At w9 p17 (cells (.int .i64) x18) ∧
∃ x19 : Int, At w9 (a12.add 3) (cells (.int .i64) x19) ∧
idxK (some a2) n1.toNat x19 1 fun p20 =>
∃ x21 : Int, At w9 p20 (cells (.int .i64) x21) ∧
JoinP (X := Unit) (fun R23 =>
arith .i64 (x6.1 + (1 : Int)) fun n24 =>
∃ x25 : Int, At w9 (a12.add 2) (cells (.int .i64) x25) ∧
idxK (some a4) n3.toNat x25 1 fun p26 =>
∃ x27 : Bool, At w9 p26 (cells .bool x27) ∧
gd x27 (
∃ x28 : Int, At w9 (a12.add 3) (cells (.int .i64) x28) ∧
idxK (some a4) n3.toNat x28 1 fun p29 =>
∃ x30 : Bool, At w9 p29 (cells .bool x30) ∧
gd x30 (
arith .i64 (x18 - x21) fun n31 =>
gd (decide (n31 ≤ (1 : Int))) (
arith .i64 (x21 - x18) fun n32 =>
idxK (some a4) n3.toNat n24 1 fun p33 =>
stK w9 p33 ([.bool (decide (n32 ≤ (1 : Int)))]) fun w11 =>
R23 () w11) (
idxK (some a4) n3.toNat n24 1 fun p34 =>
stK w9 p34 ([.bool false]) fun w12 =>
R23 () w12)) (
idxK (some a4) n3.toNat n24 1 fun p35 =>
stK w9 p35 ([.bool false]) fun w13 =>
R23 () w13)) (
idxK (some a4) n3.toNat n24 1 fun p36 =>
stK w9 p36 ([.bool false]) fun w14 =>
R23 () w14)) (fun x22 w10 => ∀ _ : Env,
arith .i64 (x6.1 + (1 : Int)) fun n37 =>
arith .i64 ((1 : Int) + (if x18 < x21 then x21 else x18)) fun n38 =>
idxK (some a2) n1.toNat n37 1 fun p39 =>
stK w10 p39 ([.int .i64 n38]) fun w15 =>
R9 () w15)) (
gd (x13 == (3 : Int)) (
arith .i64 (x6.1 + (1 : Int)) fun n40 =>
∃ x41 : Int, At w7 (a12.add 2) (cells (.int .i64) x41) ∧
idxK (some a2) n1.toNat x41 1 fun p42 =>
∃ x43 : Int, At w7 p42 (cells (.int .i64) x43) ∧
arith .i64 ((1 : Int) + x43) fun n44 =>
idxK (some a2) n1.toNat n40 1 fun p45 =>
stK w7 p45 ([.int .i64 n44]) fun w16 =>
R9 () w16) (
R9 () w7)))) (fun x8 w5 => ∀ _ : Env,
arith .i64 (x6.1 + (1 : Int)) fun n46 =>
next7 (n46, ()) w5)) (
idxK (some a4) n3.toNat (v0_rules.len : Int) 1 fun p47 =>
∃ x48 : Bool, At w4 p47 (cells .bool x48) ∧
K x48 w4)
theorem S_ref15_Balanced (v0_rules : Sl) (K : Bool → World → Prop) (w0 : World) (h : F_ref15_Balanced v0_rules K w0) : C_ref15_Balanced v0_rules K w0 := by
  have e : denFn P [(1005, [(5, .int .i64)]), (6, []), (14, [])] Try.f44 #[.slice v0_rules.a v0_rules.len v0_rules.cap] .bool K w0 = F_ref15_Balanced v0_rules K w0 := by kernel_rfl
  exact fn_sound mixed (f := 44) Try.func44 (by kernel_rfl) (e.mpr h)

end Go.Proofs.Ytnbkhhjklpoipaa
