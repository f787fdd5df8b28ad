/- Texts that belong together, joined: TextC, Text1, Text3. No conditions. -/
import Derived.Test.YtbghccafigmnjaaProg
import Derived.Test.YtbghccafigmnjaaDenC
/- The typed texts of the functions, printed by a program; each proved to imply the call. -/
set_option linter.unusedVariables false
set_option maxRecDepth 100000
namespace Go.Proofs.Ytbghccafigmnjaa
open Go.Den

noncomputable def P : Program := Try.prog
theorem mixed : P.follows .mixedOrders = true := by kernel_rfl

abbrev t_ : Nat := 0
abbrev t_int : Nat := 3
abbrev t_bool : Nat := 4
abbrev t_sl_api_ID : Nat := 25
abbrev t_evergreenref12_Store : Nat := 30
abbrev t_api_Errno : Nat := 42
abbrev t_map_api_ID_bool : Nat := 46
abbrev t_api_ID : Nat := 47
abbrev t_collect_Count : Nat := 56
abbrev t_evergreenref12_Count : Nat := 57
abbrev t_api_Rule : Nat := 59
abbrev t_evergreenref12_Make : Nat := 87
abbrev t_map_api_ID_int : Nat := 95
abbrev t_api_Digest : Nat := 99
abbrev t_api_Weight : Nat := 101
abbrev t_intern_entry : Nat := 103
abbrev t_map_api_Rule_api_ID : Nat := 105
abbrev t_intern_Store : Nat := 107
abbrev t_evergreenlaw12_Act : Nat := 109
abbrev t_collect_Table : Nat := 112
abbrev t_map_api_ID_api_ID : Nat := 137

abbrev yevergreenref12_Store : Ty := .st (.pair .slice .slice)
abbrev ycollect_Count : Ty := .st (.pair (.int .i64) (.pair (.int .i64) (.int .i64)))
abbrev yevergreenref12_Count : Ty := .st (.pair (.int .i64) (.pair (.int .i64) (.int .i64)))
abbrev yapi_Rule : Ty := .st (.pair (.int .i64) (.pair (.int .u8) (.pair (.int .i64) (.pair (.int .i64) (.int .i64)))))
abbrev yevergreenref12_Make : Ty := .st (.pair (.int .i64) (.pair (.int .u8) (.pair (.int .i64) (.pair (.int .i64) (.int .i64)))))
abbrev yevergreenlaw12_Act : Ty := .st (.pair (.int .i64) (.int .i64))
abbrev ycollect_Table : Ty := .st (.pair .ptr .map)
abbrev yapi_Digest : Ty := .st (.pair (.int .u64) (.int .u64))
abbrev yapi_Weight : Ty := .st (.pair (.int .i64) (.pair (.int .i64) (.pair (.int .i64) (.pair (.int .i64) yapi_Digest))))
abbrev yintern_Store : Ty := .st (.pair (.int .i64) (.pair .slice .map))
abbrev yintern_entry : Ty := .st (.pair yapi_Rule (.pair yapi_Weight (.pair (.int .i64) .bool)))

def C_law12_CollectReaches (v0_list : Sl) (v1_picks : Sl) (K : Bool → World → Prop) (w0 : World) : Prop := callP P 3 #[.slice v0_list.a v0_list.len v0_list.cap, .slice v1_picks.a v1_picks.len v1_picks.cap] .bool w0 K
def C_law12_CollectCloses (v0_list : Sl) (v1_one : Sl) (v2_two : Sl) (K : Bool → World → Prop) (w0 : World) : Prop := callP P 4 #[.slice v0_list.a v0_list.len v0_list.cap, .slice v1_one.a v1_one.len v1_one.cap, .slice v2_two.a v2_two.len v2_two.cap] .bool w0 K
def C_law12_CollectCounts (v0_list : Sl) (v1_picks : Sl) (K : Bool → World → Prop) (w0 : World) : Prop := callP P 5 #[.slice v0_list.a v0_list.len v0_list.cap, .slice v1_picks.a v1_picks.len v1_picks.cap] .bool w0 K
def C_law12_CollectSums (v0_list : Sl) (v1_picks : Sl) (K : Bool → World → Prop) (w0 : World) : Prop := callP P 6 #[.slice v0_list.a v0_list.len v0_list.cap, .slice v1_picks.a v1_picks.len v1_picks.cap] .bool w0 K
def C_law12_CollectHolds (v0_list : Sl) (v1_script : Sl) (K : Bool → World → Prop) (w0 : World) : Prop := callP P 7 #[.slice v0_list.a v0_list.len v0_list.cap, .slice v1_script.a v1_script.len v1_script.cap] .bool w0 K
def C_law12_CollectSweeps (v0_list : Sl) (v1_script : Sl) (v2_most : Int) (K : Bool → World → Prop) (w0 : World) : Prop := callP P 8 #[.slice v0_list.a v0_list.len v0_list.cap, .slice v1_script.a v1_script.len v1_script.cap, .int .i64 v2_most] .bool w0 K
def C_law12_CollectAgain (v0_list : Sl) (v1_script : Sl) (K : Bool → World → Prop) (w0 : World) : Prop := callP P 9 #[.slice v0_list.a v0_list.len v0_list.cap, .slice v1_script.a v1_script.len v1_script.cap] .bool w0 K
def C_law12_CollectNone (v0_id : Int) (v1_most : Int) (K : Bool → World → Prop) (w0 : World) : Prop := callP P 10 #[.int .i64 v0_id, .int .i64 v1_most] .bool w0 K
def C_law12_CollectKeeps (v0_list : Sl) (v1_script : Sl) (K : Bool → World → Prop) (w0 : World) : Prop := callP P 11 #[.slice v0_list.a v0_list.len v0_list.cap, .slice v1_script.a v1_script.len v1_script.cap] .bool w0 K
def C_law12_begun (v0_list : Sl) (K : ((Option Addr) × Sl × Bool) → World → Prop) (w0 : World) : Prop := callP P 12 #[.slice v0_list.a v0_list.len v0_list.cap] (.tup (.pair .ptr (.pair .slice .bool))) w0 K
def C_ref12_Build (v0_list : Sl) (K : (yevergreenref12_Store.T × Sl) → World → Prop) (w0 : World) : Prop := callP P 13 #[.slice v0_list.a v0_list.len v0_list.cap] (.tup (.pair yevergreenref12_Store .slice)) w0 K
def C_law12_roots (v0_s : Option Addr) (v1_results : Sl) (v2_picks : Sl) (K : Sl → World → Prop) (w0 : World) : Prop := callP P 14 #[.pointer v0_s, .slice v1_results.a v1_results.len v1_results.cap, .slice v2_picks.a v2_picks.len v2_picks.cap] .slice w0 K
def C_collect_Reach (v0_s : Option Addr) (v1_roots : Sl) (K : (Sl × Value) → World → Prop) (w0 : World) : Prop := callP P 15 #[.pointer v0_s, .slice v1_roots.a v1_roots.len v1_roots.cap] (.tup (.pair .slice .iface)) w0 K
def C_ref12_Reach (v0_s : yevergreenref12_Store.T) (v1_roots : Sl) (K : (Sl × Bool) → World → Prop) (w0 : World) : Prop := callP P 16 #[val yevergreenref12_Store v0_s, .slice v1_roots.a v1_roots.len v1_roots.cap] (.tup (.pair .slice .bool)) w0 K
def C_base_Is (v0_e : Value) (v1_want : Int) (K : Bool → World → Prop) (w0 : World) : Prop := callP P 17 #[v0_e, .int .i64 v1_want] .bool w0 K
def C_base_IDs (v0_a : Sl) (v1_b : Sl) (K : Bool → World → Prop) (w0 : World) : Prop := callP P 18 #[.slice v0_a.a v0_a.len v0_a.cap, .slice v1_b.a v1_b.len v1_b.cap] .bool w0 K
def C_ref12_List (v0_is : Sl) (K : Sl → World → Prop) (w0 : World) : Prop := callP P 19 #[.slice v0_is.a v0_is.len v0_is.cap] .slice w0 K
def C_collect_Counts (v0_s : Option Addr) (v1_roots : Sl) (K : (Sl × Value) → World → Prop) (w0 : World) : Prop := callP P 20 #[.pointer v0_s, .slice v1_roots.a v1_roots.len v1_roots.cap] (.tup (.pair .slice .iface)) w0 K
def C_ref12_Counts (v0_s : yevergreenref12_Store.T) (v1_roots : Sl) (K : (Sl × Bool) → World → Prop) (w0 : World) : Prop := callP P 21 #[val yevergreenref12_Store v0_s, .slice v1_roots.a v1_roots.len v1_roots.cap] (.tup (.pair .slice .bool)) w0 K
def C_intern_Store_Rule (v0_s : Option Addr) (v1_id : Int) (K : (yapi_Rule.T × Value) → World → Prop) (w0 : World) : Prop := callP P 22 #[.pointer v0_s, .int .i64 v1_id] (.tup (.pair yapi_Rule .iface)) w0 K
def C_law12_play (v0_s : Option Addr) (v1_results : Sl) (v2_script : Sl) (K : ((Option Addr) × Sl × Bool) → World → Prop) (w0 : World) : Prop := callP P 23 #[.pointer v0_s, .slice v1_results.a v1_results.len v1_results.cap, .slice v2_script.a v2_script.len v2_script.cap] (.tup (.pair .ptr (.pair .slice .bool))) w0 K
def C_collect_Table_Held (v0_t : Option Addr) (v1_id : Int) (K : Int → World → Prop) (w0 : World) : Prop := callP P 24 #[.pointer v0_t, .int .i64 v1_id] (.int .i64) w0 K
def C_collect_Table_Roots (v0_t : Option Addr) (K : Sl → World → Prop) (w0 : World) : Prop := callP P 25 #[.pointer v0_t] .slice w0 K
def C_collect_Table_Live (v0_t : Option Addr) (K : Sl → World → Prop) (w0 : World) : Prop := callP P 26 #[.pointer v0_t] .slice w0 K
def C_collect_Table_Garbage (v0_t : Option Addr) (K : Int → World → Prop) (w0 : World) : Prop := callP P 27 #[.pointer v0_t] (.int .i64) w0 K
def C_ref12_Sweep (v0_s : yevergreenref12_Store.T) (v1_held : Sl) (K : (Sl × Sl) → World → Prop) (w0 : World) : Prop := callP P 28 #[val yevergreenref12_Store v0_s, .slice v1_held.a v1_held.len v1_held.cap] (.tup (.pair .slice .slice)) w0 K
def C_collect_Table_Sweep (v0_t : Option Addr) (v1_most : Int) (K : ((Option Addr) × Sl × Value) → World → Prop) (w0 : World) : Prop := callP P 29 #[.pointer v0_t, .int .i64 v1_most] (.tup (.pair .ptr (.pair .slice .iface))) w0 K
def C_intern_Store_Len (v0_s : Option Addr) (K : Int → World → Prop) (w0 : World) : Prop := callP P 30 #[.pointer v0_s] (.int .i64) w0 K
def C_intern_Store_Room (v0_s : Option Addr) (K : Int → World → Prop) (w0 : World) : Prop := callP P 31 #[.pointer v0_s] (.int .i64) w0 K
def C_collect_New (v0_s : Option Addr) (K : (Option Addr) → World → Prop) (w0 : World) : Prop := callP P 32 #[.pointer v0_s] .ptr w0 K
def C_collect_Table_Hold (v0_t : Option Addr) (v1_id : Int) (K : Value → World → Prop) (w0 : World) : Prop := callP P 33 #[.pointer v0_t, .int .i64 v1_id] .iface w0 K
def C_collect_Table_Release (v0_t : Option Addr) (v1_id : Int) (K : Value → World → Prop) (w0 : World) : Prop := callP P 34 #[.pointer v0_t, .int .i64 v1_id] .iface w0 K
def C_law12_alike (v0_s : Option Addr) (v1_a : Int) (v2_x : Option Addr) (v3_b : Int) (K : Bool → World → Prop) (w0 : World) : Prop := callP P 35 #[.pointer v0_s, .int .i64 v1_a, .pointer v2_x, .int .i64 v3_b] .bool w0 K
def C_intern_New (v0_most : Int) (K : (Option Addr) → World → Prop) (w0 : World) : Prop := callP P 36 #[.int .i64 v0_most] .ptr w0 K
def C_law12_Build (v0_s : Option Addr) (v1_list : Sl) (K : (Sl × Bool) → World → Prop) (w0 : World) : Prop := callP P 37 #[.pointer v0_s, .slice v1_list.a v1_list.len v1_list.cap] (.tup (.pair .slice .bool)) w0 K
def C_intern_Store_Letter (v0_s : Option Addr) (v1_b : Int) (K : (Int × Value) → World → Prop) (w0 : World) : Prop := callP P 38 #[.pointer v0_s, .int .u8 v1_b] (.tup (.pair (.int .i64) .iface)) w0 K
def C_ref12_One (v0_s : yevergreenref12_Store.T) (v1_m : yevergreenref12_Make.T) (v2_results : Sl) (K : (yevergreenref12_Store.T × Int) → World → Prop) (w0 : World) : Prop := callP P 39 #[val yevergreenref12_Store v0_s, val yevergreenref12_Make v1_m, .slice v2_results.a v2_results.len v2_results.cap] (.tup (.pair yevergreenref12_Store (.int .i64))) w0 K
def C_ref12_Pick (v0_n : Int) (v1_many : Int) (K : Int → World → Prop) (w0 : World) : Prop := callP P 40 #[.int .i64 v0_n, .int .i64 v1_many] (.int .i64) w0 K
def C_collect_Reach_1 (v0_id : Int) (v1 : Addr) (v2 : Addr) (K : Unit → World → Prop) (w0 : World) : Prop := callP P 41 #[.int .i64 v0_id, .pointer (some v1), .pointer (some v2)] (.tup .unit) w0 K
def C_collect_known (v0_s : Option Addr) (v1_id : Int) (K : Bool → World → Prop) (w0 : World) : Prop := callP P 42 #[.pointer v0_s, .int .i64 v1_id] .bool w0 K
def C_rule_Refs (v0_r : yapi_Rule.T) (K : Sl → World → Prop) (w0 : World) : Prop := callP P 43 #[val yapi_Rule v0_r] .slice w0 K
def C_slices_Sort (a0 : Sl) (K : Unit → World → Prop) (w0 : World) : Prop := callP P 44 #[.slice a0.a a0.len a0.cap] (.tup .unit) w0 K
def C_ref12_Known (v0_s : yevergreenref12_Store.T) (v1_id : Int) (K : Bool → World → Prop) (w0 : World) : Prop := callP P 45 #[val yevergreenref12_Store v0_s, .int .i64 v1_id] .bool w0 K
def C_ref12_Refs (v0_r : yapi_Rule.T) (K : Sl → World → Prop) (w0 : World) : Prop := callP P 46 #[val yapi_Rule v0_r] .slice w0 K
def C_base_Num (v0_e : Value) (K : Int → World → Prop) (w0 : World) : Prop := callP P 47 #[v0_e] (.int .i64) w0 K
def C_intern_Store_known (v0_s : Option Addr) (v1_id : Int) (K : Bool → World → Prop) (w0 : World) : Prop := callP P 48 #[.pointer v0_s, .int .i64 v1_id] .bool w0 K
def C_collect_Table_none (v0_t : Option Addr) (K : Bool → World → Prop) (w0 : World) : Prop := callP P 49 #[.pointer v0_t] .bool w0 K
def C_rule_Move (v0_r : yapi_Rule.T) (v1_to : Sl) (K : (yapi_Rule.T × Value) → World → Prop) (w0 : World) : Prop := callP P 50 #[val yapi_Rule v0_r, .slice v1_to.a v1_to.len v1_to.cap] (.tup (.pair yapi_Rule .iface)) w0 K
def C_intern_Store_Import (v0_s : Option Addr) (v1_list : Sl) (K : (Int × Value) → World → Prop) (w0 : World) : Prop := callP P 51 #[.pointer v0_s, .slice v1_list.a v1_list.len v1_list.cap] (.tup (.pair (.int .i64) .iface)) w0 K
def C_intern_Store_Weight (v0_s : Option Addr) (v1_id : Int) (K : (yapi_Weight.T × Value) → World → Prop) (w0 : World) : Prop := callP P 52 #[.pointer v0_s, .int .i64 v1_id] (.tup (.pair yapi_Weight .iface)) w0 K
def C_intern_Store_Depth (v0_s : Option Addr) (v1_id : Int) (K : (Int × Value) → World → Prop) (w0 : World) : Prop := callP P 53 #[.pointer v0_s, .int .i64 v1_id] (.tup (.pair (.int .i64) .iface)) w0 K
def C_intern_Store_Export (v0_s : Option Addr) (v1_id : Int) (K : (Sl × Value) → World → Prop) (w0 : World) : Prop := callP P 54 #[.pointer v0_s, .int .i64 v1_id] (.tup (.pair .slice .iface)) w0 K
def C_length_Clip (v0_n : Int) (v1_low : Int) (v2_high : Int) (K : Int → World → Prop) (w0 : World) : Prop := callP P 55 #[.int .i64 v0_n, .int .i64 v1_low, .int .i64 v2_high] (.int .i64) w0 K
def C_intern_Store_Power (v0_s : Option Addr) (v1_x : Int) (v2_k : Int) (K : (Int × Value) → World → Prop) (w0 : World) : Prop := callP P 56 #[.pointer v0_s, .int .i64 v1_x, .int .i64 v2_k] (.tup (.pair (.int .i64) .iface)) w0 K
def C_intern_Store_Pair (v0_s : Option Addr) (v1_l : Int) (v2_r : Int) (K : (Int × Value) → World → Prop) (w0 : World) : Prop := callP P 57 #[.pointer v0_s, .int .i64 v1_l, .int .i64 v2_r] (.tup (.pair (.int .i64) .iface)) w0 K
def C_intern_Store_find (v0_s : Option Addr) (v1_r : yapi_Rule.T) (K : (Int × Value) → World → Prop) (w0 : World) : Prop := callP P 58 #[.pointer v0_s, val yapi_Rule v1_r] (.tup (.pair (.int .i64) .iface)) w0 K
def C_intern_Store_add (v0_s : Option Addr) (v1_e : yintern_entry.T) (K : Int → World → Prop) (w0 : World) : Prop := callP P 59 #[.pointer v0_s, val yintern_entry v1_e] (.int .i64) w0 K
def C_weight_Letter (v0_b : Int) (K : yapi_Weight.T → World → Prop) (w0 : World) : Prop := callP P 60 #[.int .u8 v0_b] yapi_Weight w0 K
def C_ref12_Add (v0_s : yevergreenref12_Store.T) (v1_r : yapi_Rule.T) (v2_length : Int) (K : (yevergreenref12_Store.T × Int) → World → Prop) (w0 : World) : Prop := callP P 61 #[val yevergreenref12_Store v0_s, val yapi_Rule v1_r, .int .i64 v2_length] (.tup (.pair yevergreenref12_Store (.int .i64))) w0 K
def C_ref12_Length (v0_s : yevergreenref12_Store.T) (v1_id : Int) (K : Int → World → Prop) (w0 : World) : Prop := callP P 62 #[val yevergreenref12_Store v0_s, .int .i64 v1_id] (.int .i64) w0 K
def C_bits_Len (v0_x : Int) (K : Int → World → Prop) (w0 : World) : Prop := callP P 64 #[.int .u64 v0_x] (.int .i64) w0 K
def C_rule_Check (v0_r : yapi_Rule.T) (v1_n : Int) (K : Value → World → Prop) (w0 : World) : Prop := callP P 65 #[val yapi_Rule v0_r, .int .i64 v1_n] .iface w0 K
def C_intern_Store_put (v0_s : Option Addr) (v1_r : yapi_Rule.T) (v2_to : Sl) (K : (Int × Value) → World → Prop) (w0 : World) : Prop := callP P 66 #[.pointer v0_s, val yapi_Rule v1_r, .slice v2_to.a v2_to.len v2_to.cap] (.tup (.pair (.int .i64) .iface)) w0 K
def C_intern_Store_at (v0_s : Option Addr) (v1_id : Int) (K : yintern_entry.T → World → Prop) (w0 : World) : Prop := callP P 67 #[.pointer v0_s, .int .i64 v1_id] yintern_entry w0 K
def C_intern_Store_reach (v0_s : Option Addr) (v1_id : Int) (K : Sl → World → Prop) (w0 : World) : Prop := callP P 68 #[.pointer v0_s, .int .i64 v1_id] .slice w0 K
def C_length_Mul (v0_a : Int) (v1_k : Int) (K : (Int × Value) → World → Prop) (w0 : World) : Prop := callP P 69 #[.int .i64 v0_a, .int .i64 v1_k] (.tup (.pair (.int .i64) .iface)) w0 K
def C_weight_Repeat (v0_w : yapi_Weight.T) (v1_k : Int) (K : (yapi_Weight.T × Value) → World → Prop) (w0 : World) : Prop := callP P 70 #[val yapi_Weight v0_w, .int .i64 v1_k] (.tup (.pair yapi_Weight .iface)) w0 K
def C_length_Add (v0_a : Int) (v1_b : Int) (K : (Int × Value) → World → Prop) (w0 : World) : Prop := callP P 71 #[.int .i64 v0_a, .int .i64 v1_b] (.tup (.pair (.int .i64) .iface)) w0 K
def C_weight_Join (v0_a : yapi_Weight.T) (v1_b : yapi_Weight.T) (K : (yapi_Weight.T × Value) → World → Prop) (w0 : World) : Prop := callP P 72 #[val yapi_Weight v0_a, val yapi_Weight v1_b] (.tup (.pair yapi_Weight .iface)) w0 K
def C_digest_Letter (v0_b : Int) (K : yapi_Digest.T → World → Prop) (w0 : World) : Prop := callP P 73 #[.int .u8 v0_b] yapi_Digest w0 K
def C_bits_Len32 (v0_x : Int) (K : Int → World → Prop) (w0 : World) : Prop := callP P 83 #[.int .u32 v0_x] (.int .i64) w0 K
def C_bits_Len64 (v0_x : Int) (K : Int → World → Prop) (w0 : World) : Prop := callP P 84 #[.int .u64 v0_x] (.int .i64) w0 K
def C_rule_place (v0_r : yapi_Rule.T) (v1_n : Int) (K : Value → World → Prop) (w0 : World) : Prop := callP P 85 #[val yapi_Rule v0_r, .int .i64 v1_n] .iface w0 K
def C_weight_Unit  (K : yapi_Weight.T → World → Prop) (w0 : World) : Prop := callP P 86 #[] yapi_Weight w0 K
def C_length_Valid (v0_n : Int) (K : Bool → World → Prop) (w0 : World) : Prop := callP P 87 #[.int .i64 v0_n] .bool w0 K
def C_weight_Valid (v0_w : yapi_Weight.T) (K : Bool → World → Prop) (w0 : World) : Prop := callP P 88 #[val yapi_Weight v0_w] .bool w0 K
def C_digest_Repeat (v0_d : yapi_Digest.T) (v1_k : Int) (K : yapi_Digest.T → World → Prop) (w0 : World) : Prop := callP P 89 #[val yapi_Digest v0_d, .int .i64 v1_k] yapi_Digest w0 K
def C_digest_Join (v0_a : yapi_Digest.T) (v1_b : yapi_Digest.T) (K : yapi_Digest.T → World → Prop) (w0 : World) : Prop := callP P 90 #[val yapi_Digest v0_a, val yapi_Digest v1_b] yapi_Digest w0 K
def C_digest_Unit  (K : yapi_Digest.T → World → Prop) (w0 : World) : Prop := callP P 97 #[] yapi_Digest w0 K
def C_modular_Pow (v0_a : Int) (v1_n : Int) (K : Int → World → Prop) (w0 : World) : Prop := callP P 98 #[.int .u64 v0_a, .int .u64 v1_n] (.int .u64) w0 K
def C_modular_Add (v0_a : Int) (v1_b : Int) (K : Int → World → Prop) (w0 : World) : Prop := callP P 99 #[.int .u64 v0_a, .int .u64 v1_b] (.int .u64) w0 K
def C_modular_Mul (v0_a : Int) (v1_b : Int) (K : Int → World → Prop) (w0 : World) : Prop := callP P 100 #[.int .u64 v0_a, .int .u64 v1_b] (.int .u64) w0 K
def C_modular_Reduce (v0_x : Int) (K : Int → World → Prop) (w0 : World) : Prop := callP P 102 #[.int .u64 v0_x] (.int .u64) w0 K
def C_bits_Mul64 (v0_x : Int) (v1_y : Int) (K : (Int × Int) → World → Prop) (w0 : World) : Prop := callP P 103 #[.int .u64 v0_x, .int .u64 v1_y] (.tup (.pair (.int .u64) (.int .u64))) w0 K

end Go.Proofs.Ytbghccafigmnjaa

/- The typed texts of the functions, printed by a program; each proved to imply the call. -/
set_option linter.unusedVariables false
set_option maxRecDepth 100000
set_option maxHeartbeats 4000000
namespace Go.Proofs.Ytbghccafigmnjaa
open Go.Den

def F_law12_CollectReaches (v0_list : Sl) (v1_picks : Sl) (K : Bool → World → Prop) (w0 : World) : Prop :=
JoinP (X := Bool × Unit) (fun R2 =>
gd (decide ((300 : Int) < (v0_list.len : Int))) (
R2 (true, ()) w0) (
R2 (decide ((300 : Int) < (v1_picks.len : Int)), ()) w0)) (fun x1 w1 => ∀ _ : Env,
gd x1.1 (
K true w1) (
C_law12_begun v0_list (fun x3 w2 =>
gd (!x3.2.2) (
K false w2) (
C_ref12_Build v0_list (fun x4 w3 =>
allocK (.cells #[.slice none 0 0, .slice none 0 0] t_evergreenref12_Store) w3 fun a5 w4 =>
stK w4 a5 (cells yevergreenref12_Store x4.1) fun w5 =>
C_law12_roots x3.1 x3.2.1 v1_picks (fun x6 w6 =>
C_collect_Reach x3.1 x6 (fun x7 w7 =>
∃ x8 : yevergreenref12_Store.T, At w7 a5 (cells yevergreenref12_Store x8) ∧
C_ref12_Reach x8 x6 (fun x9 w8 =>
gd (!x9.2) (
gd ((x7.1.len : Int) == (0 : Int)) (
C_base_Is x7.2 (1 : Int) (fun x10 w9 =>
K x10 w9) w8) (
K false w8)) (
nilIfcK x7.2 fun b11 =>
gd b11 (
C_ref12_List x9.1 (fun x12 w10 =>
C_base_IDs x7.1 x12 (fun x13 w11 =>
K x13 w11) w10) w8) (
K false w8))) w7) w6) w5) w2)) w1))
theorem S_law12_CollectReaches (v0_list : Sl) (v1_picks : Sl) (K : Bool → World → Prop) (w0 : World) (h : F_law12_CollectReaches v0_list v1_picks K w0) : C_law12_CollectReaches v0_list v1_picks K w0 := by
  have e : denFn P [(2, [(22, .bool)])] Try.f3 #[.slice v0_list.a v0_list.len v0_list.cap, .slice v1_picks.a v1_picks.len v1_picks.cap] .bool K w0 = F_law12_CollectReaches v0_list v1_picks K w0 := by kernel_rfl
  exact fn_sound mixed (f := 3) Try.func3 (by kernel_rfl) (e.mpr h)

def F_law12_CollectCloses (v0_list : Sl) (v1_one : Sl) (v2_two : Sl) (K : Bool → World → Prop) (w0 : World) : Prop :=
JoinP (X := Bool × Unit) (fun R2 =>
gd (decide ((200 : Int) < (v0_list.len : Int))) (
R2 (true, ()) w0) (
arith .i64 ((v1_one.len : Int) + (v2_two.len : Int)) fun n3 =>
R2 (decide ((200 : Int) < n3), ()) w0)) (fun x1 w1 => ∀ _ : Env,
gd x1.1 (
K true w1) (
C_law12_begun v0_list (fun x4 w2 =>
gd (!x4.2.2) (
K false w2) (
C_law12_roots x4.1 x4.2.1 v1_one (fun x5 w3 =>
C_law12_roots x4.1 x4.2.1 v2_two (fun x6 w4 =>
C_collect_Reach x4.1 x5 (fun x7 w5 =>
C_collect_Reach x4.1 x6 (fun x8 w6 =>
allocK (.cells #[] t_api_ID) w6 fun a9 w7 =>
appK t_api_ID 1 8 #[.int .i64 (0 : Int)] (some a9) 0 0 (.slice x5.a x5.len x5.cap) x5.len w7 fun s10 w8 =>
appK t_api_ID 1 8 #[.int .i64 (0 : Int)] s10.a s10.len s10.cap (.slice x6.a x6.len x6.cap) x6.len w8 fun s11 w9 =>
C_collect_Reach x4.1 s11 (fun x12 w10 =>
JoinP (X := Bool × Unit) (fun R14 =>
nilIfcK x7.2 fun b15 =>
gd (!b15) (
R14 (true, ()) w10) (
nilIfcK x8.2 fun b16 =>
R14 (!b16, ()) w10)) (fun x13 w11 => ∀ _ : Env,
gd x13.1 (
nilIfcK x12.2 fun b17 =>
K (!b17) w11) (
C_collect_Reach x4.1 x7.1 (fun x18 w12 =>
JoinP (X := Bool × Unit) (fun R20 =>
nilIfcK x12.2 fun b21 =>
gd (!b21) (
R20 (true, ()) w12) (
nilIfcK x18.2 fun b22 =>
gd (!b22) (
R20 (true, ()) w12) (
C_base_IDs x18.1 x7.1 (fun x23 w14 =>
R20 (!x23, ()) w14) w12))) (fun x19 w13 => ∀ _ : Env,
gd x19.1 (
K false w13) (
allocK (.map #[] 0) w13 fun a24 w15 =>
allocK (.cells #[] t_api_ID) w15 fun a25 w16 =>
appK t_api_ID 1 8 #[.int .i64 (0 : Int)] (some a25) 0 0 (.slice x7.1.a x7.1.len x7.1.cap) x7.1.len w16 fun s26 w17 =>
appK t_api_ID 1 8 #[.int .i64 (0 : Int)] s26.a s26.len s26.cap (.slice x8.1.a x8.1.len x8.1.cap) x8.1.len w17 fun s27 w18 =>
LoopP (X := Int × Unit) ((0 : Int), ()) w18 fun next29 x28 w19 => ∀ _ : Env,
gd (decide (x28.1 < (s27.len : Int))) (
idxK s27.a s27.len x28.1 1 fun p30 =>
∃ x31 : Int, At w19 p30 (cells (.int .i64) x31) ∧
runU P (Instr.mapUpdate t_map_api_ID_bool (.map (some a24.block)) (.int .i64 x31) (.bool true)) w19 fun w20 =>
arith .i64 (x28.1 + (1 : Int)) fun n32 =>
next29 (n32, ()) w20) (
LoopP (X := Int × Unit) ((0 : Int), ()) w19 fun next34 x33 w21 => ∀ _ : Env,
gd (decide (x33.1 < (x5.len : Int))) (
idxK x5.a x5.len x33.1 1 fun p35 =>
∃ x36 : Int, At w21 p35 (cells (.int .i64) x36) ∧
JoinP (X := Bool × Unit) (fun R38 =>
gd (x36 != (0 : Int)) (
∃ x39 : Bool, Lk1 P t_map_api_ID_bool .bool (.map (some a24.block)) (.int .i64 x36) x39 w21 ∧
R38 (!x39, ()) w21) (
R38 (false, ()) w21)) (fun x37 w22 => ∀ _ : Env,
gd x37.1 (
K false w22) (
arith .i64 (x33.1 + (1 : Int)) fun n40 =>
next34 (n40, ()) w22))) (
LoopP (X := Int × Unit) ((0 : Int), ()) w21 fun next42 x41 w23 => ∀ _ : Env,
gd (decide (x41.1 < (x12.1.len : Int))) (
idxK x12.1.a x12.1.len x41.1 1 fun p43 =>
∃ x44 : Int, At w23 p43 (cells (.int .i64) x44) ∧
∃ x45 : Bool, Lk1 P t_map_api_ID_bool .bool (.map (some a24.block)) (.int .i64 x44) x45 w23 ∧
gd (!x45) (
K false w23) (
arith .i64 (x41.1 + (1 : Int)) fun n46 =>
next42 (n46, ()) w23)) (
∃ n47 : Nat, mapLen w23 (some a24.block) n47 ∧
K ((x12.1.len : Int) == (n47 : Int)) w23)))))) w11))) w9) w5) w4) w3) w2)) w1))
theorem S_law12_CollectCloses (v0_list : Sl) (v1_one : Sl) (v2_two : Sl) (K : Bool → World → Prop) (w0 : World) (h : F_law12_CollectCloses v0_list v1_one v2_two K w0) : C_law12_CollectCloses v0_list v1_one v2_two K w0 := by
  have e : denFn P [(2, [(37, .bool)]), (11, [(81, .bool)]), (14, [(101, .bool)]), (1017, [(109, .int .i64)]), (1022, [(118, .int .i64)]), (25, [(129, .bool)]), (1028, [(133, .int .i64)])] Try.f4 #[.slice v0_list.a v0_list.len v0_list.cap, .slice v1_one.a v1_one.len v1_one.cap, .slice v2_two.a v2_two.len v2_two.cap] .bool K w0 = F_law12_CollectCloses v0_list v1_one v2_two K w0 := by kernel_rfl
  exact fn_sound mixed (f := 4) Try.func4 (by kernel_rfl) (e.mpr h)

def F_law12_CollectCounts (v0_list : Sl) (v1_picks : Sl) (K : Bool → World → Prop) (w0 : World) : Prop :=
JoinP (X := Bool × Unit) (fun R2 =>
gd (decide ((120 : Int) < (v0_list.len : Int))) (
R2 (true, ()) w0) (
R2 (decide ((120 : Int) < (v1_picks.len : Int)), ()) w0)) (fun x1 w1 => ∀ _ : Env,
gd x1.1 (
K true w1) (
C_law12_begun v0_list (fun x3 w2 =>
gd (!x3.2.2) (
K false w2) (
C_ref12_Build v0_list (fun x4 w3 =>
allocK (.cells #[.slice none 0 0, .slice none 0 0] t_evergreenref12_Store) w3 fun a5 w4 =>
stK w4 a5 (cells yevergreenref12_Store x4.1) fun w5 =>
C_law12_roots x3.1 x3.2.1 v1_picks (fun x6 w6 =>
C_collect_Counts x3.1 x6 (fun x7 w7 =>
∃ x8 : yevergreenref12_Store.T, At w7 a5 (cells yevergreenref12_Store x8) ∧
C_ref12_Counts x8 x6 (fun x9 w8 =>
gd (!x9.2) (
gd ((x7.1.len : Int) == (0 : Int)) (
C_base_Is x7.2 (1 : Int) (fun x10 w9 =>
K x10 w9) w8) (
K false w8)) (
JoinP (X := Bool × Unit) (fun R12 =>
nilIfcK x7.2 fun b13 =>
gd (!b13) (
R12 (true, ()) w8) (
R12 ((x7.1.len : Int) != (x9.1.len : Int), ()) w8)) (fun x11 w10 => ∀ _ : Env,
gd x11.1 (
K false w10) (
LoopP (X := Int × Unit) ((0 : Int), ()) w10 fun next15 x14 w11 => ∀ _ : Env,
gd (decide (x14.1 < (x7.1.len : Int))) (
idxK x7.1.a x7.1.len x14.1 3 fun p16 =>
∃ x17 : ycollect_Count.T, At w11 p16 (cells ycollect_Count x17) ∧
allocK (.cells #[.int .i64 (0 : Int), .int .i64 (0 : Int), .int .i64 (0 : Int)] t_collect_Count) w11 fun a18 w12 =>
stK w12 a18 (cells ycollect_Count x17) fun w13 =>
drawK w13 fun w14 =>
∃ x19 : Int, At w14 (a18.add 0) (cells (.int .i64) x19) ∧
∃ x20 : Int, At w14 (a18.add 1) (cells (.int .i64) x20) ∧
∃ x21 : Int, At w14 (a18.add 2) (cells (.int .i64) x21) ∧
idxK x9.1.a x9.1.len x14.1 3 fun p22 =>
∃ x23 : yevergreenref12_Count.T, At w14 p22 (cells yevergreenref12_Count x23) ∧
testK P (do eqGuard .neq t_evergreenref12_Count (.tmp 85) (.tmp 89) (.agg #[.int .i64 x19, .int .i64 x20, .int .i64 x21]) (val yevergreenref12_Count x23); binOp .neq t_evergreenref12_Count (.agg #[.int .i64 x19, .int .i64 x20, .int .i64 x21]) (val yevergreenref12_Count x23)) fun b24 =>
gd b24 (
K false w14) (
arith .i64 (x14.1 + (1 : Int)) fun n25 =>
next15 (n25, ()) w14)) (
K true w11))))) w7) w6) w5) w2)) w1))
theorem S_law12_CollectCounts (v0_list : Sl) (v1_picks : Sl) (K : Bool → World → Prop) (w0 : World) (h : F_law12_CollectCounts v0_list v1_picks K w0) : C_law12_CollectCounts v0_list v1_picks K w0 := by
  have e : denFn P [(2, [(24, .bool)]), (13, [(71, .bool)]), (1015, [(74, .int .i64)])] Try.f5 #[.slice v0_list.a v0_list.len v0_list.cap, .slice v1_picks.a v1_picks.len v1_picks.cap] .bool K w0 = F_law12_CollectCounts v0_list v1_picks K w0 := by kernel_rfl
  exact fn_sound mixed (f := 5) Try.func5 (by kernel_rfl) (e.mpr h)

def F_law12_CollectSums (v0_list : Sl) (v1_picks : Sl) (K : Bool → World → Prop) (w0 : World) : Prop :=
JoinP (X := Bool × Unit) (fun R2 =>
gd (decide ((300 : Int) < (v0_list.len : Int))) (
R2 (true, ()) w0) (
R2 (decide ((300 : Int) < (v1_picks.len : Int)), ()) w0)) (fun x1 w1 => ∀ _ : Env,
gd x1.1 (
K true w1) (
C_law12_begun v0_list (fun x3 w2 =>
gd (!x3.2.2) (
K false w2) (
C_law12_roots x3.1 x3.2.1 v1_picks (fun x4 w3 =>
C_collect_Counts x3.1 x4 (fun x5 w4 =>
nilIfcK x5.2 fun b6 =>
gd (!b6) (
C_base_Is x5.2 (1 : Int) (fun x7 w5 =>
K x7 w5) w4) (
LoopP (X := Int × Int × Unit) ((0 : Int), (0 : Int), ()) w4 fun next9 x8 w6 => ∀ _ : Env,
gd (decide (x8.2.1 < (x5.1.len : Int))) (
idxK x5.1.a x5.1.len x8.2.1 3 fun p10 =>
∃ x11 : ycollect_Count.T, At w6 p10 (cells ycollect_Count x11) ∧
allocK (.cells #[.int .i64 (0 : Int), .int .i64 (0 : Int), .int .i64 (0 : Int)] t_collect_Count) w6 fun a12 w7 =>
stK w7 a12 (cells ycollect_Count x11) fun w8 =>
∃ x13 : Int, At w8 (a12.add 0) (cells (.int .i64) x13) ∧
C_intern_Store_Rule x3.1 x13 (fun x14 w9 =>
allocK (.cells #[.int .i64 (0 : Int), .int .u8 (0 : Int), .int .i64 (0 : Int), .int .i64 (0 : Int), .int .i64 (0 : Int)] t_api_Rule) w9 fun a15 w10 =>
stK w10 a15 (cells yapi_Rule x14.1) fun w11 =>
JoinP (X := Bool × Unit) (fun R17 =>
nilIfcK x14.2 fun b18 =>
gd (!b18) (
R17 (true, ()) w11) (
∃ x19 : Int, At w11 (a12.add 1) (cells (.int .i64) x19) ∧
∃ x20 : Int, At w11 (a12.add 2) (cells (.int .i64) x20) ∧
arith .i64 (x19 + x20) fun n21 =>
R17 (n21 == (0 : Int), ()) w11)) (fun x16 w12 => ∀ _ : Env,
gd x16.1 (
K false w12) (
JoinP (X := Int × Unit) (fun R23 =>
∃ x24 : Int, At w12 (a15.add 0) (cells (.int .i64) x24) ∧
gd (x24 == (2 : Int)) (
arith .i64 (x8.1 + (2 : Int)) fun n25 =>
R23 (n25, ()) w12) (
gd (x24 == (3 : Int)) (
arith .i64 (x8.1 + (1 : Int)) fun n26 =>
R23 (n26, ()) w12) (
R23 (x8.1, ()) w12))) (fun x22 w13 => ∀ _ : Env,
∃ x27 : Int, At w13 (a12.add 1) (cells (.int .i64) x27) ∧
arith .i64 (x22.1 - x27) fun n28 =>
arith .i64 (x8.2.1 + (1 : Int)) fun n29 =>
next9 (n28, n29, ()) w13)))) w8) (
LoopP (X := Int × Int × Unit) ((0 : Int), (0 : Int), ()) w6 fun next31 x30 w14 => ∀ _ : Env,
gd (decide (x30.2.1 < (x4.len : Int))) (
JoinP (X := Int × Unit) (fun R33 =>
idxK x4.a x4.len x30.2.1 1 fun p34 =>
∃ x35 : Int, At w14 p34 (cells (.int .i64) x35) ∧
gd (x35 != (0 : Int)) (
arith .i64 (x30.1 + (1 : Int)) fun n36 =>
R33 (n36, ()) w14) (
R33 (x30.1, ()) w14)) (fun x32 w15 => ∀ _ : Env,
arith .i64 (x30.2.1 + (1 : Int)) fun n37 =>
next31 (x32.1, n37, ()) w15)) (
LoopP (X := Int × Int × Unit) (x30.1, (0 : Int), ()) w14 fun next39 x38 w16 => ∀ _ : Env,
gd (decide (x38.2.1 < (x5.1.len : Int))) (
idxK x5.1.a x5.1.len x38.2.1 3 fun p40 =>
∃ x41 : ycollect_Count.T, At w16 p40 (cells ycollect_Count x41) ∧
allocK (.cells #[.int .i64 (0 : Int), .int .i64 (0 : Int), .int .i64 (0 : Int)] t_collect_Count) w16 fun a42 w17 =>
stK w17 a42 (cells ycollect_Count x41) fun w18 =>
∃ x43 : Int, At w18 (a42.add 2) (cells (.int .i64) x43) ∧
arith .i64 (x38.1 - x43) fun n44 =>
arith .i64 (x38.2.1 + (1 : Int)) fun n45 =>
next39 (n44, n45, ()) w18) (
gd (x8.1 == (0 : Int)) (
K (x38.1 == (0 : Int)) w16) (
K false w16)))))) w3) w2)) w1))
theorem S_law12_CollectSums (v0_list : Sl) (v1_picks : Sl) (K : Bool → World → Prop) (w0 : World) (h : F_law12_CollectSums v0_list v1_picks K w0) : C_law12_CollectSums v0_list v1_picks K w0 := by
  have e : denFn P [(2, [(28, .bool)]), (1012, [(11, .int .i64), (53, .int .i64)]), (16, [(73, .bool)]), (22, [(11, .int .i64)]), (1026, [(16, .int .i64), (91, .int .i64)]), (30, [(16, .int .i64)]), (1032, [(16, .int .i64), (102, .int .i64)])] Try.f6 #[.slice v0_list.a v0_list.len v0_list.cap, .slice v1_picks.a v1_picks.len v1_picks.cap] .bool K w0 = F_law12_CollectSums v0_list v1_picks K w0 := by kernel_rfl
  exact fn_sound mixed (f := 6) Try.func6 (by kernel_rfl) (e.mpr h)

def F_law12_CollectHolds (v0_list : Sl) (v1_script : Sl) (K : Bool → World → Prop) (w0 : World) : Prop :=
JoinP (X := Bool × Unit) (fun R2 =>
gd (decide ((200 : Int) < (v0_list.len : Int))) (
R2 (true, ()) w0) (
R2 (decide ((200 : Int) < (v1_script.len : Int)), ()) w0)) (fun x1 w1 => ∀ _ : Env,
gd x1.1 (
K true w1) (
C_law12_begun v0_list (fun x3 w2 =>
gd (!x3.2.2) (
K false w2) (
C_law12_play x3.1 x3.2.1 v1_script (fun x4 w3 =>
gd (!x4.2.2) (
K false w3) (
C_ref12_Build v0_list (fun x5 w4 =>
allocK (.cells #[.slice none 0 0, .slice none 0 0] t_evergreenref12_Store) w4 fun a6 w5 =>
stK w5 a6 (cells yevergreenref12_Store x5.1) fun w6 =>
∃ x7 : yevergreenref12_Store.T, At w6 a6 (cells yevergreenref12_Store x7) ∧
C_ref12_Reach x7 x4.2.1 (fun x8 w7 =>
∃ x9 : Sl, At w7 (a6.add 0) (cells .slice x9) ∧
arith .i64 ((x9.len : Int) + (1 : Int)) fun n10 =>
0 ≤ n10 ∧ n10 ≤ n10 ∧ n10 ≤ 9223372036854775807 ∧ 1 * n10 ≤ 281474976710656 ∧
allocK (.cells (zrow #[.bool false] (n10.toNat * 1)) t_bool) w7 fun a11 w8 =>
LoopP (X := Int × Unit) ((-1 : Int), ()) w8 fun next13 x12 w9 => ∀ _ : Env,
∃ x14 : Sl, At w9 (a6.add 0) (cells .slice x14) ∧
arith .i64 ((x14.len : Int) + (1 : Int)) fun n15 =>
gd (decide (x12.1 ≤ n15)) (
LoopP (X := Int × Int × Unit) ((0 : Int), (0 : Int), ()) w9 fun next17 x16 w10 => ∀ _ : Env,
gd (decide (x16.2.1 < (x4.2.1.len : Int))) (
JoinP (X := Int × Unit) (fun R19 =>
idxK x4.2.1.a x4.2.1.len x16.2.1 1 fun p20 =>
∃ x21 : Int, At w10 p20 (cells (.int .i64) x21) ∧
gd (x21 == x12.1) (
arith .i64 (x16.1 + (1 : Int)) fun n22 =>
idxK (some a11) n10.toNat x12.1 1 fun p23 =>
stK w10 p23 ([.bool true]) fun w12 =>
R19 (n22, ()) w12) (
R19 (x16.1, ()) w10)) (fun x18 w11 => ∀ _ : Env,
arith .i64 (x16.2.1 + (1 : Int)) fun n24 =>
next17 (x18.1, n24, ()) w11)) (
C_collect_Table_Held x4.1 x12.1 (fun x25 w13 =>
gd (x25 != x16.1) (
K false w13) (
arith .i64 (x12.1 + (1 : Int)) fun n26 =>
next13 (n26, ()) w13)) w10)) (
C_ref12_List x8.1 (fun x27 w14 =>
drawK w14 fun w15 =>
C_collect_Table_Roots x4.1 (fun x28 w16 =>
C_ref12_List (⟨some a11, n10.toNat, n10.toNat⟩) (fun x29 w17 =>
C_base_IDs x28 x29 (fun x30 w18 =>
gd x30 (
C_collect_Table_Live x4.1 (fun x31 w19 =>
C_base_IDs x31 x27 (fun x32 w20 =>
gd x32 (
∃ x33 : Sl, At w20 (a6.add 0) (cells .slice x33) ∧
arith .i64 ((x33.len : Int) - (x27.len : Int)) fun n34 =>
C_collect_Table_Garbage x4.1 (fun x35 w21 =>
At w21 (a6.add 0) (cells .slice x33) ∧
K (x35 == n34) w21) w20) (
K false w20)) w19) w18) (
K false w18)) w17) w16) w15) w9)) w6) w3)) w2)) w1))
theorem S_law12_CollectHolds (v0_list : Sl) (v1_script : Sl) (K : Bool → World → Prop) (w0 : World) (h : F_law12_CollectHolds v0_list v1_script K w0) : C_law12_CollectHolds v0_list v1_script K w0 := by
  have e : denFn P [(2, [(27, .bool)]), (1013, [(15, .int .i64)]), (1017, [(16, .int .i64), (72, .int .i64)]), (22, [(16, .int .i64)])] Try.f7 #[.slice v0_list.a v0_list.len v0_list.cap, .slice v1_script.a v1_script.len v1_script.cap] .bool K w0 = F_law12_CollectHolds v0_list v1_script K w0 := by kernel_rfl
  exact fn_sound mixed (f := 7) Try.func7 (by kernel_rfl) (e.mpr h)

def F_law12_CollectSweeps (v0_list : Sl) (v1_script : Sl) (v2_most : Int) (K : Bool → World → Prop) (w0 : World) : Prop :=
JoinP (X := Bool × Unit) (fun R2 =>
gd (decide ((200 : Int) < (v0_list.len : Int))) (
R2 (true, ()) w0) (
R2 (decide ((200 : Int) < (v1_script.len : Int)), ()) w0)) (fun x1 w1 => ∀ _ : Env,
gd x1.1 (
K true w1) (
C_law12_begun v0_list (fun x3 w2 =>
gd (!x3.2.2) (
K false w2) (
C_law12_play x3.1 x3.2.1 v1_script (fun x4 w3 =>
gd (!x4.2.2) (
K false w3) (
C_ref12_Build v0_list (fun x5 w4 =>
allocK (.cells #[.slice none 0 0, .slice none 0 0] t_evergreenref12_Store) w4 fun a6 w5 =>
stK w5 a6 (cells yevergreenref12_Store x5.1) fun w6 =>
∃ x7 : yevergreenref12_Store.T, At w6 a6 (cells yevergreenref12_Store x7) ∧
C_ref12_Sweep x7 x4.2.1 (fun x8 w7 =>
C_collect_Table_Sweep x4.1 v2_most (fun x9 w8 =>
gd (decide ((if v2_most < (0 : Int) then (0 : Int) else v2_most) < (x8.1.len : Int))) (
gd x9.1.isNone (
gd ((x9.2.1.len : Int) == (0 : Int)) (
C_base_Is x9.2.2 (3 : Int) (fun x10 w9 =>
K x10 w9) w8) (
K false w8)) (
K false w8)) (
JoinP (X := Bool × Unit) (fun R12 =>
drawK w8 fun w11 =>
nilIfcK x9.2.2 fun b13 =>
gd (!b13) (
R12 (true, ()) w11) (
gd x9.1.isNone (
R12 (true, ()) w11) (
C_intern_Store_Len x9.1 (fun x14 w12 =>
gd (x14 != (x8.1.len : Int)) (
R12 (true, ()) w12) (
C_base_IDs x9.2.1 x8.2 (fun x15 w13 =>
gd (!x15) (
R12 (true, ()) w13) (
∃ x16 : Sl, At w13 (a6.add 0) (cells .slice x16) ∧
C_intern_Store_Len x3.1 (fun x17 w14 =>
At w14 (a6.add 0) (cells .slice x16) ∧
gd (x17 != (x16.len : Int)) (
R12 (true, ()) w14) (
∃ x18 : Sl, At w14 (a6.add 0) (cells .slice x18) ∧
arith .i64 ((x18.len : Int) - (x8.1.len : Int)) fun n19 =>
C_collect_Table_Garbage x4.1 (fun x20 w15 =>
At w15 (a6.add 0) (cells .slice x18) ∧
R12 (x20 != n19, ()) w15) w14)) w13)) w12)) w11))) (fun x11 w10 => ∀ _ : Env,
gd x11.1 (
K false w10) (
LoopP (X := Int × Unit) ((0 : Int), ()) w10 fun next22 x21 w16 => ∀ _ : Env,
gd (decide (x21.1 < (x8.1.len : Int))) (
idxK x8.1.a x8.1.len x21.1 5 fun p23 =>
∃ x24 : yapi_Rule.T, At w16 p23 (cells yapi_Rule x24) ∧
allocK (.cells #[.int .i64 (0 : Int), .int .u8 (0 : Int), .int .i64 (0 : Int), .int .i64 (0 : Int), .int .i64 (0 : Int)] t_api_Rule) w16 fun a25 w17 =>
stK w17 a25 (cells yapi_Rule x24) fun w18 =>
arith .i64 (x21.1 + (1 : Int)) fun n26 =>
C_intern_Store_Rule x9.1 n26 (fun x27 w19 =>
allocK (.cells #[.int .i64 (0 : Int), .int .u8 (0 : Int), .int .i64 (0 : Int), .int .i64 (0 : Int), .int .i64 (0 : Int)] t_api_Rule) w19 fun a28 w20 =>
stK w20 a28 (cells yapi_Rule x27.1) fun w21 =>
JoinP (X := Bool × Unit) (fun R30 =>
nilIfcK x27.2 fun b31 =>
gd (!b31) (
R30 (true, ()) w21) (
∃ x32 : yapi_Rule.T, At w21 a28 (cells yapi_Rule x32) ∧
∃ x33 : yapi_Rule.T, At w21 a25 (cells yapi_Rule x33) ∧
testK P (do eqGuard .neq t_api_Rule (.tmp 138) (.tmp 139) (val yapi_Rule x32) (val yapi_Rule x33); binOp .neq t_api_Rule (val yapi_Rule x32) (val yapi_Rule x33)) fun b34 =>
R30 (b34, ()) w21)) (fun x29 w22 => ∀ _ : Env,
gd x29.1 (
K false w22) (
arith .i64 (x21.1 + (1 : Int)) fun n35 =>
next22 (n35, ()) w22))) w18) (
C_intern_Store_Room x9.1 (fun x36 w23 =>
arith .i64 ((if (if (1048576 : Int) < v2_most then (1048576 : Int) else v2_most) < (0 : Int) then (0 : Int) else (if (1048576 : Int) < v2_most then (1048576 : Int) else v2_most)) - (x8.1.len : Int)) fun n37 =>
K (x36 == n37) w23) w16))))) w7) w6) w3)) w2)) w1))
theorem S_law12_CollectSweeps (v0_list : Sl) (v1_script : Sl) (v2_most : Int) (K : Bool → World → Prop) (w0 : World) (h : F_law12_CollectSweeps v0_list v1_script v2_most K w0) : C_law12_CollectSweeps v0_list v1_script v2_most K w0 := by
  have e : denFn P [(2, [(30, .bool)]), (15, [(120, .bool)]), (1017, [(123, .int .i64)]), (21, [(141, .bool)])] Try.f8 #[.slice v0_list.a v0_list.len v0_list.cap, .slice v1_script.a v1_script.len v1_script.cap, .int .i64 v2_most] .bool K w0 = F_law12_CollectSweeps v0_list v1_script v2_most K w0 := by kernel_rfl
  exact fn_sound mixed (f := 8) Try.func8 (by kernel_rfl) (e.mpr h)

def F_law12_CollectAgain (v0_list : Sl) (v1_script : Sl) (K : Bool → World → Prop) (w0 : World) : Prop :=
JoinP (X := Bool × Unit) (fun R2 =>
gd (decide ((200 : Int) < (v0_list.len : Int))) (
R2 (true, ()) w0) (
R2 (decide ((200 : Int) < (v1_script.len : Int)), ()) w0)) (fun x1 w1 => ∀ _ : Env,
gd x1.1 (
K true w1) (
C_law12_begun v0_list (fun x3 w2 =>
gd (!x3.2.2) (
K false w2) (
C_law12_play x3.1 x3.2.1 v1_script (fun x4 w3 =>
gd (!x4.2.2) (
K false w3) (
C_collect_Table_Sweep x4.1 (1000 : Int) (fun x5 w4 =>
C_collect_New x5.1 (fun x6 w5 =>
JoinP (X := Bool × Unit) (fun R8 =>
nilIfcK x5.2.2 fun b9 =>
gd (!b9) (
R8 (true, ()) w5) (
gd x6.isNone (
R8 (true, ()) w5) (
C_intern_Store_Len x3.1 (fun x10 w7 =>
arith .i64 (x10 + (1 : Int)) fun n11 =>
R8 ((x5.2.1.len : Int) != n11, ()) w7) w5))) (fun x7 w6 => ∀ _ : Env,
gd x7.1 (
K false w6) (
LoopP (X := Int × Unit) ((0 : Int), ()) w6 fun next13 x12 w8 => ∀ _ : Env,
gd (decide (x12.1 < (x4.2.1.len : Int))) (
idxK x4.2.1.a x4.2.1.len x12.1 1 fun p14 =>
∃ x15 : Int, At w8 p14 (cells (.int .i64) x15) ∧
idxK x5.2.1.a x5.2.1.len x15 1 fun p16 =>
∃ x17 : Int, At w8 p16 (cells (.int .i64) x17) ∧
C_collect_Table_Hold x6 x17 (fun x18 w9 =>
nilIfcK x18 fun b19 =>
gd (!b19) (
K false w9) (
arith .i64 (x12.1 + (1 : Int)) fun n20 =>
next13 (n20, ()) w9)) w8) (
C_collect_Table_Sweep x6 (1000 : Int) (fun x21 w10 =>
JoinP (X := Bool × Unit) (fun R23 =>
nilIfcK x21.2.2 fun b24 =>
gd (!b24) (
R23 (true, ()) w10) (
C_collect_Table_Garbage x6 (fun x25 w12 =>
gd (x25 != (0 : Int)) (
R23 (true, ()) w12) (
C_intern_Store_Len x21.1 (fun x26 w13 =>
C_intern_Store_Len x5.1 (fun x27 w14 =>
gd (x26 != x27) (
R23 (true, ()) w14) (
C_intern_Store_Len x5.1 (fun x28 w15 =>
arith .i64 (x28 + (1 : Int)) fun n29 =>
R23 ((x21.2.1.len : Int) != n29, ()) w15) w14)) w13) w12)) w10)) (fun x22 w11 => ∀ _ : Env,
gd x22.1 (
K false w11) (
LoopP (X := Int × Unit) ((0 : Int), ()) w11 fun next31 x30 w16 => ∀ _ : Env,
gd (decide (x30.1 < (x21.2.1.len : Int))) (
idxK x21.2.1.a x21.2.1.len x30.1 1 fun p32 =>
∃ x33 : Int, At w16 p32 (cells (.int .i64) x33) ∧
gd (x33 != x30.1) (
K false w16) (
arith .i64 (x30.1 + (1 : Int)) fun n34 =>
next31 (n34, ()) w16)) (
C_collect_Table_Roots x6 (fun x35 w17 =>
C_collect_Table_Roots x4.1 (fun x36 w18 =>
K ((x35.len : Int) == (x36.len : Int)) w18) w17) w16)))) w8)))) w4) w3)) w2)) w1))
theorem S_law12_CollectAgain (v0_list : Sl) (v1_script : Sl) (K : Bool → World → Prop) (w0 : World) (h : F_law12_CollectAgain v0_list v1_script K w0) : C_law12_CollectAgain v0_list v1_script K w0 := by
  have e : denFn P [(2, [(27, .bool)]), (12, [(67, .bool)]), (1014, [(70, .int .i64)]), (21, [(109, .bool)]), (1023, [(112, .int .i64)])] Try.f9 #[.slice v0_list.a v0_list.len v0_list.cap, .slice v1_script.a v1_script.len v1_script.cap] .bool K w0 = F_law12_CollectAgain v0_list v1_script K w0 := by kernel_rfl
  exact fn_sound mixed (f := 9) Try.func9 (by kernel_rfl) (e.mpr h)

def F_law12_CollectNone (v0_id : Int) (v1_most : Int) (K : Bool → World → Prop) (w0 : World) : Prop :=
C_law12_begun (⟨none, 0, 0⟩) (fun x1 w1 =>
gd (!x1.2.2) (
K false w1) (
allocK (.cells #[.int .i64 v0_id] t_api_ID) w1 fun a2 w2 =>
C_collect_Reach none (⟨some a2, 1, 1⟩) (fun x3 w3 =>
allocK (.cells #[.int .i64 v0_id] t_api_ID) w3 fun a4 w4 =>
C_collect_Counts none (⟨some a4, 1, 1⟩) (fun x5 w5 =>
C_collect_Table_Sweep none v1_most (fun x6 w6 =>
JoinP (X := Bool × Unit) (fun R8 =>
C_collect_New none (fun x9 w8 =>
gd (!x9.isNone) (
R8 (true, ()) w8) (
arith .i64 ((x3.1.len : Int) + (x5.1.len : Int)) fun n10 =>
arith .i64 (n10 + (x6.2.1.len : Int)) fun n11 =>
gd (n11 != (0 : Int)) (
R8 (true, ()) w8) (
gd (!x6.1.isNone) (
R8 (true, ()) w8) (
C_base_Is x3.2 (5 : Int) (fun x12 w9 =>
gd (!x12) (
R8 (true, ()) w9) (
C_base_Is x5.2 (5 : Int) (fun x13 w10 =>
gd (!x13) (
R8 (true, ()) w10) (
C_base_Is x6.2.2 (5 : Int) (fun x14 w11 =>
R8 (!x14, ()) w11) w10)) w9)) w8)))) w6) (fun x7 w7 => ∀ _ : Env,
gd x7.1 (
K false w7) (
C_collect_Table_Hold none v0_id (fun x15 w12 =>
C_base_Is x15 (5 : Int) (fun x16 w13 =>
gd x16 (
C_collect_Table_Release none v0_id (fun x17 w14 =>
C_base_Is x17 (5 : Int) (fun x18 w15 =>
gd x18 (
C_collect_Table_Held none v0_id (fun x19 w16 =>
gd (x19 == (0 : Int)) (
C_collect_Table_Roots none (fun x20 w17 =>
C_collect_Table_Live none (fun x21 w18 =>
arith .i64 ((x20.len : Int) + (x21.len : Int)) fun n22 =>
C_collect_Table_Garbage none (fun x23 w19 =>
arith .i64 (n22 + x23) fun n24 =>
K (n24 == (0 : Int)) w19) w18) w17) w16) (
K false w16)) w15) (
K false w15)) w14) w13) (
K false w13)) w12) w7))) w5) w4) w2)) w0
theorem S_law12_CollectNone (v0_id : Int) (v1_most : Int) (K : Bool → World → Prop) (w0 : World) (h : F_law12_CollectNone v0_id v1_most K w0) : C_law12_CollectNone v0_id v1_most K w0 := by
  have e : denFn P [(9, [(73, .bool)])] Try.f10 #[.int .i64 v0_id, .int .i64 v1_most] .bool K w0 = F_law12_CollectNone v0_id v1_most K w0 := by kernel_rfl
  exact fn_sound mixed (f := 10) Try.func10 (by kernel_rfl) (e.mpr h)

def F_law12_CollectKeeps (v0_list : Sl) (v1_script : Sl) (K : Bool → World → Prop) (w0 : World) : Prop :=
JoinP (X := Bool × Unit) (fun R2 =>
gd (decide ((200 : Int) < (v0_list.len : Int))) (
R2 (true, ()) w0) (
R2 (decide ((200 : Int) < (v1_script.len : Int)), ()) w0)) (fun x1 w1 => ∀ _ : Env,
gd x1.1 (
K true w1) (
C_law12_begun v0_list (fun x3 w2 =>
gd (!x3.2.2) (
K false w2) (
C_law12_play x3.1 x3.2.1 v1_script (fun x4 w3 =>
gd (!x4.2.2) (
K false w3) (
C_collect_Table_Sweep x4.1 (1000 : Int) (fun x5 w4 =>
JoinP (X := Bool × Unit) (fun R7 =>
nilIfcK x5.2.2 fun b8 =>
gd (!b8) (
R7 (true, ()) w4) (
gd x5.1.isNone (
R7 (true, ()) w4) (
C_intern_Store_Len x3.1 (fun x9 w6 =>
arith .i64 (x9 + (1 : Int)) fun n10 =>
gd ((x5.2.1.len : Int) != n10) (
R7 (true, ()) w6) (
idxK x5.2.1.a x5.2.1.len (0 : Int) 1 fun p11 =>
∃ x12 : Int, At w6 p11 (cells (.int .i64) x12) ∧
gd (x12 != (0 : Int)) (
R7 (true, ()) w6) (
C_intern_Store_Len x3.1 (fun x13 w7 =>
C_intern_Store_Len x5.1 (fun x14 w8 =>
arith .i64 (x13 - x14) fun n15 =>
C_collect_Table_Garbage x4.1 (fun x16 w9 =>
R7 (n15 != x16, ()) w9) w8) w7) w6))) w4))) (fun x6 w5 => ∀ _ : Env,
gd x6.1 (
K false w5) (
C_collect_Table_Live x4.1 (fun x17 w10 =>
LoopP (X := Sl × Int × Unit) (x17, (1 : Int), ()) w10 fun next19 x18 w11 => ∀ _ : Env,
C_intern_Store_Len x3.1 (fun x20 w12 =>
gd (decide (x18.2.1 ≤ x20)) (
JoinP (X := Bool × Unit) (fun R22 =>
gd (decide ((0 : Int) < (x18.1.len : Int))) (
idxK x18.1.a x18.1.len (0 : Int) 1 fun p23 =>
∃ x24 : Int, At w12 p23 (cells (.int .i64) x24) ∧
R22 (x24 == x18.2.1, ()) w12) (
R22 (false, ()) w12)) (fun x21 w13 => ∀ _ : Env,
JoinP (X := Sl × Unit) (fun R26 =>
gd x21.1 (
slK 1 x18.1.a x18.1.len x18.1.cap (some (1 : Int)) none fun s27 =>
R26 (s27, ()) w13) (
R26 (x18.1, ()) w13)) (fun x25 w14 => ∀ _ : Env,
JoinP (X := Bool × Unit) (fun R29 =>
idxK x5.2.1.a x5.2.1.len x18.2.1 1 fun p30 =>
∃ x31 : Int, At w14 p30 (cells (.int .i64) x31) ∧
gd (!(x21.1 == (decide ((0 : Int) < x31)))) (
R29 (true, ()) w14) (
gd x21.1 (
idxK x5.2.1.a x5.2.1.len x18.2.1 1 fun p32 =>
∃ x33 : Int, At w14 p32 (cells (.int .i64) x33) ∧
C_law12_alike x3.1 x18.2.1 x5.1 x33 (fun x34 w16 =>
R29 (!x34, ()) w16) w14) (
R29 (false, ()) w14))) (fun x28 w15 => ∀ _ : Env,
gd x28.1 (
K false w15) (
arith .i64 (x18.2.1 + (1 : Int)) fun n35 =>
next19 (x25.1, n35, ()) w15))))) (
K true w12)) w11) w5))) w3)) w2)) w1))
theorem S_law12_CollectKeeps (v0_list : Sl) (v1_script : Sl) (K : Bool → World → Prop) (w0 : World) (h : F_law12_CollectKeeps v0_list v1_script K w0) : C_law12_CollectKeeps v0_list v1_script K w0 := by
  have e : denFn P [(2, [(23, .bool)]), (11, [(77, .bool)]), (1014, [(13, .slice), (14, .int .i64)]), (17, [(15, .bool)]), (19, [(13, .slice)]), (20, [(119, .bool)])] Try.f11 #[.slice v0_list.a v0_list.len v0_list.cap, .slice v1_script.a v1_script.len v1_script.cap] .bool K w0 = F_law12_CollectKeeps v0_list v1_script K w0 := by kernel_rfl
  exact fn_sound mixed (f := 11) Try.func11 (by kernel_rfl) (e.mpr h)

def F_law12_begun (v0_list : Sl) (K : ((Option Addr) × Sl × Bool) → World → Prop) (w0 : World) : Prop :=
C_intern_New (1000 : Int) (fun x1 w1 =>
gd x1.isNone (
K (none, ⟨none, 0, 0⟩, false) w1) (
C_law12_Build x1 v0_list (fun x2 w2 =>
gd (!x2.2) (
K (none, ⟨none, 0, 0⟩, false) w2) (
C_intern_New (1 : Int) (fun x3 w3 =>
C_intern_Store_Letter x3 (97 : Int) (fun x4 w4 =>
allocK (.cells #[.int .i64 x4.1] t_api_ID) w4 fun a5 w5 =>
C_collect_Reach x3 (⟨some a5, 1, 1⟩) (fun x6 w6 =>
drawK w6 fun w7 =>
nilIfcK x4.2 fun b7 =>
gd b7 (
nilIfcK x6.2 fun b8 =>
gd b8 (
gd ((x6.1.len : Int) == (1 : Int)) (
idxK x6.1.a x6.1.len (0 : Int) 1 fun p9 =>
∃ x10 : Int, At w7 p9 (cells (.int .i64) x10) ∧
K (x1, x2.1, x10 == (1 : Int)) w7) (
K (x1, x2.1, false) w7)) (
K (x1, x2.1, false) w7)) (
K (x1, x2.1, false) w7)) w5) w3) w2)) w1)) w0
theorem S_law12_begun (v0_list : Sl) (K : ((Option Addr) × Sl × Bool) → World → Prop) (w0 : World) (h : F_law12_begun v0_list K w0) : C_law12_begun v0_list K w0 := by
  have e : denFn P [] Try.f12 #[.slice v0_list.a v0_list.len v0_list.cap] (.tup (.pair .ptr (.pair .slice .bool))) K w0 = F_law12_begun v0_list K w0 := by kernel_rfl
  exact fn_sound mixed (f := 12) Try.func12 (by kernel_rfl) (e.mpr h)

def F_ref12_Build (v0_list : Sl) (K : (yevergreenref12_Store.T × Sl) → World → Prop) (w0 : World) : Prop :=
allocK (.cells #[.slice none 0 0, .slice none 0 0] t_evergreenref12_Store) w0 fun a1 w1 =>
allocK (.cells #[.slice none 0 0, .slice none 0 0] t_evergreenref12_Store) w1 fun a2 w2 =>
stK w2 a2 ([.slice none 0 0, .slice none 0 0]) fun w3 =>
allocK (.cells #[.int .i64 (0 : Int)] t_api_ID) w3 fun a3 w4 =>
LoopP (X := Sl × Int × Unit) (⟨some a3, 1, 1⟩, (0 : Int), ()) w4 fun next5 x4 w5 => ∀ _ : Env,
gd (decide (x4.2.1 < (v0_list.len : Int))) (
JoinP (X := Addr × Int × Unit) (fun R7 =>
drawK w5 fun w7 =>
∃ x8 : yevergreenref12_Store.T, At w7 a2 (cells yevergreenref12_Store x8) ∧
idxK v0_list.a v0_list.len x4.2.1 5 fun p9 =>
∃ x10 : yevergreenref12_Make.T, At w7 p9 (cells yevergreenref12_Make x10) ∧
(C_ref12_One x8 x10 x4.1 (fun x11 w8 =>
allocK (.cells #[.slice none 0 0, .slice none 0 0] t_evergreenref12_Store) w8 fun a12 w9 =>
stK w9 a12 (cells yevergreenref12_Store x11.1) fun w10 =>
R7 (a12, x11.2, ()) w10) w7) ∧
(allocK (.cells #[.slice none 0 0, .slice none 0 0] t_evergreenref12_Store) w7 fun a13 w11 =>
At w11 p9 (cells yevergreenref12_Make x10) ∧
At w11 a2 (cells yevergreenref12_Store x8) ∧
C_ref12_One x8 x10 x4.1 (fun x14 w12 =>
stK w12 a13 (cells yevergreenref12_Store x14.1) fun w13 =>
R7 (a13, x14.2, ()) w13) w11)) (fun x6 w6 => ∀ _ : Env,
∃ x15 : yevergreenref12_Store.T, At w6 x6.1 (cells yevergreenref12_Store x15) ∧
stK w6 a2 (cells yevergreenref12_Store x15) fun w14 =>
allocK (.cells #[.int .i64 x6.2.1] t_api_ID) w14 fun a16 w15 =>
appK t_api_ID 1 8 #[.int .i64 (0 : Int)] x4.1.a x4.1.len x4.1.cap (.slice (some a16) 1 1) 1 w15 fun s17 w16 =>
arith .i64 (x4.2.1 + (1 : Int)) fun n18 =>
next5 (s17, n18, ()) w16)) (
∃ x19 : yevergreenref12_Store.T, At w5 a2 (cells yevergreenref12_Store x19) ∧
stK w5 a1 (cells yevergreenref12_Store x19) fun w17 =>
∃ x20 : yevergreenref12_Store.T, At w17 a1 (cells yevergreenref12_Store x20) ∧
K (x20, x4.1) w17)
theorem S_ref12_Build (v0_list : Sl) (K : (yevergreenref12_Store.T × Sl) → World → Prop) (w0 : World) (h : F_ref12_Build v0_list K w0) : C_ref12_Build v0_list K w0 := by
  have e : denFn P [(1004, [(5, .slice), (6, .int .i64)]), (7, [(7, .addr), (8, .int .i64)])] Try.f13 #[.slice v0_list.a v0_list.len v0_list.cap] (.tup (.pair yevergreenref12_Store .slice)) K w0 = F_ref12_Build v0_list K w0 := by kernel_rfl
  exact fn_sound mixed (f := 13) Try.func13 (by kernel_rfl) (e.mpr h)

def F_law12_roots (v0_s : Option Addr) (v1_results : Sl) (v2_picks : Sl) (K : Sl → World → Prop) (w0 : World) : Prop :=
LoopP (X := Sl × Int × Unit) (⟨none, 0, 0⟩, (0 : Int), ()) w0 fun next2 x1 w1 => ∀ _ : Env,
gd (decide (x1.2.1 < (v2_picks.len : Int))) (
JoinP (X := Sl × Unit) (fun R4 =>
idxK v2_picks.a v2_picks.len x1.2.1 1 fun p5 =>
∃ x6 : Int, At w1 p5 (cells (.int .i64) x6) ∧
gd (x6 == (-4 : Int)) (
allocK (.cells #[.int .i64 (-1 : Int)] t_api_ID) w1 fun a7 w3 =>
appK t_api_ID 1 8 #[.int .i64 (0 : Int)] x1.1.a x1.1.len x1.1.cap (.slice (some a7) 1 1) 1 w3 fun s8 w4 =>
R4 (s8, ()) w4) (
gd (x6 == (-5 : Int)) (
C_intern_Store_Len v0_s (fun x9 w5 =>
arith .i64 (x9 + (1 : Int)) fun n10 =>
allocK (.cells #[.int .i64 n10] t_api_ID) w5 fun a11 w6 =>
appK t_api_ID 1 8 #[.int .i64 (0 : Int)] x1.1.a x1.1.len x1.1.cap (.slice (some a11) 1 1) 1 w6 fun s12 w7 =>
R4 (s12, ()) w7) w1) (
C_ref12_Pick x6 (v1_results.len : Int) (fun x13 w8 =>
idxK v1_results.a v1_results.len x13 1 fun p14 =>
∃ x15 : Int, At w8 p14 (cells (.int .i64) x15) ∧
allocK (.cells #[.int .i64 x15] t_api_ID) w8 fun a16 w9 =>
appK t_api_ID 1 8 #[.int .i64 (0 : Int)] x1.1.a x1.1.len x1.1.cap (.slice (some a16) 1 1) 1 w9 fun s17 w10 =>
R4 (s17, ()) w10) w1))) (fun x3 w2 => ∀ _ : Env,
arith .i64 (x1.2.1 + (1 : Int)) fun n18 =>
next2 (x3.1, n18, ()) w2)) (
K x1.1 w1)
theorem S_law12_roots (v0_s : Option Addr) (v1_results : Sl) (v2_picks : Sl) (K : Sl → World → Prop) (w0 : World) (h : F_law12_roots v0_s v1_results v2_picks K w0) : C_law12_roots v0_s v1_results v2_picks K w0 := by
  have e : denFn P [(1003, [(7, .slice), (12, .int .i64)]), (10, [(7, .slice)])] Try.f14 #[.pointer v0_s, .slice v1_results.a v1_results.len v1_results.cap, .slice v2_picks.a v2_picks.len v2_picks.cap] .slice K w0 = F_law12_roots v0_s v1_results v2_picks K w0 := by kernel_rfl
  exact fn_sound mixed (f := 14) Try.func14 (by kernel_rfl) (e.mpr h)

def F_collect_Reach (v0_s : Option Addr) (v1_roots : Sl) (K : (Sl × Value) → World → Prop) (w0 : World) : Prop :=
gd v0_s.isNone (
K (⟨none, 0, 0⟩, .iface t_api_Errno (.int .i64 (5 : Int))) w0) (
allocK (.cells #[.slice none 0 0] t_sl_api_ID) w0 fun a1 w1 =>
allocK (.map #[] 0) w1 fun a2 w2 =>
runU P (Instr.mapUpdate t_map_api_ID_bool (.map (some a2.block)) (.int .i64 (0 : Int)) (.bool true)) w2 fun w3 =>
allocK (.cells #[.map none] t_map_api_ID_bool) w3 fun a3 w4 =>
stK w4 a3 ([.map (some a2.block)]) fun w5 =>
LoopP (X := Int × Unit) ((0 : Int), ()) w5 fun next5 x4 w6 => ∀ _ : Env,
gd (decide (x4.1 < (v1_roots.len : Int))) (
idxK v1_roots.a v1_roots.len x4.1 1 fun p6 =>
∃ x7 : Int, At w6 p6 (cells (.int .i64) x7) ∧
C_collect_known v0_s x7 (fun x8 w7 =>
gd (!x8) (
K (⟨none, 0, 0⟩, .iface t_api_Errno (.int .i64 (1 : Int))) w7) (
C_collect_Reach_1 x7 a3 a1 (fun x9 w8 =>
arith .i64 (x4.1 + (1 : Int)) fun n10 =>
next5 (n10, ()) w8) w7)) w6) (
LoopP (X := Int × Unit) ((0 : Int), ()) w6 fun next12 x11 w9 => ∀ _ : Env,
∃ x13 : Sl, At w9 a1 (cells .slice x13) ∧
gd (decide (x11.1 < (x13.len : Int))) (
∃ x14 : Sl, At w9 a1 (cells .slice x14) ∧
idxK x14.a x14.len x11.1 1 fun p15 =>
∃ x16 : Int, At w9 p15 (cells (.int .i64) x16) ∧
C_intern_Store_Rule v0_s x16 (fun x17 w10 =>
allocK (.cells #[.int .i64 (0 : Int), .int .u8 (0 : Int), .int .i64 (0 : Int), .int .i64 (0 : Int), .int .i64 (0 : Int)] t_api_Rule) w10 fun a18 w11 =>
stK w11 a18 (cells yapi_Rule x17.1) fun w12 =>
nilIfcK x17.2 fun b19 =>
gd (!b19) (
K (⟨none, 0, 0⟩, x17.2) w12) (
∃ x20 : yapi_Rule.T, At w12 a18 (cells yapi_Rule x20) ∧
C_rule_Refs x20 (fun x21 w13 =>
LoopP (X := Int × Unit) ((0 : Int), ()) w13 fun next23 x22 w14 => ∀ _ : Env,
gd (decide (x22.1 < (x21.len : Int))) (
idxK x21.a x21.len x22.1 1 fun p24 =>
∃ x25 : Int, At w14 p24 (cells (.int .i64) x25) ∧
C_collect_Reach_1 x25 a3 a1 (fun x26 w15 =>
arith .i64 (x22.1 + (1 : Int)) fun n27 =>
next23 (n27, ()) w15) w14) (
arith .i64 (x11.1 + (1 : Int)) fun n28 =>
next12 (n28, ()) w14)) w12)) w9) (
∃ x29 : Sl, At w9 a1 (cells .slice x29) ∧
C_slices_Sort x29 (fun x30 w16 =>
∃ x31 : Sl, At w16 a1 (cells .slice x31) ∧
K (x31, .nilIface) w16) w9)))
theorem S_collect_Reach (v0_s : Option Addr) (v1_roots : Sl) (K : (Sl × Value) → World → Prop) (w0 : World) (h : F_collect_Reach v0_s v1_roots K w0) : C_collect_Reach v0_s v1_roots K w0 := by
  have e : denFn P [(1007, [(24, .int .i64)]), (1014, [(11, .int .i64)]), (1020, [(58, .int .i64)])] Try.f15 #[.pointer v0_s, .slice v1_roots.a v1_roots.len v1_roots.cap] (.tup (.pair .slice .iface)) K w0 = F_collect_Reach v0_s v1_roots K w0 := by kernel_rfl
  exact fn_sound mixed (f := 15) Try.func15 (by kernel_rfl) (e.mpr h)

def F_ref12_Reach (v0_s : yevergreenref12_Store.T) (v1_roots : Sl) (K : (Sl × Bool) → World → Prop) (w0 : World) : Prop :=
allocK (.cells (cells yevergreenref12_Store v0_s).toArray t_evergreenref12_Store) w0 fun a1 w1 =>
∃ x2 : Sl, At w1 (a1.add 0) (cells .slice x2) ∧
arith .i64 ((x2.len : Int) + (1 : Int)) fun n3 =>
0 ≤ n3 ∧ n3 ≤ n3 ∧ n3 ≤ 9223372036854775807 ∧ 1 * n3 ≤ 281474976710656 ∧
allocK (.cells (zrow #[.bool false] (n3.toNat * 1)) t_bool) w1 fun a4 w2 =>
LoopP (X := Int × Unit) ((0 : Int), ()) w2 fun next6 x5 w3 => ∀ _ : Env,
gd (decide (x5.1 < (v1_roots.len : Int))) (
drawK w3 fun w4 =>
∃ x7 : yevergreenref12_Store.T, At w4 a1 (cells yevergreenref12_Store x7) ∧
idxK v1_roots.a v1_roots.len x5.1 1 fun p8 =>
∃ x9 : Int, At w4 p8 (cells (.int .i64) x9) ∧
C_ref12_Known x7 x9 (fun x10 w5 =>
gd (!x10) (
K (⟨none, 0, 0⟩, false) w5) (
drawK w5 fun w6 =>
idxK v1_roots.a v1_roots.len x5.1 1 fun p11 =>
∃ x12 : Int, At w6 p11 (cells (.int .i64) x12) ∧
idxK v1_roots.a v1_roots.len x5.1 1 fun p13 =>
∃ x14 : Int, At w6 p13 (cells (.int .i64) x14) ∧
idxK (some a4) n3.toNat x12 1 fun p15 =>
stK w6 p15 ([.bool (decide ((0 : Int) < x14))]) fun w7 =>
arith .i64 (x5.1 + (1 : Int)) fun n16 =>
next6 (n16, ()) w7)) w4) (
∃ x17 : Sl, At w3 (a1.add 0) (cells .slice x17) ∧
LoopP (X := Int × Unit) ((x17.len : Int), ()) w3 fun next19 x18 w8 => ∀ _ : Env,
gd (decide ((0 : Int) < x18.1)) (
JoinP (X := Unit) (fun R21 =>
∃ x22 : Sl, At w8 (a1.add 0) (cells .slice x22) ∧
arith .i64 (x18.1 - (1 : Int)) fun n23 =>
idxK x22.a x22.len n23 5 fun p24 =>
∃ x25 : yapi_Rule.T, At w8 p24 (cells yapi_Rule x25) ∧
C_ref12_Refs x25 (fun x26 w10 =>
LoopP (X := Int × Unit) ((0 : Int), ()) w10 fun next28 x27 w11 => ∀ _ : Env,
JoinP (X := Unit) (fun R30 =>
gd (decide (x27.1 < (x26.len : Int))) (
idxK (some a4) n3.toNat x18.1 1 fun p31 =>
∃ x32 : Bool, At w11 p31 (cells .bool x32) ∧
gd x32 (
R30 () w11) (
R21 () w11)) (
R21 () w11)) (fun x29 w12 => ∀ _ : Env,
idxK x26.a x26.len x27.1 1 fun p33 =>
∃ x34 : Int, At w12 p33 (cells (.int .i64) x34) ∧
idxK (some a4) n3.toNat x34 1 fun p35 =>
stK w12 p35 ([.bool true]) fun w13 =>
arith .i64 (x27.1 + (1 : Int)) fun n36 =>
next28 (n36, ()) w13)) w8) (fun x20 w9 => ∀ _ : Env,
arith .i64 (x18.1 - (1 : Int)) fun n37 =>
next19 (n37, ()) w9)) (
K (⟨some a4, n3.toNat, n3.toNat⟩, true) w8))
theorem S_ref12_Reach (v0_s : yevergreenref12_Store.T) (v1_roots : Sl) (K : (Sl × Bool) → World → Prop) (w0 : World) (h : F_ref12_Reach v0_s v1_roots K w0) : C_ref12_Reach v0_s v1_roots K w0 := by
  have e : denFn P [(1003, [(7, .int .i64)]), (1009, [(8, .int .i64)]), (10, []), (1013, [(10, .int .i64)]), (15, [])] Try.f16 #[val yevergreenref12_Store v0_s, .slice v1_roots.a v1_roots.len v1_roots.cap] (.tup (.pair .slice .bool)) K w0 = F_ref12_Reach v0_s v1_roots K w0 := by kernel_rfl
  exact fn_sound mixed (f := 16) Try.func16 (by kernel_rfl) (e.mpr h)

def F_base_Is (v0_e : Value) (v1_want : Int) (K : Bool → World → Prop) (w0 : World) : Prop :=
C_base_Num v0_e (fun x1 w1 =>
gd (x1 == v1_want) (
K (v1_want != (0 : Int)) w1) (
K false w1)) w0
theorem S_base_Is (v0_e : Value) (v1_want : Int) (K : Bool → World → Prop) (w0 : World) (h : F_base_Is v0_e v1_want K w0) : C_base_Is v0_e v1_want K w0 := by
  have e : denFn P [] Try.f17 #[v0_e, .int .i64 v1_want] .bool K w0 = F_base_Is v0_e v1_want K w0 := by kernel_rfl
  exact fn_sound mixed (f := 17) Try.func17 (by kernel_rfl) (e.mpr h)

def F_base_IDs (v0_a : Sl) (v1_b : Sl) (K : Bool → World → Prop) (w0 : World) : Prop :=
gd ((v0_a.len : Int) != (v1_b.len : Int)) (
K false w0) (
LoopP (X := Int × Unit) ((0 : Int), ()) w0 fun next2 x1 w1 => ∀ _ : Env,
gd (decide (x1.1 < (v0_a.len : Int))) (
drawK w1 fun w2 =>
idxK v0_a.a v0_a.len x1.1 1 fun p3 =>
∃ x4 : Int, At w2 p3 (cells (.int .i64) x4) ∧
idxK v1_b.a v1_b.len x1.1 1 fun p5 =>
∃ x6 : Int, At w2 p5 (cells (.int .i64) x6) ∧
gd (x4 != x6) (
K false w2) (
arith .i64 (x1.1 + (1 : Int)) fun n7 =>
next2 (n7, ()) w2)) (
K true w1))
theorem S_base_IDs (v0_a : Sl) (v1_b : Sl) (K : Bool → World → Prop) (w0 : World) (h : F_base_IDs v0_a v1_b K w0) : C_base_IDs v0_a v1_b K w0 := by
  have e : denFn P [(1004, [(5, .int .i64)])] Try.f18 #[.slice v0_a.a v0_a.len v0_a.cap, .slice v1_b.a v1_b.len v1_b.cap] .bool K w0 = F_base_IDs v0_a v1_b K w0 := by kernel_rfl
  exact fn_sound mixed (f := 18) Try.func18 (by kernel_rfl) (e.mpr h)

def F_ref12_List (v0_is : Sl) (K : Sl → World → Prop) (w0 : World) : Prop :=
LoopP (X := Sl × Int × Unit) (⟨none, 0, 0⟩, (0 : Int), ()) w0 fun next2 x1 w1 => ∀ _ : Env,
gd (decide (x1.2.1 < (v0_is.len : Int))) (
JoinP (X := Sl × Unit) (fun R4 =>
idxK v0_is.a v0_is.len x1.2.1 1 fun p5 =>
∃ x6 : Bool, At w1 p5 (cells .bool x6) ∧
gd x6 (
allocK (.cells #[.int .i64 x1.2.1] t_api_ID) w1 fun a7 w3 =>
appK t_api_ID 1 8 #[.int .i64 (0 : Int)] x1.1.a x1.1.len x1.1.cap (.slice (some a7) 1 1) 1 w3 fun s8 w4 =>
R4 (s8, ()) w4) (
R4 (x1.1, ()) w1)) (fun x3 w2 => ∀ _ : Env,
arith .i64 (x1.2.1 + (1 : Int)) fun n9 =>
next2 (x3.1, n9, ()) w2)) (
K x1.1 w1)
theorem S_ref12_List (v0_is : Sl) (K : Sl → World → Prop) (w0 : World) (h : F_ref12_List v0_is K w0) : C_ref12_List v0_is K w0 := by
  have e : denFn P [(1003, [(3, .slice), (4, .int .i64)]), (4, [(3, .slice)])] Try.f19 #[.slice v0_is.a v0_is.len v0_is.cap] .slice K w0 = F_ref12_List v0_is K w0 := by kernel_rfl
  exact fn_sound mixed (f := 19) Try.func19 (by kernel_rfl) (e.mpr h)

def F_collect_Counts (v0_s : Option Addr) (v1_roots : Sl) (K : (Sl × Value) → World → Prop) (w0 : World) : Prop :=
C_collect_Reach v0_s v1_roots (fun x1 w1 =>
nilIfcK x1.2 fun b2 =>
gd (!b2) (
K (⟨none, 0, 0⟩, x1.2) w1) (
0 ≤ (x1.1.len : Int) ∧ (x1.1.len : Int) ≤ (x1.1.len : Int) ∧ (x1.1.len : Int) ≤ 9223372036854775807 ∧ 24 * (x1.1.len : Int) ≤ 281474976710656 ∧
allocK (.cells (zrow #[.int .i64 (0 : Int), .int .i64 (0 : Int), .int .i64 (0 : Int)] ((x1.1.len : Int).toNat * 3)) t_collect_Count) w1 fun a3 w2 =>
allocK (.map #[] 0) w2 fun a4 w3 =>
LoopP (X := Int × Unit) ((0 : Int), ()) w3 fun next6 x5 w4 => ∀ _ : Env,
gd (decide (x5.1 < (x1.1.len : Int))) (
idxK x1.1.a x1.1.len x5.1 1 fun p7 =>
∃ x8 : Int, At w4 p7 (cells (.int .i64) x8) ∧
idxK (some a3) ((x1.1.len : Int).toNat) x5.1 3 fun p9 =>
stK w4 (p9.add 0) ([.int .i64 x8]) fun w5 =>
runU P (Instr.mapUpdate t_map_api_ID_int (.map (some a4.block)) (.int .i64 x8) (.int .i64 x5.1)) w5 fun w6 =>
arith .i64 (x5.1 + (1 : Int)) fun n10 =>
next6 (n10, ()) w6) (
LoopP (X := Int × Unit) ((0 : Int), ()) w4 fun next12 x11 w7 => ∀ _ : Env,
gd (decide (x11.1 < (x1.1.len : Int))) (
idxK x1.1.a x1.1.len x11.1 1 fun p13 =>
∃ x14 : Int, At w7 p13 (cells (.int .i64) x14) ∧
C_intern_Store_Rule v0_s x14 (fun x15 w8 =>
allocK (.cells #[.int .i64 (0 : Int), .int .u8 (0 : Int), .int .i64 (0 : Int), .int .i64 (0 : Int), .int .i64 (0 : Int)] t_api_Rule) w8 fun a16 w9 =>
stK w9 a16 (cells yapi_Rule x15.1) fun w10 =>
nilIfcK x15.2 fun b17 =>
gd (!b17) (
K (⟨none, 0, 0⟩, x15.2) w10) (
∃ x18 : yapi_Rule.T, At w10 a16 (cells yapi_Rule x18) ∧
C_rule_Refs x18 (fun x19 w11 =>
LoopP (X := Int × Unit) ((0 : Int), ()) w11 fun next21 x20 w12 => ∀ _ : Env,
gd (decide (x20.1 < (x19.len : Int))) (
idxK x19.a x19.len x20.1 1 fun p22 =>
∃ x23 : Int, At w12 p22 (cells (.int .i64) x23) ∧
∃ x24 : Int, Lk1 P t_map_api_ID_int (.int .i64) (.map (some a4.block)) (.int .i64 x23) x24 w12 ∧
idxK (some a3) ((x1.1.len : Int).toNat) x24 3 fun p25 =>
∃ x26 : Int, At w12 (p25.add 1) (cells (.int .i64) x26) ∧
arith .i64 (x26 + (1 : Int)) fun n27 =>
idxK (some a3) ((x1.1.len : Int).toNat) x24 3 fun p28 =>
stK w12 (p28.add 1) ([.int .i64 n27]) fun w13 =>
arith .i64 (x20.1 + (1 : Int)) fun n29 =>
next21 (n29, ()) w13) (
arith .i64 (x11.1 + (1 : Int)) fun n30 =>
next12 (n30, ()) w12)) w10)) w7) (
LoopP (X := Int × Unit) ((0 : Int), ()) w7 fun next32 x31 w14 => ∀ _ : Env,
gd (decide (x31.1 < (v1_roots.len : Int))) (
JoinP (X := Unit) (fun R34 =>
idxK v1_roots.a v1_roots.len x31.1 1 fun p35 =>
∃ x36 : Int, At w14 p35 (cells (.int .i64) x36) ∧
gd (x36 != (0 : Int)) (
∃ x37 : Int, Lk1 P t_map_api_ID_int (.int .i64) (.map (some a4.block)) (.int .i64 x36) x37 w14 ∧
idxK (some a3) ((x1.1.len : Int).toNat) x37 3 fun p38 =>
∃ x39 : Int, At w14 (p38.add 2) (cells (.int .i64) x39) ∧
arith .i64 (x39 + (1 : Int)) fun n40 =>
idxK (some a3) ((x1.1.len : Int).toNat) x37 3 fun p41 =>
stK w14 (p41.add 2) ([.int .i64 n40]) fun w16 =>
R34 () w16) (
R34 () w14)) (fun x33 w15 => ∀ _ : Env,
arith .i64 (x31.1 + (1 : Int)) fun n42 =>
next32 (n42, ()) w15)) (
K (⟨some a3, (x1.1.len : Int).toNat, (x1.1.len : Int).toNat⟩, .nilIface) w14))))) w0
theorem S_collect_Counts (v0_s : Option Addr) (v1_roots : Sl) (K : (Sl × Value) → World → Prop) (w0 : World) (h : F_collect_Counts v0_s v1_roots K w0) : C_collect_Counts v0_s v1_roots K w0 := by
  have e : denFn P [(1007, [(37, .int .i64)]), (1013, [(53, .int .i64)]), (1019, [(69, .int .i64)]), (1025, [(87, .int .i64)]), (29, [])] Try.f20 #[.pointer v0_s, .slice v1_roots.a v1_roots.len v1_roots.cap] (.tup (.pair .slice .iface)) K w0 = F_collect_Counts v0_s v1_roots K w0 := by kernel_rfl
  exact fn_sound mixed (f := 20) Try.func20 (by kernel_rfl) (e.mpr h)

def F_ref12_Counts (v0_s : yevergreenref12_Store.T) (v1_roots : Sl) (K : (Sl × Bool) → World → Prop) (w0 : World) : Prop :=
allocK (.cells (cells yevergreenref12_Store v0_s).toArray t_evergreenref12_Store) w0 fun a1 w1 =>
∃ x2 : yevergreenref12_Store.T, At w1 a1 (cells yevergreenref12_Store x2) ∧
C_ref12_Reach x2 v1_roots (fun x3 w2 =>
gd (!x3.2) (
K (⟨none, 0, 0⟩, false) w2) (
LoopP (X := Sl × Int × Unit) (⟨none, 0, 0⟩, (1 : Int), ()) w2 fun next5 x4 w3 => ∀ _ : Env,
∃ x6 : Sl, At w3 (a1.add 0) (cells .slice x6) ∧
gd (decide (x4.2.1 ≤ (x6.len : Int))) (
JoinP (X := Sl × Unit) (fun R8 =>
idxK x3.1.a x3.1.len x4.2.1 1 fun p9 =>
∃ x10 : Bool, At w3 p9 (cells .bool x10) ∧
gd (!x10) (
R8 (x4.1, ()) w3) (
allocK (.cells #[.int .i64 (0 : Int), .int .i64 (0 : Int), .int .i64 (0 : Int)] t_evergreenref12_Count) w3 fun a11 w5 =>
stK w5 a11 ([.int .i64 x4.2.1, .int .i64 (0 : Int), .int .i64 (0 : Int)]) fun w6 =>
LoopP (X := Int × Unit) ((1 : Int), ()) w6 fun next13 x12 w7 => ∀ _ : Env,
∃ x14 : Sl, At w7 (a1.add 0) (cells .slice x14) ∧
gd (decide (x12.1 ≤ (x14.len : Int))) (
JoinP (X := Unit) (fun R16 =>
∃ x17 : Sl, At w7 (a1.add 0) (cells .slice x17) ∧
arith .i64 (x12.1 - (1 : Int)) fun n18 =>
idxK x17.a x17.len n18 5 fun p19 =>
∃ x20 : yapi_Rule.T, At w7 p19 (cells yapi_Rule x20) ∧
C_ref12_Refs x20 (fun x21 w9 =>
LoopP (X := Int × Unit) ((0 : Int), ()) w9 fun next23 x22 w10 => ∀ _ : Env,
JoinP (X := Unit) (fun R25 =>
gd (decide (x22.1 < (x21.len : Int))) (
idxK x3.1.a x3.1.len x12.1 1 fun p26 =>
∃ x27 : Bool, At w10 p26 (cells .bool x27) ∧
gd x27 (
R25 () w10) (
R16 () w10)) (
R16 () w10)) (fun x24 w11 => ∀ _ : Env,
JoinP (X := Unit) (fun R29 =>
idxK x21.a x21.len x22.1 1 fun p30 =>
∃ x31 : Int, At w11 p30 (cells (.int .i64) x31) ∧
gd (x31 == x4.2.1) (
∃ x32 : Int, At w11 (a11.add 1) (cells (.int .i64) x32) ∧
arith .i64 (x32 + (1 : Int)) fun n33 =>
stK w11 (a11.add 1) ([.int .i64 n33]) fun w13 =>
R29 () w13) (
R29 () w11)) (fun x28 w12 => ∀ _ : Env,
arith .i64 (x22.1 + (1 : Int)) fun n34 =>
next23 (n34, ()) w12))) w7) (fun x15 w8 => ∀ _ : Env,
arith .i64 (x12.1 + (1 : Int)) fun n35 =>
next13 (n35, ()) w8)) (
LoopP (X := Int × Unit) ((0 : Int), ()) w7 fun next37 x36 w14 => ∀ _ : Env,
gd (decide (x36.1 < (v1_roots.len : Int))) (
JoinP (X := Unit) (fun R39 =>
idxK v1_roots.a v1_roots.len x36.1 1 fun p40 =>
∃ x41 : Int, At w14 p40 (cells (.int .i64) x41) ∧
gd (x41 == x4.2.1) (
∃ x42 : Int, At w14 (a11.add 2) (cells (.int .i64) x42) ∧
arith .i64 (x42 + (1 : Int)) fun n43 =>
stK w14 (a11.add 2) ([.int .i64 n43]) fun w16 =>
R39 () w16) (
R39 () w14)) (fun x38 w15 => ∀ _ : Env,
arith .i64 (x36.1 + (1 : Int)) fun n44 =>
next37 (n44, ()) w15)) (
∃ x45 : yevergreenref12_Count.T, At w14 a11 (cells yevergreenref12_Count x45) ∧
allocK (.cells (cells yevergreenref12_Count x45).toArray t_evergreenref12_Count) w14 fun a46 w17 =>
appK t_evergreenref12_Count 3 24 #[.int .i64 (0 : Int), .int .i64 (0 : Int), .int .i64 (0 : Int)] x4.1.a x4.1.len x4.1.cap (.slice (some a46) 1 1) 1 w17 fun s47 w18 =>
R8 (s47, ()) w18)))) (fun x7 w4 => ∀ _ : Env,
arith .i64 (x4.2.1 + (1 : Int)) fun n48 =>
next5 (x7.1, n48, ()) w4)) (
K (x4.1, true) w3))) w1
theorem S_ref12_Counts (v0_s : yevergreenref12_Store.T) (v1_roots : Sl) (K : (Sl × Bool) → World → Prop) (w0 : World) (h : F_ref12_Counts v0_s v1_roots K w0) : C_ref12_Counts v0_s v1_roots K w0 := by
  have e : denFn P [(1006, [(8, .slice), (9, .int .i64)]), (7, [(8, .slice)]), (1011, [(11, .int .i64)]), (12, []), (1015, [(13, .int .i64)]), (17, []), (16, []), (1020, [(14, .int .i64)]), (21, [])] Try.f21 #[val yevergreenref12_Store v0_s, .slice v1_roots.a v1_roots.len v1_roots.cap] (.tup (.pair .slice .bool)) K w0 = F_ref12_Counts v0_s v1_roots K w0 := by kernel_rfl
  exact fn_sound mixed (f := 21) Try.func21 (by kernel_rfl) (e.mpr h)

def F_intern_Store_Rule (v0_s : Option Addr) (v1_id : Int) (K : (yapi_Rule.T × Value) → World → Prop) (w0 : World) : Prop :=
allocK (.cells #[.int .i64 (0 : Int), .int .u8 (0 : Int), .int .i64 (0 : Int), .int .i64 (0 : Int), .int .i64 (0 : Int)] t_api_Rule) w0 fun a1 w1 =>
gd v0_s.isNone (
stK w1 a1 ([.int .i64 (0 : Int), .int .u8 (0 : Int), .int .i64 (0 : Int), .int .i64 (0 : Int), .int .i64 (0 : Int)]) fun w2 =>
∃ x2 : yapi_Rule.T, At w2 a1 (cells yapi_Rule x2) ∧
K (x2, .iface t_api_Errno (.int .i64 (5 : Int))) w2) (
JoinP (X := Bool × Unit) (fun R4 =>
gd (v1_id == (0 : Int)) (
R4 (true, ()) w1) (
C_intern_Store_known v0_s v1_id (fun x5 w4 =>
R4 (!x5, ()) w4) w1)) (fun x3 w3 => ∀ _ : Env,
gd x3.1 (
stK w3 a1 ([.int .i64 (0 : Int), .int .u8 (0 : Int), .int .i64 (0 : Int), .int .i64 (0 : Int), .int .i64 (0 : Int)]) fun w5 =>
∃ x6 : yapi_Rule.T, At w5 a1 (cells yapi_Rule x6) ∧
K (x6, .iface t_api_Errno (.int .i64 (1 : Int))) w5) (
nonNil v0_s fun p7 =>
∃ x8 : Sl, At w3 (p7.add 1) (cells .slice x8) ∧
arith .i64 (v1_id - (1 : Int)) fun n9 =>
idxK x8.a x8.len n9 13 fun p10 =>
∃ x11 : yapi_Rule.T, At w3 (p10.add 0) (cells yapi_Rule x11) ∧
stK w3 a1 (cells yapi_Rule x11) fun w6 =>
∃ x12 : yapi_Rule.T, At w6 a1 (cells yapi_Rule x12) ∧
K (x12, .nilIface) w6)))
theorem S_intern_Store_Rule (v0_s : Option Addr) (v1_id : Int) (K : (yapi_Rule.T × Value) → World → Prop) (w0 : World) (h : F_intern_Store_Rule v0_s v1_id K w0) : C_intern_Store_Rule v0_s v1_id K w0 := by
  have e : denFn P [(4, [(17, .bool)])] Try.f22 #[.pointer v0_s, .int .i64 v1_id] (.tup (.pair yapi_Rule .iface)) K w0 = F_intern_Store_Rule v0_s v1_id K w0 := by kernel_rfl
  exact fn_sound mixed (f := 22) Try.func22 (by kernel_rfl) (e.mpr h)

def F_law12_play (v0_s : Option Addr) (v1_results : Sl) (v2_script : Sl) (K : ((Option Addr) × Sl × Bool) → World → Prop) (w0 : World) : Prop :=
C_collect_New v0_s (fun x1 w1 =>
gd x1.isNone (
K (none, ⟨none, 0, 0⟩, false) w1) (
LoopP (X := Sl × Int × Unit) (⟨none, 0, 0⟩, (0 : Int), ()) w1 fun next3 x2 w2 => ∀ _ : Env,
gd (decide (x2.2.1 < (v2_script.len : Int))) (
JoinP (X := Sl × Unit) (fun R5 =>
idxK v2_script.a v2_script.len x2.2.1 2 fun p6 =>
∃ x7 : yevergreenlaw12_Act.T, At w2 p6 (cells yevergreenlaw12_Act x7) ∧
allocK (.cells #[.int .i64 (0 : Int), .int .i64 (0 : Int)] t_evergreenlaw12_Act) w2 fun a8 w4 =>
stK w4 a8 (cells yevergreenlaw12_Act x7) fun w5 =>
∃ x9 : Int, At w5 (a8.add 1) (cells (.int .i64) x9) ∧
allocK (.cells #[.int .i64 x9] t_int) w5 fun a10 w6 =>
C_law12_roots v0_s v1_results (⟨some a10, 1, 1⟩) (fun x11 w7 =>
idxK x11.a x11.len (0 : Int) 1 fun p12 =>
∃ x13 : Int, At w7 p12 (cells (.int .i64) x13) ∧
LoopP (X := Int × Int × Unit) ((-1 : Int), (0 : Int), ()) w7 fun next15 x14 w8 => ∀ _ : Env,
gd (decide (x14.2.1 < (x2.1.len : Int))) (
JoinP (X := Int × Unit) (fun R17 =>
idxK x2.1.a x2.1.len x14.2.1 1 fun p18 =>
∃ x19 : Int, At w8 p18 (cells (.int .i64) x19) ∧
gd (x19 == x13) (
R17 (x14.2.1, ()) w8) (
R17 (x14.1, ()) w8)) (fun x16 w9 => ∀ _ : Env,
arith .i64 (x14.2.1 + (1 : Int)) fun n20 =>
next15 (x16.1, n20, ()) w9)) (
JoinP (X := Bool × Unit) (fun R22 =>
gd (decide ((0 : Int) ≤ x13)) (
C_intern_Store_Len v0_s (fun x23 w11 =>
R22 (decide (x13 ≤ x23), ()) w11) w8) (
R22 (false, ()) w8)) (fun x21 w10 => ∀ _ : Env,
∃ x24 : Int, At w10 (a8.add 0) (cells (.int .i64) x24) ∧
C_ref12_Pick x24 (3 : Int) (fun x25 w12 =>
gd (decide (x25 < (2 : Int))) (
C_collect_Table_Hold x1 x13 (fun x26 w13 =>
JoinP (X := Bool × Unit) (fun R28 =>
nilIfcK x26 fun b29 =>
gd (!(x21.1 == b29)) (
R28 (true, ()) w13) (
gd (!x21.1) (
C_base_Is x26 (1 : Int) (fun x30 w15 =>
R28 (!x30, ()) w15) w13) (
R28 (false, ()) w13))) (fun x27 w14 => ∀ _ : Env,
gd x27.1 (
K (none, ⟨none, 0, 0⟩, false) w14) (
JoinP (X := Bool × Unit) (fun R32 =>
gd x21.1 (
R32 (x13 != (0 : Int), ()) w14) (
R32 (false, ()) w14)) (fun x31 w16 => ∀ _ : Env,
gd x31.1 (
allocK (.cells #[.int .i64 x13] t_api_ID) w16 fun a33 w17 =>
appK t_api_ID 1 8 #[.int .i64 (0 : Int)] x2.1.a x2.1.len x2.1.cap (.slice (some a33) 1 1) 1 w17 fun s34 w18 =>
R5 (s34, ()) w18) (
R5 (x2.1, ()) w16))))) w12) (
C_collect_Table_Release x1 x13 (fun x35 w19 =>
gd (!x21.1) (
C_base_Is x35 (1 : Int) (fun x36 w20 =>
gd (!x36) (
K (none, ⟨none, 0, 0⟩, false) w20) (
R5 (x2.1, ()) w20)) w19) (
gd (decide (x14.1 < (0 : Int))) (
C_base_Is x35 (7 : Int) (fun x37 w21 =>
gd (!x37) (
K (none, ⟨none, 0, 0⟩, false) w21) (
R5 (x2.1, ()) w21)) w19) (
nilIfcK x35 fun b38 =>
gd (!b38) (
K (none, ⟨none, 0, 0⟩, false) w19) (
drawK w19 fun w22 =>
slK 1 x2.1.a x2.1.len x2.1.cap none (some x14.1) fun s39 =>
arith .i64 (x14.1 + (1 : Int)) fun n40 =>
slK 1 x2.1.a x2.1.len x2.1.cap (some n40) none fun s41 =>
allocK (.cells #[] t_api_ID) w22 fun a42 w23 =>
appK t_api_ID 1 8 #[.int .i64 (0 : Int)] (some a42) 0 0 (.slice s39.a s39.len s39.cap) s39.len w23 fun s43 w24 =>
appK t_api_ID 1 8 #[.int .i64 (0 : Int)] s43.a s43.len s43.cap (.slice s41.a s41.len s41.cap) s41.len w24 fun s44 w25 =>
R5 (s44, ()) w25)))) w12)) w10))) w6) (fun x4 w3 => ∀ _ : Env,
arith .i64 (x2.2.1 + (1 : Int)) fun n45 =>
next3 (x4.1, n45, ()) w3)) (
K (x1, x2.1, true) w2))) w0
theorem S_law12_play (v0_s : Option Addr) (v1_results : Sl) (v2_script : Sl) (K : ((Option Addr) × Sl × Bool) → World → Prop) (w0 : World) (h : F_law12_play v0_s v1_results v2_script K w0) : C_law12_play v0_s v1_results v2_script K w0 := by
  have e : denFn P [(1006, [(10, .slice), (26, .int .i64)]), (33, [(10, .slice)]), (1011, [(14, .int .i64), (40, .int .i64)]), (15, [(14, .int .i64)]), (17, [(17, .bool)]), (20, [(77, .bool)]), (22, [(82, .bool)])] Try.f23 #[.pointer v0_s, .slice v1_results.a v1_results.len v1_results.cap, .slice v2_script.a v2_script.len v2_script.cap] (.tup (.pair .ptr (.pair .slice .bool))) K w0 = F_law12_play v0_s v1_results v2_script K w0 := by kernel_rfl
  exact fn_sound mixed (f := 23) Try.func23 (by kernel_rfl) (e.mpr h)

def F_collect_Table_Held (v0_t : Option Addr) (v1_id : Int) (K : Int → World → Prop) (w0 : World) : Prop :=
C_collect_Table_none v0_t (fun x1 w1 =>
gd x1 (
K (0 : Int) w1) (
nonNil v0_t fun p2 =>
∃ x3 : Option Nat, At w1 (p2.add 1) (cells .map x3) ∧
∃ x4 : Int, Lk1 P t_map_api_ID_int (.int .i64) (.map x3) (.int .i64 v1_id) x4 w1 ∧
K x4 w1)) w0
theorem S_collect_Table_Held (v0_t : Option Addr) (v1_id : Int) (K : Int → World → Prop) (w0 : World) (h : F_collect_Table_Held v0_t v1_id K w0) : C_collect_Table_Held v0_t v1_id K w0 := by
  have e : denFn P [] Try.f24 #[.pointer v0_t, .int .i64 v1_id] (.int .i64) K w0 = F_collect_Table_Held v0_t v1_id K w0 := by kernel_rfl
  exact fn_sound mixed (f := 24) Try.func24 (by kernel_rfl) (e.mpr h)

def F_collect_Table_Roots (v0_t : Option Addr) (K : Sl → World → Prop) (w0 : World) : Prop :=
C_collect_Table_none v0_t (fun x1 w1 =>
gd x1 (
K (⟨none, 0, 0⟩) w1) (
nonNil v0_t fun p2 =>
∃ x3 : Option Nat, At w1 (p2.add 1) (cells .map x3) ∧
∃ n4 : Nat, mapLen w1 x3 n4 ∧
0 ≤ (0 : Int) ∧ (0 : Int) ≤ (n4 : Int) ∧ (n4 : Int) ≤ 9223372036854775807 ∧ 8 * (n4 : Int) ≤ 281474976710656 ∧
allocK (.cells (zrow #[.int .i64 (0 : Int)] ((n4 : Int).toNat * 1)) t_api_ID) w1 fun a5 w2 =>
nonNil v0_t fun p6 =>
∃ x7 : Option Nat, At w2 (p6.add 1) (cells .map x7) ∧
runK P .addr (Instr.range t_map_api_ID_int (.map x7)) w2 fun a8 w3 =>
LoopP (X := Sl × Unit) (⟨some a5, (0 : Int).toNat, (n4 : Int).toNat⟩, ()) w3 fun next10 x9 w4 => ∀ _ : Env,
∃ (b11 : Bool) (vs12 : List Value) (w5 : World), (Instr.next (.pointer (some a8)) false t_).run P w4 = .ok (.tuple (Value.bool b11 :: vs12).toArray) w5 ∧
gd b11 (
∃ (k13 : Int) (v14 : Value) (w6 : World), (Instr.entry (.pointer (some a8))).run P w5 = .ok (.tuple #[.int .i64 k13, v14]) w6 ∧
allocK (.cells #[.int .i64 k13] t_api_ID) w6 fun a15 w7 =>
appK t_api_ID 1 8 #[.int .i64 (0 : Int)] x9.1.a x9.1.len x9.1.cap (.slice (some a15) 1 1) 1 w7 fun s16 w8 =>
next10 (s16, ()) w8) (
C_slices_Sort x9.1 (fun x17 w9 =>
K x9.1 w9) w5))) w0
theorem S_collect_Table_Roots (v0_t : Option Addr) (K : Sl → World → Prop) (w0 : World) (h : F_collect_Table_Roots v0_t K w0) : C_collect_Table_Roots v0_t K w0 := by
  have e : denFn P [(1005, [(3, .slice)])] Try.f25 #[.pointer v0_t] .slice K w0 = F_collect_Table_Roots v0_t K w0 := by kernel_rfl
  exact fn_sound mixed (f := 25) Try.func25 (by kernel_rfl) (e.mpr h)

def F_collect_Table_Live (v0_t : Option Addr) (K : Sl → World → Prop) (w0 : World) : Prop :=
C_collect_Table_none v0_t (fun x1 w1 =>
gd x1 (
K (⟨none, 0, 0⟩) w1) (
drawK w1 fun w2 =>
nonNil v0_t fun p2 =>
∃ x3 : Option Addr, At w2 (p2.add 0) (cells .ptr x3) ∧
C_collect_Table_Roots v0_t (fun x4 w3 =>
At w3 (p2.add 0) (cells .ptr x3) ∧
C_collect_Reach x3 x4 (fun x5 w4 =>
nilIfcK x5.2 fun b6 =>
gd (!b6) (
K (⟨none, 0, 0⟩) w4) (
K x5.1 w4)) w3) w2)) w0
theorem S_collect_Table_Live (v0_t : Option Addr) (K : Sl → World → Prop) (w0 : World) (h : F_collect_Table_Live v0_t K w0) : C_collect_Table_Live v0_t K w0 := by
  have e : denFn P [] Try.f26 #[.pointer v0_t] .slice K w0 = F_collect_Table_Live v0_t K w0 := by kernel_rfl
  exact fn_sound mixed (f := 26) Try.func26 (by kernel_rfl) (e.mpr h)

def F_collect_Table_Garbage (v0_t : Option Addr) (K : Int → World → Prop) (w0 : World) : Prop :=
C_collect_Table_none v0_t (fun x1 w1 =>
gd x1 (
K (0 : Int) w1) (
nonNil v0_t fun p2 =>
∃ x3 : Option Addr, At w1 (p2.add 0) (cells .ptr x3) ∧
C_intern_Store_Len x3 (fun x4 w2 =>
C_collect_Table_Live v0_t (fun x5 w3 =>
arith .i64 (x4 - (x5.len : Int)) fun n6 =>
K n6 w3) w2) w1)) w0
theorem S_collect_Table_Garbage (v0_t : Option Addr) (K : Int → World → Prop) (w0 : World) (h : F_collect_Table_Garbage v0_t K w0) : C_collect_Table_Garbage v0_t K w0 := by
  have e : denFn P [] Try.f27 #[.pointer v0_t] (.int .i64) K w0 = F_collect_Table_Garbage v0_t K w0 := by kernel_rfl
  exact fn_sound mixed (f := 27) Try.func27 (by kernel_rfl) (e.mpr h)

def F_ref12_Sweep (v0_s : yevergreenref12_Store.T) (v1_held : Sl) (K : (Sl × Sl) → World → Prop) (w0 : World) : Prop :=
allocK (.cells (cells yevergreenref12_Store v0_s).toArray t_evergreenref12_Store) w0 fun a1 w1 =>
∃ x2 : yevergreenref12_Store.T, At w1 a1 (cells yevergreenref12_Store x2) ∧
C_ref12_Reach x2 v1_held (fun x3 w2 =>
∃ x4 : Sl, At w2 (a1.add 0) (cells .slice x4) ∧
arith .i64 ((x4.len : Int) + (1 : Int)) fun n5 =>
0 ≤ n5 ∧ n5 ≤ n5 ∧ n5 ≤ 9223372036854775807 ∧ 8 * n5 ≤ 281474976710656 ∧
allocK (.cells (zrow #[.int .i64 (0 : Int)] (n5.toNat * 1)) t_api_ID) w2 fun a6 w3 =>
LoopP (X := Sl × Int × Unit) (⟨none, 0, 0⟩, (1 : Int), ()) w3 fun next8 x7 w4 => ∀ _ : Env,
∃ x9 : Sl, At w4 (a1.add 0) (cells .slice x9) ∧
gd (decide (x7.2.1 ≤ (x9.len : Int))) (
JoinP (X := Sl × Unit) (fun R11 =>
idxK x3.1.a x3.1.len x7.2.1 1 fun p12 =>
∃ x13 : Bool, At w4 p12 (cells .bool x13) ∧
gd (!x13) (
R11 (x7.1, ()) w4) (
∃ x14 : Sl, At w4 (a1.add 0) (cells .slice x14) ∧
arith .i64 (x7.2.1 - (1 : Int)) fun n15 =>
idxK x14.a x14.len n15 5 fun p16 =>
∃ x17 : yapi_Rule.T, At w4 p16 (cells yapi_Rule x17) ∧
allocK (.cells #[.int .i64 (0 : Int), .int .u8 (0 : Int), .int .i64 (0 : Int), .int .i64 (0 : Int), .int .i64 (0 : Int)] t_api_Rule) w4 fun a18 w6 =>
stK w6 a18 (cells yapi_Rule x17) fun w7 =>
JoinP (X := Unit) (fun R20 =>
JoinP (X := Bool × Unit) (fun R22 =>
∃ x23 : Int, At w7 (a18.add 0) (cells (.int .i64) x23) ∧
gd (x23 == (2 : Int)) (
R22 (true, ()) w7) (
∃ x24 : Int, At w7 (a18.add 0) (cells (.int .i64) x24) ∧
R22 (x24 == (3 : Int), ()) w7)) (fun x21 w9 => ∀ _ : Env,
gd x21.1 (
∃ x25 : Int, At w9 (a18.add 2) (cells (.int .i64) x25) ∧
idxK (some a6) n5.toNat x25 1 fun p26 =>
∃ x27 : Int, At w9 p26 (cells (.int .i64) x27) ∧
stK w9 (a18.add 2) ([.int .i64 x27]) fun w10 =>
R20 () w10) (
R20 () w9))) (fun x19 w8 => ∀ _ : Env,
JoinP (X := Unit) (fun R29 =>
∃ x30 : Int, At w8 (a18.add 0) (cells (.int .i64) x30) ∧
gd (x30 == (2 : Int)) (
∃ x31 : Int, At w8 (a18.add 3) (cells (.int .i64) x31) ∧
idxK (some a6) n5.toNat x31 1 fun p32 =>
∃ x33 : Int, At w8 p32 (cells (.int .i64) x33) ∧
stK w8 (a18.add 3) ([.int .i64 x33]) fun w12 =>
R29 () w12) (
R29 () w8)) (fun x28 w11 => ∀ _ : Env,
∃ x34 : yapi_Rule.T, At w11 a18 (cells yapi_Rule x34) ∧
allocK (.cells (cells yapi_Rule x34).toArray t_api_Rule) w11 fun a35 w13 =>
appK t_api_Rule 5 40 #[.int .i64 (0 : Int), .int .u8 (0 : Int), .int .i64 (0 : Int), .int .i64 (0 : Int), .int .i64 (0 : Int)] x7.1.a x7.1.len x7.1.cap (.slice (some a35) 1 1) 1 w13 fun s36 w14 =>
idxK (some a6) n5.toNat x7.2.1 1 fun p37 =>
stK w14 p37 ([.int .i64 (s36.len : Int)]) fun w15 =>
R11 (s36, ()) w15)))) (fun x10 w5 => ∀ _ : Env,
arith .i64 (x7.2.1 + (1 : Int)) fun n38 =>
next8 (x10.1, n38, ()) w5)) (
K (x7.1, ⟨some a6, n5.toNat, n5.toNat⟩) w4)) w1
theorem S_ref12_Sweep (v0_s : yevergreenref12_Store.T) (v1_held : Sl) (K : (Sl × Sl) → World → Prop) (w0 : World) (h : F_ref12_Sweep v0_s v1_held K w0) : C_ref12_Sweep v0_s v1_held K w0 := by
  have e : denFn P [(1005, [(9, .slice), (10, .int .i64)]), (6, [(9, .slice)]), (11, []), (10, [(48, .bool)]), (13, [])] Try.f28 #[val yevergreenref12_Store v0_s, .slice v1_held.a v1_held.len v1_held.cap] (.tup (.pair .slice .slice)) K w0 = F_ref12_Sweep v0_s v1_held K w0 := by kernel_rfl
  exact fn_sound mixed (f := 28) Try.func28 (by kernel_rfl) (e.mpr h)

def F_collect_Table_Sweep (v0_t : Option Addr) (v1_most : Int) (K : ((Option Addr) × Sl × Value) → World → Prop) (w0 : World) : Prop :=
C_collect_Table_none v0_t (fun x1 w1 =>
gd x1 (
K (none, ⟨none, 0, 0⟩, .iface t_api_Errno (.int .i64 (5 : Int))) w1) (
nonNil v0_t fun p2 =>
∃ x3 : Option Addr, At w1 (p2.add 0) (cells .ptr x3) ∧
C_intern_Store_Len x3 (fun x4 w2 =>
arith .i64 (x4 + (1 : Int)) fun n5 =>
0 ≤ n5 ∧ n5 ≤ n5 ∧ n5 ≤ 9223372036854775807 ∧ 8 * n5 ≤ 281474976710656 ∧
allocK (.cells (zrow #[.int .i64 (0 : Int)] (n5.toNat * 1)) t_api_ID) w2 fun a6 w3 =>
C_collect_Table_Live v0_t (fun x7 w4 =>
LoopP (X := Sl × Int × Unit) (⟨none, 0, 0⟩, (0 : Int), ()) w4 fun next9 x8 w5 => ∀ _ : Env,
gd (decide (x8.2.1 < (x7.len : Int))) (
idxK x7.a x7.len x8.2.1 1 fun p10 =>
∃ x11 : Int, At w5 p10 (cells (.int .i64) x11) ∧
nonNil v0_t fun p12 =>
∃ x13 : Option Addr, At w5 (p12.add 0) (cells .ptr x13) ∧
C_intern_Store_Rule x13 x11 (fun x14 w6 =>
allocK (.cells #[.int .i64 (0 : Int), .int .u8 (0 : Int), .int .i64 (0 : Int), .int .i64 (0 : Int), .int .i64 (0 : Int)] t_api_Rule) w6 fun a15 w7 =>
stK w7 a15 (cells yapi_Rule x14.1) fun w8 =>
nilIfcK x14.2 fun b16 =>
gd (!b16) (
K (none, ⟨none, 0, 0⟩, x14.2) w8) (
∃ x17 : yapi_Rule.T, At w8 a15 (cells yapi_Rule x17) ∧
C_rule_Move x17 (⟨some a6, n5.toNat, n5.toNat⟩) (fun x18 w9 =>
stK w9 a15 (cells yapi_Rule x18.1) fun w10 =>
nilIfcK x18.2 fun b19 =>
gd (!b19) (
K (none, ⟨none, 0, 0⟩, x18.2) w10) (
∃ x20 : yapi_Rule.T, At w10 a15 (cells yapi_Rule x20) ∧
allocK (.cells (cells yapi_Rule x20).toArray t_api_Rule) w10 fun a21 w11 =>
appK t_api_Rule 5 40 #[.int .i64 (0 : Int), .int .u8 (0 : Int), .int .i64 (0 : Int), .int .i64 (0 : Int), .int .i64 (0 : Int)] x8.1.a x8.1.len x8.1.cap (.slice (some a21) 1 1) 1 w11 fun s22 w12 =>
arith .i64 (x8.2.1 + (1 : Int)) fun n23 =>
idxK (some a6) n5.toNat x11 1 fun p24 =>
stK w12 p24 ([.int .i64 n23]) fun w13 =>
arith .i64 (x8.2.1 + (1 : Int)) fun n25 =>
next9 (s22, n25, ()) w13)) w8)) w5) (
C_intern_New v1_most (fun x26 w14 =>
C_intern_Store_Room x26 (fun x27 w15 =>
gd (decide (x27 < (x8.1.len : Int))) (
K (none, ⟨none, 0, 0⟩, .iface t_api_Errno (.int .i64 (3 : Int))) w15) (
C_intern_Store_Import x26 x8.1 (fun x28 w16 =>
nilIfcK x28.2 fun b29 =>
gd (!b29) (
K (none, ⟨none, 0, 0⟩, x28.2) w16) (
K (x26, ⟨some a6, n5.toNat, n5.toNat⟩, .nilIface) w16)) w15)) w14) w5)) w3) w1)) w0
theorem S_collect_Table_Sweep (v0_t : Option Addr) (v1_most : Int) (K : ((Option Addr) × Sl × Value) → World → Prop) (w0 : World) (h : F_collect_Table_Sweep v0_t v1_most K w0) : C_collect_Table_Sweep v0_t v1_most K w0 := by
  have e : denFn P [(1006, [(8, .slice), (29, .int .i64)])] Try.f29 #[.pointer v0_t, .int .i64 v1_most] (.tup (.pair .ptr (.pair .slice .iface))) K w0 = F_collect_Table_Sweep v0_t v1_most K w0 := by kernel_rfl
  exact fn_sound mixed (f := 29) Try.func29 (by kernel_rfl) (e.mpr h)

def F_intern_Store_Len (v0_s : Option Addr) (K : Int → World → Prop) (w0 : World) : Prop :=
gd v0_s.isNone (
K (0 : Int) w0) (
nonNil v0_s fun p1 =>
∃ x2 : Sl, At w0 (p1.add 1) (cells .slice x2) ∧
K (x2.len : Int) w0)
theorem S_intern_Store_Len (v0_s : Option Addr) (K : Int → World → Prop) (w0 : World) (h : F_intern_Store_Len v0_s K w0) : C_intern_Store_Len v0_s K w0 := by
  have e : denFn P [] Try.f30 #[.pointer v0_s] (.int .i64) K w0 = F_intern_Store_Len v0_s K w0 := by kernel_rfl
  exact fn_sound mixed (f := 30) Try.func30 (by kernel_rfl) (e.mpr h)

def F_intern_Store_Room (v0_s : Option Addr) (K : Int → World → Prop) (w0 : World) : Prop :=
gd v0_s.isNone (
K (0 : Int) w0) (
drawK w0 fun w1 =>
nonNil v0_s fun p1 =>
∃ x2 : Int, At w1 (p1.add 0) (cells (.int .i64) x2) ∧
nonNil v0_s fun p3 =>
∃ x4 : Sl, At w1 (p3.add 1) (cells .slice x4) ∧
arith .i64 (x2 - (x4.len : Int)) fun n5 =>
K n5 w1)
theorem S_intern_Store_Room (v0_s : Option Addr) (K : Int → World → Prop) (w0 : World) (h : F_intern_Store_Room v0_s K w0) : C_intern_Store_Room v0_s K w0 := by
  have e : denFn P [] Try.f31 #[.pointer v0_s] (.int .i64) K w0 = F_intern_Store_Room v0_s K w0 := by kernel_rfl
  exact fn_sound mixed (f := 31) Try.func31 (by kernel_rfl) (e.mpr h)

def F_collect_New (v0_s : Option Addr) (K : (Option Addr) → World → Prop) (w0 : World) : Prop :=
gd v0_s.isNone (
K none w0) (
allocK (.map #[] 0) w0 fun a1 w1 =>
allocK (.cells ([.pointer v0_s, .map (some a1.block)]).toArray t_collect_Table) w1 fun a2 w2 =>
K (some a2) w2)
theorem S_collect_New (v0_s : Option Addr) (K : (Option Addr) → World → Prop) (w0 : World) (h : F_collect_New v0_s K w0) : C_collect_New v0_s K w0 := by
  have e : denFn P [] Try.f32 #[.pointer v0_s] .ptr K w0 = F_collect_New v0_s K w0 := by kernel_rfl
  exact fn_sound mixed (f := 32) Try.func32 (by kernel_rfl) (e.mpr h)

def F_collect_Table_Hold (v0_t : Option Addr) (v1_id : Int) (K : Value → World → Prop) (w0 : World) : Prop :=
C_collect_Table_none v0_t (fun x1 w1 =>
gd x1 (
K (.iface t_api_Errno (.int .i64 (5 : Int))) w1) (
nonNil v0_t fun p2 =>
∃ x3 : Option Addr, At w1 (p2.add 0) (cells .ptr x3) ∧
C_collect_known x3 v1_id (fun x4 w2 =>
gd (!x4) (
K (.iface t_api_Errno (.int .i64 (1 : Int))) w2) (
JoinP (X := Unit) (fun R6 =>
gd (v1_id != (0 : Int)) (
nonNil v0_t fun p7 =>
∃ x8 : Option Nat, At w2 (p7.add 1) (cells .map x8) ∧
∃ x9 : Int, Lk1 P t_map_api_ID_int (.int .i64) (.map x8) (.int .i64 v1_id) x9 w2 ∧
arith .i64 (x9 + (1 : Int)) fun n10 =>
runU P (Instr.mapUpdate t_map_api_ID_int (.map x8) (.int .i64 v1_id) (.int .i64 n10)) w2 fun w4 =>
R6 () w4) (
R6 () w2)) (fun x5 w3 => ∀ _ : Env,
K .nilIface w3))) w1)) w0
theorem S_collect_Table_Hold (v0_t : Option Addr) (v1_id : Int) (K : Value → World → Prop) (w0 : World) (h : F_collect_Table_Hold v0_t v1_id K w0) : C_collect_Table_Hold v0_t v1_id K w0 := by
  have e : denFn P [(7, [])] Try.f33 #[.pointer v0_t, .int .i64 v1_id] .iface K w0 = F_collect_Table_Hold v0_t v1_id K w0 := by kernel_rfl
  exact fn_sound mixed (f := 33) Try.func33 (by kernel_rfl) (e.mpr h)

def F_collect_Table_Release (v0_t : Option Addr) (v1_id : Int) (K : Value → World → Prop) (w0 : World) : Prop :=
C_collect_Table_none v0_t (fun x1 w1 =>
gd x1 (
K (.iface t_api_Errno (.int .i64 (5 : Int))) w1) (
nonNil v0_t fun p2 =>
∃ x3 : Option Addr, At w1 (p2.add 0) (cells .ptr x3) ∧
C_collect_known x3 v1_id (fun x4 w2 =>
gd (!x4) (
K (.iface t_api_Errno (.int .i64 (1 : Int))) w2) (
JoinP (X := Unit) (fun R6 =>
nonNil v0_t fun p7 =>
∃ x8 : Option Nat, At w2 (p7.add 1) (cells .map x8) ∧
∃ x9 : Int, Lk1 P t_map_api_ID_int (.int .i64) (.map x8) (.int .i64 v1_id) x9 w2 ∧
gd (x9 == (0 : Int)) (
K (.iface t_api_Errno (.int .i64 (7 : Int))) w2) (
gd (x9 == (1 : Int)) (
nonNil v0_t fun p10 =>
∃ x11 : Option Nat, At w2 (p10.add 1) (cells .map x11) ∧
runK P (.tup .unit) (Builtin.delete_ #[t_map_api_ID_int, t_api_ID] t_ #[.map x11, .int .i64 v1_id]) w2 fun u12 w4 =>
R6 () w4) (
nonNil v0_t fun p13 =>
∃ x14 : Option Nat, At w2 (p13.add 1) (cells .map x14) ∧
∃ x15 : Int, Lk1 P t_map_api_ID_int (.int .i64) (.map x14) (.int .i64 v1_id) x15 w2 ∧
arith .i64 (x15 - (1 : Int)) fun n16 =>
runU P (Instr.mapUpdate t_map_api_ID_int (.map x14) (.int .i64 v1_id) (.int .i64 n16)) w2 fun w5 =>
R6 () w5))) (fun x5 w3 => ∀ _ : Env,
K .nilIface w3))) w1)) w0
theorem S_collect_Table_Release (v0_t : Option Addr) (v1_id : Int) (K : Value → World → Prop) (w0 : World) (h : F_collect_Table_Release v0_t v1_id K w0) : C_collect_Table_Release v0_t v1_id K w0 := by
  have e : denFn P [(11, [])] Try.f34 #[.pointer v0_t, .int .i64 v1_id] .iface K w0 = F_collect_Table_Release v0_t v1_id K w0 := by kernel_rfl
  exact fn_sound mixed (f := 34) Try.func34 (by kernel_rfl) (e.mpr h)

def F_law12_alike (v0_s : Option Addr) (v1_a : Int) (v2_x : Option Addr) (v3_b : Int) (K : Bool → World → Prop) (w0 : World) : Prop :=
C_intern_Store_Weight v0_s v1_a (fun x1 w1 =>
allocK (.cells #[.int .i64 (0 : Int), .int .i64 (0 : Int), .int .i64 (0 : Int), .int .i64 (0 : Int), .int .u64 (0 : Int), .int .u64 (0 : Int)] t_api_Weight) w1 fun a2 w2 =>
stK w2 a2 (cells yapi_Weight x1.1) fun w3 =>
C_intern_Store_Weight v2_x v3_b (fun x3 w4 =>
allocK (.cells #[.int .i64 (0 : Int), .int .i64 (0 : Int), .int .i64 (0 : Int), .int .i64 (0 : Int), .int .u64 (0 : Int), .int .u64 (0 : Int)] t_api_Weight) w4 fun a4 w5 =>
stK w5 a4 (cells yapi_Weight x3.1) fun w6 =>
C_intern_Store_Depth v0_s v1_a (fun x5 w7 =>
C_intern_Store_Depth v2_x v3_b (fun x6 w8 =>
JoinP (X := Bool × Unit) (fun R8 =>
nilIfcK x1.2 fun b9 =>
gd (!b9) (
R8 (true, ()) w8) (
nilIfcK x3.2 fun b10 =>
gd (!b10) (
R8 (true, ()) w8) (
nilIfcK x5.2 fun b11 =>
gd (!b11) (
R8 (true, ()) w8) (
nilIfcK x6.2 fun b12 =>
gd (!b12) (
R8 (true, ()) w8) (
∃ x13 : yapi_Weight.T, At w8 a2 (cells yapi_Weight x13) ∧
∃ x14 : yapi_Weight.T, At w8 a4 (cells yapi_Weight x14) ∧
testK P (do eqGuard .neq t_api_Weight (.tmp 59) (.tmp 60) (val yapi_Weight x13) (val yapi_Weight x14); binOp .neq t_api_Weight (val yapi_Weight x13) (val yapi_Weight x14)) fun b15 =>
gd b15 (
R8 (true, ()) w8) (
R8 (x5.1 != x6.1, ()) w8)))))) (fun x7 w9 => ∀ _ : Env,
gd x7.1 (
K false w9) (
C_intern_Store_Export v0_s v1_a (fun x16 w10 =>
C_intern_Store_Export v2_x v3_b (fun x17 w11 =>
JoinP (X := Bool × Unit) (fun R19 =>
nilIfcK x16.2 fun b20 =>
gd (!b20) (
R19 (true, ()) w11) (
nilIfcK x17.2 fun b21 =>
gd (!b21) (
R19 (true, ()) w11) (
gd ((x16.1.len : Int) != (x17.1.len : Int)) (
R19 (true, ()) w11) (
R19 ((x16.1.len : Int) == (0 : Int), ()) w11)))) (fun x18 w12 => ∀ _ : Env,
gd x18.1 (
K false w12) (
LoopP (X := Int × Unit) ((0 : Int), ()) w12 fun next23 x22 w13 => ∀ _ : Env,
gd (decide (x22.1 < (x16.1.len : Int))) (
drawK w13 fun w14 =>
idxK x16.1.a x16.1.len x22.1 5 fun p24 =>
∃ x25 : yapi_Rule.T, At w14 p24 (cells yapi_Rule x25) ∧
idxK x17.1.a x17.1.len x22.1 5 fun p26 =>
∃ x27 : yapi_Rule.T, At w14 p26 (cells yapi_Rule x27) ∧
testK P (do eqGuard .neq t_api_Rule (.tmp 106) (.tmp 110) (val yapi_Rule x25) (val yapi_Rule x27); binOp .neq t_api_Rule (val yapi_Rule x25) (val yapi_Rule x27)) fun b28 =>
gd b28 (
K false w14) (
arith .i64 (x22.1 + (1 : Int)) fun n29 =>
next23 (n29, ()) w14)) (
K true w13)))) w10) w9))) w7) w6) w3) w0
theorem S_law12_alike (v0_s : Option Addr) (v1_a : Int) (v2_x : Option Addr) (v3_b : Int) (K : Bool → World → Prop) (w0 : World) (h : F_law12_alike v0_s v1_a v2_x v3_b K w0) : C_law12_alike v0_s v1_a v2_x v3_b K w0 := by
  have e : denFn P [(6, [(67, .bool)]), (10, [(97, .bool)]), (1012, [(100, .int .i64)])] Try.f35 #[.pointer v0_s, .int .i64 v1_a, .pointer v2_x, .int .i64 v3_b] .bool K w0 = F_law12_alike v0_s v1_a v2_x v3_b K w0 := by kernel_rfl
  exact fn_sound mixed (f := 35) Try.func35 (by kernel_rfl) (e.mpr h)

end Go.Proofs.Ytbghccafigmnjaa

/- The typed texts of the functions, printed by a program; each proved to imply the call. -/
set_option linter.unusedVariables false
set_option maxRecDepth 100000
set_option maxHeartbeats 4000000
namespace Go.Proofs.Ytbghccafigmnjaa
open Go.Den

def F_ref12_Length (v0_s : yevergreenref12_Store.T) (v1_id : Int) (K : Int → World → Prop) (w0 : World) : Prop :=
allocK (.cells (cells yevergreenref12_Store v0_s).toArray t_evergreenref12_Store) w0 fun a1 w1 =>
gd (v1_id == (0 : Int)) (
K (0 : Int) w1) (
∃ x2 : Sl, At w1 (a1.add 1) (cells .slice x2) ∧
arith .i64 (v1_id - (1 : Int)) fun n3 =>
idxK x2.a x2.len n3 1 fun p4 =>
∃ x5 : Int, At w1 p4 (cells (.int .i64) x5) ∧
K x5 w1)
theorem S_ref12_Length (v0_s : yevergreenref12_Store.T) (v1_id : Int) (K : Int → World → Prop) (w0 : World) (h : F_ref12_Length v0_s v1_id K w0) : C_ref12_Length v0_s v1_id K w0 := by
  have e : denFn P [] Try.f62 #[val yevergreenref12_Store v0_s, .int .i64 v1_id] (.int .i64) K w0 = F_ref12_Length v0_s v1_id K w0 := by kernel_rfl
  exact fn_sound mixed (f := 62) Try.func62 (by kernel_rfl) (e.mpr h)

def F_bits_Len (v0_x : Int) (K : Int → World → Prop) (w0 : World) : Prop :=
C_bits_Len64 v0_x (fun x1 w1 =>
K x1 w1) w0
theorem S_bits_Len (v0_x : Int) (K : Int → World → Prop) (w0 : World) (h : F_bits_Len v0_x K w0) : C_bits_Len v0_x K w0 := by
  have e : denFn P [] Try.f64 #[.int .u64 v0_x] (.int .i64) K w0 = F_bits_Len v0_x K w0 := by kernel_rfl
  exact fn_sound mixed (f := 64) Try.func64 (by kernel_rfl) (e.mpr h)

def F_rule_Check (v0_r : yapi_Rule.T) (v1_n : Int) (K : Value → World → Prop) (w0 : World) : Prop :=
allocK (.cells (cells yapi_Rule v0_r).toArray t_api_Rule) w0 fun a1 w1 =>
JoinP (X := Bool × Unit) (fun R3 =>
∃ x4 : Int, At w1 (a1.add 0) (cells (.int .i64) x4) ∧
gd (x4 == (1 : Int)) (
∃ x5 : Int, At w1 (a1.add 2) (cells (.int .i64) x5) ∧
gd (x5 == (0 : Int)) (
∃ x6 : Int, At w1 (a1.add 3) (cells (.int .i64) x6) ∧
gd (x6 == (0 : Int)) (
∃ x7 : Int, At w1 (a1.add 4) (cells (.int .i64) x7) ∧
R3 (x7 == (0 : Int), ()) w1) (
R3 (false, ()) w1)) (
R3 (false, ()) w1)) (
gd (x4 == (2 : Int)) (
∃ x8 : Int, At w1 (a1.add 1) (cells (.int .u8) x8) ∧
gd (x8 == (0 : Int)) (
∃ x9 : Int, At w1 (a1.add 4) (cells (.int .i64) x9) ∧
R3 (x9 == (0 : Int), ()) w1) (
R3 (false, ()) w1)) (
gd (x4 == (3 : Int)) (
∃ x10 : Int, At w1 (a1.add 1) (cells (.int .u8) x10) ∧
gd (x10 == (0 : Int)) (
∃ x11 : Int, At w1 (a1.add 3) (cells (.int .i64) x11) ∧
gd (x11 == (0 : Int)) (
∃ x12 : Int, At w1 (a1.add 4) (cells (.int .i64) x12) ∧
R3 (decide ((2 : Int) ≤ x12), ()) w1) (
R3 (false, ()) w1)) (
R3 (false, ()) w1)) (
R3 (false, ()) w1)))) (fun x2 w2 => ∀ _ : Env,
gd (!x2.1) (
K (.iface t_api_Errno (.int .i64 (4 : Int))) w2) (
∃ x13 : yapi_Rule.T, At w2 a1 (cells yapi_Rule x13) ∧
C_rule_place x13 v1_n (fun x14 w3 =>
K x14 w3) w2))
theorem S_rule_Check (v0_r : yapi_Rule.T) (v1_n : Int) (K : Value → World → Prop) (w0 : World) (h : F_rule_Check v0_r v1_n K w0) : C_rule_Check v0_r v1_n K w0 := by
  have e : denFn P [(9, [(5, .bool)])] Try.f65 #[val yapi_Rule v0_r, .int .i64 v1_n] .iface K w0 = F_rule_Check v0_r v1_n K w0 := by kernel_rfl
  exact fn_sound mixed (f := 65) Try.func65 (by kernel_rfl) (e.mpr h)

def F_intern_Store_put (v0_s : Option Addr) (v1_r : yapi_Rule.T) (v2_to : Sl) (K : (Int × Value) → World → Prop) (w0 : World) : Prop :=
allocK (.cells (cells yapi_Rule v1_r).toArray t_api_Rule) w0 fun a1 w1 =>
∃ x2 : Int, At w1 (a1.add 0) (cells (.int .i64) x2) ∧
gd (x2 == (1 : Int)) (
∃ x3 : Int, At w1 (a1.add 1) (cells (.int .u8) x3) ∧
C_intern_Store_Letter v0_s x3 (fun x4 w2 =>
K (x4.1, x4.2) w2) w1) (
gd (x2 == (2 : Int)) (
drawK w1 fun w3 =>
∃ x5 : Int, At w3 (a1.add 2) (cells (.int .i64) x5) ∧
idxK v2_to.a v2_to.len x5 1 fun p6 =>
∃ x7 : Int, At w3 p6 (cells (.int .i64) x7) ∧
∃ x8 : Int, At w3 (a1.add 3) (cells (.int .i64) x8) ∧
idxK v2_to.a v2_to.len x8 1 fun p9 =>
∃ x10 : Int, At w3 p9 (cells (.int .i64) x10) ∧
C_intern_Store_Pair v0_s x7 x10 (fun x11 w4 =>
K (x11.1, x11.2) w4) w3) (
drawK w1 fun w5 =>
∃ x12 : Int, At w5 (a1.add 2) (cells (.int .i64) x12) ∧
idxK v2_to.a v2_to.len x12 1 fun p13 =>
∃ x14 : Int, At w5 p13 (cells (.int .i64) x14) ∧
∃ x15 : Int, At w5 (a1.add 4) (cells (.int .i64) x15) ∧
C_intern_Store_Power v0_s x14 x15 (fun x16 w6 =>
K (x16.1, x16.2) w6) w5))
theorem S_intern_Store_put (v0_s : Option Addr) (v1_r : yapi_Rule.T) (v2_to : Sl) (K : (Int × Value) → World → Prop) (w0 : World) (h : F_intern_Store_put v0_s v1_r v2_to K w0) : C_intern_Store_put v0_s v1_r v2_to K w0 := by
  have e : denFn P [] Try.f66 #[.pointer v0_s, val yapi_Rule v1_r, .slice v2_to.a v2_to.len v2_to.cap] (.tup (.pair (.int .i64) .iface)) K w0 = F_intern_Store_put v0_s v1_r v2_to K w0 := by kernel_rfl
  exact fn_sound mixed (f := 66) Try.func66 (by kernel_rfl) (e.mpr h)

def F_intern_Store_at (v0_s : Option Addr) (v1_id : Int) (K : yintern_entry.T → World → Prop) (w0 : World) : Prop :=
allocK (.cells #[.int .i64 (0 : Int), .int .u8 (0 : Int), .int .i64 (0 : Int), .int .i64 (0 : Int), .int .i64 (0 : Int), .int .i64 (0 : Int), .int .i64 (0 : Int), .int .i64 (0 : Int), .int .i64 (0 : Int), .int .u64 (0 : Int), .int .u64 (0 : Int), .int .i64 (0 : Int), .bool false] t_intern_entry) w0 fun a1 w1 =>
gd (v1_id == (0 : Int)) (
C_weight_Unit  (fun x2 w2 =>
stK w2 a1 ([.int .i64 (0 : Int), .int .u8 (0 : Int), .int .i64 (0 : Int), .int .i64 (0 : Int), .int .i64 (0 : Int), .int .i64 x2.1, .int .i64 x2.2.1, .int .i64 x2.2.2.1, .int .i64 x2.2.2.2.1, .int .u64 x2.2.2.2.2.1, .int .u64 x2.2.2.2.2.2, .int .i64 (0 : Int), .bool true]) fun w3 =>
∃ x3 : yintern_entry.T, At w3 a1 (cells yintern_entry x3) ∧
K x3 w3) w1) (
nonNil v0_s fun p4 =>
∃ x5 : Sl, At w1 (p4.add 1) (cells .slice x5) ∧
arith .i64 (v1_id - (1 : Int)) fun n6 =>
idxK x5.a x5.len n6 13 fun p7 =>
∃ x8 : yintern_entry.T, At w1 p7 (cells yintern_entry x8) ∧
stK w1 a1 (cells yintern_entry x8) fun w4 =>
∃ x9 : yintern_entry.T, At w4 a1 (cells yintern_entry x9) ∧
K x9 w4)
theorem S_intern_Store_at (v0_s : Option Addr) (v1_id : Int) (K : yintern_entry.T → World → Prop) (w0 : World) (h : F_intern_Store_at v0_s v1_id K w0) : C_intern_Store_at v0_s v1_id K w0 := by
  have e : denFn P [] Try.f67 #[.pointer v0_s, .int .i64 v1_id] yintern_entry K w0 = F_intern_Store_at v0_s v1_id K w0 := by kernel_rfl
  exact fn_sound mixed (f := 67) Try.func67 (by kernel_rfl) (e.mpr h)

def F_intern_Store_reach (v0_s : Option Addr) (v1_id : Int) (K : Sl → World → Prop) (w0 : World) : Prop :=
gd (v1_id == (0 : Int)) (
K (⟨none, 0, 0⟩) w0) (
allocK (.cells #[.int .i64 v1_id] t_api_ID) w0 fun a1 w1 =>
allocK (.map #[] 0) w1 fun a2 w2 =>
runU P (Instr.mapUpdate t_map_api_ID_bool (.map (some a2.block)) (.int .i64 v1_id) (.bool true)) w2 fun w3 =>
LoopP (X := Sl × Int × Unit) (⟨some a1, 1, 1⟩, (0 : Int), ()) w3 fun next4 x3 w4 => ∀ _ : Env,
gd (decide (x3.2.1 < (x3.1.len : Int))) (
drawK w4 fun w5 =>
nonNil v0_s fun p5 =>
∃ x6 : Sl, At w5 (p5.add 1) (cells .slice x6) ∧
idxK x3.1.a x3.1.len x3.2.1 1 fun p7 =>
∃ x8 : Int, At w5 p7 (cells (.int .i64) x8) ∧
arith .i64 (x8 - (1 : Int)) fun n9 =>
idxK x6.a x6.len n9 13 fun p10 =>
∃ x11 : yapi_Rule.T, At w5 (p10.add 0) (cells yapi_Rule x11) ∧
C_rule_Refs x11 (fun x12 w6 =>
LoopP (X := Sl × Int × Unit) (x3.1, (0 : Int), ()) w6 fun next14 x13 w7 => ∀ _ : Env,
gd (decide (x13.2.1 < (x12.len : Int))) (
JoinP (X := Sl × Unit) (fun R16 =>
idxK x12.a x12.len x13.2.1 1 fun p17 =>
∃ x18 : Int, At w7 p17 (cells (.int .i64) x18) ∧
∃ x19 : Bool, Lk1 P t_map_api_ID_bool .bool (.map (some a2.block)) (.int .i64 x18) x19 w7 ∧
gd (!x19) (
runU P (Instr.mapUpdate t_map_api_ID_bool (.map (some a2.block)) (.int .i64 x18) (.bool true)) w7 fun w9 =>
allocK (.cells #[.int .i64 x18] t_api_ID) w9 fun a20 w10 =>
appK t_api_ID 1 8 #[.int .i64 (0 : Int)] x13.1.a x13.1.len x13.1.cap (.slice (some a20) 1 1) 1 w10 fun s21 w11 =>
R16 (s21, ()) w11) (
R16 (x13.1, ()) w7)) (fun x15 w8 => ∀ _ : Env,
arith .i64 (x13.2.1 + (1 : Int)) fun n22 =>
next14 (x15.1, n22, ()) w8)) (
arith .i64 (x3.2.1 + (1 : Int)) fun n23 =>
next4 (x13.1, n23, ()) w7)) w5) (
C_slices_Sort x3.1 (fun x24 w12 =>
K x3.1 w12) w4))
theorem S_intern_Store_reach (v0_s : Option Addr) (v1_id : Int) (K : Sl → World → Prop) (w0 : World) (h : F_intern_Store_reach v0_s v1_id K w0) : C_intern_Store_reach v0_s v1_id K w0 := by
  have e : denFn P [(1006, [(5, .slice), (7, .int .i64)]), (1009, [(5, .slice), (37, .int .i64)]), (14, [(5, .slice)])] Try.f68 #[.pointer v0_s, .int .i64 v1_id] .slice K w0 = F_intern_Store_reach v0_s v1_id K w0 := by kernel_rfl
  exact fn_sound mixed (f := 68) Try.func68 (by kernel_rfl) (e.mpr h)

def F_length_Mul (v0_a : Int) (v1_k : Int) (K : (Int × Value) → World → Prop) (w0 : World) : Prop :=
JoinP (X := Bool × Unit) (fun R2 =>
C_length_Valid v0_a (fun x3 w2 =>
gd (!x3) (
R2 (true, ()) w2) (
R2 (decide (v1_k < (0 : Int)), ()) w2)) w0) (fun x1 w1 => ∀ _ : Env,
gd x1.1 (
K ((0 : Int), .iface t_api_Errno (.int .i64 (1 : Int))) w1) (
gd (v0_a == (0 : Int)) (
K ((0 : Int), .nilIface) w1) (
v0_a ≠ 0 ∧
arith .i64 (Int.tdiv (1152921504606846976 : Int) v0_a) fun n4 =>
gd (decide (n4 < v1_k)) (
K ((0 : Int), .iface t_api_Errno (.int .i64 (2 : Int))) w1) (
arith .i64 (v0_a * v1_k) fun n5 =>
K (n5, .nilIface) w1))))
theorem S_length_Mul (v0_a : Int) (v1_k : Int) (K : (Int × Value) → World → Prop) (w0 : World) (h : F_length_Mul v0_a v1_k K w0) : C_length_Mul v0_a v1_k K w0 := by
  have e : denFn P [(2, [(12, .bool)])] Try.f69 #[.int .i64 v0_a, .int .i64 v1_k] (.tup (.pair (.int .i64) .iface)) K w0 = F_length_Mul v0_a v1_k K w0 := by kernel_rfl
  exact fn_sound mixed (f := 69) Try.func69 (by kernel_rfl) (e.mpr h)

def F_weight_Repeat (v0_w : yapi_Weight.T) (v1_k : Int) (K : (yapi_Weight.T × Value) → World → Prop) (w0 : World) : Prop :=
allocK (.cells (cells yapi_Weight v0_w).toArray t_api_Weight) w0 fun a1 w1 =>
allocK (.cells #[.int .i64 (0 : Int), .int .i64 (0 : Int), .int .i64 (0 : Int), .int .i64 (0 : Int), .int .u64 (0 : Int), .int .u64 (0 : Int)] t_api_Weight) w1 fun a2 w2 =>
∃ x3 : yapi_Weight.T, At w2 a1 (cells yapi_Weight x3) ∧
C_weight_Valid x3 (fun x4 w3 =>
gd (!x4) (
stK w3 a2 ([.int .i64 (0 : Int), .int .i64 (0 : Int), .int .i64 (0 : Int), .int .i64 (0 : Int), .int .u64 (0 : Int), .int .u64 (0 : Int)]) fun w4 =>
∃ x5 : yapi_Weight.T, At w4 a2 (cells yapi_Weight x5) ∧
K (x5, .iface t_api_Errno (.int .i64 (4 : Int))) w4) (
gd (decide (v1_k < (0 : Int))) (
stK w3 a2 ([.int .i64 (0 : Int), .int .i64 (0 : Int), .int .i64 (0 : Int), .int .i64 (0 : Int), .int .u64 (0 : Int), .int .u64 (0 : Int)]) fun w5 =>
∃ x6 : yapi_Weight.T, At w5 a2 (cells yapi_Weight x6) ∧
K (x6, .iface t_api_Errno (.int .i64 (1 : Int))) w5) (
∃ x7 : Int, At w3 (a1.add 0) (cells (.int .i64) x7) ∧
C_length_Mul x7 v1_k (fun x8 w6 =>
nilIfcK x8.2 fun b9 =>
gd (!b9) (
stK w6 a2 ([.int .i64 (0 : Int), .int .i64 (0 : Int), .int .i64 (0 : Int), .int .i64 (0 : Int), .int .u64 (0 : Int), .int .u64 (0 : Int)]) fun w7 =>
∃ x10 : yapi_Weight.T, At w7 a2 (cells yapi_Weight x10) ∧
K (x10, .iface t_api_Errno (.int .i64 (2 : Int))) w7) (
gd (x8.1 == (0 : Int)) (
C_weight_Unit  (fun x11 w8 =>
stK w8 a2 (cells yapi_Weight x11) fun w9 =>
∃ x12 : yapi_Weight.T, At w9 a2 (cells yapi_Weight x12) ∧
K (x12, .nilIface) w9) w6) (
JoinP (X := Addr × Unit) (fun R14 =>
drawK w6 fun w11 =>
∃ x15 : Int, At w11 (a1.add 1) (cells (.int .i64) x15) ∧
arith .i64 (x15 * v1_k) fun n16 =>
∃ x17 : Int, At w11 (a1.add 2) (cells (.int .i64) x17) ∧
∃ x18 : Int, At w11 (a1.add 3) (cells (.int .i64) x18) ∧
∃ x19 : yapi_Digest.T, At w11 (a1.add 4) (cells yapi_Digest x19) ∧
(C_digest_Repeat x19 v1_k (fun x20 w12 =>
At w12 (a1.add 3) (cells (.int .i64) x18) ∧
At w12 (a1.add 2) (cells (.int .i64) x17) ∧
At w12 (a1.add 1) (cells (.int .i64) x15) ∧
allocK (.cells #[.int .i64 (0 : Int), .int .i64 (0 : Int), .int .i64 (0 : Int), .int .i64 (0 : Int), .int .u64 (0 : Int), .int .u64 (0 : Int)] t_api_Weight) w12 fun a21 w13 =>
At w13 (a1.add 3) (cells (.int .i64) x18) ∧
At w13 (a1.add 2) (cells (.int .i64) x17) ∧
At w13 (a1.add 1) (cells (.int .i64) x15) ∧
stK w13 a21 ([.int .i64 x8.1, .int .i64 n16, .int .i64 x17, .int .i64 x18, .int .u64 x20.1, .int .u64 x20.2]) fun w14 =>
R14 (a21, ()) w14) w11) ∧
(allocK (.cells #[.int .i64 (0 : Int), .int .i64 (0 : Int), .int .i64 (0 : Int), .int .i64 (0 : Int), .int .u64 (0 : Int), .int .u64 (0 : Int)] t_api_Weight) w11 fun a22 w15 =>
At w15 (a1.add 4) (cells yapi_Digest x19) ∧
At w15 (a1.add 3) (cells (.int .i64) x18) ∧
At w15 (a1.add 2) (cells (.int .i64) x17) ∧
At w15 (a1.add 1) (cells (.int .i64) x15) ∧
C_digest_Repeat x19 v1_k (fun x23 w16 =>
At w16 (a1.add 3) (cells (.int .i64) x18) ∧
At w16 (a1.add 2) (cells (.int .i64) x17) ∧
At w16 (a1.add 1) (cells (.int .i64) x15) ∧
stK w16 a22 ([.int .i64 x8.1, .int .i64 n16, .int .i64 x17, .int .i64 x18, .int .u64 x23.1, .int .u64 x23.2]) fun w17 =>
R14 (a22, ()) w17) w15)) (fun x13 w10 => ∀ _ : Env,
JoinP (X := Unit) (fun R25 =>
∃ x26 : Int, At w10 (a1.add 1) (cells (.int .i64) x26) ∧
gd (x26 == (0 : Int)) (
stK w10 (x13.1.add 2) ([.int .i64 x8.1]) fun w19 =>
stK w19 (x13.1.add 3) ([.int .i64 x8.1]) fun w20 =>
R25 () w20) (
R25 () w10)) (fun x24 w18 => ∀ _ : Env,
∃ x27 : yapi_Weight.T, At w18 x13.1 (cells yapi_Weight x27) ∧
stK w18 a2 (cells yapi_Weight x27) fun w21 =>
∃ x28 : yapi_Weight.T, At w21 a2 (cells yapi_Weight x28) ∧
K (x28, .nilIface) w21))))) w3))) w2
theorem S_weight_Repeat (v0_w : yapi_Weight.T) (v1_k : Int) (K : (yapi_Weight.T × Value) → World → Prop) (w0 : World) (h : F_weight_Repeat v0_w v1_k K w0) : C_weight_Repeat v0_w v1_k K w0 := by
  have e : denFn P [(11, [(8, .addr)]), (13, [])] Try.f70 #[val yapi_Weight v0_w, .int .i64 v1_k] (.tup (.pair yapi_Weight .iface)) K w0 = F_weight_Repeat v0_w v1_k K w0 := by kernel_rfl
  exact fn_sound mixed (f := 70) Try.func70 (by kernel_rfl) (e.mpr h)

def F_length_Add (v0_a : Int) (v1_b : Int) (K : (Int × Value) → World → Prop) (w0 : World) : Prop :=
JoinP (X := Bool × Unit) (fun R2 =>
C_length_Valid v0_a (fun x3 w2 =>
gd (!x3) (
R2 (true, ()) w2) (
C_length_Valid v1_b (fun x4 w3 =>
R2 (!x4, ()) w3) w2)) w0) (fun x1 w1 => ∀ _ : Env,
gd x1.1 (
K ((0 : Int), .iface t_api_Errno (.int .i64 (1 : Int))) w1) (
arith .i64 ((1152921504606846976 : Int) - v1_b) fun n5 =>
gd (decide (n5 < v0_a)) (
K ((0 : Int), .iface t_api_Errno (.int .i64 (2 : Int))) w1) (
arith .i64 (v0_a + v1_b) fun n6 =>
K (n6, .nilIface) w1)))
theorem S_length_Add (v0_a : Int) (v1_b : Int) (K : (Int × Value) → World → Prop) (w0 : World) (h : F_length_Add v0_a v1_b K w0) : C_length_Add v0_a v1_b K w0 := by
  have e : denFn P [(2, [(13, .bool)])] Try.f71 #[.int .i64 v0_a, .int .i64 v1_b] (.tup (.pair (.int .i64) .iface)) K w0 = F_length_Add v0_a v1_b K w0 := by kernel_rfl
  exact fn_sound mixed (f := 71) Try.func71 (by kernel_rfl) (e.mpr h)

def F_weight_Join (v0_a : yapi_Weight.T) (v1_b : yapi_Weight.T) (K : (yapi_Weight.T × Value) → World → Prop) (w0 : World) : Prop :=
allocK (.cells (cells yapi_Weight v0_a).toArray t_api_Weight) w0 fun a1 w1 =>
allocK (.cells (cells yapi_Weight v1_b).toArray t_api_Weight) w1 fun a2 w2 =>
allocK (.cells #[.int .i64 (0 : Int), .int .i64 (0 : Int), .int .i64 (0 : Int), .int .i64 (0 : Int), .int .u64 (0 : Int), .int .u64 (0 : Int)] t_api_Weight) w2 fun a3 w3 =>
JoinP (X := Bool × Unit) (fun R5 =>
∃ x6 : yapi_Weight.T, At w3 a1 (cells yapi_Weight x6) ∧
C_weight_Valid x6 (fun x7 w5 =>
gd (!x7) (
R5 (true, ()) w5) (
∃ x8 : yapi_Weight.T, At w5 a2 (cells yapi_Weight x8) ∧
C_weight_Valid x8 (fun x9 w6 =>
R5 (!x9, ()) w6) w5)) w3) (fun x4 w4 => ∀ _ : Env,
gd x4.1 (
stK w4 a3 ([.int .i64 (0 : Int), .int .i64 (0 : Int), .int .i64 (0 : Int), .int .i64 (0 : Int), .int .u64 (0 : Int), .int .u64 (0 : Int)]) fun w7 =>
∃ x10 : yapi_Weight.T, At w7 a3 (cells yapi_Weight x10) ∧
K (x10, .iface t_api_Errno (.int .i64 (4 : Int))) w7) (
∃ x11 : Int, At w4 (a1.add 0) (cells (.int .i64) x11) ∧
∃ x12 : Int, At w4 (a2.add 0) (cells (.int .i64) x12) ∧
C_length_Add x11 x12 (fun x13 w8 =>
nilIfcK x13.2 fun b14 =>
gd (!b14) (
stK w8 a3 ([.int .i64 (0 : Int), .int .i64 (0 : Int), .int .i64 (0 : Int), .int .i64 (0 : Int), .int .u64 (0 : Int), .int .u64 (0 : Int)]) fun w9 =>
∃ x15 : yapi_Weight.T, At w9 a3 (cells yapi_Weight x15) ∧
K (x15, .iface t_api_Errno (.int .i64 (2 : Int))) w9) (
JoinP (X := Addr × Unit) (fun R17 =>
drawK w8 fun w11 =>
∃ x18 : Int, At w11 (a1.add 1) (cells (.int .i64) x18) ∧
∃ x19 : Int, At w11 (a2.add 1) (cells (.int .i64) x19) ∧
arith .i64 (x18 + x19) fun n20 =>
∃ x21 : Int, At w11 (a1.add 2) (cells (.int .i64) x21) ∧
∃ x22 : Int, At w11 (a2.add 3) (cells (.int .i64) x22) ∧
∃ x23 : yapi_Digest.T, At w11 (a1.add 4) (cells yapi_Digest x23) ∧
∃ x24 : yapi_Digest.T, At w11 (a2.add 4) (cells yapi_Digest x24) ∧
(C_digest_Join x23 x24 (fun x25 w12 =>
At w12 (a2.add 3) (cells (.int .i64) x22) ∧
At w12 (a1.add 2) (cells (.int .i64) x21) ∧
At w12 (a2.add 1) (cells (.int .i64) x19) ∧
At w12 (a1.add 1) (cells (.int .i64) x18) ∧
allocK (.cells #[.int .i64 (0 : Int), .int .i64 (0 : Int), .int .i64 (0 : Int), .int .i64 (0 : Int), .int .u64 (0 : Int), .int .u64 (0 : Int)] t_api_Weight) w12 fun a26 w13 =>
At w13 (a2.add 3) (cells (.int .i64) x22) ∧
At w13 (a1.add 2) (cells (.int .i64) x21) ∧
At w13 (a2.add 1) (cells (.int .i64) x19) ∧
At w13 (a1.add 1) (cells (.int .i64) x18) ∧
stK w13 a26 ([.int .i64 x13.1, .int .i64 n20, .int .i64 x21, .int .i64 x22, .int .u64 x25.1, .int .u64 x25.2]) fun w14 =>
R17 (a26, ()) w14) w11) ∧
(allocK (.cells #[.int .i64 (0 : Int), .int .i64 (0 : Int), .int .i64 (0 : Int), .int .i64 (0 : Int), .int .u64 (0 : Int), .int .u64 (0 : Int)] t_api_Weight) w11 fun a27 w15 =>
At w15 (a2.add 4) (cells yapi_Digest x24) ∧
At w15 (a1.add 4) (cells yapi_Digest x23) ∧
At w15 (a2.add 3) (cells (.int .i64) x22) ∧
At w15 (a1.add 2) (cells (.int .i64) x21) ∧
At w15 (a2.add 1) (cells (.int .i64) x19) ∧
At w15 (a1.add 1) (cells (.int .i64) x18) ∧
C_digest_Join x23 x24 (fun x28 w16 =>
At w16 (a2.add 3) (cells (.int .i64) x22) ∧
At w16 (a1.add 2) (cells (.int .i64) x21) ∧
At w16 (a2.add 1) (cells (.int .i64) x19) ∧
At w16 (a1.add 1) (cells (.int .i64) x18) ∧
stK w16 a27 ([.int .i64 x13.1, .int .i64 n20, .int .i64 x21, .int .i64 x22, .int .u64 x28.1, .int .u64 x28.2]) fun w17 =>
R17 (a27, ()) w17) w15)) (fun x16 w10 => ∀ _ : Env,
JoinP (X := Unit) (fun R30 =>
∃ x31 : Int, At w10 (a1.add 1) (cells (.int .i64) x31) ∧
gd (x31 == (0 : Int)) (
∃ x32 : Int, At w10 (a1.add 0) (cells (.int .i64) x32) ∧
∃ x33 : Int, At w10 (a2.add 2) (cells (.int .i64) x33) ∧
arith .i64 (x32 + x33) fun n34 =>
stK w10 (x16.1.add 2) ([.int .i64 n34]) fun w19 =>
R30 () w19) (
R30 () w10)) (fun x29 w18 => ∀ _ : Env,
JoinP (X := Unit) (fun R36 =>
∃ x37 : Int, At w18 (a2.add 1) (cells (.int .i64) x37) ∧
gd (x37 == (0 : Int)) (
∃ x38 : Int, At w18 (a2.add 0) (cells (.int .i64) x38) ∧
∃ x39 : Int, At w18 (a1.add 3) (cells (.int .i64) x39) ∧
arith .i64 (x38 + x39) fun n40 =>
stK w18 (x16.1.add 3) ([.int .i64 n40]) fun w21 =>
R36 () w21) (
R36 () w18)) (fun x35 w20 => ∀ _ : Env,
∃ x41 : yapi_Weight.T, At w20 x16.1 (cells yapi_Weight x41) ∧
stK w20 a3 (cells yapi_Weight x41) fun w22 =>
∃ x42 : yapi_Weight.T, At w22 a3 (cells yapi_Weight x42) ∧
K (x42, .nilIface) w22))))) w4))
theorem S_weight_Join (v0_a : yapi_Weight.T) (v1_b : yapi_Weight.T) (K : (yapi_Weight.T × Value) → World → Prop) (w0 : World) (h : F_weight_Join v0_a v1_b K w0) : C_weight_Join v0_a v1_b K w0 := by
  have e : denFn P [(2, [(16, .bool)]), (7, [(8, .addr)]), (9, []), (11, [])] Try.f72 #[val yapi_Weight v0_a, val yapi_Weight v1_b] (.tup (.pair yapi_Weight .iface)) K w0 = F_weight_Join v0_a v1_b K w0 := by kernel_rfl
  exact fn_sound mixed (f := 72) Try.func72 (by kernel_rfl) (e.mpr h)

def F_digest_Letter (v0_b : Int) (K : yapi_Digest.T → World → Prop) (w0 : World) : Prop :=
allocK (.cells #[.int .u64 (0 : Int), .int .u64 (0 : Int)] t_api_Digest) w0 fun a1 w1 =>
arith .u64 (v0_b) fun n2 =>
arith .u64 (n2 + (1 : Int)) fun n3 =>
stK w1 a1 ([.int .u64 n3, .int .u64 (1103515245 : Int)]) fun w2 =>
∃ x4 : yapi_Digest.T, At w2 a1 (cells yapi_Digest x4) ∧
K x4 w2
theorem S_digest_Letter (v0_b : Int) (K : yapi_Digest.T → World → Prop) (w0 : World) (h : F_digest_Letter v0_b K w0) : C_digest_Letter v0_b K w0 := by
  have e : denFn P [] Try.f73 #[.int .u8 v0_b] yapi_Digest K w0 = F_digest_Letter v0_b K w0 := by kernel_rfl
  exact fn_sound mixed (f := 73) Try.func73 (by kernel_rfl) (e.mpr h)

def F_bits_Len32 (v0_x : Int) (K : Int → World → Prop) (w0 : World) : Prop :=
JoinP (X := Int × Int × Unit) (fun R2 =>
gd (decide ((65536 : Int) ≤ v0_x)) (
0 ≤ (16 : Int) ∧
letZ (Int.fdiv v0_x (2 ^ min (Int.toNat (16 : Int)) (IntKind.bits .u32))) fun n3 =>
R2 (n3, (16 : Int), ()) w0) (
R2 (v0_x, (0 : Int), ()) w0)) (fun x1 w1 => ∀ _ : Env,
JoinP (X := Int × Int × Unit) (fun R5 =>
gd (decide ((256 : Int) ≤ x1.1)) (
0 ≤ (8 : Int) ∧
letZ (Int.fdiv x1.1 (2 ^ min (Int.toNat (8 : Int)) (IntKind.bits .u32))) fun n6 =>
arith .i64 (x1.2.1 + (8 : Int)) fun n7 =>
R5 (n6, n7, ()) w1) (
R5 (x1.1, x1.2.1, ()) w1)) (fun x4 w2 => ∀ _ : Env,
arith .u8 (x4.1) fun n8 =>
0 ≤ n8 ∧ ∃ hx : n8.toNat < (⟨#[0, 1, 2, 2, 3, 3, 3, 3, 4, 4, 4, 4, 4, 4, 4, 4, 5, 5, 5, 5, 5, 5, 5, 5, 5, 5, 5, 5, 5, 5, 5, 5, 6, 6, 6, 6, 6, 6, 6, 6, 6, 6, 6, 6, 6, 6, 6, 6, 6, 6, 6, 6, 6, 6, 6, 6, 6, 6, 6, 6, 6, 6, 6, 6, 7, 7, 7, 7, 7, 7, 7, 7, 7, 7, 7, 7, 7, 7, 7, 7, 7, 7, 7, 7, 7, 7, 7, 7, 7, 7, 7, 7, 7, 7, 7, 7, 7, 7, 7, 7, 7, 7, 7, 7, 7, 7, 7, 7, 7, 7, 7, 7, 7, 7, 7, 7, 7, 7, 7, 7, 7, 7, 7, 7, 7, 7, 7, 7, 8, 8, 8, 8, 8, 8, 8, 8, 8, 8, 8, 8, 8, 8, 8, 8, 8, 8, 8, 8, 8, 8, 8, 8, 8, 8, 8, 8, 8, 8, 8, 8, 8, 8, 8, 8, 8, 8, 8, 8, 8, 8, 8, 8, 8, 8, 8, 8, 8, 8, 8, 8, 8, 8, 8, 8, 8, 8, 8, 8, 8, 8, 8, 8, 8, 8, 8, 8, 8, 8, 8, 8, 8, 8, 8, 8, 8, 8, 8, 8, 8, 8, 8, 8, 8, 8, 8, 8, 8, 8, 8, 8, 8, 8, 8, 8, 8, 8, 8, 8, 8, 8, 8, 8, 8, 8, 8, 8, 8, 8, 8, 8, 8, 8, 8, 8, 8, 8, 8, 8, 8, 8, 8, 8, 8, 8, 8, 8]⟩ : ByteArray).size,
arith .i64 ((((⟨#[0, 1, 2, 2, 3, 3, 3, 3, 4, 4, 4, 4, 4, 4, 4, 4, 5, 5, 5, 5, 5, 5, 5, 5, 5, 5, 5, 5, 5, 5, 5, 5, 6, 6, 6, 6, 6, 6, 6, 6, 6, 6, 6, 6, 6, 6, 6, 6, 6, 6, 6, 6, 6, 6, 6, 6, 6, 6, 6, 6, 6, 6, 6, 6, 7, 7, 7, 7, 7, 7, 7, 7, 7, 7, 7, 7, 7, 7, 7, 7, 7, 7, 7, 7, 7, 7, 7, 7, 7, 7, 7, 7, 7, 7, 7, 7, 7, 7, 7, 7, 7, 7, 7, 7, 7, 7, 7, 7, 7, 7, 7, 7, 7, 7, 7, 7, 7, 7, 7, 7, 7, 7, 7, 7, 7, 7, 7, 7, 8, 8, 8, 8, 8, 8, 8, 8, 8, 8, 8, 8, 8, 8, 8, 8, 8, 8, 8, 8, 8, 8, 8, 8, 8, 8, 8, 8, 8, 8, 8, 8, 8, 8, 8, 8, 8, 8, 8, 8, 8, 8, 8, 8, 8, 8, 8, 8, 8, 8, 8, 8, 8, 8, 8, 8, 8, 8, 8, 8, 8, 8, 8, 8, 8, 8, 8, 8, 8, 8, 8, 8, 8, 8, 8, 8, 8, 8, 8, 8, 8, 8, 8, 8, 8, 8, 8, 8, 8, 8, 8, 8, 8, 8, 8, 8, 8, 8, 8, 8, 8, 8, 8, 8, 8, 8, 8, 8, 8, 8, 8, 8, 8, 8, 8, 8, 8, 8, 8, 8, 8, 8, 8, 8, 8, 8, 8, 8]⟩ : ByteArray)[n8.toNat]).toNat : Int)) fun n9 =>
arith .i64 (x4.2.1 + n9) fun n10 =>
K n10 w2))
theorem S_bits_Len32 (v0_x : Int) (K : Int → World → Prop) (w0 : World) (h : F_bits_Len32 v0_x K w0) : C_bits_Len32 v0_x K w0 := by
  have e : denFn P [(4, [(0, .int .u32), (2, .int .i64)]), (7, [(0, .int .u32), (2, .int .i64)])] Try.f83 #[.int .u32 v0_x] (.int .i64) K w0 = F_bits_Len32 v0_x K w0 := by kernel_rfl
  exact fn_sound mixed (f := 83) Try.func83 (by kernel_rfl) (e.mpr h)

def F_bits_Len64 (v0_x : Int) (K : Int → World → Prop) (w0 : World) : Prop :=
JoinP (X := Int × Int × Unit) (fun R2 =>
gd (decide ((4294967296 : Int) ≤ v0_x)) (
0 ≤ (32 : Int) ∧
letZ (Int.fdiv v0_x (2 ^ min (Int.toNat (32 : Int)) (IntKind.bits .u64))) fun n3 =>
R2 (n3, (32 : Int), ()) w0) (
R2 (v0_x, (0 : Int), ()) w0)) (fun x1 w1 => ∀ _ : Env,
JoinP (X := Int × Int × Unit) (fun R5 =>
gd (decide ((65536 : Int) ≤ x1.1)) (
0 ≤ (16 : Int) ∧
letZ (Int.fdiv x1.1 (2 ^ min (Int.toNat (16 : Int)) (IntKind.bits .u64))) fun n6 =>
arith .i64 (x1.2.1 + (16 : Int)) fun n7 =>
R5 (n6, n7, ()) w1) (
R5 (x1.1, x1.2.1, ()) w1)) (fun x4 w2 => ∀ _ : Env,
JoinP (X := Int × Int × Unit) (fun R9 =>
gd (decide ((256 : Int) ≤ x4.1)) (
0 ≤ (8 : Int) ∧
letZ (Int.fdiv x4.1 (2 ^ min (Int.toNat (8 : Int)) (IntKind.bits .u64))) fun n10 =>
arith .i64 (x4.2.1 + (8 : Int)) fun n11 =>
R9 (n10, n11, ()) w2) (
R9 (x4.1, x4.2.1, ()) w2)) (fun x8 w3 => ∀ _ : Env,
arith .u8 (x8.1) fun n12 =>
0 ≤ n12 ∧ ∃ hx : n12.toNat < (⟨#[0, 1, 2, 2, 3, 3, 3, 3, 4, 4, 4, 4, 4, 4, 4, 4, 5, 5, 5, 5, 5, 5, 5, 5, 5, 5, 5, 5, 5, 5, 5, 5, 6, 6, 6, 6, 6, 6, 6, 6, 6, 6, 6, 6, 6, 6, 6, 6, 6, 6, 6, 6, 6, 6, 6, 6, 6, 6, 6, 6, 6, 6, 6, 6, 7, 7, 7, 7, 7, 7, 7, 7, 7, 7, 7, 7, 7, 7, 7, 7, 7, 7, 7, 7, 7, 7, 7, 7, 7, 7, 7, 7, 7, 7, 7, 7, 7, 7, 7, 7, 7, 7, 7, 7, 7, 7, 7, 7, 7, 7, 7, 7, 7, 7, 7, 7, 7, 7, 7, 7, 7, 7, 7, 7, 7, 7, 7, 7, 8, 8, 8, 8, 8, 8, 8, 8, 8, 8, 8, 8, 8, 8, 8, 8, 8, 8, 8, 8, 8, 8, 8, 8, 8, 8, 8, 8, 8, 8, 8, 8, 8, 8, 8, 8, 8, 8, 8, 8, 8, 8, 8, 8, 8, 8, 8, 8, 8, 8, 8, 8, 8, 8, 8, 8, 8, 8, 8, 8, 8, 8, 8, 8, 8, 8, 8, 8, 8, 8, 8, 8, 8, 8, 8, 8, 8, 8, 8, 8, 8, 8, 8, 8, 8, 8, 8, 8, 8, 8, 8, 8, 8, 8, 8, 8, 8, 8, 8, 8, 8, 8, 8, 8, 8, 8, 8, 8, 8, 8, 8, 8, 8, 8, 8, 8, 8, 8, 8, 8, 8, 8, 8, 8, 8, 8, 8, 8]⟩ : ByteArray).size,
arith .i64 ((((⟨#[0, 1, 2, 2, 3, 3, 3, 3, 4, 4, 4, 4, 4, 4, 4, 4, 5, 5, 5, 5, 5, 5, 5, 5, 5, 5, 5, 5, 5, 5, 5, 5, 6, 6, 6, 6, 6, 6, 6, 6, 6, 6, 6, 6, 6, 6, 6, 6, 6, 6, 6, 6, 6, 6, 6, 6, 6, 6, 6, 6, 6, 6, 6, 6, 7, 7, 7, 7, 7, 7, 7, 7, 7, 7, 7, 7, 7, 7, 7, 7, 7, 7, 7, 7, 7, 7, 7, 7, 7, 7, 7, 7, 7, 7, 7, 7, 7, 7, 7, 7, 7, 7, 7, 7, 7, 7, 7, 7, 7, 7, 7, 7, 7, 7, 7, 7, 7, 7, 7, 7, 7, 7, 7, 7, 7, 7, 7, 7, 8, 8, 8, 8, 8, 8, 8, 8, 8, 8, 8, 8, 8, 8, 8, 8, 8, 8, 8, 8, 8, 8, 8, 8, 8, 8, 8, 8, 8, 8, 8, 8, 8, 8, 8, 8, 8, 8, 8, 8, 8, 8, 8, 8, 8, 8, 8, 8, 8, 8, 8, 8, 8, 8, 8, 8, 8, 8, 8, 8, 8, 8, 8, 8, 8, 8, 8, 8, 8, 8, 8, 8, 8, 8, 8, 8, 8, 8, 8, 8, 8, 8, 8, 8, 8, 8, 8, 8, 8, 8, 8, 8, 8, 8, 8, 8, 8, 8, 8, 8, 8, 8, 8, 8, 8, 8, 8, 8, 8, 8, 8, 8, 8, 8, 8, 8, 8, 8, 8, 8, 8, 8, 8, 8, 8, 8, 8, 8]⟩ : ByteArray)[n12.toNat]).toNat : Int)) fun n13 =>
arith .i64 (x8.2.1 + n13) fun n14 =>
K n14 w3)))
theorem S_bits_Len64 (v0_x : Int) (K : Int → World → Prop) (w0 : World) (h : F_bits_Len64 v0_x K w0) : C_bits_Len64 v0_x K w0 := by
  have e : denFn P [(4, [(0, .int .u64), (2, .int .i64)]), (7, [(0, .int .u64), (2, .int .i64)]), (10, [(0, .int .u64), (2, .int .i64)])] Try.f84 #[.int .u64 v0_x] (.int .i64) K w0 = F_bits_Len64 v0_x K w0 := by kernel_rfl
  exact fn_sound mixed (f := 84) Try.func84 (by kernel_rfl) (e.mpr h)

def F_rule_place (v0_r : yapi_Rule.T) (v1_n : Int) (K : Value → World → Prop) (w0 : World) : Prop :=
allocK (.cells (cells yapi_Rule v0_r).toArray t_api_Rule) w0 fun a1 w1 =>
gd (decide (v1_n < (1 : Int))) (
K (.iface t_api_Errno (.int .i64 (1 : Int))) w1) (
∃ x2 : yapi_Rule.T, At w1 a1 (cells yapi_Rule x2) ∧
C_rule_Refs x2 (fun x3 w2 =>
LoopP (X := Int × Unit) ((0 : Int), ()) w2 fun next5 x4 w3 => ∀ _ : Env,
gd (decide (x4.1 < (x3.len : Int))) (
idxK x3.a x3.len x4.1 1 fun p6 =>
∃ x7 : Int, At w3 p6 (cells (.int .i64) x7) ∧
JoinP (X := Bool × Unit) (fun R9 =>
gd (decide (x7 < (1 : Int))) (
R9 (true, ()) w3) (
arith .i64 (v1_n - (1 : Int)) fun n10 =>
R9 (decide (n10 < x7), ()) w3)) (fun x8 w4 => ∀ _ : Env,
gd x8.1 (
K (.iface t_api_Errno (.int .i64 (1 : Int))) w4) (
arith .i64 (x4.1 + (1 : Int)) fun n11 =>
next5 (n11, ()) w4))) (
K .nilIface w3)) w1)
theorem S_rule_place (v0_r : yapi_Rule.T) (v1_n : Int) (K : Value → World → Prop) (w0 : World) (h : F_rule_place v0_r v1_n K w0) : C_rule_place v0_r v1_n K w0 := by
  have e : denFn P [(1004, [(13, .int .i64)]), (7, [(24, .bool)])] Try.f85 #[val yapi_Rule v0_r, .int .i64 v1_n] .iface K w0 = F_rule_place v0_r v1_n K w0 := by kernel_rfl
  exact fn_sound mixed (f := 85) Try.func85 (by kernel_rfl) (e.mpr h)

def F_weight_Unit  (K : yapi_Weight.T → World → Prop) (w0 : World) : Prop :=
allocK (.cells #[.int .i64 (0 : Int), .int .i64 (0 : Int), .int .i64 (0 : Int), .int .i64 (0 : Int), .int .u64 (0 : Int), .int .u64 (0 : Int)] t_api_Weight) w0 fun a1 w1 =>
C_digest_Unit  (fun x2 w2 =>
stK w2 a1 ([.int .i64 (0 : Int), .int .i64 (0 : Int), .int .i64 (0 : Int), .int .i64 (0 : Int), .int .u64 x2.1, .int .u64 x2.2]) fun w3 =>
∃ x3 : yapi_Weight.T, At w3 a1 (cells yapi_Weight x3) ∧
K x3 w3) w1
theorem S_weight_Unit  (K : yapi_Weight.T → World → Prop) (w0 : World) (h : F_weight_Unit  K w0) : C_weight_Unit  K w0 := by
  have e : denFn P [] Try.f86 #[] yapi_Weight K w0 = F_weight_Unit  K w0 := by kernel_rfl
  exact fn_sound mixed (f := 86) Try.func86 (by kernel_rfl) (e.mpr h)

def F_length_Valid (v0_n : Int) (K : Bool → World → Prop) (w0 : World) : Prop :=
gd (decide ((0 : Int) ≤ v0_n)) (
K (decide (v0_n ≤ (1152921504606846976 : Int))) w0) (
K false w0)
theorem S_length_Valid (v0_n : Int) (K : Bool → World → Prop) (w0 : World) (h : F_length_Valid v0_n K w0) : C_length_Valid v0_n K w0 := by
  have e : denFn P [] Try.f87 #[.int .i64 v0_n] .bool K w0 = F_length_Valid v0_n K w0 := by kernel_rfl
  exact fn_sound mixed (f := 87) Try.func87 (by kernel_rfl) (e.mpr h)

def F_weight_Valid (v0_w : yapi_Weight.T) (K : Bool → World → Prop) (w0 : World) : Prop :=
allocK (.cells (cells yapi_Weight v0_w).toArray t_api_Weight) w0 fun a1 w1 =>
JoinP (X := Bool × Unit) (fun R3 =>
∃ x4 : Int, At w1 (a1.add 0) (cells (.int .i64) x4) ∧
C_length_Valid x4 (fun x5 w3 =>
gd (!x5) (
R3 (true, ()) w3) (
∃ x6 : Int, At w3 (a1.add 1) (cells (.int .i64) x6) ∧
R3 (decide (x6 < (0 : Int)), ()) w3)) w1) (fun x2 w2 => ∀ _ : Env,
gd x2.1 (
K false w2) (
JoinP (X := Unit) (fun R8 =>
∃ x9 : Int, At w2 (a1.add 1) (cells (.int .i64) x9) ∧
gd (x9 == (0 : Int)) (
JoinP (X := Bool × Unit) (fun R11 =>
∃ x12 : Int, At w2 (a1.add 2) (cells (.int .i64) x12) ∧
∃ x13 : Int, At w2 (a1.add 0) (cells (.int .i64) x13) ∧
gd (x12 != x13) (
R11 (true, ()) w2) (
∃ x14 : Int, At w2 (a1.add 3) (cells (.int .i64) x14) ∧
∃ x15 : Int, At w2 (a1.add 0) (cells (.int .i64) x15) ∧
R11 (x14 != x15, ()) w2)) (fun x10 w5 => ∀ _ : Env,
gd x10.1 (
K false w5) (
R8 () w5))) (
JoinP (X := Bool × Unit) (fun R17 =>
∃ x18 : Int, At w2 (a1.add 2) (cells (.int .i64) x18) ∧
gd (decide (x18 < (0 : Int))) (
R17 (true, ()) w2) (
∃ x19 : Int, At w2 (a1.add 2) (cells (.int .i64) x19) ∧
∃ x20 : Int, At w2 (a1.add 0) (cells (.int .i64) x20) ∧
gd (decide (x20 < x19)) (
R17 (true, ()) w2) (
∃ x21 : Int, At w2 (a1.add 3) (cells (.int .i64) x21) ∧
gd (decide (x21 < (0 : Int))) (
R17 (true, ()) w2) (
∃ x22 : Int, At w2 (a1.add 3) (cells (.int .i64) x22) ∧
∃ x23 : Int, At w2 (a1.add 0) (cells (.int .i64) x23) ∧
∃ x24 : Int, At w2 (a1.add 2) (cells (.int .i64) x24) ∧
arith .i64 (x23 - x24) fun n25 =>
R17 (decide (n25 < x22), ()) w2)))) (fun x16 w6 => ∀ _ : Env,
gd x16.1 (
K false w6) (
∃ x26 : Int, At w6 (a1.add 0) (cells (.int .i64) x26) ∧
∃ x27 : Int, At w6 (a1.add 2) (cells (.int .i64) x27) ∧
arith .i64 (x26 - x27) fun n28 =>
∃ x29 : Int, At w6 (a1.add 3) (cells (.int .i64) x29) ∧
arith .i64 (n28 - x29) fun n30 =>
JoinP (X := Bool × Unit) (fun R32 =>
∃ x33 : Int, At w6 (a1.add 1) (cells (.int .i64) x33) ∧
gd (decide (n30 < x33)) (
R32 (true, ()) w6) (
∃ x34 : Int, At w6 (a1.add 1) (cells (.int .i64) x34) ∧
gd (x34 == (1 : Int)) (
R32 (n30 != (1 : Int), ()) w6) (
R32 (false, ()) w6))) (fun x31 w7 => ∀ _ : Env,
gd x31.1 (
K false w7) (
R8 () w7)))))) (fun x7 w4 => ∀ _ : Env,
JoinP (X := Bool × Unit) (fun R36 =>
∃ x37 : Int, At w4 ((a1.add 4).add 0) (cells (.int .u64) x37) ∧
gd (decide ((2305843009213693951 : Int) ≤ x37)) (
R36 (true, ()) w4) (
∃ x38 : Int, At w4 (a1.add 0) (cells (.int .i64) x38) ∧
gd (x38 == (0 : Int)) (
∃ x39 : Int, At w4 ((a1.add 4).add 0) (cells (.int .u64) x39) ∧
R36 (x39 != (0 : Int), ()) w4) (
R36 (false, ()) w4))) (fun x35 w8 => ∀ _ : Env,
gd x35.1 (
K false w8) (
drawK w8 fun w9 =>
∃ x40 : Int, At w9 ((a1.add 4).add 1) (cells (.int .u64) x40) ∧
∃ x41 : Int, At w9 (a1.add 0) (cells (.int .i64) x41) ∧
arith .u64 (x41) fun n42 =>
C_modular_Pow (1103515245 : Int) n42 (fun x43 w10 =>
At w10 ((a1.add 4).add 1) (cells (.int .u64) x40) ∧
K (x40 == x43) w10) w9)))))
theorem S_weight_Valid (v0_w : yapi_Weight.T) (K : Bool → World → Prop) (w0 : World) (h : F_weight_Valid v0_w K w0) : C_weight_Valid v0_w K w0 := by
  have e : denFn P [(2, [(12, .bool)]), (11, []), (5, [(27, .bool)]), (7, [(52, .bool)]), (10, [(73, .bool)]), (12, [(88, .bool)])] Try.f88 #[val yapi_Weight v0_w] .bool K w0 = F_weight_Valid v0_w K w0 := by kernel_rfl
  exact fn_sound mixed (f := 88) Try.func88 (by kernel_rfl) (e.mpr h)

def F_digest_Repeat (v0_d : yapi_Digest.T) (v1_k : Int) (K : yapi_Digest.T → World → Prop) (w0 : World) : Prop :=
allocK (.cells (cells yapi_Digest v0_d).toArray t_api_Digest) w0 fun a1 w1 =>
allocK (.cells #[.int .u64 (0 : Int), .int .u64 (0 : Int)] t_api_Digest) w1 fun a2 w2 =>
C_digest_Unit  (fun x3 w3 =>
allocK (.cells #[.int .u64 (0 : Int), .int .u64 (0 : Int)] t_api_Digest) w3 fun a4 w4 =>
stK w4 a4 (cells yapi_Digest x3) fun w5 =>
LoopP (X := Int × Unit) (v1_k, ()) w5 fun next6 x5 w6 => ∀ _ : Env,
gd (decide ((0 : Int) < x5.1)) (
JoinP (X := Unit) (fun R8 =>
(2 : Int) ≠ 0 ∧
letZ (Int.tmod x5.1 (2 : Int)) fun n9 =>
gd (n9 == (1 : Int)) (
∃ x10 : yapi_Digest.T, At w6 a4 (cells yapi_Digest x10) ∧
∃ x11 : yapi_Digest.T, At w6 a1 (cells yapi_Digest x11) ∧
C_digest_Join x10 x11 (fun x12 w8 =>
stK w8 a4 (cells yapi_Digest x12) fun w9 =>
R8 () w9) w6) (
R8 () w6)) (fun x7 w7 => ∀ _ : Env,
∃ x13 : yapi_Digest.T, At w7 a1 (cells yapi_Digest x13) ∧
∃ x14 : yapi_Digest.T, At w7 a1 (cells yapi_Digest x14) ∧
C_digest_Join x13 x14 (fun x15 w10 =>
stK w10 a1 (cells yapi_Digest x15) fun w11 =>
(2 : Int) ≠ 0 ∧
arith .i64 (Int.tdiv x5.1 (2 : Int)) fun n16 =>
next6 (n16, ()) w11) w7)) (
∃ x17 : yapi_Digest.T, At w6 a4 (cells yapi_Digest x17) ∧
stK w6 a2 (cells yapi_Digest x17) fun w12 =>
∃ x18 : yapi_Digest.T, At w12 a2 (cells yapi_Digest x18) ∧
K x18 w12)) w2
theorem S_digest_Repeat (v0_d : yapi_Digest.T) (v1_k : Int) (K : yapi_Digest.T → World → Prop) (w0 : World) (h : F_digest_Repeat v0_d v1_k K w0) : C_digest_Repeat v0_d v1_k K w0 := by
  have e : denFn P [(1002, [(1, .int .i64)]), (6, [])] Try.f89 #[val yapi_Digest v0_d, .int .i64 v1_k] yapi_Digest K w0 = F_digest_Repeat v0_d v1_k K w0 := by kernel_rfl
  exact fn_sound mixed (f := 89) Try.func89 (by kernel_rfl) (e.mpr h)

def F_digest_Join (v0_a : yapi_Digest.T) (v1_b : yapi_Digest.T) (K : yapi_Digest.T → World → Prop) (w0 : World) : Prop :=
allocK (.cells (cells yapi_Digest v0_a).toArray t_api_Digest) w0 fun a1 w1 =>
allocK (.cells (cells yapi_Digest v1_b).toArray t_api_Digest) w1 fun a2 w2 =>
allocK (.cells #[.int .u64 (0 : Int), .int .u64 (0 : Int)] t_api_Digest) w2 fun a3 w3 =>
drawK w3 fun w4 =>
∃ x4 : Int, At w4 (a1.add 0) (cells (.int .u64) x4) ∧
∃ x5 : Int, At w4 (a2.add 1) (cells (.int .u64) x5) ∧
∃ x6 : Int, At w4 (a2.add 0) (cells (.int .u64) x6) ∧
∃ x7 : Int, At w4 (a1.add 1) (cells (.int .u64) x7) ∧
∃ x8 : Int, At w4 (a2.add 1) (cells (.int .u64) x8) ∧
C_modular_Mul x4 x5 (fun x9 w5 =>
At w5 (a2.add 1) (cells (.int .u64) x8) ∧
At w5 (a1.add 1) (cells (.int .u64) x7) ∧
At w5 (a2.add 0) (cells (.int .u64) x6) ∧
C_modular_Add x9 x6 (fun x10 w6 =>
At w6 (a2.add 1) (cells (.int .u64) x8) ∧
At w6 (a1.add 1) (cells (.int .u64) x7) ∧
C_modular_Mul x7 x8 (fun x11 w7 =>
stK w7 a3 ([.int .u64 x10, .int .u64 x11]) fun w8 =>
∃ x12 : yapi_Digest.T, At w8 a3 (cells yapi_Digest x12) ∧
K x12 w8) w6) w5) w4
theorem S_digest_Join (v0_a : yapi_Digest.T) (v1_b : yapi_Digest.T) (K : yapi_Digest.T → World → Prop) (w0 : World) (h : F_digest_Join v0_a v1_b K w0) : C_digest_Join v0_a v1_b K w0 := by
  have e : denFn P [] Try.f90 #[val yapi_Digest v0_a, val yapi_Digest v1_b] yapi_Digest K w0 = F_digest_Join v0_a v1_b K w0 := by kernel_rfl
  exact fn_sound mixed (f := 90) Try.func90 (by kernel_rfl) (e.mpr h)

def F_digest_Unit  (K : yapi_Digest.T → World → Prop) (w0 : World) : Prop :=
allocK (.cells #[.int .u64 (0 : Int), .int .u64 (0 : Int)] t_api_Digest) w0 fun a1 w1 =>
stK w1 a1 ([.int .u64 (0 : Int), .int .u64 (1 : Int)]) fun w2 =>
∃ x2 : yapi_Digest.T, At w2 a1 (cells yapi_Digest x2) ∧
K x2 w2
theorem S_digest_Unit  (K : yapi_Digest.T → World → Prop) (w0 : World) (h : F_digest_Unit  K w0) : C_digest_Unit  K w0 := by
  have e : denFn P [] Try.f97 #[] yapi_Digest K w0 = F_digest_Unit  K w0 := by kernel_rfl
  exact fn_sound mixed (f := 97) Try.func97 (by kernel_rfl) (e.mpr h)

def F_modular_Pow (v0_a : Int) (v1_n : Int) (K : Int → World → Prop) (w0 : World) : Prop :=
C_modular_Reduce v0_a (fun x1 w1 =>
LoopP (X := Int × Int × Int × Unit) (x1, v1_n, (1 : Int), ()) w1 fun next3 x2 w2 => ∀ _ : Env,
gd (decide ((0 : Int) < x2.2.1)) (
JoinP (X := Int × Unit) (fun R5 =>
(2 : Int) ≠ 0 ∧
letZ (Int.tmod x2.2.1 (2 : Int)) fun n6 =>
gd (n6 == (1 : Int)) (
C_modular_Mul x2.2.2.1 x2.1 (fun x7 w4 =>
R5 (x7, ()) w4) w2) (
R5 (x2.2.2.1, ()) w2)) (fun x4 w3 => ∀ _ : Env,
C_modular_Mul x2.1 x2.1 (fun x8 w5 =>
(2 : Int) ≠ 0 ∧
arith .u64 (Int.tdiv x2.2.1 (2 : Int)) fun n9 =>
next3 (x8, n9, x4.1, ()) w5) w3)) (
K x2.2.2.1 w2)) w0
theorem S_modular_Pow (v0_a : Int) (v1_n : Int) (K : Int → World → Prop) (w0 : World) (h : F_modular_Pow v0_a v1_n K w0) : C_modular_Pow v0_a v1_n K w0 := by
  have e : denFn P [(1003, [(0, .int .u64), (1, .int .u64), (5, .int .u64)]), (7, [(5, .int .u64)])] Try.f98 #[.int .u64 v0_a, .int .u64 v1_n] (.int .u64) K w0 = F_modular_Pow v0_a v1_n K w0 := by kernel_rfl
  exact fn_sound mixed (f := 98) Try.func98 (by kernel_rfl) (e.mpr h)

def F_modular_Add (v0_a : Int) (v1_b : Int) (K : Int → World → Prop) (w0 : World) : Prop :=
C_modular_Reduce v0_a (fun x1 w1 =>
C_modular_Reduce v1_b (fun x2 w2 =>
arith .u64 (x1 + x2) fun n3 =>
C_modular_Reduce n3 (fun x4 w3 =>
K x4 w3) w2) w1) w0
theorem S_modular_Add (v0_a : Int) (v1_b : Int) (K : Int → World → Prop) (w0 : World) (h : F_modular_Add v0_a v1_b K w0) : C_modular_Add v0_a v1_b K w0 := by
  have e : denFn P [] Try.f99 #[.int .u64 v0_a, .int .u64 v1_b] (.int .u64) K w0 = F_modular_Add v0_a v1_b K w0 := by kernel_rfl
  exact fn_sound mixed (f := 99) Try.func99 (by kernel_rfl) (e.mpr h)

def F_modular_Mul (v0_a : Int) (v1_b : Int) (K : Int → World → Prop) (w0 : World) : Prop :=
C_modular_Reduce v0_a (fun x1 w1 =>
C_modular_Reduce v1_b (fun x2 w2 =>
C_bits_Mul64 x1 x2 (fun x3 w3 =>
0 ≤ (3 : Int) ∧
arith .u64 (x3.1 * 2 ^ min (Int.toNat (3 : Int)) (IntKind.bits .u64)) fun n4 =>
0 ≤ (61 : Int) ∧
letZ (Int.fdiv x3.2 (2 ^ min (Int.toNat (61 : Int)) (IntKind.bits .u64))) fun n5 =>
arith .u64 (n4 + n5) fun n6 =>
arith .u64 ((BitVec.ofInt (IntKind.bits .u64) x3.2 &&& BitVec.ofInt (IntKind.bits .u64) (2305843009213693951 : Int)).toNat) fun n7 =>
arith .u64 (n6 + n7) fun n8 =>
C_modular_Reduce n8 (fun x9 w4 =>
K x9 w4) w3) w2) w1) w0
theorem S_modular_Mul (v0_a : Int) (v1_b : Int) (K : Int → World → Prop) (w0 : World) (h : F_modular_Mul v0_a v1_b K w0) : C_modular_Mul v0_a v1_b K w0 := by
  have e : denFn P [] Try.f100 #[.int .u64 v0_a, .int .u64 v1_b] (.int .u64) K w0 = F_modular_Mul v0_a v1_b K w0 := by kernel_rfl
  exact fn_sound mixed (f := 100) Try.func100 (by kernel_rfl) (e.mpr h)

def F_modular_Reduce (v0_x : Int) (K : Int → World → Prop) (w0 : World) : Prop :=
arith .u64 ((BitVec.ofInt (IntKind.bits .u64) v0_x &&& BitVec.ofInt (IntKind.bits .u64) (2305843009213693951 : Int)).toNat) fun n1 =>
0 ≤ (61 : Int) ∧
letZ (Int.fdiv v0_x (2 ^ min (Int.toNat (61 : Int)) (IntKind.bits .u64))) fun n2 =>
arith .u64 (n1 + n2) fun n3 =>
JoinP (X := Int × Unit) (fun R5 =>
gd (decide ((2305843009213693951 : Int) ≤ n3)) (
arith .u64 (n3 - (2305843009213693951 : Int)) fun n6 =>
R5 (n6, ()) w0) (
R5 (n3, ()) w0)) (fun x4 w1 => ∀ _ : Env,
K x4.1 w1)
theorem S_modular_Reduce (v0_x : Int) (K : Int → World → Prop) (w0 : World) (h : F_modular_Reduce v0_x K w0) : C_modular_Reduce v0_x K w0 := by
  have e : denFn P [(4, [(0, .int .u64)])] Try.f102 #[.int .u64 v0_x] (.int .u64) K w0 = F_modular_Reduce v0_x K w0 := by kernel_rfl
  exact fn_sound mixed (f := 102) Try.func102 (by kernel_rfl) (e.mpr h)

def F_bits_Mul64 (v0_x : Int) (v1_y : Int) (K : (Int × Int) → World → Prop) (w0 : World) : Prop :=
arith .u64 ((BitVec.ofInt (IntKind.bits .u64) v0_x &&& BitVec.ofInt (IntKind.bits .u64) (4294967295 : Int)).toNat) fun n1 =>
0 ≤ (32 : Int) ∧
letZ (Int.fdiv v0_x (2 ^ min (Int.toNat (32 : Int)) (IntKind.bits .u64))) fun n2 =>
arith .u64 ((BitVec.ofInt (IntKind.bits .u64) v1_y &&& BitVec.ofInt (IntKind.bits .u64) (4294967295 : Int)).toNat) fun n3 =>
0 ≤ (32 : Int) ∧
letZ (Int.fdiv v1_y (2 ^ min (Int.toNat (32 : Int)) (IntKind.bits .u64))) fun n4 =>
arith .u64 (n1 * n3) fun n5 =>
arith .u64 (n2 * n3) fun n6 =>
0 ≤ (32 : Int) ∧
letZ (Int.fdiv n5 (2 ^ min (Int.toNat (32 : Int)) (IntKind.bits .u64))) fun n7 =>
arith .u64 (n6 + n7) fun n8 =>
arith .u64 ((BitVec.ofInt (IntKind.bits .u64) n8 &&& BitVec.ofInt (IntKind.bits .u64) (4294967295 : Int)).toNat) fun n9 =>
0 ≤ (32 : Int) ∧
letZ (Int.fdiv n8 (2 ^ min (Int.toNat (32 : Int)) (IntKind.bits .u64))) fun n10 =>
arith .u64 (n1 * n4) fun n11 =>
arith .u64 (n9 + n11) fun n12 =>
arith .u64 (n2 * n4) fun n13 =>
arith .u64 (n13 + n10) fun n14 =>
0 ≤ (32 : Int) ∧
letZ (Int.fdiv n12 (2 ^ min (Int.toNat (32 : Int)) (IntKind.bits .u64))) fun n15 =>
arith .u64 (n14 + n15) fun n16 =>
arith .u64 (v0_x * v1_y) fun n17 =>
K (n16, n17) w0
theorem S_bits_Mul64 (v0_x : Int) (v1_y : Int) (K : (Int × Int) → World → Prop) (w0 : World) (h : F_bits_Mul64 v0_x v1_y K w0) : C_bits_Mul64 v0_x v1_y K w0 := by
  have e : denFn P [] Try.f103 #[.int .u64 v0_x, .int .u64 v1_y] (.tup (.pair (.int .u64) (.int .u64))) K w0 = F_bits_Mul64 v0_x v1_y K w0 := by kernel_rfl
  exact fn_sound mixed (f := 103) Try.func103 (by kernel_rfl) (e.mpr h)

end Go.Proofs.Ytbghccafigmnjaa
