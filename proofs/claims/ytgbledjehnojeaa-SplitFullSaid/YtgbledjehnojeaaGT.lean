/- Texts that belong together, joined: TextC, Text1, Text2, Text3, Text4, TextAll. No conditions. -/
import Derived.Test.YtgbledjehnojeaaProg
import Derived.Test.YtgbledjehnojeaaDenC
/- The typed texts of the functions, printed by a program; each proved to imply the call. -/
set_option linter.unusedVariables false
set_option maxRecDepth 100000
namespace Go.Proofs.Ytgbledjehnojeaa
open Go.Den

noncomputable def P : Program := Try.prog
theorem mixed : P.follows .mixedOrders = true := by kernel_rfl

abbrev t_int : Nat := 3
abbrev t_uint8 : Nat := 5
abbrev t_string : Nat := 9
abbrev t_evergreenlaw14_Made : Nat := 28
abbrev t_api_ID : Nat := 31
abbrev t_sl_uint8 : Nat := 32
abbrev t_api_Digest : Nat := 43
abbrev t_api_Weight : Nat := 45
abbrev t_api_Errno : Nat := 66
abbrev t_evergreenlaw14_Step : Nat := 80
abbrev t_api_Rule : Nat := 86
abbrev t_intern_entry : Nat := 88
abbrev t_map_api_Rule_api_ID : Nat := 94
abbrev t_intern_Store : Nat := 96
abbrev t_map_api_ID_api_ID : Nat := 108
abbrev t_map_api_ID_bool : Nat := 123

abbrev yevergreenlaw14_Made : Ty := .st (.pair .ptr (.pair .slice (.pair .slice .slice)))
abbrev yapi_Digest : Ty := .st (.pair (.int .u64) (.int .u64))
abbrev yapi_Weight : Ty := .st (.pair (.int .i64) (.pair (.int .i64) (.pair (.int .i64) (.pair (.int .i64) yapi_Digest))))
abbrev yevergreenlaw14_Step : Ty := .st (.pair .bool (.pair (.int .u8) (.pair (.int .u8) (.int .u8))))
abbrev yapi_Rule : Ty := .st (.pair (.int .i64) (.pair (.int .u8) (.pair (.int .i64) (.pair (.int .i64) (.int .i64)))))
abbrev yintern_entry : Ty := .st (.pair yapi_Rule (.pair yapi_Weight (.pair (.int .i64) .bool)))
abbrev yintern_Store : Ty := .st (.pair (.int .i64) (.pair .slice .map))

def C_law14_SplitRejoins (v0_list : Sl) (v1_at : Int) (K : Bool → World → Prop) (w0 : World) : Prop := callP P 3 #[.slice v0_list.a v0_list.len v0_list.cap, .int .i64 v1_at] .bool w0 K
def C_law14_SplitCreates (v0_list : Sl) (v1_from : Int) (v2_n : Int) (K : Bool → World → Prop) (w0 : World) : Prop := callP P 4 #[.slice v0_list.a v0_list.len v0_list.cap, .int .i64 v1_from, .int .i64 v2_n] .bool w0 K
def C_law14_SplitNests (v0_list : Sl) (v1_at : Sl) (K : Bool → World → Prop) (w0 : World) : Prop := callP P 5 #[.slice v0_list.a v0_list.len v0_list.cap, .slice v1_at.a v1_at.len v1_at.cap] .bool w0 K
def C_law14_SplitErrors (v0_list : Sl) (v1_raw : Int) (v2_at : Int) (K : Bool → World → Prop) (w0 : World) : Prop := callP P 6 #[.slice v0_list.a v0_list.len v0_list.cap, .int .i64 v1_raw, .int .i64 v2_at] .bool w0 K
def C_law14_SplitDivides (v0_list : Sl) (v1_at : Int) (K : Bool → World → Prop) (w0 : World) : Prop := callP P 7 #[.slice v0_list.a v0_list.len v0_list.cap, .int .i64 v1_at] .bool w0 K
def C_law14_SplitSections (v0_list : Sl) (v1_from : Int) (v2_n : Int) (K : Bool → World → Prop) (w0 : World) : Prop := callP P 8 #[.slice v0_list.a v0_list.len v0_list.cap, .int .i64 v1_from, .int .i64 v2_n] .bool w0 K
def C_law14_SplitCuts (v0_list : Sl) (v1_at : Sl) (K : Bool → World → Prop) (w0 : World) : Prop := callP P 9 #[.slice v0_list.a v0_list.len v0_list.cap, .slice v1_at.a v1_at.len v1_at.cap] .bool w0 K
def C_law14_SplitFull (v0_list : Sl) (v1_at : Int) (v2_room : Int) (K : Bool → World → Prop) (w0 : World) : Prop := callP P 10 #[.slice v0_list.a v0_list.len v0_list.cap, .int .i64 v1_at, .int .u16 v2_room] .bool w0 K
def C_law14_Build (v0_list : Sl) (K : (yevergreenlaw14_Made.T × Bool) → World → Prop) (w0 : World) : Prop := callP P 11 #[.slice v0_list.a v0_list.len v0_list.cap] (.tup (.pair yevergreenlaw14_Made .bool)) w0 K
def C_law14_Made_Last (v0_m : yevergreenlaw14_Made.T) (K : (Int × Int × Sl × Bool) → World → Prop) (w0 : World) : Prop := callP P 12 #[val yevergreenlaw14_Made v0_m] (.tup (.pair (.int .i64) (.pair (.int .i64) (.pair .slice .bool)))) w0 K
def C_law14_awake  (K : Bool → World → Prop) (w0 : World) : Prop := callP P 13 #[] .bool w0 K
def C_law14_offset (v0_at : Int) (v1_n : Int) (K : Int → World → Prop) (w0 : World) : Prop := callP P 14 #[.int .i64 v0_at, .int .i64 v1_n] (.int .i64) w0 K
def C_split_Split (v0_s : Option Addr) (v1_id : Int) (v2_at : Int) (K : (Int × Int × Value) → World → Prop) (w0 : World) : Prop := callP P 15 #[.pointer v0_s, .int .i64 v1_id, .int .i64 v2_at] (.tup (.pair (.int .i64) (.pair (.int .i64) .iface))) w0 K
def C_intern_Store_Weight (v0_s : Option Addr) (v1_id : Int) (K : (yapi_Weight.T × Value) → World → Prop) (w0 : World) : Prop := callP P 16 #[.pointer v0_s, .int .i64 v1_id] (.tup (.pair yapi_Weight .iface)) w0 K
def C_weight_Join (v0_a : yapi_Weight.T) (v1_b : yapi_Weight.T) (K : (yapi_Weight.T × Value) → World → Prop) (w0 : World) : Prop := callP P 17 #[val yapi_Weight v0_a, val yapi_Weight v1_b] (.tup (.pair yapi_Weight .iface)) w0 K
def C_avl_Join (v0_s : Option Addr) (v1_a : Int) (v2_b : Int) (K : (Int × Value) → World → Prop) (w0 : World) : Prop := callP P 18 #[.pointer v0_s, .int .i64 v1_a, .int .i64 v2_b] (.tup (.pair (.int .i64) .iface)) w0 K
def C_avl_Balanced (v0_s : Option Addr) (v1_id : Int) (K : (Bool × Value) → World → Prop) (w0 : World) : Prop := callP P 19 #[.pointer v0_s, .int .i64 v1_id] (.tup (.pair .bool .iface)) w0 K
def C_intern_Store_Depth (v0_s : Option Addr) (v1_id : Int) (K : (Int × Value) → World → Prop) (w0 : World) : Prop := callP P 20 #[.pointer v0_s, .int .i64 v1_id] (.tup (.pair (.int .i64) .iface)) w0 K
def C_intern_Store_Len (v0_s : Option Addr) (K : Int → World → Prop) (w0 : World) : Prop := callP P 21 #[.pointer v0_s] (.int .i64) w0 K
def C_split_Section (v0_s : Option Addr) (v1_id : Int) (v2_from : Int) (v3_n : Int) (K : (Int × Value) → World → Prop) (w0 : World) : Prop := callP P 22 #[.pointer v0_s, .int .i64 v1_id, .int .i64 v2_from, .int .i64 v3_n] (.tup (.pair (.int .i64) .iface)) w0 K
def C_split_Cut (v0_s : Option Addr) (v1_id : Int) (v2_at : Sl) (K : (Sl × Value) → World → Prop) (w0 : World) : Prop := callP P 23 #[.pointer v0_s, .int .i64 v1_id, .slice v2_at.a v2_at.len v2_at.cap] (.tup (.pair .slice .iface)) w0 K
def C_intern_Store_Letter (v0_s : Option Addr) (v1_b : Int) (K : (Int × Value) → World → Prop) (w0 : World) : Prop := callP P 24 #[.pointer v0_s, .int .u8 v1_b] (.tup (.pair (.int .i64) .iface)) w0 K
def C_intern_Store_Power (v0_s : Option Addr) (v1_x : Int) (v2_k : Int) (K : (Int × Value) → World → Prop) (w0 : World) : Prop := callP P 25 #[.pointer v0_s, .int .i64 v1_x, .int .i64 v2_k] (.tup (.pair (.int .i64) .iface)) w0 K
def C_intern_Store_Pair (v0_s : Option Addr) (v1_l : Int) (v2_r : Int) (K : (Int × Value) → World → Prop) (w0 : World) : Prop := callP P 26 #[.pointer v0_s, .int .i64 v1_l, .int .i64 v2_r] (.tup (.pair (.int .i64) .iface)) w0 K
def C_law14_fails (v0_s : Option Addr) (v1_raw : Int) (v2_at : Int) (v3_n : Int) (v4_want : Int) (K : Bool → World → Prop) (w0 : World) : Prop := callP P 27 #[.pointer v0_s, .int .i64 v1_raw, .int .i64 v2_at, .int .i64 v3_n, .int .i64 v4_want] .bool w0 K
def C_base_Is (v0_e : Value) (v1_want : Int) (K : Bool → World → Prop) (w0 : World) : Prop := callP P 28 #[v0_e, .int .i64 v1_want] .bool w0 K
def C_law14_is (v0_s : Option Addr) (v1_id : Int) (v2_want : Sl) (K : Bool → World → Prop) (w0 : World) : Prop := callP P 29 #[.pointer v0_s, .int .i64 v1_id, .slice v2_want.a v2_want.len v2_want.cap] .bool w0 K
def C_ref01_Range (v0_from : Int) (v1_n : Int) (v2_length : Int) (K : Bool → World → Prop) (w0 : World) : Prop := callP P 30 #[.int .i64 v0_from, .int .i64 v1_n, .int .i64 v2_length] .bool w0 K
def C_ref14_Parts (v0_text : Sl) (v1_at : Sl) (K : (Sl × Bool) → World → Prop) (w0 : World) : Prop := callP P 31 #[.slice v0_text.a v0_text.len v0_text.cap, .slice v1_at.a v1_at.len v1_at.cap] (.tup (.pair .slice .bool)) w0 K
def C_intern_Store_Export (v0_s : Option Addr) (v1_id : Int) (K : (Sl × Value) → World → Prop) (w0 : World) : Prop := callP P 32 #[.pointer v0_s, .int .i64 v1_id] (.tup (.pair .slice .iface)) w0 K
def C_intern_New (v0_most : Int) (K : (Option Addr) → World → Prop) (w0 : World) : Prop := callP P 33 #[.int .i64 v0_most] .ptr w0 K
def C_intern_Store_Import (v0_s : Option Addr) (v1_list : Sl) (K : (Int × Value) → World → Prop) (w0 : World) : Prop := callP P 34 #[.pointer v0_s, .slice v1_list.a v1_list.len v1_list.cap] (.tup (.pair (.int .i64) .iface)) w0 K
def C_split_check (v0_s : Option Addr) (v1_id : Int) (K : (Int × Value) → World → Prop) (w0 : World) : Prop := callP P 35 #[.pointer v0_s, .int .i64 v1_id] (.tup (.pair (.int .i64) .iface)) w0 K
def C_split_front (v0_s : Option Addr) (v1_id : Int) (v2_n : Int) (K : (Int × Value) → World → Prop) (w0 : World) : Prop := callP P 36 #[.pointer v0_s, .int .i64 v1_id, .int .i64 v2_n] (.tup (.pair (.int .i64) .iface)) w0 K
def C_split_rest (v0_s : Option Addr) (v1_id : Int) (v2_from : Int) (K : (Int × Value) → World → Prop) (w0 : World) : Prop := callP P 37 #[.pointer v0_s, .int .i64 v1_id, .int .i64 v2_from] (.tup (.pair (.int .i64) .iface)) w0 K
def C_intern_Store_known (v0_s : Option Addr) (v1_id : Int) (K : Bool → World → Prop) (w0 : World) : Prop := callP P 38 #[.pointer v0_s, .int .i64 v1_id] .bool w0 K
def C_intern_Store_at (v0_s : Option Addr) (v1_id : Int) (K : yintern_entry.T → World → Prop) (w0 : World) : Prop := callP P 39 #[.pointer v0_s, .int .i64 v1_id] yintern_entry w0 K
def C_weight_Valid (v0_w : yapi_Weight.T) (K : Bool → World → Prop) (w0 : World) : Prop := callP P 40 #[val yapi_Weight v0_w] .bool w0 K
def C_length_Add (v0_a : Int) (v1_b : Int) (K : (Int × Value) → World → Prop) (w0 : World) : Prop := callP P 41 #[.int .i64 v0_a, .int .i64 v1_b] (.tup (.pair (.int .i64) .iface)) w0 K
def C_digest_Join (v0_a : yapi_Digest.T) (v1_b : yapi_Digest.T) (K : yapi_Digest.T → World → Prop) (w0 : World) : Prop := callP P 42 #[val yapi_Digest v0_a, val yapi_Digest v1_b] yapi_Digest w0 K
def C_intern_Store_Even (v0_s : Option Addr) (v1_id : Int) (K : Bool → World → Prop) (w0 : World) : Prop := callP P 43 #[.pointer v0_s, .int .i64 v1_id] .bool w0 K
def C_avl_join (v0_s : Option Addr) (v1_a : Int) (v2_b : Int) (K : (Int × Value) → World → Prop) (w0 : World) : Prop := callP P 44 #[.pointer v0_s, .int .i64 v1_a, .int .i64 v2_b] (.tup (.pair (.int .i64) .iface)) w0 K
def C_length_Range (v0_from : Int) (v1_n : Int) (v2_length : Int) (K : Value → World → Prop) (w0 : World) : Prop := callP P 45 #[.int .i64 v0_from, .int .i64 v1_n, .int .i64 v2_length] .iface w0 K
def C_split_section (v0_s : Option Addr) (v1_id : Int) (v2_from : Int) (v3_n : Int) (K : (Int × Value) → World → Prop) (w0 : World) : Prop := callP P 46 #[.pointer v0_s, .int .i64 v1_id, .int .i64 v2_from, .int .i64 v3_n] (.tup (.pair (.int .i64) .iface)) w0 K
def C_intern_Store_find (v0_s : Option Addr) (v1_r : yapi_Rule.T) (K : (Int × Value) → World → Prop) (w0 : World) : Prop := callP P 47 #[.pointer v0_s, val yapi_Rule v1_r] (.tup (.pair (.int .i64) .iface)) w0 K
def C_intern_Store_add (v0_s : Option Addr) (v1_e : yintern_entry.T) (K : Int → World → Prop) (w0 : World) : Prop := callP P 48 #[.pointer v0_s, val yintern_entry v1_e] (.int .i64) w0 K
def C_weight_Letter (v0_b : Int) (K : yapi_Weight.T → World → Prop) (w0 : World) : Prop := callP P 49 #[.int .u8 v0_b] yapi_Weight w0 K
def C_length_Mul (v0_a : Int) (v1_k : Int) (K : (Int × Value) → World → Prop) (w0 : World) : Prop := callP P 50 #[.int .i64 v0_a, .int .i64 v1_k] (.tup (.pair (.int .i64) .iface)) w0 K
def C_weight_Repeat (v0_w : yapi_Weight.T) (v1_k : Int) (K : (yapi_Weight.T × Value) → World → Prop) (w0 : World) : Prop := callP P 51 #[val yapi_Weight v0_w, .int .i64 v1_k] (.tup (.pair yapi_Weight .iface)) w0 K
def C_base_Num (v0_e : Value) (K : Int → World → Prop) (w0 : World) : Prop := callP P 52 #[v0_e] (.int .i64) w0 K
def C_law14_Plain (v0_s : Option Addr) (v1_id : Int) (K : (Sl × Bool) → World → Prop) (w0 : World) : Prop := callP P 53 #[.pointer v0_s, .int .i64 v1_id] (.tup (.pair .slice .bool)) w0 K
def C_base_Bytes (v0_a : Sl) (v1_b : Sl) (K : Bool → World → Prop) (w0 : World) : Prop := callP P 54 #[.slice v0_a.a v0_a.len v0_a.cap, .slice v1_b.a v1_b.len v1_b.cap] .bool w0 K
def C_ref01_Valid (v0_n : Int) (K : Bool → World → Prop) (w0 : World) : Prop := callP P 55 #[.int .i64 v0_n] .bool w0 K
def C_intern_Store_reach (v0_s : Option Addr) (v1_id : Int) (K : Sl → World → Prop) (w0 : World) : Prop := callP P 56 #[.pointer v0_s, .int .i64 v1_id] .slice w0 K
def C_length_Clip (v0_n : Int) (v1_low : Int) (v2_high : Int) (K : Int → World → Prop) (w0 : World) : Prop := callP P 57 #[.int .i64 v0_n, .int .i64 v1_low, .int .i64 v2_high] (.int .i64) w0 K
def C_rule_Check (v0_r : yapi_Rule.T) (v1_n : Int) (K : Value → World → Prop) (w0 : World) : Prop := callP P 58 #[val yapi_Rule v0_r, .int .i64 v1_n] .iface w0 K
def C_intern_Store_put (v0_s : Option Addr) (v1_r : yapi_Rule.T) (v2_to : Sl) (K : (Int × Value) → World → Prop) (w0 : World) : Prop := callP P 59 #[.pointer v0_s, val yapi_Rule v1_r, .slice v2_to.a v2_to.len v2_to.cap] (.tup (.pair (.int .i64) .iface)) w0 K
def C_split_size (v0_s : Option Addr) (v1_id : Int) (K : (Int × Value) → World → Prop) (w0 : World) : Prop := callP P 60 #[.pointer v0_s, .int .i64 v1_id] (.tup (.pair (.int .i64) .iface)) w0 K
def C_intern_Store_Rule (v0_s : Option Addr) (v1_id : Int) (K : (yapi_Rule.T × Value) → World → Prop) (w0 : World) : Prop := callP P 61 #[.pointer v0_s, .int .i64 v1_id] (.tup (.pair yapi_Rule .iface)) w0 K
def C_weight_Unit  (K : yapi_Weight.T → World → Prop) (w0 : World) : Prop := callP P 62 #[] yapi_Weight w0 K
def C_length_Valid (v0_n : Int) (K : Bool → World → Prop) (w0 : World) : Prop := callP P 63 #[.int .i64 v0_n] .bool w0 K
def C_modular_Pow (v0_a : Int) (v1_n : Int) (K : Int → World → Prop) (w0 : World) : Prop := callP P 64 #[.int .u64 v0_a, .int .u64 v1_n] (.int .u64) w0 K
def C_modular_Add (v0_a : Int) (v1_b : Int) (K : Int → World → Prop) (w0 : World) : Prop := callP P 65 #[.int .u64 v0_a, .int .u64 v1_b] (.int .u64) w0 K
def C_modular_Mul (v0_a : Int) (v1_b : Int) (K : Int → World → Prop) (w0 : World) : Prop := callP P 66 #[.int .u64 v0_a, .int .u64 v1_b] (.int .u64) w0 K
def C_avl_parts (v0_s : Option Addr) (v1_id : Int) (K : (Int × Int × Int × Int × Value) → World → Prop) (w0 : World) : Prop := callP P 67 #[.pointer v0_s, .int .i64 v1_id] (.tup (.pair (.int .i64) (.pair (.int .i64) (.pair (.int .i64) (.pair (.int .i64) .iface))))) w0 K
def C_avl_level (v0_s : Option Addr) (v1_a : Int) (v2_b : Int) (K : (Int × Value) → World → Prop) (w0 : World) : Prop := callP P 68 #[.pointer v0_s, .int .i64 v1_a, .int .i64 v2_b] (.tup (.pair (.int .i64) .iface)) w0 K
def C_digest_Letter (v0_b : Int) (K : yapi_Digest.T → World → Prop) (w0 : World) : Prop := callP P 69 #[.int .u8 v0_b] yapi_Digest w0 K
def C_digest_Repeat (v0_d : yapi_Digest.T) (v1_k : Int) (K : yapi_Digest.T → World → Prop) (w0 : World) : Prop := callP P 70 #[val yapi_Digest v0_d, .int .i64 v1_k] yapi_Digest w0 K
def C_ref11_Plain (v0_g : Sl) (v1_n : Int) (K : (Sl × Bool) → World → Prop) (w0 : World) : Prop := callP P 71 #[.slice v0_g.a v0_g.len v0_g.cap, .int .i64 v1_n] (.tup (.pair .slice .bool)) w0 K
def C_rule_Refs (v0_r : yapi_Rule.T) (K : Sl → World → Prop) (w0 : World) : Prop := callP P 72 #[val yapi_Rule v0_r] .slice w0 K
def C_slices_Sort (a0 : Sl) (K : Unit → World → Prop) (w0 : World) : Prop := callP P 73 #[.slice a0.a a0.len a0.cap] (.tup .unit) w0 K
def C_rule_place (v0_r : yapi_Rule.T) (v1_n : Int) (K : Value → World → Prop) (w0 : World) : Prop := callP P 74 #[val yapi_Rule v0_r, .int .i64 v1_n] .iface w0 K
def C_digest_Unit  (K : yapi_Digest.T → World → Prop) (w0 : World) : Prop := callP P 75 #[] yapi_Digest w0 K
def C_modular_Reduce (v0_x : Int) (K : Int → World → Prop) (w0 : World) : Prop := callP P 76 #[.int .u64 v0_x] (.int .u64) w0 K
def C_bits_Mul64 (v0_x : Int) (v1_y : Int) (K : (Int × Int) → World → Prop) (w0 : World) : Prop := callP P 77 #[.int .u64 v0_x, .int .u64 v1_y] (.tup (.pair (.int .u64) (.int .u64))) w0 K
def C_avl_two (v0_s : Option Addr) (v1_a : Int) (v2_b : Int) (v3_c : Int) (K : (Int × Value) → World → Prop) (w0 : World) : Prop := callP P 78 #[.pointer v0_s, .int .i64 v1_a, .int .i64 v2_b, .int .i64 v3_c] (.tup (.pair (.int .i64) .iface)) w0 K
def C_avl_four (v0_s : Option Addr) (v1_a : Int) (v2_b : Int) (v3_c : Int) (v4_d : Int) (K : (Int × Value) → World → Prop) (w0 : World) : Prop := callP P 79 #[.pointer v0_s, .int .i64 v1_a, .int .i64 v2_b, .int .i64 v3_c, .int .i64 v4_d] (.tup (.pair (.int .i64) .iface)) w0 K
def C_ref11_Lengths (v0_g : Sl) (K : (Sl × Int) → World → Prop) (w0 : World) : Prop := callP P 80 #[.slice v0_g.a v0_g.len v0_g.cap] (.tup (.pair .slice (.int .i64))) w0 K
def C_ref11_plain (v0_g : Sl) (v1_n : Int) (K : Sl → World → Prop) (w0 : World) : Prop := callP P 81 #[.slice v0_g.a v0_g.len v0_g.cap, .int .i64 v1_n] .slice w0 K
def C_bits_Len (v0_x : Int) (K : Int → World → Prop) (w0 : World) : Prop := callP P 83 #[.int .u64 v0_x] (.int .i64) w0 K
def C_ref11_Check (v0_g : Sl) (K : Int → World → Prop) (w0 : World) : Prop := callP P 84 #[.slice v0_g.a v0_g.len v0_g.cap] (.int .i64) w0 K
def C_ref01_Add (v0_a : Int) (v1_b : Int) (K : (Int × Int) → World → Prop) (w0 : World) : Prop := callP P 85 #[.int .i64 v0_a, .int .i64 v1_b] (.tup (.pair (.int .i64) (.int .i64))) w0 K
def C_ref01_Mul (v0_a : Int) (v1_k : Int) (K : (Int × Int) → World → Prop) (w0 : World) : Prop := callP P 86 #[.int .i64 v0_a, .int .i64 v1_k] (.tup (.pair (.int .i64) (.int .i64))) w0 K
def C_bits_Len32 (v0_x : Int) (K : Int → World → Prop) (w0 : World) : Prop := callP P 96 #[.int .u32 v0_x] (.int .i64) w0 K
def C_bits_Len64 (v0_x : Int) (K : Int → World → Prop) (w0 : World) : Prop := callP P 97 #[.int .u64 v0_x] (.int .i64) w0 K
def C_ref11_Rule (v0_r : yapi_Rule.T) (v1_n : Int) (K : Int → World → Prop) (w0 : World) : Prop := callP P 98 #[val yapi_Rule v0_r, .int .i64 v1_n] (.int .i64) w0 K
def C_ref11_earlier (v0_id : Int) (v1_n : Int) (K : Bool → World → Prop) (w0 : World) : Prop := callP P 105 #[.int .i64 v0_id, .int .i64 v1_n] .bool w0 K

end Go.Proofs.Ytgbledjehnojeaa

/- The typed texts of the functions, printed by a program; each proved to imply the call. -/
set_option linter.unusedVariables false
set_option maxRecDepth 100000
set_option maxHeartbeats 4000000
namespace Go.Proofs.Ytgbledjehnojeaa
open Go.Den

def F_law14_SplitRejoins (v0_list : Sl) (v1_at : Int) (K : Bool → World → Prop) (w0 : World) : Prop :=
C_law14_Build v0_list (fun x1 w1 =>
allocK (.cells #[.pointer none, .slice none 0 0, .slice none 0 0, .slice none 0 0] t_evergreenlaw14_Made) w1 fun a2 w2 =>
stK w2 a2 (cells yevergreenlaw14_Made x1.1) fun w3 =>
∃ x3 : yevergreenlaw14_Made.T, At w3 a2 (cells yevergreenlaw14_Made x3) ∧
C_law14_Made_Last x3 (fun x4 w4 =>
JoinP (X := Bool × Unit) (fun R6 =>
gd (!x1.2) (
R6 (true, ()) w4) (
C_law14_awake  (fun x7 w6 =>
R6 (!x7, ()) w6) w4)) (fun x5 w5 => ∀ _ : Env,
gd x5.1 (
K false w5) (
arith .i64 ((BitVec.ofInt (IntKind.bits .i64) v1_at ||| BitVec.ofInt (IntKind.bits .i64) (1 : Int)).toNat) fun n8 =>
C_law14_offset n8 x4.2.1 (fun x9 w7 =>
∃ x10 : Option Addr, At w7 (a2.add 0) (cells .ptr x10) ∧
C_split_Split x10 x4.1 x9 (fun x11 w8 =>
nilIfcK x11.2.2 fun b12 =>
gd (!b12) (
K false w8) (
∃ x13 : Option Addr, At w8 (a2.add 0) (cells .ptr x13) ∧
C_intern_Store_Weight x13 x11.1 (fun x14 w9 =>
allocK (.cells #[.int .i64 (0 : Int), .int .i64 (0 : Int), .int .i64 (0 : Int), .int .i64 (0 : Int), .int .u64 (0 : Int), .int .u64 (0 : Int)] t_api_Weight) w9 fun a15 w10 =>
stK w10 a15 (cells yapi_Weight x14.1) fun w11 =>
∃ x16 : Option Addr, At w11 (a2.add 0) (cells .ptr x16) ∧
C_intern_Store_Weight x16 x11.2.1 (fun x17 w12 =>
allocK (.cells #[.int .i64 (0 : Int), .int .i64 (0 : Int), .int .i64 (0 : Int), .int .i64 (0 : Int), .int .u64 (0 : Int), .int .u64 (0 : Int)] t_api_Weight) w12 fun a18 w13 =>
stK w13 a18 (cells yapi_Weight x17.1) fun w14 =>
∃ x19 : Option Addr, At w14 (a2.add 0) (cells .ptr x19) ∧
C_intern_Store_Weight x19 x4.1 (fun x20 w15 =>
allocK (.cells #[.int .i64 (0 : Int), .int .i64 (0 : Int), .int .i64 (0 : Int), .int .i64 (0 : Int), .int .u64 (0 : Int), .int .u64 (0 : Int)] t_api_Weight) w15 fun a21 w16 =>
stK w16 a21 (cells yapi_Weight x20.1) fun w17 =>
JoinP (X := Bool × Unit) (fun R23 =>
nilIfcK x14.2 fun b24 =>
gd (!b24) (
R23 (true, ()) w17) (
nilIfcK x17.2 fun b25 =>
gd (!b25) (
R23 (true, ()) w17) (
nilIfcK x20.2 fun b26 =>
gd (!b26) (
R23 (true, ()) w17) (
∃ x27 : Int, At w17 (a15.add 0) (cells (.int .i64) x27) ∧
gd (x27 != x9) (
R23 (true, ()) w17) (
∃ x28 : Int, At w17 (a18.add 0) (cells (.int .i64) x28) ∧
arith .i64 (x4.2.1 - x9) fun n29 =>
R23 (x28 != n29, ()) w17))))) (fun x22 w18 => ∀ _ : Env,
gd x22.1 (
K false w18) (
∃ x30 : yapi_Weight.T, At w18 a15 (cells yapi_Weight x30) ∧
∃ x31 : yapi_Weight.T, At w18 a18 (cells yapi_Weight x31) ∧
C_weight_Join x30 x31 (fun x32 w19 =>
allocK (.cells #[.int .i64 (0 : Int), .int .i64 (0 : Int), .int .i64 (0 : Int), .int .i64 (0 : Int), .int .u64 (0 : Int), .int .u64 (0 : Int)] t_api_Weight) w19 fun a33 w20 =>
stK w20 a33 (cells yapi_Weight x32.1) fun w21 =>
∃ x34 : Option Addr, At w21 (a2.add 0) (cells .ptr x34) ∧
C_avl_Join x34 x11.1 x11.2.1 (fun x35 w22 =>
∃ x36 : Option Addr, At w22 (a2.add 0) (cells .ptr x36) ∧
C_avl_Balanced x36 x35.1 (fun x37 w23 =>
∃ x38 : Option Addr, At w23 (a2.add 0) (cells .ptr x38) ∧
C_intern_Store_Weight x38 x35.1 (fun x39 w24 =>
allocK (.cells #[.int .i64 (0 : Int), .int .i64 (0 : Int), .int .i64 (0 : Int), .int .i64 (0 : Int), .int .u64 (0 : Int), .int .u64 (0 : Int)] t_api_Weight) w24 fun a40 w25 =>
stK w25 a40 (cells yapi_Weight x39.1) fun w26 =>
nilIfcK x32.2 fun b41 =>
gd b41 (
nilIfcK x35.2 fun b42 =>
gd b42 (
nilIfcK x37.2 fun b43 =>
gd b43 (
nilIfcK x39.2 fun b44 =>
gd b44 (
gd x37.1 (
∃ x45 : yapi_Weight.T, At w26 a33 (cells yapi_Weight x45) ∧
∃ x46 : yapi_Weight.T, At w26 a21 (cells yapi_Weight x46) ∧
testK P (do eqGuard .eql t_api_Weight (.tmp 152) (.tmp 153) (val yapi_Weight x45) (val yapi_Weight x46); binOp .eql t_api_Weight (val yapi_Weight x45) (val yapi_Weight x46)) fun b47 =>
gd b47 (
∃ x48 : yapi_Weight.T, At w26 a40 (cells yapi_Weight x48) ∧
∃ x49 : yapi_Weight.T, At w26 a21 (cells yapi_Weight x49) ∧
testK P (do eqGuard .eql t_api_Weight (.tmp 157) (.tmp 158) (val yapi_Weight x48) (val yapi_Weight x49); binOp .eql t_api_Weight (val yapi_Weight x48) (val yapi_Weight x49)) fun b50 =>
K b50 w26) (
K false w26)) (
K false w26)) (
K false w26)) (
K false w26)) (
K false w26)) (
K false w26)) w23) w22) w21) w18))) w14) w11) w8)) w7) w5))) w3) w0
theorem S_law14_SplitRejoins (v0_list : Sl) (v1_at : Int) (K : Bool → World → Prop) (w0 : World) (h : F_law14_SplitRejoins v0_list v1_at K w0) : C_law14_SplitRejoins v0_list v1_at K w0 := by
  have e : denFn P [(4, [(45, .bool)]), (13, [(105, .bool)])] Try.f3 #[.slice v0_list.a v0_list.len v0_list.cap, .int .i64 v1_at] .bool K w0 = F_law14_SplitRejoins v0_list v1_at K w0 := by kernel_rfl
  exact fn_sound mixed (f := 3) Try.func3 (by kernel_rfl) (e.mpr h)

def F_law14_SplitCreates (v0_list : Sl) (v1_from : Int) (v2_n : Int) (K : Bool → World → Prop) (w0 : World) : Prop :=
C_law14_Build v0_list (fun x1 w1 =>
allocK (.cells #[.pointer none, .slice none 0 0, .slice none 0 0, .slice none 0 0] t_evergreenlaw14_Made) w1 fun a2 w2 =>
stK w2 a2 (cells yevergreenlaw14_Made x1.1) fun w3 =>
∃ x3 : yevergreenlaw14_Made.T, At w3 a2 (cells yevergreenlaw14_Made x3) ∧
C_law14_Made_Last x3 (fun x4 w4 =>
JoinP (X := Bool × Unit) (fun R6 =>
gd (!x1.2) (
R6 (true, ()) w4) (
C_law14_awake  (fun x7 w6 =>
R6 (!x7, ()) w6) w4)) (fun x5 w5 => ∀ _ : Env,
gd x5.1 (
K false w5) (
∃ x8 : Option Addr, At w5 (a2.add 0) (cells .ptr x8) ∧
C_intern_Store_Depth x8 x4.1 (fun x9 w7 =>
arith .i64 ((BitVec.ofInt (IntKind.bits .i64) v1_from ||| BitVec.ofInt (IntKind.bits .i64) (1 : Int)).toNat) fun n10 =>
C_law14_offset n10 x4.2.1 (fun x11 w8 =>
arith .i64 ((BitVec.ofInt (IntKind.bits .i64) v2_n ||| BitVec.ofInt (IntKind.bits .i64) (1 : Int)).toNat) fun n12 =>
arith .i64 (x4.2.1 - x11) fun n13 =>
C_law14_offset n12 n13 (fun x14 w9 =>
∃ x15 : Option Addr, At w9 (a2.add 0) (cells .ptr x15) ∧
C_intern_Store_Len x15 (fun x16 w10 =>
∃ x17 : Option Addr, At w10 (a2.add 0) (cells .ptr x17) ∧
C_split_Split x17 x4.1 x11 (fun x18 w11 =>
∃ x19 : Option Addr, At w11 (a2.add 0) (cells .ptr x19) ∧
C_intern_Store_Len x19 (fun x20 w12 =>
∃ x21 : Option Addr, At w12 (a2.add 0) (cells .ptr x21) ∧
C_split_Section x21 x4.1 x11 x14 (fun x22 w13 =>
∃ x23 : Option Addr, At w13 (a2.add 0) (cells .ptr x23) ∧
C_intern_Store_Len x23 (fun x24 w14 =>
∃ x25 : Option Addr, At w14 (a2.add 0) (cells .ptr x25) ∧
C_avl_Balanced x25 x18.1 (fun x26 w15 =>
∃ x27 : Option Addr, At w15 (a2.add 0) (cells .ptr x27) ∧
C_avl_Balanced x27 x18.2.1 (fun x28 w16 =>
∃ x29 : Option Addr, At w16 (a2.add 0) (cells .ptr x29) ∧
C_avl_Balanced x29 x22.1 (fun x30 w17 =>
JoinP (X := Bool × Unit) (fun R32 =>
nilIfcK x9.2 fun b33 =>
gd (!b33) (
R32 (true, ()) w17) (
nilIfcK x18.2.2 fun b34 =>
gd (!b34) (
R32 (true, ()) w17) (
nilIfcK x22.2 fun b35 =>
gd (!b35) (
R32 (true, ()) w17) (
nilIfcK x26.2 fun b36 =>
gd (!b36) (
R32 (true, ()) w17) (
nilIfcK x28.2 fun b37 =>
gd (!b37) (
R32 (true, ()) w17) (
nilIfcK x30.2 fun b38 =>
gd (!b38) (
R32 (true, ()) w17) (
gd (!x26.1) (
R32 (true, ()) w17) (
gd (!x28.1) (
R32 (true, ()) w17) (
R32 (!x30.1, ()) w17))))))))) (fun x31 w18 => ∀ _ : Env,
gd x31.1 (
K false w18) (
arith .i64 (x20 - x16) fun n39 =>
arith .i64 (x9.1 + (1 : Int)) fun n40 =>
arith .i64 ((16 : Int) * n40) fun n41 =>
gd (decide (n39 ≤ n41)) (
arith .i64 (x24 - x20) fun n42 =>
arith .i64 (x9.1 + (1 : Int)) fun n43 =>
arith .i64 ((40 : Int) * n43) fun n44 =>
K (decide (n42 ≤ n44)) w18) (
K false w18)))) w16) w15) w14) w13) w12) w11) w10) w9) w8) w7) w5))) w3) w0
theorem S_law14_SplitCreates (v0_list : Sl) (v1_from : Int) (v2_n : Int) (K : Bool → World → Prop) (w0 : World) (h : F_law14_SplitCreates v0_list v1_from v2_n K w0) : C_law14_SplitCreates v0_list v1_from v2_n K w0 := by
  have e : denFn P [(4, [(46, .bool)]), (17, [(145, .bool)])] Try.f4 #[.slice v0_list.a v0_list.len v0_list.cap, .int .i64 v1_from, .int .i64 v2_n] .bool K w0 = F_law14_SplitCreates v0_list v1_from v2_n K w0 := by kernel_rfl
  exact fn_sound mixed (f := 4) Try.func4 (by kernel_rfl) (e.mpr h)

def F_law14_SplitNests (v0_list : Sl) (v1_at : Sl) (K : Bool → World → Prop) (w0 : World) : Prop :=
C_law14_Build v0_list (fun x1 w1 =>
allocK (.cells #[.pointer none, .slice none 0 0, .slice none 0 0, .slice none 0 0] t_evergreenlaw14_Made) w1 fun a2 w2 =>
stK w2 a2 (cells yevergreenlaw14_Made x1.1) fun w3 =>
∃ x3 : yevergreenlaw14_Made.T, At w3 a2 (cells yevergreenlaw14_Made x3) ∧
C_law14_Made_Last x3 (fun x4 w4 =>
JoinP (X := Bool × Unit) (fun R6 =>
gd (!x1.2) (
R6 (true, ()) w4) (
C_law14_awake  (fun x7 w6 =>
R6 (!x7, ()) w6) w4)) (fun x5 w5 => ∀ _ : Env,
gd x5.1 (
K false w5) (
gd (decide ((v1_at.len : Int) < (4 : Int))) (
K true w5) (
idxK v1_at.a v1_at.len (0 : Int) 1 fun p8 =>
∃ x9 : Int, At w5 p8 (cells (.int .i64) x9) ∧
arith .i64 ((BitVec.ofInt (IntKind.bits .i64) x9 ||| BitVec.ofInt (IntKind.bits .i64) (1 : Int)).toNat) fun n10 =>
C_law14_offset n10 x4.2.1 (fun x11 w7 =>
idxK v1_at.a v1_at.len (1 : Int) 1 fun p12 =>
∃ x13 : Int, At w7 p12 (cells (.int .i64) x13) ∧
arith .i64 ((BitVec.ofInt (IntKind.bits .i64) x13 ||| BitVec.ofInt (IntKind.bits .i64) (1 : Int)).toNat) fun n14 =>
arith .i64 (x4.2.1 - x11) fun n15 =>
C_law14_offset n14 n15 (fun x16 w8 =>
idxK v1_at.a v1_at.len (2 : Int) 1 fun p17 =>
∃ x18 : Int, At w8 p17 (cells (.int .i64) x18) ∧
arith .i64 ((BitVec.ofInt (IntKind.bits .i64) x18 ||| BitVec.ofInt (IntKind.bits .i64) (1 : Int)).toNat) fun n19 =>
C_law14_offset n19 x16 (fun x20 w9 =>
idxK v1_at.a v1_at.len (3 : Int) 1 fun p21 =>
∃ x22 : Int, At w9 p21 (cells (.int .i64) x22) ∧
arith .i64 ((BitVec.ofInt (IntKind.bits .i64) x22 ||| BitVec.ofInt (IntKind.bits .i64) (1 : Int)).toNat) fun n23 =>
arith .i64 (x16 - x20) fun n24 =>
C_law14_offset n23 n24 (fun x25 w10 =>
∃ x26 : Option Addr, At w10 (a2.add 0) (cells .ptr x26) ∧
C_split_Section x26 x4.1 x11 x16 (fun x27 w11 =>
∃ x28 : Option Addr, At w11 (a2.add 0) (cells .ptr x28) ∧
C_split_Section x28 x27.1 x20 x25 (fun x29 w12 =>
∃ x30 : Option Addr, At w12 (a2.add 0) (cells .ptr x30) ∧
arith .i64 (x11 + x20) fun n31 =>
C_split_Section x30 x4.1 n31 x25 (fun x32 w13 =>
∃ x33 : Option Addr, At w13 (a2.add 0) (cells .ptr x33) ∧
arith .i64 (x11 + x20) fun n34 =>
arith .i64 (x11 + x20) fun n35 =>
arith .i64 (n35 + x25) fun n36 =>
arith .i64 (x11 + x16) fun n37 =>
allocK (.cells #[.int .i64 x11, .int .i64 n34, .int .i64 n36, .int .i64 n37] t_int) w13 fun a38 w14 =>
C_split_Cut x33 x4.1 (⟨some a38, 4, 4⟩) (fun x39 w15 =>
JoinP (X := Bool × Unit) (fun R41 =>
nilIfcK x27.2 fun b42 =>
gd (!b42) (
R41 (true, ()) w15) (
nilIfcK x29.2 fun b43 =>
gd (!b43) (
R41 (true, ()) w15) (
nilIfcK x32.2 fun b44 =>
gd (!b44) (
R41 (true, ()) w15) (
nilIfcK x39.2 fun b45 =>
gd (!b45) (
R41 (true, ()) w15) (
R41 ((x39.1.len : Int) != (5 : Int), ()) w15))))) (fun x40 w16 => ∀ _ : Env,
gd x40.1 (
K false w16) (
∃ x46 : Option Addr, At w16 (a2.add 0) (cells .ptr x46) ∧
C_intern_Store_Weight x46 x29.1 (fun x47 w17 =>
allocK (.cells #[.int .i64 (0 : Int), .int .i64 (0 : Int), .int .i64 (0 : Int), .int .i64 (0 : Int), .int .u64 (0 : Int), .int .u64 (0 : Int)] t_api_Weight) w17 fun a48 w18 =>
stK w18 a48 (cells yapi_Weight x47.1) fun w19 =>
∃ x49 : Option Addr, At w19 (a2.add 0) (cells .ptr x49) ∧
C_intern_Store_Weight x49 x32.1 (fun x50 w20 =>
allocK (.cells #[.int .i64 (0 : Int), .int .i64 (0 : Int), .int .i64 (0 : Int), .int .i64 (0 : Int), .int .u64 (0 : Int), .int .u64 (0 : Int)] t_api_Weight) w20 fun a51 w21 =>
stK w21 a51 (cells yapi_Weight x50.1) fun w22 =>
JoinP (X := Addr × Value × Unit) (fun R53 =>
drawK w22 fun w24 =>
∃ x54 : Option Addr, At w24 (a2.add 0) (cells .ptr x54) ∧
idxK x39.1.a x39.1.len (2 : Int) 1 fun p55 =>
∃ x56 : Int, At w24 p55 (cells (.int .i64) x56) ∧
(C_intern_Store_Weight x54 x56 (fun x57 w25 =>
allocK (.cells #[.int .i64 (0 : Int), .int .i64 (0 : Int), .int .i64 (0 : Int), .int .i64 (0 : Int), .int .u64 (0 : Int), .int .u64 (0 : Int)] t_api_Weight) w25 fun a58 w26 =>
stK w26 a58 (cells yapi_Weight x57.1) fun w27 =>
R53 (a58, x57.2, ()) w27) w24) ∧
(allocK (.cells #[.int .i64 (0 : Int), .int .i64 (0 : Int), .int .i64 (0 : Int), .int .i64 (0 : Int), .int .u64 (0 : Int), .int .u64 (0 : Int)] t_api_Weight) w24 fun a59 w28 =>
At w28 p55 (cells (.int .i64) x56) ∧
At w28 (a2.add 0) (cells .ptr x54) ∧
C_intern_Store_Weight x54 x56 (fun x60 w29 =>
stK w29 a59 (cells yapi_Weight x60.1) fun w30 =>
R53 (a59, x60.2, ()) w30) w28)) (fun x52 w23 => ∀ _ : Env,
nilIfcK x47.2 fun b61 =>
gd b61 (
nilIfcK x50.2 fun b62 =>
gd b62 (
nilIfcK x52.2.1 fun b63 =>
gd b63 (
∃ x64 : Int, At w23 (a48.add 0) (cells (.int .i64) x64) ∧
gd (x64 == x25) (
∃ x65 : yapi_Weight.T, At w23 a48 (cells yapi_Weight x65) ∧
∃ x66 : yapi_Weight.T, At w23 a51 (cells yapi_Weight x66) ∧
testK P (do eqGuard .eql t_api_Weight (.tmp 186) (.tmp 187) (val yapi_Weight x65) (val yapi_Weight x66); binOp .eql t_api_Weight (val yapi_Weight x65) (val yapi_Weight x66)) fun b67 =>
gd b67 (
∃ x68 : yapi_Weight.T, At w23 a48 (cells yapi_Weight x68) ∧
∃ x69 : yapi_Weight.T, At w23 x52.1 (cells yapi_Weight x69) ∧
testK P (do eqGuard .eql t_api_Weight (.tmp 191) (.tmp 192) (val yapi_Weight x68) (val yapi_Weight x69); binOp .eql t_api_Weight (val yapi_Weight x68) (val yapi_Weight x69)) fun b70 =>
K b70 w23) (
K false w23)) (
K false w23)) (
K false w23)) (
K false w23)) (
K false w23))) w19) w16))) w14) w12) w11) w10) w9) w8) w7) w5)))) w3) w0
theorem S_law14_SplitNests (v0_list : Sl) (v1_at : Sl) (K : Bool → World → Prop) (w0 : World) (h : F_law14_SplitNests v0_list v1_at K w0) : C_law14_SplitNests v0_list v1_at K w0 := by
  have e : denFn P [(4, [(46, .bool)]), (16, [(145, .bool)]), (20, [(27, .addr), (28, .iface)])] Try.f5 #[.slice v0_list.a v0_list.len v0_list.cap, .slice v1_at.a v1_at.len v1_at.cap] .bool K w0 = F_law14_SplitNests v0_list v1_at K w0 := by kernel_rfl
  exact fn_sound mixed (f := 5) Try.func5 (by kernel_rfl) (e.mpr h)

def F_law14_SplitErrors (v0_list : Sl) (v1_raw : Int) (v2_at : Int) (K : Bool → World → Prop) (w0 : World) : Prop :=
C_law14_Build v0_list (fun x1 w1 =>
allocK (.cells #[.pointer none, .slice none 0 0, .slice none 0 0, .slice none 0 0] t_evergreenlaw14_Made) w1 fun a2 w2 =>
stK w2 a2 (cells yevergreenlaw14_Made x1.1) fun w3 =>
JoinP (X := Bool × Unit) (fun R4 =>
gd (!x1.2) (
R4 (true, ()) w3) (
C_law14_awake  (fun x5 w5 =>
R4 (!x5, ()) w5) w3)) (fun x3 w4 => ∀ _ : Env,
gd x3.1 (
K false w4) (
∃ x6 : Option Addr, At w4 (a2.add 0) (cells .ptr x6) ∧
C_intern_Store_Letter x6 (113 : Int) (fun x7 w6 =>
∃ x8 : Option Addr, At w6 (a2.add 0) (cells .ptr x8) ∧
C_intern_Store_Power x8 x7.1 (3 : Int) (fun x9 w7 =>
JoinP (X := Bool × Unit) (fun R11 =>
nilIfcK x7.2 fun b12 =>
gd (!b12) (
R11 (true, ()) w7) (
nilIfcK x9.2 fun b13 =>
R11 (!b13, ()) w7)) (fun x10 w8 => ∀ _ : Env,
gd x10.1 (
K false w8) (
∃ x14 : Option Addr, At w8 (a2.add 0) (cells .ptr x14) ∧
C_intern_Store_Pair x14 x7.1 x7.1 (fun x15 w9 =>
∃ x16 : Option Addr, At w9 (a2.add 0) (cells .ptr x16) ∧
C_intern_Store_Pair x16 x15.1 x7.1 (fun x17 w10 =>
∃ x18 : Option Addr, At w10 (a2.add 0) (cells .ptr x18) ∧
C_intern_Store_Pair x18 x17.1 x7.1 (fun x19 w11 =>
JoinP (X := Bool × Unit) (fun R21 =>
nilIfcK x15.2 fun b22 =>
gd (!b22) (
R21 (true, ()) w11) (
nilIfcK x17.2 fun b23 =>
gd (!b23) (
R21 (true, ()) w11) (
nilIfcK x19.2 fun b24 =>
R21 (!b24, ()) w11))) (fun x20 w12 => ∀ _ : Env,
gd x20.1 (
K false w12) (
C_law14_fails none v1_raw v2_at v2_at (5 : Int) (fun x25 w13 =>
gd x25 (
∃ x26 : Option Addr, At w13 (a2.add 0) (cells .ptr x26) ∧
C_law14_fails x26 x9.1 v2_at v2_at (4 : Int) (fun x27 w14 =>
gd x27 (
∃ x28 : Option Addr, At w14 (a2.add 0) (cells .ptr x28) ∧
C_law14_fails x28 x19.1 v2_at v2_at (4 : Int) (fun x29 w15 =>
gd x29 (
gd (decide ((0 : Int) ≤ v1_raw)) (
∃ x30 : Option Addr, At w15 (a2.add 0) (cells .ptr x30) ∧
C_intern_Store_Len x30 (fun x31 w16 =>
gd (decide (v1_raw ≤ x31)) (
K true w16) (
∃ x32 : Option Addr, At w16 (a2.add 0) (cells .ptr x32) ∧
C_law14_fails x32 v1_raw v2_at v2_at (1 : Int) (fun x33 w17 =>
K x33 w17) w16)) w15) (
∃ x34 : Option Addr, At w15 (a2.add 0) (cells .ptr x34) ∧
C_law14_fails x34 v1_raw v2_at v2_at (1 : Int) (fun x35 w18 =>
K x35 w18) w15)) (
K false w15)) w14) (
K false w14)) w13) (
K false w13)) w12))) w10) w9) w8))) w6) w4))) w0
theorem S_law14_SplitErrors (v0_list : Sl) (v1_raw : Int) (v2_at : Int) (K : Bool → World → Prop) (w0 : World) (h : F_law14_SplitErrors v0_list v1_raw v2_at K w0) : C_law14_SplitErrors v0_list v1_raw v2_at K w0 := by
  have e : denFn P [(4, [(31, .bool)]), (8, [(50, .bool)]), (13, [(84, .bool)])] Try.f6 #[.slice v0_list.a v0_list.len v0_list.cap, .int .i64 v1_raw, .int .i64 v2_at] .bool K w0 = F_law14_SplitErrors v0_list v1_raw v2_at K w0 := by kernel_rfl
  exact fn_sound mixed (f := 6) Try.func6 (by kernel_rfl) (e.mpr h)

def F_law14_SplitDivides (v0_list : Sl) (v1_at : Int) (K : Bool → World → Prop) (w0 : World) : Prop :=
C_law14_Build v0_list (fun x1 w1 =>
allocK (.cells #[.pointer none, .slice none 0 0, .slice none 0 0, .slice none 0 0] t_evergreenlaw14_Made) w1 fun a2 w2 =>
stK w2 a2 (cells yevergreenlaw14_Made x1.1) fun w3 =>
∃ x3 : yevergreenlaw14_Made.T, At w3 a2 (cells yevergreenlaw14_Made x3) ∧
C_law14_Made_Last x3 (fun x4 w4 =>
JoinP (X := Bool × Unit) (fun R6 =>
gd (!x1.2) (
R6 (true, ()) w4) (
C_law14_awake  (fun x7 w6 =>
R6 (!x7, ()) w6) w4)) (fun x5 w5 => ∀ _ : Env,
gd x5.1 (
K false w5) (
gd (!x4.2.2.2) (
K true w5) (
C_law14_offset v1_at x4.2.1 (fun x8 w7 =>
∃ x9 : Option Addr, At w7 (a2.add 0) (cells .ptr x9) ∧
C_split_Split x9 x4.1 x8 (fun x10 w8 =>
JoinP (X := Bool × Unit) (fun R12 =>
gd (decide (x8 < (0 : Int))) (
R12 (true, ()) w8) (
R12 (decide (x4.2.1 < x8), ()) w8)) (fun x11 w9 => ∀ _ : Env,
gd x11.1 (
gd (x10.1 == (0 : Int)) (
gd (x10.2.1 == (0 : Int)) (
C_base_Is x10.2.2 (1 : Int) (fun x13 w10 =>
K x13 w10) w9) (
K false w9)) (
K false w9)) (
drawK w9 fun w11 =>
nilIfcK x10.2.2 fun b14 =>
gd b14 (
∃ x15 : Option Addr, At w11 (a2.add 0) (cells .ptr x15) ∧
slK 1 x4.2.2.1.a x4.2.2.1.len x4.2.2.1.cap none (some x8) fun s16 =>
C_law14_is x15 x10.1 s16 (fun x17 w12 =>
gd x17 (
∃ x18 : Option Addr, At w12 (a2.add 0) (cells .ptr x18) ∧
slK 1 x4.2.2.1.a x4.2.2.1.len x4.2.2.1.cap (some x8) none fun s19 =>
C_law14_is x18 x10.2.1 s19 (fun x20 w13 =>
K x20 w13) w12) (
K false w12)) w11) (
K false w11)))) w7) w5)))) w3) w0
theorem S_law14_SplitDivides (v0_list : Sl) (v1_at : Int) (K : Bool → World → Prop) (w0 : World) (h : F_law14_SplitDivides v0_list v1_at K w0) : C_law14_SplitDivides v0_list v1_at K w0 := by
  have e : denFn P [(4, [(31, .bool)]), (10, [(52, .bool)])] Try.f7 #[.slice v0_list.a v0_list.len v0_list.cap, .int .i64 v1_at] .bool K w0 = F_law14_SplitDivides v0_list v1_at K w0 := by kernel_rfl
  exact fn_sound mixed (f := 7) Try.func7 (by kernel_rfl) (e.mpr h)

def F_law14_SplitSections (v0_list : Sl) (v1_from : Int) (v2_n : Int) (K : Bool → World → Prop) (w0 : World) : Prop :=
C_law14_Build v0_list (fun x1 w1 =>
allocK (.cells #[.pointer none, .slice none 0 0, .slice none 0 0, .slice none 0 0] t_evergreenlaw14_Made) w1 fun a2 w2 =>
stK w2 a2 (cells yevergreenlaw14_Made x1.1) fun w3 =>
∃ x3 : yevergreenlaw14_Made.T, At w3 a2 (cells yevergreenlaw14_Made x3) ∧
C_law14_Made_Last x3 (fun x4 w4 =>
JoinP (X := Bool × Unit) (fun R6 =>
gd (!x1.2) (
R6 (true, ()) w4) (
C_law14_awake  (fun x7 w6 =>
R6 (!x7, ()) w6) w4)) (fun x5 w5 => ∀ _ : Env,
gd x5.1 (
K false w5) (
gd (!x4.2.2.2) (
K true w5) (
C_law14_offset v1_from x4.2.1 (fun x8 w7 =>
C_law14_offset v2_n x4.2.1 (fun x9 w8 =>
∃ x10 : Option Addr, At w8 (a2.add 0) (cells .ptr x10) ∧
C_split_Section x10 x4.1 x8 x9 (fun x11 w9 =>
C_ref01_Range x8 x9 x4.2.1 (fun x12 w10 =>
gd (!x12) (
gd (x11.1 == (0 : Int)) (
C_base_Is x11.2 (1 : Int) (fun x13 w11 =>
K x13 w11) w10) (
K false w10)) (
drawK w10 fun w12 =>
nilIfcK x11.2 fun b14 =>
gd b14 (
∃ x15 : Option Addr, At w12 (a2.add 0) (cells .ptr x15) ∧
arith .i64 (x8 + x9) fun n16 =>
slK 1 x4.2.2.1.a x4.2.2.1.len x4.2.2.1.cap (some x8) (some n16) fun s17 =>
C_law14_is x15 x11.1 s17 (fun x18 w13 =>
K x18 w13) w12) (
K false w12))) w9) w8) w7) w5)))) w3) w0
theorem S_law14_SplitSections (v0_list : Sl) (v1_from : Int) (v2_n : Int) (K : Bool → World → Prop) (w0 : World) (h : F_law14_SplitSections v0_list v1_from v2_n K w0) : C_law14_SplitSections v0_list v1_from v2_n K w0 := by
  have e : denFn P [(4, [(32, .bool)])] Try.f8 #[.slice v0_list.a v0_list.len v0_list.cap, .int .i64 v1_from, .int .i64 v2_n] .bool K w0 = F_law14_SplitSections v0_list v1_from v2_n K w0 := by kernel_rfl
  exact fn_sound mixed (f := 8) Try.func8 (by kernel_rfl) (e.mpr h)

def F_law14_SplitCuts (v0_list : Sl) (v1_at : Sl) (K : Bool → World → Prop) (w0 : World) : Prop :=
C_law14_Build v0_list (fun x1 w1 =>
allocK (.cells #[.pointer none, .slice none 0 0, .slice none 0 0, .slice none 0 0] t_evergreenlaw14_Made) w1 fun a2 w2 =>
stK w2 a2 (cells yevergreenlaw14_Made x1.1) fun w3 =>
∃ x3 : yevergreenlaw14_Made.T, At w3 a2 (cells yevergreenlaw14_Made x3) ∧
C_law14_Made_Last x3 (fun x4 w4 =>
JoinP (X := Bool × Unit) (fun R6 =>
gd (!x1.2) (
R6 (true, ()) w4) (
C_law14_awake  (fun x7 w6 =>
R6 (!x7, ()) w6) w4)) (fun x5 w5 => ∀ _ : Env,
gd x5.1 (
K false w5) (
JoinP (X := Bool × Unit) (fun R9 =>
gd (!x4.2.2.2) (
R9 (true, ()) w5) (
R9 (decide ((20 : Int) < (v1_at.len : Int)), ()) w5)) (fun x8 w7 => ∀ _ : Env,
gd x8.1 (
K true w7) (
LoopP (X := Sl × Int × Unit) (⟨none, 0, 0⟩, (0 : Int), ()) w7 fun next11 x10 w8 => ∀ _ : Env,
gd (decide (x10.2.1 < (v1_at.len : Int))) (
idxK v1_at.a v1_at.len x10.2.1 1 fun p12 =>
∃ x13 : Int, At w8 p12 (cells (.int .i64) x13) ∧
C_law14_offset x13 x4.2.1 (fun x14 w9 =>
allocK (.cells #[.int .i64 x14] t_int) w9 fun a15 w10 =>
appK t_int 1 8 #[.int .i64 (0 : Int)] x10.1.a x10.1.len x10.1.cap (.slice (some a15) 1 1) 1 w10 fun s16 w11 =>
arith .i64 (x10.2.1 + (1 : Int)) fun n17 =>
next11 (s16, n17, ()) w11) w8) (
C_ref14_Parts x4.2.2.1 x10.1 (fun x18 w12 =>
drawK w12 fun w13 =>
∃ x19 : Option Addr, At w13 (a2.add 0) (cells .ptr x19) ∧
allocK (.cells #[] t_int) w13 fun a20 w14 =>
At w14 (a2.add 0) (cells .ptr x19) ∧
appK t_int 1 8 #[.int .i64 (0 : Int)] (some a20) 0 0 (.slice x10.1.a x10.1.len x10.1.cap) x10.1.len w14 fun s21 w15 =>
At w15 (a2.add 0) (cells .ptr x19) ∧
C_split_Cut x19 x4.1 s21 (fun x22 w16 =>
gd (!x18.2) (
gd ((x22.1.len : Int) == (0 : Int)) (
C_base_Is x22.2 (1 : Int) (fun x23 w17 =>
K x23 w17) w16) (
K false w16)) (
JoinP (X := Bool × Unit) (fun R25 =>
nilIfcK x22.2 fun b26 =>
gd (!b26) (
R25 (true, ()) w16) (
R25 ((x22.1.len : Int) != (x18.1.len : Int), ()) w16)) (fun x24 w18 => ∀ _ : Env,
gd x24.1 (
K false w18) (
LoopP (X := Int × Unit) ((0 : Int), ()) w18 fun next28 x27 w19 => ∀ _ : Env,
gd (decide (x27.1 < (x22.1.len : Int))) (
drawK w19 fun w20 =>
∃ x29 : Option Addr, At w20 (a2.add 0) (cells .ptr x29) ∧
idxK x22.1.a x22.1.len x27.1 1 fun p30 =>
∃ x31 : Int, At w20 p30 (cells (.int .i64) x31) ∧
idxK x18.1.a x18.1.len x27.1 1 fun p32 =>
∃ x33 : Sl, At w20 p32 (cells .slice x33) ∧
C_law14_is x29 x31 x33 (fun x34 w21 =>
gd (!x34) (
K false w21) (
arith .i64 (x27.1 + (1 : Int)) fun n35 =>
next28 (n35, ()) w21)) w20) (
K true w19))))) w15) w8)))))) w3) w0
theorem S_law14_SplitCuts (v0_list : Sl) (v1_at : Sl) (K : Bool → World → Prop) (w0 : World) (h : F_law14_SplitCuts v0_list v1_at K w0) : C_law14_SplitCuts v0_list v1_at K w0 := by
  have e : denFn P [(4, [(35, .bool)]), (6, [(42, .bool)]), (1009, [(11, .slice), (12, .int .i64)]), (17, [(91, .bool)]), (1019, [(17, .int .i64)])] Try.f9 #[.slice v0_list.a v0_list.len v0_list.cap, .slice v1_at.a v1_at.len v1_at.cap] .bool K w0 = F_law14_SplitCuts v0_list v1_at K w0 := by kernel_rfl
  exact fn_sound mixed (f := 9) Try.func9 (by kernel_rfl) (e.mpr h)

def F_law14_SplitFull (v0_list : Sl) (v1_at : Int) (v2_room : Int) (K : Bool → World → Prop) (w0 : World) : Prop :=
C_law14_Build v0_list (fun x1 w1 =>
allocK (.cells #[.pointer none, .slice none 0 0, .slice none 0 0, .slice none 0 0] t_evergreenlaw14_Made) w1 fun a2 w2 =>
stK w2 a2 (cells yevergreenlaw14_Made x1.1) fun w3 =>
∃ x3 : yevergreenlaw14_Made.T, At w3 a2 (cells yevergreenlaw14_Made x3) ∧
C_law14_Made_Last x3 (fun x4 w4 =>
JoinP (X := Bool × Unit) (fun R6 =>
gd (!x1.2) (
R6 (true, ()) w4) (
C_law14_awake  (fun x7 w6 =>
R6 (!x7, ()) w6) w4)) (fun x5 w5 => ∀ _ : Env,
gd x5.1 (
K false w5) (
gd (!x4.2.2.2) (
K true w5) (
∃ x8 : Option Addr, At w5 (a2.add 0) (cells .ptr x8) ∧
C_intern_Store_Export x8 x4.1 (fun x9 w7 =>
∃ x10 : Option Addr, At w7 (a2.add 0) (cells .ptr x10) ∧
C_intern_Store_Depth x10 x4.1 (fun x11 w8 =>
JoinP (X := Bool × Unit) (fun R13 =>
nilIfcK x9.2 fun b14 =>
gd (!b14) (
R13 (true, ()) w8) (
nilIfcK x11.2 fun b15 =>
R13 (!b15, ()) w8)) (fun x12 w9 => ∀ _ : Env,
gd x12.1 (
K false w9) (
arith .i64 (v2_room) fun n16 =>
arith .i64 (x11.1 + (1 : Int)) fun n17 =>
arith .i64 ((16 : Int) * n17) fun n18 =>
arith .i64 (n18 + (2 : Int)) fun n19 =>
n19 ≠ 0 ∧
letZ (Int.tmod n16 n19) fun n20 =>
arith .i64 ((x9.1.len : Int) + n20) fun n21 =>
C_intern_New n21 (fun x22 w10 =>
C_intern_Store_Import x22 x9.1 (fun x23 w11 =>
JoinP (X := Bool × Unit) (fun R25 =>
gd x22.isNone (
R25 (true, ()) w11) (
nilIfcK x23.2 fun b26 =>
R25 (!b26, ()) w11)) (fun x24 w12 => ∀ _ : Env,
gd x24.1 (
K false w12) (
arith .i64 ((BitVec.ofInt (IntKind.bits .i64) v1_at ||| BitVec.ofInt (IntKind.bits .i64) (1 : Int)).toNat) fun n27 =>
C_law14_offset n27 x4.2.1 (fun x28 w13 =>
C_split_Split x22 x23.1 x28 (fun x29 w14 =>
C_base_Is x29.2.2 (3 : Int) (fun x30 w15 =>
gd x30 (
gd (x29.1 == (0 : Int)) (
gd (x29.2.1 == (0 : Int)) (
arith .i64 (x11.1 + (1 : Int)) fun n31 =>
arith .i64 ((16 : Int) * n31) fun n32 =>
gd (decide (n20 < n32)) (
C_law14_is x22 x23.1 x4.2.2.1 (fun x33 w16 =>
K x33 w16) w15) (
K false w15)) (
K false w15)) (
K false w15)) (
nilIfcK x29.2.2 fun b34 =>
gd b34 (
slK 1 x4.2.2.1.a x4.2.2.1.len x4.2.2.1.cap none (some x28) fun s35 =>
C_law14_is x22 x29.1 s35 (fun x36 w17 =>
gd x36 (
slK 1 x4.2.2.1.a x4.2.2.1.len x4.2.2.1.cap (some x28) none fun s37 =>
C_law14_is x22 x29.2.1 s37 (fun x38 w18 =>
gd x38 (
C_intern_Store_Len x22 (fun x39 w19 =>
arith .i64 ((x9.1.len : Int) + n20) fun n40 =>
K (decide (x39 ≤ n40)) w19) w18) (
K false w18)) w17) (
K false w17)) w15) (
K false w15))) w14) w13) w12))) w10) w9))) w7) w5)))) w3) w0
theorem S_law14_SplitFull (v0_list : Sl) (v1_at : Int) (v2_room : Int) (K : Bool → World → Prop) (w0 : World) (h : F_law14_SplitFull v0_list v1_at v2_room K w0) : C_law14_SplitFull v0_list v1_at v2_room K w0 := by
  have e : denFn P [(4, [(39, .bool)]), (10, [(61, .bool)]), (15, [(85, .bool)])] Try.f10 #[.slice v0_list.a v0_list.len v0_list.cap, .int .i64 v1_at, .int .u16 v2_room] .bool K w0 = F_law14_SplitFull v0_list v1_at v2_room K w0 := by kernel_rfl
  exact fn_sound mixed (f := 10) Try.func10 (by kernel_rfl) (e.mpr h)

def F_law14_Build (v0_list : Sl) (K : (yevergreenlaw14_Made.T × Bool) → World → Prop) (w0 : World) : Prop :=
allocK (.cells #[.pointer none, .slice none 0 0, .slice none 0 0, .slice none 0 0] t_evergreenlaw14_Made) w0 fun a1 w1 =>
C_intern_New (1048576 : Int) (fun x2 w2 =>
allocK (.cells #[.pointer none, .slice none 0 0, .slice none 0 0, .slice none 0 0] t_evergreenlaw14_Made) w2 fun a3 w3 =>
stK w3 a3 ([.pointer x2, .slice none 0 0, .slice none 0 0, .slice none 0 0]) fun w4 =>
∃ x4 : Option Addr, At w4 (a3.add 0) (cells .ptr x4) ∧
gd x4.isNone (
∃ x5 : yevergreenlaw14_Made.T, At w4 a3 (cells yevergreenlaw14_Made x5) ∧
stK w4 a1 (cells yevergreenlaw14_Made x5) fun w5 =>
∃ x6 : yevergreenlaw14_Made.T, At w5 a1 (cells yevergreenlaw14_Made x6) ∧
K (x6, false) w5) (
JoinP (X := Unit) (fun R8 =>
LoopP (X := Int × Unit) ((0 : Int), ()) w4 fun next10 x9 w7 => ∀ _ : Env,
JoinP (X := Unit) (fun R12 =>
gd (decide (x9.1 < (v0_list.len : Int))) (
gd (decide (x9.1 < (90 : Int))) (
R12 () w7) (
R8 () w7)) (
R8 () w7)) (fun x11 w8 => ∀ _ : Env,
JoinP (X := Unit) (fun R14 =>
drawK w8 fun w10 =>
idxK v0_list.a v0_list.len x9.1 4 fun p15 =>
∃ x16 : yevergreenlaw14_Step.T, At w10 p15 (cells yevergreenlaw14_Step x16) ∧
∃ x17 : Sl, At w10 (a3.add 1) (cells .slice x17) ∧
allocK (.cells #[.bool false, .int .u8 (0 : Int), .int .u8 (0 : Int), .int .u8 (0 : Int)] t_evergreenlaw14_Step) w10 fun a18 w11 =>
At w11 (a3.add 1) (cells .slice x17) ∧
At w11 p15 (cells yevergreenlaw14_Step x16) ∧
stK w11 a18 (cells yevergreenlaw14_Step x16) fun w12 =>
At w12 (a3.add 1) (cells .slice x17) ∧
JoinP (X := Bool × Unit) (fun R20 =>
∃ x21 : Bool, At w12 (a18.add 0) (cells .bool x21) ∧
gd (!x21) (
R20 (true, ()) w12) (
R20 ((x17.len : Int) == (0 : Int), ()) w12)) (fun x19 w13 => ∀ _ : Env,
gd x19.1 (
∃ x22 : Option Addr, At w13 (a3.add 0) (cells .ptr x22) ∧
∃ x23 : Int, At w13 (a18.add 1) (cells (.int .u8) x23) ∧
C_intern_Store_Letter x22 x23 (fun x24 w14 =>
nilIfcK x24.2 fun b25 =>
gd (!b25) (
∃ x26 : yevergreenlaw14_Made.T, At w14 a3 (cells yevergreenlaw14_Made x26) ∧
stK w14 a1 (cells yevergreenlaw14_Made x26) fun w15 =>
∃ x27 : yevergreenlaw14_Made.T, At w15 a1 (cells yevergreenlaw14_Made x27) ∧
K (x27, false) w15) (
drawK w14 fun w16 =>
∃ x28 : Sl, At w16 (a3.add 1) (cells .slice x28) ∧
∃ x29 : Sl, At w16 (a3.add 2) (cells .slice x29) ∧
∃ x30 : Sl, At w16 (a3.add 3) (cells .slice x30) ∧
∃ x31 : Int, At w16 (a18.add 1) (cells (.int .u8) x31) ∧
(allocK (.cells #[.int .i64 x24.1] t_api_ID) w16 fun a32 w17 =>
At w17 (a18.add 1) (cells (.int .u8) x31) ∧
At w17 (a3.add 3) (cells .slice x30) ∧
At w17 (a3.add 2) (cells .slice x29) ∧
At w17 (a3.add 1) (cells .slice x28) ∧
(appK t_api_ID 1 8 #[.int .i64 (0 : Int)] x28.a x28.len x28.cap (.slice (some a32) 1 1) 1 w17 fun s33 w18 =>
At w18 (a18.add 1) (cells (.int .u8) x31) ∧
At w18 (a3.add 3) (cells .slice x30) ∧
At w18 (a3.add 2) (cells .slice x29) ∧
(allocK (.cells #[.int .i64 (1 : Int)] t_int) w18 fun a34 w19 =>
At w19 (a18.add 1) (cells (.int .u8) x31) ∧
At w19 (a3.add 3) (cells .slice x30) ∧
At w19 (a3.add 2) (cells .slice x29) ∧
(appK t_int 1 8 #[.int .i64 (0 : Int)] x29.a x29.len x29.cap (.slice (some a34) 1 1) 1 w19 fun s35 w20 =>
At w20 (a18.add 1) (cells (.int .u8) x31) ∧
At w20 (a3.add 3) (cells .slice x30) ∧
allocK (.cells #[.int .u8 x31] t_uint8) w20 fun a36 w21 =>
At w21 (a3.add 3) (cells .slice x30) ∧
allocK (.cells #[.slice (some a36) 1 1] t_sl_uint8) w21 fun a37 w22 =>
At w22 (a3.add 3) (cells .slice x30) ∧
appK t_sl_uint8 1 24 #[.slice none 0 0] x30.a x30.len x30.cap (.slice (some a37) 1 1) 1 w22 fun s38 w23 =>
stK w23 (a3.add 1) ([.slice s33.a s33.len s33.cap]) fun w24 =>
stK w24 (a3.add 2) ([.slice s35.a s35.len s35.cap]) fun w25 =>
stK w25 (a3.add 3) ([.slice s38.a s38.len s38.cap]) fun w26 =>
R14 () w26) ∧
(allocK (.cells #[.int .u8 x31] t_uint8) w19 fun a39 w27 =>
At w27 (a3.add 3) (cells .slice x30) ∧
At w27 (a3.add 2) (cells .slice x29) ∧
(appK t_int 1 8 #[.int .i64 (0 : Int)] x29.a x29.len x29.cap (.slice (some a34) 1 1) 1 w27 fun s40 w28 =>
At w28 (a3.add 3) (cells .slice x30) ∧
allocK (.cells #[.slice (some a39) 1 1] t_sl_uint8) w28 fun a41 w29 =>
At w29 (a3.add 3) (cells .slice x30) ∧
appK t_sl_uint8 1 24 #[.slice none 0 0] x30.a x30.len x30.cap (.slice (some a41) 1 1) 1 w29 fun s42 w30 =>
stK w30 (a3.add 1) ([.slice s33.a s33.len s33.cap]) fun w31 =>
stK w31 (a3.add 2) ([.slice s40.a s40.len s40.cap]) fun w32 =>
stK w32 (a3.add 3) ([.slice s42.a s42.len s42.cap]) fun w33 =>
R14 () w33) ∧
(allocK (.cells #[.slice (some a39) 1 1] t_sl_uint8) w27 fun a43 w34 =>
At w34 (a3.add 3) (cells .slice x30) ∧
At w34 (a3.add 2) (cells .slice x29) ∧
appK t_int 1 8 #[.int .i64 (0 : Int)] x29.a x29.len x29.cap (.slice (some a34) 1 1) 1 w34 fun s44 w35 =>
At w35 (a3.add 3) (cells .slice x30) ∧
appK t_sl_uint8 1 24 #[.slice none 0 0] x30.a x30.len x30.cap (.slice (some a43) 1 1) 1 w35 fun s45 w36 =>
stK w36 (a3.add 1) ([.slice s33.a s33.len s33.cap]) fun w37 =>
stK w37 (a3.add 2) ([.slice s44.a s44.len s44.cap]) fun w38 =>
stK w38 (a3.add 3) ([.slice s45.a s45.len s45.cap]) fun w39 =>
R14 () w39))) ∧
(allocK (.cells #[.int .u8 x31] t_uint8) w18 fun a46 w40 =>
At w40 (a3.add 3) (cells .slice x30) ∧
At w40 (a3.add 2) (cells .slice x29) ∧
(allocK (.cells #[.int .i64 (1 : Int)] t_int) w40 fun a47 w41 =>
At w41 (a3.add 3) (cells .slice x30) ∧
At w41 (a3.add 2) (cells .slice x29) ∧
(appK t_int 1 8 #[.int .i64 (0 : Int)] x29.a x29.len x29.cap (.slice (some a47) 1 1) 1 w41 fun s48 w42 =>
At w42 (a3.add 3) (cells .slice x30) ∧
allocK (.cells #[.slice (some a46) 1 1] t_sl_uint8) w42 fun a49 w43 =>
At w43 (a3.add 3) (cells .slice x30) ∧
appK t_sl_uint8 1 24 #[.slice none 0 0] x30.a x30.len x30.cap (.slice (some a49) 1 1) 1 w43 fun s50 w44 =>
stK w44 (a3.add 1) ([.slice s33.a s33.len s33.cap]) fun w45 =>
stK w45 (a3.add 2) ([.slice s48.a s48.len s48.cap]) fun w46 =>
stK w46 (a3.add 3) ([.slice s50.a s50.len s50.cap]) fun w47 =>
R14 () w47) ∧
(allocK (.cells #[.slice (some a46) 1 1] t_sl_uint8) w41 fun a51 w48 =>
At w48 (a3.add 3) (cells .slice x30) ∧
At w48 (a3.add 2) (cells .slice x29) ∧
appK t_int 1 8 #[.int .i64 (0 : Int)] x29.a x29.len x29.cap (.slice (some a47) 1 1) 1 w48 fun s52 w49 =>
At w49 (a3.add 3) (cells .slice x30) ∧
appK t_sl_uint8 1 24 #[.slice none 0 0] x30.a x30.len x30.cap (.slice (some a51) 1 1) 1 w49 fun s53 w50 =>
stK w50 (a3.add 1) ([.slice s33.a s33.len s33.cap]) fun w51 =>
stK w51 (a3.add 2) ([.slice s52.a s52.len s52.cap]) fun w52 =>
stK w52 (a3.add 3) ([.slice s53.a s53.len s53.cap]) fun w53 =>
R14 () w53)) ∧
(allocK (.cells #[.slice (some a46) 1 1] t_sl_uint8) w40 fun a54 w54 =>
At w54 (a3.add 3) (cells .slice x30) ∧
At w54 (a3.add 2) (cells .slice x29) ∧
allocK (.cells #[.int .i64 (1 : Int)] t_int) w54 fun a55 w55 =>
At w55 (a3.add 3) (cells .slice x30) ∧
At w55 (a3.add 2) (cells .slice x29) ∧
appK t_int 1 8 #[.int .i64 (0 : Int)] x29.a x29.len x29.cap (.slice (some a55) 1 1) 1 w55 fun s56 w56 =>
At w56 (a3.add 3) (cells .slice x30) ∧
appK t_sl_uint8 1 24 #[.slice none 0 0] x30.a x30.len x30.cap (.slice (some a54) 1 1) 1 w56 fun s57 w57 =>
stK w57 (a3.add 1) ([.slice s33.a s33.len s33.cap]) fun w58 =>
stK w58 (a3.add 2) ([.slice s56.a s56.len s56.cap]) fun w59 =>
stK w59 (a3.add 3) ([.slice s57.a s57.len s57.cap]) fun w60 =>
R14 () w60))) ∧
(allocK (.cells #[.int .i64 (1 : Int)] t_int) w17 fun a58 w61 =>
At w61 (a18.add 1) (cells (.int .u8) x31) ∧
At w61 (a3.add 3) (cells .slice x30) ∧
At w61 (a3.add 2) (cells .slice x29) ∧
At w61 (a3.add 1) (cells .slice x28) ∧
(appK t_api_ID 1 8 #[.int .i64 (0 : Int)] x28.a x28.len x28.cap (.slice (some a32) 1 1) 1 w61 fun s59 w62 =>
At w62 (a18.add 1) (cells (.int .u8) x31) ∧
At w62 (a3.add 3) (cells .slice x30) ∧
At w62 (a3.add 2) (cells .slice x29) ∧
(appK t_int 1 8 #[.int .i64 (0 : Int)] x29.a x29.len x29.cap (.slice (some a58) 1 1) 1 w62 fun s60 w63 =>
At w63 (a18.add 1) (cells (.int .u8) x31) ∧
At w63 (a3.add 3) (cells .slice x30) ∧
allocK (.cells #[.int .u8 x31] t_uint8) w63 fun a61 w64 =>
At w64 (a3.add 3) (cells .slice x30) ∧
allocK (.cells #[.slice (some a61) 1 1] t_sl_uint8) w64 fun a62 w65 =>
At w65 (a3.add 3) (cells .slice x30) ∧
appK t_sl_uint8 1 24 #[.slice none 0 0] x30.a x30.len x30.cap (.slice (some a62) 1 1) 1 w65 fun s63 w66 =>
stK w66 (a3.add 1) ([.slice s59.a s59.len s59.cap]) fun w67 =>
stK w67 (a3.add 2) ([.slice s60.a s60.len s60.cap]) fun w68 =>
stK w68 (a3.add 3) ([.slice s63.a s63.len s63.cap]) fun w69 =>
R14 () w69) ∧
(allocK (.cells #[.int .u8 x31] t_uint8) w62 fun a64 w70 =>
At w70 (a3.add 3) (cells .slice x30) ∧
At w70 (a3.add 2) (cells .slice x29) ∧
(appK t_int 1 8 #[.int .i64 (0 : Int)] x29.a x29.len x29.cap (.slice (some a58) 1 1) 1 w70 fun s65 w71 =>
At w71 (a3.add 3) (cells .slice x30) ∧
allocK (.cells #[.slice (some a64) 1 1] t_sl_uint8) w71 fun a66 w72 =>
At w72 (a3.add 3) (cells .slice x30) ∧
appK t_sl_uint8 1 24 #[.slice none 0 0] x30.a x30.len x30.cap (.slice (some a66) 1 1) 1 w72 fun s67 w73 =>
stK w73 (a3.add 1) ([.slice s59.a s59.len s59.cap]) fun w74 =>
stK w74 (a3.add 2) ([.slice s65.a s65.len s65.cap]) fun w75 =>
stK w75 (a3.add 3) ([.slice s67.a s67.len s67.cap]) fun w76 =>
R14 () w76) ∧
(allocK (.cells #[.slice (some a64) 1 1] t_sl_uint8) w70 fun a68 w77 =>
At w77 (a3.add 3) (cells .slice x30) ∧
At w77 (a3.add 2) (cells .slice x29) ∧
appK t_int 1 8 #[.int .i64 (0 : Int)] x29.a x29.len x29.cap (.slice (some a58) 1 1) 1 w77 fun s69 w78 =>
At w78 (a3.add 3) (cells .slice x30) ∧
appK t_sl_uint8 1 24 #[.slice none 0 0] x30.a x30.len x30.cap (.slice (some a68) 1 1) 1 w78 fun s70 w79 =>
stK w79 (a3.add 1) ([.slice s59.a s59.len s59.cap]) fun w80 =>
stK w80 (a3.add 2) ([.slice s69.a s69.len s69.cap]) fun w81 =>
stK w81 (a3.add 3) ([.slice s70.a s70.len s70.cap]) fun w82 =>
R14 () w82))) ∧
(allocK (.cells #[.int .u8 x31] t_uint8) w61 fun a71 w83 =>
At w83 (a3.add 3) (cells .slice x30) ∧
At w83 (a3.add 2) (cells .slice x29) ∧
At w83 (a3.add 1) (cells .slice x28) ∧
(appK t_api_ID 1 8 #[.int .i64 (0 : Int)] x28.a x28.len x28.cap (.slice (some a32) 1 1) 1 w83 fun s72 w84 =>
At w84 (a3.add 3) (cells .slice x30) ∧
At w84 (a3.add 2) (cells .slice x29) ∧
(appK t_int 1 8 #[.int .i64 (0 : Int)] x29.a x29.len x29.cap (.slice (some a58) 1 1) 1 w84 fun s73 w85 =>
At w85 (a3.add 3) (cells .slice x30) ∧
allocK (.cells #[.slice (some a71) 1 1] t_sl_uint8) w85 fun a74 w86 =>
At w86 (a3.add 3) (cells .slice x30) ∧
appK t_sl_uint8 1 24 #[.slice none 0 0] x30.a x30.len x30.cap (.slice (some a74) 1 1) 1 w86 fun s75 w87 =>
stK w87 (a3.add 1) ([.slice s72.a s72.len s72.cap]) fun w88 =>
stK w88 (a3.add 2) ([.slice s73.a s73.len s73.cap]) fun w89 =>
stK w89 (a3.add 3) ([.slice s75.a s75.len s75.cap]) fun w90 =>
R14 () w90) ∧
(allocK (.cells #[.slice (some a71) 1 1] t_sl_uint8) w84 fun a76 w91 =>
At w91 (a3.add 3) (cells .slice x30) ∧
At w91 (a3.add 2) (cells .slice x29) ∧
appK t_int 1 8 #[.int .i64 (0 : Int)] x29.a x29.len x29.cap (.slice (some a58) 1 1) 1 w91 fun s77 w92 =>
At w92 (a3.add 3) (cells .slice x30) ∧
appK t_sl_uint8 1 24 #[.slice none 0 0] x30.a x30.len x30.cap (.slice (some a76) 1 1) 1 w92 fun s78 w93 =>
stK w93 (a3.add 1) ([.slice s72.a s72.len s72.cap]) fun w94 =>
stK w94 (a3.add 2) ([.slice s77.a s77.len s77.cap]) fun w95 =>
stK w95 (a3.add 3) ([.slice s78.a s78.len s78.cap]) fun w96 =>
R14 () w96)) ∧
(allocK (.cells #[.slice (some a71) 1 1] t_sl_uint8) w83 fun a79 w97 =>
At w97 (a3.add 3) (cells .slice x30) ∧
At w97 (a3.add 2) (cells .slice x29) ∧
At w97 (a3.add 1) (cells .slice x28) ∧
appK t_api_ID 1 8 #[.int .i64 (0 : Int)] x28.a x28.len x28.cap (.slice (some a32) 1 1) 1 w97 fun s80 w98 =>
At w98 (a3.add 3) (cells .slice x30) ∧
At w98 (a3.add 2) (cells .slice x29) ∧
appK t_int 1 8 #[.int .i64 (0 : Int)] x29.a x29.len x29.cap (.slice (some a58) 1 1) 1 w98 fun s81 w99 =>
At w99 (a3.add 3) (cells .slice x30) ∧
appK t_sl_uint8 1 24 #[.slice none 0 0] x30.a x30.len x30.cap (.slice (some a79) 1 1) 1 w99 fun s82 w100 =>
stK w100 (a3.add 1) ([.slice s80.a s80.len s80.cap]) fun w101 =>
stK w101 (a3.add 2) ([.slice s81.a s81.len s81.cap]) fun w102 =>
stK w102 (a3.add 3) ([.slice s82.a s82.len s82.cap]) fun w103 =>
R14 () w103))) ∧
(allocK (.cells #[.int .u8 x31] t_uint8) w17 fun a83 w104 =>
At w104 (a3.add 3) (cells .slice x30) ∧
At w104 (a3.add 2) (cells .slice x29) ∧
At w104 (a3.add 1) (cells .slice x28) ∧
(appK t_api_ID 1 8 #[.int .i64 (0 : Int)] x28.a x28.len x28.cap (.slice (some a32) 1 1) 1 w104 fun s84 w105 =>
At w105 (a3.add 3) (cells .slice x30) ∧
At w105 (a3.add 2) (cells .slice x29) ∧
(allocK (.cells #[.int .i64 (1 : Int)] t_int) w105 fun a85 w106 =>
At w106 (a3.add 3) (cells .slice x30) ∧
At w106 (a3.add 2) (cells .slice x29) ∧
(appK t_int 1 8 #[.int .i64 (0 : Int)] x29.a x29.len x29.cap (.slice (some a85) 1 1) 1 w106 fun s86 w107 =>
At w107 (a3.add 3) (cells .slice x30) ∧
allocK (.cells #[.slice (some a83) 1 1] t_sl_uint8) w107 fun a87 w108 =>
At w108 (a3.add 3) (cells .slice x30) ∧
appK t_sl_uint8 1 24 #[.slice none 0 0] x30.a x30.len x30.cap (.slice (some a87) 1 1) 1 w108 fun s88 w109 =>
stK w109 (a3.add 1) ([.slice s84.a s84.len s84.cap]) fun w110 =>
stK w110 (a3.add 2) ([.slice s86.a s86.len s86.cap]) fun w111 =>
stK w111 (a3.add 3) ([.slice s88.a s88.len s88.cap]) fun w112 =>
R14 () w112) ∧
(allocK (.cells #[.slice (some a83) 1 1] t_sl_uint8) w106 fun a89 w113 =>
At w113 (a3.add 3) (cells .slice x30) ∧
At w113 (a3.add 2) (cells .slice x29) ∧
appK t_int 1 8 #[.int .i64 (0 : Int)] x29.a x29.len x29.cap (.slice (some a85) 1 1) 1 w113 fun s90 w114 =>
At w114 (a3.add 3) (cells .slice x30) ∧
appK t_sl_uint8 1 24 #[.slice none 0 0] x30.a x30.len x30.cap (.slice (some a89) 1 1) 1 w114 fun s91 w115 =>
stK w115 (a3.add 1) ([.slice s84.a s84.len s84.cap]) fun w116 =>
stK w116 (a3.add 2) ([.slice s90.a s90.len s90.cap]) fun w117 =>
stK w117 (a3.add 3) ([.slice s91.a s91.len s91.cap]) fun w118 =>
R14 () w118)) ∧
(allocK (.cells #[.slice (some a83) 1 1] t_sl_uint8) w105 fun a92 w119 =>
At w119 (a3.add 3) (cells .slice x30) ∧
At w119 (a3.add 2) (cells .slice x29) ∧
allocK (.cells #[.int .i64 (1 : Int)] t_int) w119 fun a93 w120 =>
At w120 (a3.add 3) (cells .slice x30) ∧
At w120 (a3.add 2) (cells .slice x29) ∧
appK t_int 1 8 #[.int .i64 (0 : Int)] x29.a x29.len x29.cap (.slice (some a93) 1 1) 1 w120 fun s94 w121 =>
At w121 (a3.add 3) (cells .slice x30) ∧
appK t_sl_uint8 1 24 #[.slice none 0 0] x30.a x30.len x30.cap (.slice (some a92) 1 1) 1 w121 fun s95 w122 =>
stK w122 (a3.add 1) ([.slice s84.a s84.len s84.cap]) fun w123 =>
stK w123 (a3.add 2) ([.slice s94.a s94.len s94.cap]) fun w124 =>
stK w124 (a3.add 3) ([.slice s95.a s95.len s95.cap]) fun w125 =>
R14 () w125)) ∧
(allocK (.cells #[.int .i64 (1 : Int)] t_int) w104 fun a96 w126 =>
At w126 (a3.add 3) (cells .slice x30) ∧
At w126 (a3.add 2) (cells .slice x29) ∧
At w126 (a3.add 1) (cells .slice x28) ∧
(appK t_api_ID 1 8 #[.int .i64 (0 : Int)] x28.a x28.len x28.cap (.slice (some a32) 1 1) 1 w126 fun s97 w127 =>
At w127 (a3.add 3) (cells .slice x30) ∧
At w127 (a3.add 2) (cells .slice x29) ∧
(appK t_int 1 8 #[.int .i64 (0 : Int)] x29.a x29.len x29.cap (.slice (some a96) 1 1) 1 w127 fun s98 w128 =>
At w128 (a3.add 3) (cells .slice x30) ∧
allocK (.cells #[.slice (some a83) 1 1] t_sl_uint8) w128 fun a99 w129 =>
At w129 (a3.add 3) (cells .slice x30) ∧
appK t_sl_uint8 1 24 #[.slice none 0 0] x30.a x30.len x30.cap (.slice (some a99) 1 1) 1 w129 fun s100 w130 =>
stK w130 (a3.add 1) ([.slice s97.a s97.len s97.cap]) fun w131 =>
stK w131 (a3.add 2) ([.slice s98.a s98.len s98.cap]) fun w132 =>
stK w132 (a3.add 3) ([.slice s100.a s100.len s100.cap]) fun w133 =>
R14 () w133) ∧
(allocK (.cells #[.slice (some a83) 1 1] t_sl_uint8) w127 fun a101 w134 =>
At w134 (a3.add 3) (cells .slice x30) ∧
At w134 (a3.add 2) (cells .slice x29) ∧
appK t_int 1 8 #[.int .i64 (0 : Int)] x29.a x29.len x29.cap (.slice (some a96) 1 1) 1 w134 fun s102 w135 =>
At w135 (a3.add 3) (cells .slice x30) ∧
appK t_sl_uint8 1 24 #[.slice none 0 0] x30.a x30.len x30.cap (.slice (some a101) 1 1) 1 w135 fun s103 w136 =>
stK w136 (a3.add 1) ([.slice s97.a s97.len s97.cap]) fun w137 =>
stK w137 (a3.add 2) ([.slice s102.a s102.len s102.cap]) fun w138 =>
stK w138 (a3.add 3) ([.slice s103.a s103.len s103.cap]) fun w139 =>
R14 () w139)) ∧
(allocK (.cells #[.slice (some a83) 1 1] t_sl_uint8) w126 fun a104 w140 =>
At w140 (a3.add 3) (cells .slice x30) ∧
At w140 (a3.add 2) (cells .slice x29) ∧
At w140 (a3.add 1) (cells .slice x28) ∧
appK t_api_ID 1 8 #[.int .i64 (0 : Int)] x28.a x28.len x28.cap (.slice (some a32) 1 1) 1 w140 fun s105 w141 =>
At w141 (a3.add 3) (cells .slice x30) ∧
At w141 (a3.add 2) (cells .slice x29) ∧
appK t_int 1 8 #[.int .i64 (0 : Int)] x29.a x29.len x29.cap (.slice (some a96) 1 1) 1 w141 fun s106 w142 =>
At w142 (a3.add 3) (cells .slice x30) ∧
appK t_sl_uint8 1 24 #[.slice none 0 0] x30.a x30.len x30.cap (.slice (some a104) 1 1) 1 w142 fun s107 w143 =>
stK w143 (a3.add 1) ([.slice s105.a s105.len s105.cap]) fun w144 =>
stK w144 (a3.add 2) ([.slice s106.a s106.len s106.cap]) fun w145 =>
stK w145 (a3.add 3) ([.slice s107.a s107.len s107.cap]) fun w146 =>
R14 () w146)) ∧
(allocK (.cells #[.slice (some a83) 1 1] t_sl_uint8) w104 fun a108 w147 =>
At w147 (a3.add 3) (cells .slice x30) ∧
At w147 (a3.add 2) (cells .slice x29) ∧
At w147 (a3.add 1) (cells .slice x28) ∧
(appK t_api_ID 1 8 #[.int .i64 (0 : Int)] x28.a x28.len x28.cap (.slice (some a32) 1 1) 1 w147 fun s109 w148 =>
At w148 (a3.add 3) (cells .slice x30) ∧
At w148 (a3.add 2) (cells .slice x29) ∧
allocK (.cells #[.int .i64 (1 : Int)] t_int) w148 fun a110 w149 =>
At w149 (a3.add 3) (cells .slice x30) ∧
At w149 (a3.add 2) (cells .slice x29) ∧
appK t_int 1 8 #[.int .i64 (0 : Int)] x29.a x29.len x29.cap (.slice (some a110) 1 1) 1 w149 fun s111 w150 =>
At w150 (a3.add 3) (cells .slice x30) ∧
appK t_sl_uint8 1 24 #[.slice none 0 0] x30.a x30.len x30.cap (.slice (some a108) 1 1) 1 w150 fun s112 w151 =>
stK w151 (a3.add 1) ([.slice s109.a s109.len s109.cap]) fun w152 =>
stK w152 (a3.add 2) ([.slice s111.a s111.len s111.cap]) fun w153 =>
stK w153 (a3.add 3) ([.slice s112.a s112.len s112.cap]) fun w154 =>
R14 () w154) ∧
(allocK (.cells #[.int .i64 (1 : Int)] t_int) w147 fun a113 w155 =>
At w155 (a3.add 3) (cells .slice x30) ∧
At w155 (a3.add 2) (cells .slice x29) ∧
At w155 (a3.add 1) (cells .slice x28) ∧
appK t_api_ID 1 8 #[.int .i64 (0 : Int)] x28.a x28.len x28.cap (.slice (some a32) 1 1) 1 w155 fun s114 w156 =>
At w156 (a3.add 3) (cells .slice x30) ∧
At w156 (a3.add 2) (cells .slice x29) ∧
appK t_int 1 8 #[.int .i64 (0 : Int)] x29.a x29.len x29.cap (.slice (some a113) 1 1) 1 w156 fun s115 w157 =>
At w157 (a3.add 3) (cells .slice x30) ∧
appK t_sl_uint8 1 24 #[.slice none 0 0] x30.a x30.len x30.cap (.slice (some a108) 1 1) 1 w157 fun s116 w158 =>
stK w158 (a3.add 1) ([.slice s114.a s114.len s114.cap]) fun w159 =>
stK w159 (a3.add 2) ([.slice s115.a s115.len s115.cap]) fun w160 =>
stK w160 (a3.add 3) ([.slice s116.a s116.len s116.cap]) fun w161 =>
R14 () w161)))) ∧
(allocK (.cells #[.int .i64 (1 : Int)] t_int) w16 fun a117 w162 =>
At w162 (a18.add 1) (cells (.int .u8) x31) ∧
At w162 (a3.add 3) (cells .slice x30) ∧
At w162 (a3.add 2) (cells .slice x29) ∧
At w162 (a3.add 1) (cells .slice x28) ∧
(allocK (.cells #[.int .i64 x24.1] t_api_ID) w162 fun a118 w163 =>
At w163 (a18.add 1) (cells (.int .u8) x31) ∧
At w163 (a3.add 3) (cells .slice x30) ∧
At w163 (a3.add 2) (cells .slice x29) ∧
At w163 (a3.add 1) (cells .slice x28) ∧
(appK t_api_ID 1 8 #[.int .i64 (0 : Int)] x28.a x28.len x28.cap (.slice (some a118) 1 1) 1 w163 fun s119 w164 =>
At w164 (a18.add 1) (cells (.int .u8) x31) ∧
At w164 (a3.add 3) (cells .slice x30) ∧
At w164 (a3.add 2) (cells .slice x29) ∧
(appK t_int 1 8 #[.int .i64 (0 : Int)] x29.a x29.len x29.cap (.slice (some a117) 1 1) 1 w164 fun s120 w165 =>
At w165 (a18.add 1) (cells (.int .u8) x31) ∧
At w165 (a3.add 3) (cells .slice x30) ∧
allocK (.cells #[.int .u8 x31] t_uint8) w165 fun a121 w166 =>
At w166 (a3.add 3) (cells .slice x30) ∧
allocK (.cells #[.slice (some a121) 1 1] t_sl_uint8) w166 fun a122 w167 =>
At w167 (a3.add 3) (cells .slice x30) ∧
appK t_sl_uint8 1 24 #[.slice none 0 0] x30.a x30.len x30.cap (.slice (some a122) 1 1) 1 w167 fun s123 w168 =>
stK w168 (a3.add 1) ([.slice s119.a s119.len s119.cap]) fun w169 =>
stK w169 (a3.add 2) ([.slice s120.a s120.len s120.cap]) fun w170 =>
stK w170 (a3.add 3) ([.slice s123.a s123.len s123.cap]) fun w171 =>
R14 () w171) ∧
(allocK (.cells #[.int .u8 x31] t_uint8) w164 fun a124 w172 =>
At w172 (a3.add 3) (cells .slice x30) ∧
At w172 (a3.add 2) (cells .slice x29) ∧
(appK t_int 1 8 #[.int .i64 (0 : Int)] x29.a x29.len x29.cap (.slice (some a117) 1 1) 1 w172 fun s125 w173 =>
At w173 (a3.add 3) (cells .slice x30) ∧
allocK (.cells #[.slice (some a124) 1 1] t_sl_uint8) w173 fun a126 w174 =>
At w174 (a3.add 3) (cells .slice x30) ∧
appK t_sl_uint8 1 24 #[.slice none 0 0] x30.a x30.len x30.cap (.slice (some a126) 1 1) 1 w174 fun s127 w175 =>
stK w175 (a3.add 1) ([.slice s119.a s119.len s119.cap]) fun w176 =>
stK w176 (a3.add 2) ([.slice s125.a s125.len s125.cap]) fun w177 =>
stK w177 (a3.add 3) ([.slice s127.a s127.len s127.cap]) fun w178 =>
R14 () w178) ∧
(allocK (.cells #[.slice (some a124) 1 1] t_sl_uint8) w172 fun a128 w179 =>
At w179 (a3.add 3) (cells .slice x30) ∧
At w179 (a3.add 2) (cells .slice x29) ∧
appK t_int 1 8 #[.int .i64 (0 : Int)] x29.a x29.len x29.cap (.slice (some a117) 1 1) 1 w179 fun s129 w180 =>
At w180 (a3.add 3) (cells .slice x30) ∧
appK t_sl_uint8 1 24 #[.slice none 0 0] x30.a x30.len x30.cap (.slice (some a128) 1 1) 1 w180 fun s130 w181 =>
stK w181 (a3.add 1) ([.slice s119.a s119.len s119.cap]) fun w182 =>
stK w182 (a3.add 2) ([.slice s129.a s129.len s129.cap]) fun w183 =>
stK w183 (a3.add 3) ([.slice s130.a s130.len s130.cap]) fun w184 =>
R14 () w184))) ∧
(allocK (.cells #[.int .u8 x31] t_uint8) w163 fun a131 w185 =>
At w185 (a3.add 3) (cells .slice x30) ∧
At w185 (a3.add 2) (cells .slice x29) ∧
At w185 (a3.add 1) (cells .slice x28) ∧
(appK t_api_ID 1 8 #[.int .i64 (0 : Int)] x28.a x28.len x28.cap (.slice (some a118) 1 1) 1 w185 fun s132 w186 =>
At w186 (a3.add 3) (cells .slice x30) ∧
At w186 (a3.add 2) (cells .slice x29) ∧
(appK t_int 1 8 #[.int .i64 (0 : Int)] x29.a x29.len x29.cap (.slice (some a117) 1 1) 1 w186 fun s133 w187 =>
At w187 (a3.add 3) (cells .slice x30) ∧
allocK (.cells #[.slice (some a131) 1 1] t_sl_uint8) w187 fun a134 w188 =>
At w188 (a3.add 3) (cells .slice x30) ∧
appK t_sl_uint8 1 24 #[.slice none 0 0] x30.a x30.len x30.cap (.slice (some a134) 1 1) 1 w188 fun s135 w189 =>
stK w189 (a3.add 1) ([.slice s132.a s132.len s132.cap]) fun w190 =>
stK w190 (a3.add 2) ([.slice s133.a s133.len s133.cap]) fun w191 =>
stK w191 (a3.add 3) ([.slice s135.a s135.len s135.cap]) fun w192 =>
R14 () w192) ∧
(allocK (.cells #[.slice (some a131) 1 1] t_sl_uint8) w186 fun a136 w193 =>
At w193 (a3.add 3) (cells .slice x30) ∧
At w193 (a3.add 2) (cells .slice x29) ∧
appK t_int 1 8 #[.int .i64 (0 : Int)] x29.a x29.len x29.cap (.slice (some a117) 1 1) 1 w193 fun s137 w194 =>
At w194 (a3.add 3) (cells .slice x30) ∧
appK t_sl_uint8 1 24 #[.slice none 0 0] x30.a x30.len x30.cap (.slice (some a136) 1 1) 1 w194 fun s138 w195 =>
stK w195 (a3.add 1) ([.slice s132.a s132.len s132.cap]) fun w196 =>
stK w196 (a3.add 2) ([.slice s137.a s137.len s137.cap]) fun w197 =>
stK w197 (a3.add 3) ([.slice s138.a s138.len s138.cap]) fun w198 =>
R14 () w198)) ∧
(allocK (.cells #[.slice (some a131) 1 1] t_sl_uint8) w185 fun a139 w199 =>
At w199 (a3.add 3) (cells .slice x30) ∧
At w199 (a3.add 2) (cells .slice x29) ∧
At w199 (a3.add 1) (cells .slice x28) ∧
appK t_api_ID 1 8 #[.int .i64 (0 : Int)] x28.a x28.len x28.cap (.slice (some a118) 1 1) 1 w199 fun s140 w200 =>
At w200 (a3.add 3) (cells .slice x30) ∧
At w200 (a3.add 2) (cells .slice x29) ∧
appK t_int 1 8 #[.int .i64 (0 : Int)] x29.a x29.len x29.cap (.slice (some a117) 1 1) 1 w200 fun s141 w201 =>
At w201 (a3.add 3) (cells .slice x30) ∧
appK t_sl_uint8 1 24 #[.slice none 0 0] x30.a x30.len x30.cap (.slice (some a139) 1 1) 1 w201 fun s142 w202 =>
stK w202 (a3.add 1) ([.slice s140.a s140.len s140.cap]) fun w203 =>
stK w203 (a3.add 2) ([.slice s141.a s141.len s141.cap]) fun w204 =>
stK w204 (a3.add 3) ([.slice s142.a s142.len s142.cap]) fun w205 =>
R14 () w205))) ∧
(allocK (.cells #[.int .u8 x31] t_uint8) w162 fun a143 w206 =>
At w206 (a3.add 3) (cells .slice x30) ∧
At w206 (a3.add 2) (cells .slice x29) ∧
At w206 (a3.add 1) (cells .slice x28) ∧
(allocK (.cells #[.int .i64 x24.1] t_api_ID) w206 fun a144 w207 =>
At w207 (a3.add 3) (cells .slice x30) ∧
At w207 (a3.add 2) (cells .slice x29) ∧
At w207 (a3.add 1) (cells .slice x28) ∧
(appK t_api_ID 1 8 #[.int .i64 (0 : Int)] x28.a x28.len x28.cap (.slice (some a144) 1 1) 1 w207 fun s145 w208 =>
At w208 (a3.add 3) (cells .slice x30) ∧
At w208 (a3.add 2) (cells .slice x29) ∧
(appK t_int 1 8 #[.int .i64 (0 : Int)] x29.a x29.len x29.cap (.slice (some a117) 1 1) 1 w208 fun s146 w209 =>
At w209 (a3.add 3) (cells .slice x30) ∧
allocK (.cells #[.slice (some a143) 1 1] t_sl_uint8) w209 fun a147 w210 =>
At w210 (a3.add 3) (cells .slice x30) ∧
appK t_sl_uint8 1 24 #[.slice none 0 0] x30.a x30.len x30.cap (.slice (some a147) 1 1) 1 w210 fun s148 w211 =>
stK w211 (a3.add 1) ([.slice s145.a s145.len s145.cap]) fun w212 =>
stK w212 (a3.add 2) ([.slice s146.a s146.len s146.cap]) fun w213 =>
stK w213 (a3.add 3) ([.slice s148.a s148.len s148.cap]) fun w214 =>
R14 () w214) ∧
(allocK (.cells #[.slice (some a143) 1 1] t_sl_uint8) w208 fun a149 w215 =>
At w215 (a3.add 3) (cells .slice x30) ∧
At w215 (a3.add 2) (cells .slice x29) ∧
appK t_int 1 8 #[.int .i64 (0 : Int)] x29.a x29.len x29.cap (.slice (some a117) 1 1) 1 w215 fun s150 w216 =>
At w216 (a3.add 3) (cells .slice x30) ∧
appK t_sl_uint8 1 24 #[.slice none 0 0] x30.a x30.len x30.cap (.slice (some a149) 1 1) 1 w216 fun s151 w217 =>
stK w217 (a3.add 1) ([.slice s145.a s145.len s145.cap]) fun w218 =>
stK w218 (a3.add 2) ([.slice s150.a s150.len s150.cap]) fun w219 =>
stK w219 (a3.add 3) ([.slice s151.a s151.len s151.cap]) fun w220 =>
R14 () w220)) ∧
(allocK (.cells #[.slice (some a143) 1 1] t_sl_uint8) w207 fun a152 w221 =>
At w221 (a3.add 3) (cells .slice x30) ∧
At w221 (a3.add 2) (cells .slice x29) ∧
At w221 (a3.add 1) (cells .slice x28) ∧
appK t_api_ID 1 8 #[.int .i64 (0 : Int)] x28.a x28.len x28.cap (.slice (some a144) 1 1) 1 w221 fun s153 w222 =>
At w222 (a3.add 3) (cells .slice x30) ∧
At w222 (a3.add 2) (cells .slice x29) ∧
appK t_int 1 8 #[.int .i64 (0 : Int)] x29.a x29.len x29.cap (.slice (some a117) 1 1) 1 w222 fun s154 w223 =>
At w223 (a3.add 3) (cells .slice x30) ∧
appK t_sl_uint8 1 24 #[.slice none 0 0] x30.a x30.len x30.cap (.slice (some a152) 1 1) 1 w223 fun s155 w224 =>
stK w224 (a3.add 1) ([.slice s153.a s153.len s153.cap]) fun w225 =>
stK w225 (a3.add 2) ([.slice s154.a s154.len s154.cap]) fun w226 =>
stK w226 (a3.add 3) ([.slice s155.a s155.len s155.cap]) fun w227 =>
R14 () w227)) ∧
(allocK (.cells #[.slice (some a143) 1 1] t_sl_uint8) w206 fun a156 w228 =>
At w228 (a3.add 3) (cells .slice x30) ∧
At w228 (a3.add 2) (cells .slice x29) ∧
At w228 (a3.add 1) (cells .slice x28) ∧
allocK (.cells #[.int .i64 x24.1] t_api_ID) w228 fun a157 w229 =>
At w229 (a3.add 3) (cells .slice x30) ∧
At w229 (a3.add 2) (cells .slice x29) ∧
At w229 (a3.add 1) (cells .slice x28) ∧
appK t_api_ID 1 8 #[.int .i64 (0 : Int)] x28.a x28.len x28.cap (.slice (some a157) 1 1) 1 w229 fun s158 w230 =>
At w230 (a3.add 3) (cells .slice x30) ∧
At w230 (a3.add 2) (cells .slice x29) ∧
appK t_int 1 8 #[.int .i64 (0 : Int)] x29.a x29.len x29.cap (.slice (some a117) 1 1) 1 w230 fun s159 w231 =>
At w231 (a3.add 3) (cells .slice x30) ∧
appK t_sl_uint8 1 24 #[.slice none 0 0] x30.a x30.len x30.cap (.slice (some a156) 1 1) 1 w231 fun s160 w232 =>
stK w232 (a3.add 1) ([.slice s158.a s158.len s158.cap]) fun w233 =>
stK w233 (a3.add 2) ([.slice s159.a s159.len s159.cap]) fun w234 =>
stK w234 (a3.add 3) ([.slice s160.a s160.len s160.cap]) fun w235 =>
R14 () w235))) ∧
(allocK (.cells #[.int .u8 x31] t_uint8) w16 fun a161 w236 =>
At w236 (a3.add 3) (cells .slice x30) ∧
At w236 (a3.add 2) (cells .slice x29) ∧
At w236 (a3.add 1) (cells .slice x28) ∧
(allocK (.cells #[.int .i64 x24.1] t_api_ID) w236 fun a162 w237 =>
At w237 (a3.add 3) (cells .slice x30) ∧
At w237 (a3.add 2) (cells .slice x29) ∧
At w237 (a3.add 1) (cells .slice x28) ∧
(appK t_api_ID 1 8 #[.int .i64 (0 : Int)] x28.a x28.len x28.cap (.slice (some a162) 1 1) 1 w237 fun s163 w238 =>
At w238 (a3.add 3) (cells .slice x30) ∧
At w238 (a3.add 2) (cells .slice x29) ∧
(allocK (.cells #[.int .i64 (1 : Int)] t_int) w238 fun a164 w239 =>
At w239 (a3.add 3) (cells .slice x30) ∧
At w239 (a3.add 2) (cells .slice x29) ∧
(appK t_int 1 8 #[.int .i64 (0 : Int)] x29.a x29.len x29.cap (.slice (some a164) 1 1) 1 w239 fun s165 w240 =>
At w240 (a3.add 3) (cells .slice x30) ∧
allocK (.cells #[.slice (some a161) 1 1] t_sl_uint8) w240 fun a166 w241 =>
At w241 (a3.add 3) (cells .slice x30) ∧
appK t_sl_uint8 1 24 #[.slice none 0 0] x30.a x30.len x30.cap (.slice (some a166) 1 1) 1 w241 fun s167 w242 =>
stK w242 (a3.add 1) ([.slice s163.a s163.len s163.cap]) fun w243 =>
stK w243 (a3.add 2) ([.slice s165.a s165.len s165.cap]) fun w244 =>
stK w244 (a3.add 3) ([.slice s167.a s167.len s167.cap]) fun w245 =>
R14 () w245) ∧
(allocK (.cells #[.slice (some a161) 1 1] t_sl_uint8) w239 fun a168 w246 =>
At w246 (a3.add 3) (cells .slice x30) ∧
At w246 (a3.add 2) (cells .slice x29) ∧
appK t_int 1 8 #[.int .i64 (0 : Int)] x29.a x29.len x29.cap (.slice (some a164) 1 1) 1 w246 fun s169 w247 =>
At w247 (a3.add 3) (cells .slice x30) ∧
appK t_sl_uint8 1 24 #[.slice none 0 0] x30.a x30.len x30.cap (.slice (some a168) 1 1) 1 w247 fun s170 w248 =>
stK w248 (a3.add 1) ([.slice s163.a s163.len s163.cap]) fun w249 =>
stK w249 (a3.add 2) ([.slice s169.a s169.len s169.cap]) fun w250 =>
stK w250 (a3.add 3) ([.slice s170.a s170.len s170.cap]) fun w251 =>
R14 () w251)) ∧
(allocK (.cells #[.slice (some a161) 1 1] t_sl_uint8) w238 fun a171 w252 =>
At w252 (a3.add 3) (cells .slice x30) ∧
At w252 (a3.add 2) (cells .slice x29) ∧
allocK (.cells #[.int .i64 (1 : Int)] t_int) w252 fun a172 w253 =>
At w253 (a3.add 3) (cells .slice x30) ∧
At w253 (a3.add 2) (cells .slice x29) ∧
appK t_int 1 8 #[.int .i64 (0 : Int)] x29.a x29.len x29.cap (.slice (some a172) 1 1) 1 w253 fun s173 w254 =>
At w254 (a3.add 3) (cells .slice x30) ∧
appK t_sl_uint8 1 24 #[.slice none 0 0] x30.a x30.len x30.cap (.slice (some a171) 1 1) 1 w254 fun s174 w255 =>
stK w255 (a3.add 1) ([.slice s163.a s163.len s163.cap]) fun w256 =>
stK w256 (a3.add 2) ([.slice s173.a s173.len s173.cap]) fun w257 =>
stK w257 (a3.add 3) ([.slice s174.a s174.len s174.cap]) fun w258 =>
R14 () w258)) ∧
(allocK (.cells #[.int .i64 (1 : Int)] t_int) w237 fun a175 w259 =>
At w259 (a3.add 3) (cells .slice x30) ∧
At w259 (a3.add 2) (cells .slice x29) ∧
At w259 (a3.add 1) (cells .slice x28) ∧
(appK t_api_ID 1 8 #[.int .i64 (0 : Int)] x28.a x28.len x28.cap (.slice (some a162) 1 1) 1 w259 fun s176 w260 =>
At w260 (a3.add 3) (cells .slice x30) ∧
At w260 (a3.add 2) (cells .slice x29) ∧
(appK t_int 1 8 #[.int .i64 (0 : Int)] x29.a x29.len x29.cap (.slice (some a175) 1 1) 1 w260 fun s177 w261 =>
At w261 (a3.add 3) (cells .slice x30) ∧
allocK (.cells #[.slice (some a161) 1 1] t_sl_uint8) w261 fun a178 w262 =>
At w262 (a3.add 3) (cells .slice x30) ∧
appK t_sl_uint8 1 24 #[.slice none 0 0] x30.a x30.len x30.cap (.slice (some a178) 1 1) 1 w262 fun s179 w263 =>
stK w263 (a3.add 1) ([.slice s176.a s176.len s176.cap]) fun w264 =>
stK w264 (a3.add 2) ([.slice s177.a s177.len s177.cap]) fun w265 =>
stK w265 (a3.add 3) ([.slice s179.a s179.len s179.cap]) fun w266 =>
R14 () w266) ∧
(allocK (.cells #[.slice (some a161) 1 1] t_sl_uint8) w260 fun a180 w267 =>
At w267 (a3.add 3) (cells .slice x30) ∧
At w267 (a3.add 2) (cells .slice x29) ∧
appK t_int 1 8 #[.int .i64 (0 : Int)] x29.a x29.len x29.cap (.slice (some a175) 1 1) 1 w267 fun s181 w268 =>
At w268 (a3.add 3) (cells .slice x30) ∧
appK t_sl_uint8 1 24 #[.slice none 0 0] x30.a x30.len x30.cap (.slice (some a180) 1 1) 1 w268 fun s182 w269 =>
stK w269 (a3.add 1) ([.slice s176.a s176.len s176.cap]) fun w270 =>
stK w270 (a3.add 2) ([.slice s181.a s181.len s181.cap]) fun w271 =>
stK w271 (a3.add 3) ([.slice s182.a s182.len s182.cap]) fun w272 =>
R14 () w272)) ∧
(allocK (.cells #[.slice (some a161) 1 1] t_sl_uint8) w259 fun a183 w273 =>
At w273 (a3.add 3) (cells .slice x30) ∧
At w273 (a3.add 2) (cells .slice x29) ∧
At w273 (a3.add 1) (cells .slice x28) ∧
appK t_api_ID 1 8 #[.int .i64 (0 : Int)] x28.a x28.len x28.cap (.slice (some a162) 1 1) 1 w273 fun s184 w274 =>
At w274 (a3.add 3) (cells .slice x30) ∧
At w274 (a3.add 2) (cells .slice x29) ∧
appK t_int 1 8 #[.int .i64 (0 : Int)] x29.a x29.len x29.cap (.slice (some a175) 1 1) 1 w274 fun s185 w275 =>
At w275 (a3.add 3) (cells .slice x30) ∧
appK t_sl_uint8 1 24 #[.slice none 0 0] x30.a x30.len x30.cap (.slice (some a183) 1 1) 1 w275 fun s186 w276 =>
stK w276 (a3.add 1) ([.slice s184.a s184.len s184.cap]) fun w277 =>
stK w277 (a3.add 2) ([.slice s185.a s185.len s185.cap]) fun w278 =>
stK w278 (a3.add 3) ([.slice s186.a s186.len s186.cap]) fun w279 =>
R14 () w279)) ∧
(allocK (.cells #[.slice (some a161) 1 1] t_sl_uint8) w237 fun a187 w280 =>
At w280 (a3.add 3) (cells .slice x30) ∧
At w280 (a3.add 2) (cells .slice x29) ∧
At w280 (a3.add 1) (cells .slice x28) ∧
(appK t_api_ID 1 8 #[.int .i64 (0 : Int)] x28.a x28.len x28.cap (.slice (some a162) 1 1) 1 w280 fun s188 w281 =>
At w281 (a3.add 3) (cells .slice x30) ∧
At w281 (a3.add 2) (cells .slice x29) ∧
allocK (.cells #[.int .i64 (1 : Int)] t_int) w281 fun a189 w282 =>
At w282 (a3.add 3) (cells .slice x30) ∧
At w282 (a3.add 2) (cells .slice x29) ∧
appK t_int 1 8 #[.int .i64 (0 : Int)] x29.a x29.len x29.cap (.slice (some a189) 1 1) 1 w282 fun s190 w283 =>
At w283 (a3.add 3) (cells .slice x30) ∧
appK t_sl_uint8 1 24 #[.slice none 0 0] x30.a x30.len x30.cap (.slice (some a187) 1 1) 1 w283 fun s191 w284 =>
stK w284 (a3.add 1) ([.slice s188.a s188.len s188.cap]) fun w285 =>
stK w285 (a3.add 2) ([.slice s190.a s190.len s190.cap]) fun w286 =>
stK w286 (a3.add 3) ([.slice s191.a s191.len s191.cap]) fun w287 =>
R14 () w287) ∧
(allocK (.cells #[.int .i64 (1 : Int)] t_int) w280 fun a192 w288 =>
At w288 (a3.add 3) (cells .slice x30) ∧
At w288 (a3.add 2) (cells .slice x29) ∧
At w288 (a3.add 1) (cells .slice x28) ∧
appK t_api_ID 1 8 #[.int .i64 (0 : Int)] x28.a x28.len x28.cap (.slice (some a162) 1 1) 1 w288 fun s193 w289 =>
At w289 (a3.add 3) (cells .slice x30) ∧
At w289 (a3.add 2) (cells .slice x29) ∧
appK t_int 1 8 #[.int .i64 (0 : Int)] x29.a x29.len x29.cap (.slice (some a192) 1 1) 1 w289 fun s194 w290 =>
At w290 (a3.add 3) (cells .slice x30) ∧
appK t_sl_uint8 1 24 #[.slice none 0 0] x30.a x30.len x30.cap (.slice (some a187) 1 1) 1 w290 fun s195 w291 =>
stK w291 (a3.add 1) ([.slice s193.a s193.len s193.cap]) fun w292 =>
stK w292 (a3.add 2) ([.slice s194.a s194.len s194.cap]) fun w293 =>
stK w293 (a3.add 3) ([.slice s195.a s195.len s195.cap]) fun w294 =>
R14 () w294))) ∧
(allocK (.cells #[.int .i64 (1 : Int)] t_int) w236 fun a196 w295 =>
At w295 (a3.add 3) (cells .slice x30) ∧
At w295 (a3.add 2) (cells .slice x29) ∧
At w295 (a3.add 1) (cells .slice x28) ∧
(allocK (.cells #[.int .i64 x24.1] t_api_ID) w295 fun a197 w296 =>
At w296 (a3.add 3) (cells .slice x30) ∧
At w296 (a3.add 2) (cells .slice x29) ∧
At w296 (a3.add 1) (cells .slice x28) ∧
(appK t_api_ID 1 8 #[.int .i64 (0 : Int)] x28.a x28.len x28.cap (.slice (some a197) 1 1) 1 w296 fun s198 w297 =>
At w297 (a3.add 3) (cells .slice x30) ∧
At w297 (a3.add 2) (cells .slice x29) ∧
(appK t_int 1 8 #[.int .i64 (0 : Int)] x29.a x29.len x29.cap (.slice (some a196) 1 1) 1 w297 fun s199 w298 =>
At w298 (a3.add 3) (cells .slice x30) ∧
allocK (.cells #[.slice (some a161) 1 1] t_sl_uint8) w298 fun a200 w299 =>
At w299 (a3.add 3) (cells .slice x30) ∧
appK t_sl_uint8 1 24 #[.slice none 0 0] x30.a x30.len x30.cap (.slice (some a200) 1 1) 1 w299 fun s201 w300 =>
stK w300 (a3.add 1) ([.slice s198.a s198.len s198.cap]) fun w301 =>
stK w301 (a3.add 2) ([.slice s199.a s199.len s199.cap]) fun w302 =>
stK w302 (a3.add 3) ([.slice s201.a s201.len s201.cap]) fun w303 =>
R14 () w303) ∧
(allocK (.cells #[.slice (some a161) 1 1] t_sl_uint8) w297 fun a202 w304 =>
At w304 (a3.add 3) (cells .slice x30) ∧
At w304 (a3.add 2) (cells .slice x29) ∧
appK t_int 1 8 #[.int .i64 (0 : Int)] x29.a x29.len x29.cap (.slice (some a196) 1 1) 1 w304 fun s203 w305 =>
At w305 (a3.add 3) (cells .slice x30) ∧
appK t_sl_uint8 1 24 #[.slice none 0 0] x30.a x30.len x30.cap (.slice (some a202) 1 1) 1 w305 fun s204 w306 =>
stK w306 (a3.add 1) ([.slice s198.a s198.len s198.cap]) fun w307 =>
stK w307 (a3.add 2) ([.slice s203.a s203.len s203.cap]) fun w308 =>
stK w308 (a3.add 3) ([.slice s204.a s204.len s204.cap]) fun w309 =>
R14 () w309)) ∧
(allocK (.cells #[.slice (some a161) 1 1] t_sl_uint8) w296 fun a205 w310 =>
At w310 (a3.add 3) (cells .slice x30) ∧
At w310 (a3.add 2) (cells .slice x29) ∧
At w310 (a3.add 1) (cells .slice x28) ∧
appK t_api_ID 1 8 #[.int .i64 (0 : Int)] x28.a x28.len x28.cap (.slice (some a197) 1 1) 1 w310 fun s206 w311 =>
At w311 (a3.add 3) (cells .slice x30) ∧
At w311 (a3.add 2) (cells .slice x29) ∧
appK t_int 1 8 #[.int .i64 (0 : Int)] x29.a x29.len x29.cap (.slice (some a196) 1 1) 1 w311 fun s207 w312 =>
At w312 (a3.add 3) (cells .slice x30) ∧
appK t_sl_uint8 1 24 #[.slice none 0 0] x30.a x30.len x30.cap (.slice (some a205) 1 1) 1 w312 fun s208 w313 =>
stK w313 (a3.add 1) ([.slice s206.a s206.len s206.cap]) fun w314 =>
stK w314 (a3.add 2) ([.slice s207.a s207.len s207.cap]) fun w315 =>
stK w315 (a3.add 3) ([.slice s208.a s208.len s208.cap]) fun w316 =>
R14 () w316)) ∧
(allocK (.cells #[.slice (some a161) 1 1] t_sl_uint8) w295 fun a209 w317 =>
At w317 (a3.add 3) (cells .slice x30) ∧
At w317 (a3.add 2) (cells .slice x29) ∧
At w317 (a3.add 1) (cells .slice x28) ∧
allocK (.cells #[.int .i64 x24.1] t_api_ID) w317 fun a210 w318 =>
At w318 (a3.add 3) (cells .slice x30) ∧
At w318 (a3.add 2) (cells .slice x29) ∧
At w318 (a3.add 1) (cells .slice x28) ∧
appK t_api_ID 1 8 #[.int .i64 (0 : Int)] x28.a x28.len x28.cap (.slice (some a210) 1 1) 1 w318 fun s211 w319 =>
At w319 (a3.add 3) (cells .slice x30) ∧
At w319 (a3.add 2) (cells .slice x29) ∧
appK t_int 1 8 #[.int .i64 (0 : Int)] x29.a x29.len x29.cap (.slice (some a196) 1 1) 1 w319 fun s212 w320 =>
At w320 (a3.add 3) (cells .slice x30) ∧
appK t_sl_uint8 1 24 #[.slice none 0 0] x30.a x30.len x30.cap (.slice (some a209) 1 1) 1 w320 fun s213 w321 =>
stK w321 (a3.add 1) ([.slice s211.a s211.len s211.cap]) fun w322 =>
stK w322 (a3.add 2) ([.slice s212.a s212.len s212.cap]) fun w323 =>
stK w323 (a3.add 3) ([.slice s213.a s213.len s213.cap]) fun w324 =>
R14 () w324)) ∧
(allocK (.cells #[.slice (some a161) 1 1] t_sl_uint8) w236 fun a214 w325 =>
At w325 (a3.add 3) (cells .slice x30) ∧
At w325 (a3.add 2) (cells .slice x29) ∧
At w325 (a3.add 1) (cells .slice x28) ∧
(allocK (.cells #[.int .i64 x24.1] t_api_ID) w325 fun a215 w326 =>
At w326 (a3.add 3) (cells .slice x30) ∧
At w326 (a3.add 2) (cells .slice x29) ∧
At w326 (a3.add 1) (cells .slice x28) ∧
(appK t_api_ID 1 8 #[.int .i64 (0 : Int)] x28.a x28.len x28.cap (.slice (some a215) 1 1) 1 w326 fun s216 w327 =>
At w327 (a3.add 3) (cells .slice x30) ∧
At w327 (a3.add 2) (cells .slice x29) ∧
allocK (.cells #[.int .i64 (1 : Int)] t_int) w327 fun a217 w328 =>
At w328 (a3.add 3) (cells .slice x30) ∧
At w328 (a3.add 2) (cells .slice x29) ∧
appK t_int 1 8 #[.int .i64 (0 : Int)] x29.a x29.len x29.cap (.slice (some a217) 1 1) 1 w328 fun s218 w329 =>
At w329 (a3.add 3) (cells .slice x30) ∧
appK t_sl_uint8 1 24 #[.slice none 0 0] x30.a x30.len x30.cap (.slice (some a214) 1 1) 1 w329 fun s219 w330 =>
stK w330 (a3.add 1) ([.slice s216.a s216.len s216.cap]) fun w331 =>
stK w331 (a3.add 2) ([.slice s218.a s218.len s218.cap]) fun w332 =>
stK w332 (a3.add 3) ([.slice s219.a s219.len s219.cap]) fun w333 =>
R14 () w333) ∧
(allocK (.cells #[.int .i64 (1 : Int)] t_int) w326 fun a220 w334 =>
At w334 (a3.add 3) (cells .slice x30) ∧
At w334 (a3.add 2) (cells .slice x29) ∧
At w334 (a3.add 1) (cells .slice x28) ∧
appK t_api_ID 1 8 #[.int .i64 (0 : Int)] x28.a x28.len x28.cap (.slice (some a215) 1 1) 1 w334 fun s221 w335 =>
At w335 (a3.add 3) (cells .slice x30) ∧
At w335 (a3.add 2) (cells .slice x29) ∧
appK t_int 1 8 #[.int .i64 (0 : Int)] x29.a x29.len x29.cap (.slice (some a220) 1 1) 1 w335 fun s222 w336 =>
At w336 (a3.add 3) (cells .slice x30) ∧
appK t_sl_uint8 1 24 #[.slice none 0 0] x30.a x30.len x30.cap (.slice (some a214) 1 1) 1 w336 fun s223 w337 =>
stK w337 (a3.add 1) ([.slice s221.a s221.len s221.cap]) fun w338 =>
stK w338 (a3.add 2) ([.slice s222.a s222.len s222.cap]) fun w339 =>
stK w339 (a3.add 3) ([.slice s223.a s223.len s223.cap]) fun w340 =>
R14 () w340)) ∧
(allocK (.cells #[.int .i64 (1 : Int)] t_int) w325 fun a224 w341 =>
At w341 (a3.add 3) (cells .slice x30) ∧
At w341 (a3.add 2) (cells .slice x29) ∧
At w341 (a3.add 1) (cells .slice x28) ∧
allocK (.cells #[.int .i64 x24.1] t_api_ID) w341 fun a225 w342 =>
At w342 (a3.add 3) (cells .slice x30) ∧
At w342 (a3.add 2) (cells .slice x29) ∧
At w342 (a3.add 1) (cells .slice x28) ∧
appK t_api_ID 1 8 #[.int .i64 (0 : Int)] x28.a x28.len x28.cap (.slice (some a225) 1 1) 1 w342 fun s226 w343 =>
At w343 (a3.add 3) (cells .slice x30) ∧
At w343 (a3.add 2) (cells .slice x29) ∧
appK t_int 1 8 #[.int .i64 (0 : Int)] x29.a x29.len x29.cap (.slice (some a224) 1 1) 1 w343 fun s227 w344 =>
At w344 (a3.add 3) (cells .slice x30) ∧
appK t_sl_uint8 1 24 #[.slice none 0 0] x30.a x30.len x30.cap (.slice (some a214) 1 1) 1 w344 fun s228 w345 =>
stK w345 (a3.add 1) ([.slice s226.a s226.len s226.cap]) fun w346 =>
stK w346 (a3.add 2) ([.slice s227.a s227.len s227.cap]) fun w347 =>
stK w347 (a3.add 3) ([.slice s228.a s228.len s228.cap]) fun w348 =>
R14 () w348))))) w13) (
drawK w13 fun w349 =>
∃ x229 : Int, At w349 (a18.add 2) (cells (.int .u8) x229) ∧
arith .i64 (x229) fun n230 =>
(x17.len : Int) ≠ 0 ∧
letZ (Int.tmod n230 (x17.len : Int)) fun n231 =>
∃ x232 : Int, At w349 (a18.add 3) (cells (.int .u8) x232) ∧
arith .i64 (x232) fun n233 =>
(x17.len : Int) ≠ 0 ∧
letZ (Int.tmod n233 (x17.len : Int)) fun n234 =>
drawK w349 fun w350 =>
∃ x235 : Sl, At w350 (a3.add 2) (cells .slice x235) ∧
idxK x235.a x235.len n231 1 fun p236 =>
∃ x237 : Int, At w350 p236 (cells (.int .i64) x237) ∧
∃ x238 : Sl, At w350 (a3.add 2) (cells .slice x238) ∧
idxK x238.a x238.len n234 1 fun p239 =>
∃ x240 : Int, At w350 p239 (cells (.int .i64) x240) ∧
arith .i64 (x237 + x240) fun n241 =>
gd (decide ((1152921504606846976 : Int) < n241)) (
R14 () w350) (
drawK w350 fun w351 =>
∃ x242 : Option Addr, At w351 (a3.add 0) (cells .ptr x242) ∧
∃ x243 : Sl, At w351 (a3.add 1) (cells .slice x243) ∧
idxK x243.a x243.len n231 1 fun p244 =>
∃ x245 : Int, At w351 p244 (cells (.int .i64) x245) ∧
∃ x246 : Sl, At w351 (a3.add 1) (cells .slice x246) ∧
idxK x246.a x246.len n234 1 fun p247 =>
∃ x248 : Int, At w351 p247 (cells (.int .i64) x248) ∧
C_avl_Join x242 x245 x248 (fun x249 w352 =>
nilIfcK x249.2 fun b250 =>
gd (!b250) (
∃ x251 : yevergreenlaw14_Made.T, At w352 a3 (cells yevergreenlaw14_Made x251) ∧
stK w352 a1 (cells yevergreenlaw14_Made x251) fun w353 =>
∃ x252 : yevergreenlaw14_Made.T, At w353 a1 (cells yevergreenlaw14_Made x252) ∧
K (x252, false) w353) (
JoinP (X := Sl × Unit) (fun R254 =>
gd (decide (n241 ≤ (4096 : Int))) (
drawK w352 fun w355 =>
∃ x255 : Sl, At w355 (a3.add 3) (cells .slice x255) ∧
idxK x255.a x255.len n231 1 fun p256 =>
∃ x257 : Sl, At w355 p256 (cells .slice x257) ∧
∃ x258 : Sl, At w355 (a3.add 3) (cells .slice x258) ∧
idxK x258.a x258.len n234 1 fun p259 =>
∃ x260 : Sl, At w355 p259 (cells .slice x260) ∧
appK t_uint8 1 1 #[.int .u8 (0 : Int)] none 0 0 (.slice x257.a x257.len x257.cap) x257.len w355 fun s261 w356 =>
At w356 p259 (cells .slice x260) ∧
At w356 (a3.add 3) (cells .slice x258) ∧
appK t_uint8 1 1 #[.int .u8 (0 : Int)] s261.a s261.len s261.cap (.slice x260.a x260.len x260.cap) x260.len w356 fun s262 w357 =>
R254 (s262, ()) w357) (
R254 (⟨none, 0, 0⟩, ()) w352)) (fun x253 w354 => ∀ _ : Env,
drawK w354 fun w358 =>
∃ x263 : Sl, At w358 (a3.add 1) (cells .slice x263) ∧
∃ x264 : Sl, At w358 (a3.add 2) (cells .slice x264) ∧
∃ x265 : Sl, At w358 (a3.add 3) (cells .slice x265) ∧
(allocK (.cells #[.int .i64 x249.1] t_api_ID) w358 fun a266 w359 =>
At w359 (a3.add 3) (cells .slice x265) ∧
At w359 (a3.add 2) (cells .slice x264) ∧
At w359 (a3.add 1) (cells .slice x263) ∧
(appK t_api_ID 1 8 #[.int .i64 (0 : Int)] x263.a x263.len x263.cap (.slice (some a266) 1 1) 1 w359 fun s267 w360 =>
At w360 (a3.add 3) (cells .slice x265) ∧
At w360 (a3.add 2) (cells .slice x264) ∧
(allocK (.cells #[.int .i64 n241] t_int) w360 fun a268 w361 =>
At w361 (a3.add 3) (cells .slice x265) ∧
At w361 (a3.add 2) (cells .slice x264) ∧
(appK t_int 1 8 #[.int .i64 (0 : Int)] x264.a x264.len x264.cap (.slice (some a268) 1 1) 1 w361 fun s269 w362 =>
At w362 (a3.add 3) (cells .slice x265) ∧
allocK (.cells #[.slice x253.1.a x253.1.len x253.1.cap] t_sl_uint8) w362 fun a270 w363 =>
At w363 (a3.add 3) (cells .slice x265) ∧
appK t_sl_uint8 1 24 #[.slice none 0 0] x265.a x265.len x265.cap (.slice (some a270) 1 1) 1 w363 fun s271 w364 =>
stK w364 (a3.add 1) ([.slice s267.a s267.len s267.cap]) fun w365 =>
stK w365 (a3.add 2) ([.slice s269.a s269.len s269.cap]) fun w366 =>
stK w366 (a3.add 3) ([.slice s271.a s271.len s271.cap]) fun w367 =>
R14 () w367) ∧
(allocK (.cells #[.slice x253.1.a x253.1.len x253.1.cap] t_sl_uint8) w361 fun a272 w368 =>
At w368 (a3.add 3) (cells .slice x265) ∧
At w368 (a3.add 2) (cells .slice x264) ∧
appK t_int 1 8 #[.int .i64 (0 : Int)] x264.a x264.len x264.cap (.slice (some a268) 1 1) 1 w368 fun s273 w369 =>
At w369 (a3.add 3) (cells .slice x265) ∧
appK t_sl_uint8 1 24 #[.slice none 0 0] x265.a x265.len x265.cap (.slice (some a272) 1 1) 1 w369 fun s274 w370 =>
stK w370 (a3.add 1) ([.slice s267.a s267.len s267.cap]) fun w371 =>
stK w371 (a3.add 2) ([.slice s273.a s273.len s273.cap]) fun w372 =>
stK w372 (a3.add 3) ([.slice s274.a s274.len s274.cap]) fun w373 =>
R14 () w373)) ∧
(allocK (.cells #[.slice x253.1.a x253.1.len x253.1.cap] t_sl_uint8) w360 fun a275 w374 =>
At w374 (a3.add 3) (cells .slice x265) ∧
At w374 (a3.add 2) (cells .slice x264) ∧
allocK (.cells #[.int .i64 n241] t_int) w374 fun a276 w375 =>
At w375 (a3.add 3) (cells .slice x265) ∧
At w375 (a3.add 2) (cells .slice x264) ∧
appK t_int 1 8 #[.int .i64 (0 : Int)] x264.a x264.len x264.cap (.slice (some a276) 1 1) 1 w375 fun s277 w376 =>
At w376 (a3.add 3) (cells .slice x265) ∧
appK t_sl_uint8 1 24 #[.slice none 0 0] x265.a x265.len x265.cap (.slice (some a275) 1 1) 1 w376 fun s278 w377 =>
stK w377 (a3.add 1) ([.slice s267.a s267.len s267.cap]) fun w378 =>
stK w378 (a3.add 2) ([.slice s277.a s277.len s277.cap]) fun w379 =>
stK w379 (a3.add 3) ([.slice s278.a s278.len s278.cap]) fun w380 =>
R14 () w380)) ∧
(allocK (.cells #[.int .i64 n241] t_int) w359 fun a279 w381 =>
At w381 (a3.add 3) (cells .slice x265) ∧
At w381 (a3.add 2) (cells .slice x264) ∧
At w381 (a3.add 1) (cells .slice x263) ∧
(appK t_api_ID 1 8 #[.int .i64 (0 : Int)] x263.a x263.len x263.cap (.slice (some a266) 1 1) 1 w381 fun s280 w382 =>
At w382 (a3.add 3) (cells .slice x265) ∧
At w382 (a3.add 2) (cells .slice x264) ∧
(appK t_int 1 8 #[.int .i64 (0 : Int)] x264.a x264.len x264.cap (.slice (some a279) 1 1) 1 w382 fun s281 w383 =>
At w383 (a3.add 3) (cells .slice x265) ∧
allocK (.cells #[.slice x253.1.a x253.1.len x253.1.cap] t_sl_uint8) w383 fun a282 w384 =>
At w384 (a3.add 3) (cells .slice x265) ∧
appK t_sl_uint8 1 24 #[.slice none 0 0] x265.a x265.len x265.cap (.slice (some a282) 1 1) 1 w384 fun s283 w385 =>
stK w385 (a3.add 1) ([.slice s280.a s280.len s280.cap]) fun w386 =>
stK w386 (a3.add 2) ([.slice s281.a s281.len s281.cap]) fun w387 =>
stK w387 (a3.add 3) ([.slice s283.a s283.len s283.cap]) fun w388 =>
R14 () w388) ∧
(allocK (.cells #[.slice x253.1.a x253.1.len x253.1.cap] t_sl_uint8) w382 fun a284 w389 =>
At w389 (a3.add 3) (cells .slice x265) ∧
At w389 (a3.add 2) (cells .slice x264) ∧
appK t_int 1 8 #[.int .i64 (0 : Int)] x264.a x264.len x264.cap (.slice (some a279) 1 1) 1 w389 fun s285 w390 =>
At w390 (a3.add 3) (cells .slice x265) ∧
appK t_sl_uint8 1 24 #[.slice none 0 0] x265.a x265.len x265.cap (.slice (some a284) 1 1) 1 w390 fun s286 w391 =>
stK w391 (a3.add 1) ([.slice s280.a s280.len s280.cap]) fun w392 =>
stK w392 (a3.add 2) ([.slice s285.a s285.len s285.cap]) fun w393 =>
stK w393 (a3.add 3) ([.slice s286.a s286.len s286.cap]) fun w394 =>
R14 () w394)) ∧
(allocK (.cells #[.slice x253.1.a x253.1.len x253.1.cap] t_sl_uint8) w381 fun a287 w395 =>
At w395 (a3.add 3) (cells .slice x265) ∧
At w395 (a3.add 2) (cells .slice x264) ∧
At w395 (a3.add 1) (cells .slice x263) ∧
appK t_api_ID 1 8 #[.int .i64 (0 : Int)] x263.a x263.len x263.cap (.slice (some a266) 1 1) 1 w395 fun s288 w396 =>
At w396 (a3.add 3) (cells .slice x265) ∧
At w396 (a3.add 2) (cells .slice x264) ∧
appK t_int 1 8 #[.int .i64 (0 : Int)] x264.a x264.len x264.cap (.slice (some a279) 1 1) 1 w396 fun s289 w397 =>
At w397 (a3.add 3) (cells .slice x265) ∧
appK t_sl_uint8 1 24 #[.slice none 0 0] x265.a x265.len x265.cap (.slice (some a287) 1 1) 1 w397 fun s290 w398 =>
stK w398 (a3.add 1) ([.slice s288.a s288.len s288.cap]) fun w399 =>
stK w399 (a3.add 2) ([.slice s289.a s289.len s289.cap]) fun w400 =>
stK w400 (a3.add 3) ([.slice s290.a s290.len s290.cap]) fun w401 =>
R14 () w401)) ∧
(allocK (.cells #[.slice x253.1.a x253.1.len x253.1.cap] t_sl_uint8) w359 fun a291 w402 =>
At w402 (a3.add 3) (cells .slice x265) ∧
At w402 (a3.add 2) (cells .slice x264) ∧
At w402 (a3.add 1) (cells .slice x263) ∧
(appK t_api_ID 1 8 #[.int .i64 (0 : Int)] x263.a x263.len x263.cap (.slice (some a266) 1 1) 1 w402 fun s292 w403 =>
At w403 (a3.add 3) (cells .slice x265) ∧
At w403 (a3.add 2) (cells .slice x264) ∧
allocK (.cells #[.int .i64 n241] t_int) w403 fun a293 w404 =>
At w404 (a3.add 3) (cells .slice x265) ∧
At w404 (a3.add 2) (cells .slice x264) ∧
appK t_int 1 8 #[.int .i64 (0 : Int)] x264.a x264.len x264.cap (.slice (some a293) 1 1) 1 w404 fun s294 w405 =>
At w405 (a3.add 3) (cells .slice x265) ∧
appK t_sl_uint8 1 24 #[.slice none 0 0] x265.a x265.len x265.cap (.slice (some a291) 1 1) 1 w405 fun s295 w406 =>
stK w406 (a3.add 1) ([.slice s292.a s292.len s292.cap]) fun w407 =>
stK w407 (a3.add 2) ([.slice s294.a s294.len s294.cap]) fun w408 =>
stK w408 (a3.add 3) ([.slice s295.a s295.len s295.cap]) fun w409 =>
R14 () w409) ∧
(allocK (.cells #[.int .i64 n241] t_int) w402 fun a296 w410 =>
At w410 (a3.add 3) (cells .slice x265) ∧
At w410 (a3.add 2) (cells .slice x264) ∧
At w410 (a3.add 1) (cells .slice x263) ∧
appK t_api_ID 1 8 #[.int .i64 (0 : Int)] x263.a x263.len x263.cap (.slice (some a266) 1 1) 1 w410 fun s297 w411 =>
At w411 (a3.add 3) (cells .slice x265) ∧
At w411 (a3.add 2) (cells .slice x264) ∧
appK t_int 1 8 #[.int .i64 (0 : Int)] x264.a x264.len x264.cap (.slice (some a296) 1 1) 1 w411 fun s298 w412 =>
At w412 (a3.add 3) (cells .slice x265) ∧
appK t_sl_uint8 1 24 #[.slice none 0 0] x265.a x265.len x265.cap (.slice (some a291) 1 1) 1 w412 fun s299 w413 =>
stK w413 (a3.add 1) ([.slice s297.a s297.len s297.cap]) fun w414 =>
stK w414 (a3.add 2) ([.slice s298.a s298.len s298.cap]) fun w415 =>
stK w415 (a3.add 3) ([.slice s299.a s299.len s299.cap]) fun w416 =>
R14 () w416))) ∧
(allocK (.cells #[.int .i64 n241] t_int) w358 fun a300 w417 =>
At w417 (a3.add 3) (cells .slice x265) ∧
At w417 (a3.add 2) (cells .slice x264) ∧
At w417 (a3.add 1) (cells .slice x263) ∧
(allocK (.cells #[.int .i64 x249.1] t_api_ID) w417 fun a301 w418 =>
At w418 (a3.add 3) (cells .slice x265) ∧
At w418 (a3.add 2) (cells .slice x264) ∧
At w418 (a3.add 1) (cells .slice x263) ∧
(appK t_api_ID 1 8 #[.int .i64 (0 : Int)] x263.a x263.len x263.cap (.slice (some a301) 1 1) 1 w418 fun s302 w419 =>
At w419 (a3.add 3) (cells .slice x265) ∧
At w419 (a3.add 2) (cells .slice x264) ∧
(appK t_int 1 8 #[.int .i64 (0 : Int)] x264.a x264.len x264.cap (.slice (some a300) 1 1) 1 w419 fun s303 w420 =>
At w420 (a3.add 3) (cells .slice x265) ∧
allocK (.cells #[.slice x253.1.a x253.1.len x253.1.cap] t_sl_uint8) w420 fun a304 w421 =>
At w421 (a3.add 3) (cells .slice x265) ∧
appK t_sl_uint8 1 24 #[.slice none 0 0] x265.a x265.len x265.cap (.slice (some a304) 1 1) 1 w421 fun s305 w422 =>
stK w422 (a3.add 1) ([.slice s302.a s302.len s302.cap]) fun w423 =>
stK w423 (a3.add 2) ([.slice s303.a s303.len s303.cap]) fun w424 =>
stK w424 (a3.add 3) ([.slice s305.a s305.len s305.cap]) fun w425 =>
R14 () w425) ∧
(allocK (.cells #[.slice x253.1.a x253.1.len x253.1.cap] t_sl_uint8) w419 fun a306 w426 =>
At w426 (a3.add 3) (cells .slice x265) ∧
At w426 (a3.add 2) (cells .slice x264) ∧
appK t_int 1 8 #[.int .i64 (0 : Int)] x264.a x264.len x264.cap (.slice (some a300) 1 1) 1 w426 fun s307 w427 =>
At w427 (a3.add 3) (cells .slice x265) ∧
appK t_sl_uint8 1 24 #[.slice none 0 0] x265.a x265.len x265.cap (.slice (some a306) 1 1) 1 w427 fun s308 w428 =>
stK w428 (a3.add 1) ([.slice s302.a s302.len s302.cap]) fun w429 =>
stK w429 (a3.add 2) ([.slice s307.a s307.len s307.cap]) fun w430 =>
stK w430 (a3.add 3) ([.slice s308.a s308.len s308.cap]) fun w431 =>
R14 () w431)) ∧
(allocK (.cells #[.slice x253.1.a x253.1.len x253.1.cap] t_sl_uint8) w418 fun a309 w432 =>
At w432 (a3.add 3) (cells .slice x265) ∧
At w432 (a3.add 2) (cells .slice x264) ∧
At w432 (a3.add 1) (cells .slice x263) ∧
appK t_api_ID 1 8 #[.int .i64 (0 : Int)] x263.a x263.len x263.cap (.slice (some a301) 1 1) 1 w432 fun s310 w433 =>
At w433 (a3.add 3) (cells .slice x265) ∧
At w433 (a3.add 2) (cells .slice x264) ∧
appK t_int 1 8 #[.int .i64 (0 : Int)] x264.a x264.len x264.cap (.slice (some a300) 1 1) 1 w433 fun s311 w434 =>
At w434 (a3.add 3) (cells .slice x265) ∧
appK t_sl_uint8 1 24 #[.slice none 0 0] x265.a x265.len x265.cap (.slice (some a309) 1 1) 1 w434 fun s312 w435 =>
stK w435 (a3.add 1) ([.slice s310.a s310.len s310.cap]) fun w436 =>
stK w436 (a3.add 2) ([.slice s311.a s311.len s311.cap]) fun w437 =>
stK w437 (a3.add 3) ([.slice s312.a s312.len s312.cap]) fun w438 =>
R14 () w438)) ∧
(allocK (.cells #[.slice x253.1.a x253.1.len x253.1.cap] t_sl_uint8) w417 fun a313 w439 =>
At w439 (a3.add 3) (cells .slice x265) ∧
At w439 (a3.add 2) (cells .slice x264) ∧
At w439 (a3.add 1) (cells .slice x263) ∧
allocK (.cells #[.int .i64 x249.1] t_api_ID) w439 fun a314 w440 =>
At w440 (a3.add 3) (cells .slice x265) ∧
At w440 (a3.add 2) (cells .slice x264) ∧
At w440 (a3.add 1) (cells .slice x263) ∧
appK t_api_ID 1 8 #[.int .i64 (0 : Int)] x263.a x263.len x263.cap (.slice (some a314) 1 1) 1 w440 fun s315 w441 =>
At w441 (a3.add 3) (cells .slice x265) ∧
At w441 (a3.add 2) (cells .slice x264) ∧
appK t_int 1 8 #[.int .i64 (0 : Int)] x264.a x264.len x264.cap (.slice (some a300) 1 1) 1 w441 fun s316 w442 =>
At w442 (a3.add 3) (cells .slice x265) ∧
appK t_sl_uint8 1 24 #[.slice none 0 0] x265.a x265.len x265.cap (.slice (some a313) 1 1) 1 w442 fun s317 w443 =>
stK w443 (a3.add 1) ([.slice s315.a s315.len s315.cap]) fun w444 =>
stK w444 (a3.add 2) ([.slice s316.a s316.len s316.cap]) fun w445 =>
stK w445 (a3.add 3) ([.slice s317.a s317.len s317.cap]) fun w446 =>
R14 () w446)) ∧
(allocK (.cells #[.slice x253.1.a x253.1.len x253.1.cap] t_sl_uint8) w358 fun a318 w447 =>
At w447 (a3.add 3) (cells .slice x265) ∧
At w447 (a3.add 2) (cells .slice x264) ∧
At w447 (a3.add 1) (cells .slice x263) ∧
(allocK (.cells #[.int .i64 x249.1] t_api_ID) w447 fun a319 w448 =>
At w448 (a3.add 3) (cells .slice x265) ∧
At w448 (a3.add 2) (cells .slice x264) ∧
At w448 (a3.add 1) (cells .slice x263) ∧
(appK t_api_ID 1 8 #[.int .i64 (0 : Int)] x263.a x263.len x263.cap (.slice (some a319) 1 1) 1 w448 fun s320 w449 =>
At w449 (a3.add 3) (cells .slice x265) ∧
At w449 (a3.add 2) (cells .slice x264) ∧
allocK (.cells #[.int .i64 n241] t_int) w449 fun a321 w450 =>
At w450 (a3.add 3) (cells .slice x265) ∧
At w450 (a3.add 2) (cells .slice x264) ∧
appK t_int 1 8 #[.int .i64 (0 : Int)] x264.a x264.len x264.cap (.slice (some a321) 1 1) 1 w450 fun s322 w451 =>
At w451 (a3.add 3) (cells .slice x265) ∧
appK t_sl_uint8 1 24 #[.slice none 0 0] x265.a x265.len x265.cap (.slice (some a318) 1 1) 1 w451 fun s323 w452 =>
stK w452 (a3.add 1) ([.slice s320.a s320.len s320.cap]) fun w453 =>
stK w453 (a3.add 2) ([.slice s322.a s322.len s322.cap]) fun w454 =>
stK w454 (a3.add 3) ([.slice s323.a s323.len s323.cap]) fun w455 =>
R14 () w455) ∧
(allocK (.cells #[.int .i64 n241] t_int) w448 fun a324 w456 =>
At w456 (a3.add 3) (cells .slice x265) ∧
At w456 (a3.add 2) (cells .slice x264) ∧
At w456 (a3.add 1) (cells .slice x263) ∧
appK t_api_ID 1 8 #[.int .i64 (0 : Int)] x263.a x263.len x263.cap (.slice (some a319) 1 1) 1 w456 fun s325 w457 =>
At w457 (a3.add 3) (cells .slice x265) ∧
At w457 (a3.add 2) (cells .slice x264) ∧
appK t_int 1 8 #[.int .i64 (0 : Int)] x264.a x264.len x264.cap (.slice (some a324) 1 1) 1 w457 fun s326 w458 =>
At w458 (a3.add 3) (cells .slice x265) ∧
appK t_sl_uint8 1 24 #[.slice none 0 0] x265.a x265.len x265.cap (.slice (some a318) 1 1) 1 w458 fun s327 w459 =>
stK w459 (a3.add 1) ([.slice s325.a s325.len s325.cap]) fun w460 =>
stK w460 (a3.add 2) ([.slice s326.a s326.len s326.cap]) fun w461 =>
stK w461 (a3.add 3) ([.slice s327.a s327.len s327.cap]) fun w462 =>
R14 () w462)) ∧
(allocK (.cells #[.int .i64 n241] t_int) w447 fun a328 w463 =>
At w463 (a3.add 3) (cells .slice x265) ∧
At w463 (a3.add 2) (cells .slice x264) ∧
At w463 (a3.add 1) (cells .slice x263) ∧
allocK (.cells #[.int .i64 x249.1] t_api_ID) w463 fun a329 w464 =>
At w464 (a3.add 3) (cells .slice x265) ∧
At w464 (a3.add 2) (cells .slice x264) ∧
At w464 (a3.add 1) (cells .slice x263) ∧
appK t_api_ID 1 8 #[.int .i64 (0 : Int)] x263.a x263.len x263.cap (.slice (some a329) 1 1) 1 w464 fun s330 w465 =>
At w465 (a3.add 3) (cells .slice x265) ∧
At w465 (a3.add 2) (cells .slice x264) ∧
appK t_int 1 8 #[.int .i64 (0 : Int)] x264.a x264.len x264.cap (.slice (some a328) 1 1) 1 w465 fun s331 w466 =>
At w466 (a3.add 3) (cells .slice x265) ∧
appK t_sl_uint8 1 24 #[.slice none 0 0] x265.a x265.len x265.cap (.slice (some a318) 1 1) 1 w466 fun s332 w467 =>
stK w467 (a3.add 1) ([.slice s330.a s330.len s330.cap]) fun w468 =>
stK w468 (a3.add 2) ([.slice s331.a s331.len s331.cap]) fun w469 =>
stK w469 (a3.add 3) ([.slice s332.a s332.len s332.cap]) fun w470 =>
R14 () w470))))) w351)))) (fun x13 w9 => ∀ _ : Env,
arith .i64 (x9.1 + (1 : Int)) fun n333 =>
next10 (n333, ()) w9))) (fun x7 w6 => ∀ _ : Env,
∃ x334 : yevergreenlaw14_Made.T, At w6 a3 (cells yevergreenlaw14_Made x334) ∧
stK w6 a1 (cells yevergreenlaw14_Made x334) fun w471 =>
∃ x335 : yevergreenlaw14_Made.T, At w471 a1 (cells yevergreenlaw14_Made x335) ∧
K (x335, true) w471))) w1
theorem S_law14_Build (v0_list : Sl) (K : (yevergreenlaw14_Made.T × Bool) → World → Prop) (w0 : World) (h : F_law14_Build v0_list K w0) : C_law14_Build v0_list K w0 := by
  have e : denFn P [(23, []), (1005, [(5, .int .i64)]), (7, []), (6, []), (9, [(45, .bool)]), (22, [(15, .slice)])] Try.f11 #[.slice v0_list.a v0_list.len v0_list.cap] (.tup (.pair yevergreenlaw14_Made .bool)) K w0 = F_law14_Build v0_list K w0 := by kernel_rfl
  exact fn_sound mixed (f := 11) Try.func11 (by kernel_rfl) (e.mpr h)

end Go.Proofs.Ytgbledjehnojeaa

/- The typed texts of the functions, printed by a program; each proved to imply the call. -/
set_option linter.unusedVariables false
set_option maxRecDepth 100000
set_option maxHeartbeats 4000000
namespace Go.Proofs.Ytgbledjehnojeaa
open Go.Den

def F_law14_Made_Last (v0_m : yevergreenlaw14_Made.T) (K : (Int × Int × Sl × Bool) → World → Prop) (w0 : World) : Prop :=
allocK (.cells (cells yevergreenlaw14_Made v0_m).toArray t_evergreenlaw14_Made) w0 fun a1 w1 =>
∃ x2 : Sl, At w1 (a1.add 1) (cells .slice x2) ∧
gd ((x2.len : Int) == (0 : Int)) (
K ((0 : Int), (0 : Int), ⟨none, 0, 0⟩, true) w1) (
∃ x3 : Sl, At w1 (a1.add 1) (cells .slice x3) ∧
arith .i64 ((x3.len : Int) - (1 : Int)) fun n4 =>
drawK w1 fun w2 =>
∃ x5 : Sl, At w2 (a1.add 1) (cells .slice x5) ∧
idxK x5.a x5.len n4 1 fun p6 =>
∃ x7 : Int, At w2 p6 (cells (.int .i64) x7) ∧
∃ x8 : Sl, At w2 (a1.add 2) (cells .slice x8) ∧
idxK x8.a x8.len n4 1 fun p9 =>
∃ x10 : Int, At w2 p9 (cells (.int .i64) x10) ∧
∃ x11 : Sl, At w2 (a1.add 3) (cells .slice x11) ∧
idxK x11.a x11.len n4 1 fun p12 =>
∃ x13 : Sl, At w2 p12 (cells .slice x13) ∧
∃ x14 : Sl, At w2 (a1.add 2) (cells .slice x14) ∧
idxK x14.a x14.len n4 1 fun p15 =>
∃ x16 : Int, At w2 p15 (cells (.int .i64) x16) ∧
K (x7, x10, x13, decide (x16 ≤ (4096 : Int))) w2)
theorem S_law14_Made_Last (v0_m : yevergreenlaw14_Made.T) (K : (Int × Int × Sl × Bool) → World → Prop) (w0 : World) (h : F_law14_Made_Last v0_m K w0) : C_law14_Made_Last v0_m K w0 := by
  have e : denFn P [] Try.f12 #[val yevergreenlaw14_Made v0_m] (.tup (.pair (.int .i64) (.pair (.int .i64) (.pair .slice .bool)))) K w0 = F_law14_Made_Last v0_m K w0 := by kernel_rfl
  exact fn_sound mixed (f := 12) Try.func12 (by kernel_rfl) (e.mpr h)

def F_law14_awake  (K : Bool → World → Prop) (w0 : World) : Prop :=
allocK (.cells #[.bool false, .int .u8 (97 : Int), .int .u8 (0 : Int), .int .u8 (0 : Int), .bool false, .int .u8 (98 : Int), .int .u8 (0 : Int), .int .u8 (0 : Int), .bool true, .int .u8 (0 : Int), .int .u8 (0 : Int), .int .u8 (1 : Int)] t_evergreenlaw14_Step) w0 fun a1 w1 =>
C_law14_Build (⟨some a1, 3, 3⟩) (fun x2 w2 =>
allocK (.cells #[.pointer none, .slice none 0 0, .slice none 0 0, .slice none 0 0] t_evergreenlaw14_Made) w2 fun a3 w3 =>
stK w3 a3 (cells yevergreenlaw14_Made x2.1) fun w4 =>
∃ x4 : yevergreenlaw14_Made.T, At w4 a3 (cells yevergreenlaw14_Made x4) ∧
C_law14_Made_Last x4 (fun x5 w5 =>
JoinP (X := Bool × Unit) (fun R7 =>
gd (!x2.2) (
R7 (true, ()) w5) (
R7 (x5.1 == (0 : Int), ()) w5)) (fun x6 w6 => ∀ _ : Env,
gd x6.1 (
K false w6) (
∃ x8 : Option Addr, At w6 (a3.add 0) (cells .ptr x8) ∧
C_split_Split x8 x5.1 (1 : Int) (fun x9 w7 =>
nilIfcK x9.2.2 fun b10 =>
gd b10 (
∃ x11 : Sl, At w7 (a3.add 1) (cells .slice x11) ∧
idxK x11.a x11.len (0 : Int) 1 fun p12 =>
∃ x13 : Int, At w7 p12 (cells (.int .i64) x13) ∧
gd (x9.1 == x13) (
∃ x14 : Sl, At w7 (a3.add 1) (cells .slice x14) ∧
idxK x14.a x14.len (1 : Int) 1 fun p15 =>
∃ x16 : Int, At w7 p15 (cells (.int .i64) x16) ∧
K (x9.2.1 == x16) w7) (
K false w7)) (
K false w7)) w6))) w4) w1
theorem S_law14_awake  (K : Bool → World → Prop) (w0 : World) (h : F_law14_awake  K w0) : C_law14_awake  K w0 := by
  have e : denFn P [(4, [(30, .bool)])] Try.f13 #[] .bool K w0 = F_law14_awake  K w0 := by kernel_rfl
  exact fn_sound mixed (f := 13) Try.func13 (by kernel_rfl) (e.mpr h)

def F_law14_offset (v0_at : Int) (v1_n : Int) (K : Int → World → Prop) (w0 : World) : Prop :=
arith .i64 ((BitVec.ofInt (IntKind.bits .i64) v0_at &&& BitVec.ofInt (IntKind.bits .i64) (7 : Int)).toNat) fun n1 =>
gd (n1 == (0 : Int)) (
K v0_at w0) (
0 ≤ (3 : Int) ∧
letZ (Int.fdiv v0_at (2 ^ min (Int.toNat (3 : Int)) (IntKind.bits .i64))) fun n2 =>
arith .i64 ((BitVec.ofInt (IntKind.bits .i64) n2 &&& BitVec.ofInt (IntKind.bits .i64) (2305843009213693951 : Int)).toNat) fun n3 =>
arith .i64 (v1_n + (1 : Int)) fun n4 =>
n4 ≠ 0 ∧
letZ (Int.tmod n3 n4) fun n5 =>
K n5 w0)
theorem S_law14_offset (v0_at : Int) (v1_n : Int) (K : Int → World → Prop) (w0 : World) (h : F_law14_offset v0_at v1_n K w0) : C_law14_offset v0_at v1_n K w0 := by
  have e : denFn P [] Try.f14 #[.int .i64 v0_at, .int .i64 v1_n] (.int .i64) K w0 = F_law14_offset v0_at v1_n K w0 := by kernel_rfl
  exact fn_sound mixed (f := 14) Try.func14 (by kernel_rfl) (e.mpr h)

def F_split_Split (v0_s : Option Addr) (v1_id : Int) (v2_at : Int) (K : (Int × Int × Value) → World → Prop) (w0 : World) : Prop :=
C_split_check v0_s v1_id (fun x1 w1 =>
nilIfcK x1.2 fun b2 =>
gd (!b2) (
K ((0 : Int), (0 : Int), x1.2) w1) (
JoinP (X := Bool × Unit) (fun R4 =>
gd (decide (v2_at < (0 : Int))) (
R4 (true, ()) w1) (
R4 (decide (x1.1 < v2_at), ()) w1)) (fun x3 w2 => ∀ _ : Env,
gd x3.1 (
K ((0 : Int), (0 : Int), .iface t_api_Errno (.int .i64 (1 : Int))) w2) (
C_split_front v0_s v1_id v2_at (fun x5 w3 =>
nilIfcK x5.2 fun b6 =>
gd (!b6) (
K ((0 : Int), (0 : Int), x5.2) w3) (
C_split_rest v0_s v1_id v2_at (fun x7 w4 =>
nilIfcK x7.2 fun b8 =>
gd (!b8) (
K ((0 : Int), (0 : Int), x7.2) w4) (
K (x5.1, x7.1, .nilIface) w4)) w3)) w2)))) w0
theorem S_split_Split (v0_s : Option Addr) (v1_id : Int) (v2_at : Int) (K : (Int × Int × Value) → World → Prop) (w0 : World) (h : F_split_Split v0_s v1_id v2_at K w0) : C_split_Split v0_s v1_id v2_at K w0 := by
  have e : denFn P [(5, [(28, .bool)])] Try.f15 #[.pointer v0_s, .int .i64 v1_id, .int .i64 v2_at] (.tup (.pair (.int .i64) (.pair (.int .i64) .iface))) K w0 = F_split_Split v0_s v1_id v2_at K w0 := by kernel_rfl
  exact fn_sound mixed (f := 15) Try.func15 (by kernel_rfl) (e.mpr h)

def F_intern_Store_Weight (v0_s : Option Addr) (v1_id : Int) (K : (yapi_Weight.T × Value) → World → Prop) (w0 : World) : Prop :=
allocK (.cells #[.int .i64 (0 : Int), .int .i64 (0 : Int), .int .i64 (0 : Int), .int .i64 (0 : Int), .int .u64 (0 : Int), .int .u64 (0 : Int)] t_api_Weight) w0 fun a1 w1 =>
gd v0_s.isNone (
stK w1 a1 ([.int .i64 (0 : Int), .int .i64 (0 : Int), .int .i64 (0 : Int), .int .i64 (0 : Int), .int .u64 (0 : Int), .int .u64 (0 : Int)]) fun w2 =>
∃ x2 : yapi_Weight.T, At w2 a1 (cells yapi_Weight x2) ∧
K (x2, .iface t_api_Errno (.int .i64 (5 : Int))) w2) (
C_intern_Store_known v0_s v1_id (fun x3 w3 =>
gd (!x3) (
stK w3 a1 ([.int .i64 (0 : Int), .int .i64 (0 : Int), .int .i64 (0 : Int), .int .i64 (0 : Int), .int .u64 (0 : Int), .int .u64 (0 : Int)]) fun w4 =>
∃ x4 : yapi_Weight.T, At w4 a1 (cells yapi_Weight x4) ∧
K (x4, .iface t_api_Errno (.int .i64 (1 : Int))) w4) (
C_intern_Store_at v0_s v1_id (fun x5 w5 =>
stK w5 a1 ([.int .i64 x5.2.1.1, .int .i64 x5.2.1.2.1, .int .i64 x5.2.1.2.2.1, .int .i64 x5.2.1.2.2.2.1, .int .u64 x5.2.1.2.2.2.2.1, .int .u64 x5.2.1.2.2.2.2.2]) fun w6 =>
∃ x6 : yapi_Weight.T, At w6 a1 (cells yapi_Weight x6) ∧
K (x6, .nilIface) w6) w3)) w1)
theorem S_intern_Store_Weight (v0_s : Option Addr) (v1_id : Int) (K : (yapi_Weight.T × Value) → World → Prop) (w0 : World) (h : F_intern_Store_Weight v0_s v1_id K w0) : C_intern_Store_Weight v0_s v1_id K w0 := by
  have e : denFn P [] Try.f16 #[.pointer v0_s, .int .i64 v1_id] (.tup (.pair yapi_Weight .iface)) K w0 = F_intern_Store_Weight v0_s v1_id K w0 := by kernel_rfl
  exact fn_sound mixed (f := 16) Try.func16 (by kernel_rfl) (e.mpr h)

def F_weight_Join (v0_a : yapi_Weight.T) (v1_b : yapi_Weight.T) (K : (yapi_Weight.T × Value) → World → Prop) (w0 : World) : Prop :=
allocK (.cells (cells yapi_Weight v0_a).toArray t_api_Weight) w0 fun a1 w1 =>
allocK (.cells (cells yapi_Weight v1_b).toArray t_api_Weight) w1 fun a2 w2 =>
allocK (.cells #[.int .i64 (0 : Int), .int .i64 (0 : Int), .int .i64 (0 : Int), .int .i64 (0 : Int), .int .u64 (0 : Int), .int .u64 (0 : Int)] t_api_Weight) w2 fun a3 w3 =>
JoinP (X := Bool × Unit) (fun R5 =>
∃ x6 : yapi_Weight.T, At w3 a1 (cells yapi_Weight x6) ∧
C_weight_Valid x6 (fun x7 w5 =>
gd (!x7) (
R5 (true, ()) w5) (
∃ x8 : yapi_Weight.T, At w5 a2 (cells yapi_Weight x8) ∧
C_weight_Valid x8 (fun x9 w6 =>
R5 (!x9, ()) w6) w5)) w3) (fun x4 w4 => ∀ _ : Env,
gd x4.1 (
stK w4 a3 ([.int .i64 (0 : Int), .int .i64 (0 : Int), .int .i64 (0 : Int), .int .i64 (0 : Int), .int .u64 (0 : Int), .int .u64 (0 : Int)]) fun w7 =>
∃ x10 : yapi_Weight.T, At w7 a3 (cells yapi_Weight x10) ∧
K (x10, .iface t_api_Errno (.int .i64 (4 : Int))) w7) (
∃ x11 : Int, At w4 (a1.add 0) (cells (.int .i64) x11) ∧
∃ x12 : Int, At w4 (a2.add 0) (cells (.int .i64) x12) ∧
C_length_Add x11 x12 (fun x13 w8 =>
nilIfcK x13.2 fun b14 =>
gd (!b14) (
stK w8 a3 ([.int .i64 (0 : Int), .int .i64 (0 : Int), .int .i64 (0 : Int), .int .i64 (0 : Int), .int .u64 (0 : Int), .int .u64 (0 : Int)]) fun w9 =>
∃ x15 : yapi_Weight.T, At w9 a3 (cells yapi_Weight x15) ∧
K (x15, .iface t_api_Errno (.int .i64 (2 : Int))) w9) (
JoinP (X := Addr × Unit) (fun R17 =>
drawK w8 fun w11 =>
∃ x18 : Int, At w11 (a1.add 1) (cells (.int .i64) x18) ∧
∃ x19 : Int, At w11 (a2.add 1) (cells (.int .i64) x19) ∧
arith .i64 (x18 + x19) fun n20 =>
∃ x21 : Int, At w11 (a1.add 2) (cells (.int .i64) x21) ∧
∃ x22 : Int, At w11 (a2.add 3) (cells (.int .i64) x22) ∧
∃ x23 : yapi_Digest.T, At w11 (a1.add 4) (cells yapi_Digest x23) ∧
∃ x24 : yapi_Digest.T, At w11 (a2.add 4) (cells yapi_Digest x24) ∧
(C_digest_Join x23 x24 (fun x25 w12 =>
At w12 (a2.add 3) (cells (.int .i64) x22) ∧
At w12 (a1.add 2) (cells (.int .i64) x21) ∧
At w12 (a2.add 1) (cells (.int .i64) x19) ∧
At w12 (a1.add 1) (cells (.int .i64) x18) ∧
allocK (.cells #[.int .i64 (0 : Int), .int .i64 (0 : Int), .int .i64 (0 : Int), .int .i64 (0 : Int), .int .u64 (0 : Int), .int .u64 (0 : Int)] t_api_Weight) w12 fun a26 w13 =>
At w13 (a2.add 3) (cells (.int .i64) x22) ∧
At w13 (a1.add 2) (cells (.int .i64) x21) ∧
At w13 (a2.add 1) (cells (.int .i64) x19) ∧
At w13 (a1.add 1) (cells (.int .i64) x18) ∧
stK w13 a26 ([.int .i64 x13.1, .int .i64 n20, .int .i64 x21, .int .i64 x22, .int .u64 x25.1, .int .u64 x25.2]) fun w14 =>
R17 (a26, ()) w14) w11) ∧
(allocK (.cells #[.int .i64 (0 : Int), .int .i64 (0 : Int), .int .i64 (0 : Int), .int .i64 (0 : Int), .int .u64 (0 : Int), .int .u64 (0 : Int)] t_api_Weight) w11 fun a27 w15 =>
At w15 (a2.add 4) (cells yapi_Digest x24) ∧
At w15 (a1.add 4) (cells yapi_Digest x23) ∧
At w15 (a2.add 3) (cells (.int .i64) x22) ∧
At w15 (a1.add 2) (cells (.int .i64) x21) ∧
At w15 (a2.add 1) (cells (.int .i64) x19) ∧
At w15 (a1.add 1) (cells (.int .i64) x18) ∧
C_digest_Join x23 x24 (fun x28 w16 =>
At w16 (a2.add 3) (cells (.int .i64) x22) ∧
At w16 (a1.add 2) (cells (.int .i64) x21) ∧
At w16 (a2.add 1) (cells (.int .i64) x19) ∧
At w16 (a1.add 1) (cells (.int .i64) x18) ∧
stK w16 a27 ([.int .i64 x13.1, .int .i64 n20, .int .i64 x21, .int .i64 x22, .int .u64 x28.1, .int .u64 x28.2]) fun w17 =>
R17 (a27, ()) w17) w15)) (fun x16 w10 => ∀ _ : Env,
JoinP (X := Unit) (fun R30 =>
∃ x31 : Int, At w10 (a1.add 1) (cells (.int .i64) x31) ∧
gd (x31 == (0 : Int)) (
∃ x32 : Int, At w10 (a1.add 0) (cells (.int .i64) x32) ∧
∃ x33 : Int, At w10 (a2.add 2) (cells (.int .i64) x33) ∧
arith .i64 (x32 + x33) fun n34 =>
stK w10 (x16.1.add 2) ([.int .i64 n34]) fun w19 =>
R30 () w19) (
R30 () w10)) (fun x29 w18 => ∀ _ : Env,
JoinP (X := Unit) (fun R36 =>
∃ x37 : Int, At w18 (a2.add 1) (cells (.int .i64) x37) ∧
gd (x37 == (0 : Int)) (
∃ x38 : Int, At w18 (a2.add 0) (cells (.int .i64) x38) ∧
∃ x39 : Int, At w18 (a1.add 3) (cells (.int .i64) x39) ∧
arith .i64 (x38 + x39) fun n40 =>
stK w18 (x16.1.add 3) ([.int .i64 n40]) fun w21 =>
R36 () w21) (
R36 () w18)) (fun x35 w20 => ∀ _ : Env,
∃ x41 : yapi_Weight.T, At w20 x16.1 (cells yapi_Weight x41) ∧
stK w20 a3 (cells yapi_Weight x41) fun w22 =>
∃ x42 : yapi_Weight.T, At w22 a3 (cells yapi_Weight x42) ∧
K (x42, .nilIface) w22))))) w4))
theorem S_weight_Join (v0_a : yapi_Weight.T) (v1_b : yapi_Weight.T) (K : (yapi_Weight.T × Value) → World → Prop) (w0 : World) (h : F_weight_Join v0_a v1_b K w0) : C_weight_Join v0_a v1_b K w0 := by
  have e : denFn P [(2, [(16, .bool)]), (7, [(8, .addr)]), (9, []), (11, [])] Try.f17 #[val yapi_Weight v0_a, val yapi_Weight v1_b] (.tup (.pair yapi_Weight .iface)) K w0 = F_weight_Join v0_a v1_b K w0 := by kernel_rfl
  exact fn_sound mixed (f := 17) Try.func17 (by kernel_rfl) (e.mpr h)

def F_avl_Join (v0_s : Option Addr) (v1_a : Int) (v2_b : Int) (K : (Int × Value) → World → Prop) (w0 : World) : Prop :=
C_intern_Store_Weight v0_s v1_a (fun x1 w1 =>
allocK (.cells #[.int .i64 (0 : Int), .int .i64 (0 : Int), .int .i64 (0 : Int), .int .i64 (0 : Int), .int .u64 (0 : Int), .int .u64 (0 : Int)] t_api_Weight) w1 fun a2 w2 =>
stK w2 a2 (cells yapi_Weight x1.1) fun w3 =>
nilIfcK x1.2 fun b3 =>
gd (!b3) (
K ((0 : Int), x1.2) w3) (
C_intern_Store_Weight v0_s v2_b (fun x4 w4 =>
allocK (.cells #[.int .i64 (0 : Int), .int .i64 (0 : Int), .int .i64 (0 : Int), .int .i64 (0 : Int), .int .u64 (0 : Int), .int .u64 (0 : Int)] t_api_Weight) w4 fun a5 w5 =>
stK w5 a5 (cells yapi_Weight x4.1) fun w6 =>
nilIfcK x4.2 fun b6 =>
gd (!b6) (
K ((0 : Int), x4.2) w6) (
JoinP (X := Bool × Unit) (fun R8 =>
C_intern_Store_Even v0_s v1_a (fun x9 w8 =>
gd (!x9) (
R8 (true, ()) w8) (
C_intern_Store_Even v0_s v2_b (fun x10 w9 =>
R8 (!x10, ()) w9) w8)) w6) (fun x7 w7 => ∀ _ : Env,
gd x7.1 (
K ((0 : Int), .iface t_api_Errno (.int .i64 (4 : Int))) w7) (
∃ x11 : Int, At w7 (a2.add 0) (cells (.int .i64) x11) ∧
∃ x12 : Int, At w7 (a5.add 0) (cells (.int .i64) x12) ∧
C_length_Add x11 x12 (fun x13 w10 =>
nilIfcK x13.2 fun b14 =>
gd (!b14) (
K ((0 : Int), .iface t_api_Errno (.int .i64 (2 : Int))) w10) (
gd (v1_a == (0 : Int)) (
K (v2_b, .nilIface) w10) (
gd (v2_b == (0 : Int)) (
K (v1_a, .nilIface) w10) (
C_avl_join v0_s v1_a v2_b (fun x15 w11 =>
K (x15.1, x15.2) w11) w10)))) w7)))) w3)) w0
theorem S_avl_Join (v0_s : Option Addr) (v1_a : Int) (v2_b : Int) (K : (Int × Value) → World → Prop) (w0 : World) (h : F_avl_Join v0_s v1_a v2_b K w0) : C_avl_Join v0_s v1_a v2_b K w0 := by
  have e : denFn P [(8, [(40, .bool)])] Try.f18 #[.pointer v0_s, .int .i64 v1_a, .int .i64 v2_b] (.tup (.pair (.int .i64) .iface)) K w0 = F_avl_Join v0_s v1_a v2_b K w0 := by kernel_rfl
  exact fn_sound mixed (f := 18) Try.func18 (by kernel_rfl) (e.mpr h)

def F_avl_Balanced (v0_s : Option Addr) (v1_id : Int) (K : (Bool × Value) → World → Prop) (w0 : World) : Prop :=
C_intern_Store_Depth v0_s v1_id (fun x1 w1 =>
nilIfcK x1.2 fun b2 =>
gd (!b2) (
K (false, x1.2) w1) (
C_intern_Store_Even v0_s v1_id (fun x3 w2 =>
K (x3, .nilIface) w2) w1)) w0
theorem S_avl_Balanced (v0_s : Option Addr) (v1_id : Int) (K : (Bool × Value) → World → Prop) (w0 : World) (h : F_avl_Balanced v0_s v1_id K w0) : C_avl_Balanced v0_s v1_id K w0 := by
  have e : denFn P [] Try.f19 #[.pointer v0_s, .int .i64 v1_id] (.tup (.pair .bool .iface)) K w0 = F_avl_Balanced v0_s v1_id K w0 := by kernel_rfl
  exact fn_sound mixed (f := 19) Try.func19 (by kernel_rfl) (e.mpr h)

def F_intern_Store_Depth (v0_s : Option Addr) (v1_id : Int) (K : (Int × Value) → World → Prop) (w0 : World) : Prop :=
gd v0_s.isNone (
K ((0 : Int), .iface t_api_Errno (.int .i64 (5 : Int))) w0) (
C_intern_Store_known v0_s v1_id (fun x1 w1 =>
gd (!x1) (
K ((0 : Int), .iface t_api_Errno (.int .i64 (1 : Int))) w1) (
C_intern_Store_at v0_s v1_id (fun x2 w2 =>
K (x2.2.2.1, .nilIface) w2) w1)) w0)
theorem S_intern_Store_Depth (v0_s : Option Addr) (v1_id : Int) (K : (Int × Value) → World → Prop) (w0 : World) (h : F_intern_Store_Depth v0_s v1_id K w0) : C_intern_Store_Depth v0_s v1_id K w0 := by
  have e : denFn P [] Try.f20 #[.pointer v0_s, .int .i64 v1_id] (.tup (.pair (.int .i64) .iface)) K w0 = F_intern_Store_Depth v0_s v1_id K w0 := by kernel_rfl
  exact fn_sound mixed (f := 20) Try.func20 (by kernel_rfl) (e.mpr h)

def F_intern_Store_Len (v0_s : Option Addr) (K : Int → World → Prop) (w0 : World) : Prop :=
gd v0_s.isNone (
K (0 : Int) w0) (
nonNil v0_s fun p1 =>
∃ x2 : Sl, At w0 (p1.add 1) (cells .slice x2) ∧
K (x2.len : Int) w0)
theorem S_intern_Store_Len (v0_s : Option Addr) (K : Int → World → Prop) (w0 : World) (h : F_intern_Store_Len v0_s K w0) : C_intern_Store_Len v0_s K w0 := by
  have e : denFn P [] Try.f21 #[.pointer v0_s] (.int .i64) K w0 = F_intern_Store_Len v0_s K w0 := by kernel_rfl
  exact fn_sound mixed (f := 21) Try.func21 (by kernel_rfl) (e.mpr h)

def F_split_Section (v0_s : Option Addr) (v1_id : Int) (v2_from : Int) (v3_n : Int) (K : (Int × Value) → World → Prop) (w0 : World) : Prop :=
C_split_check v0_s v1_id (fun x1 w1 =>
nilIfcK x1.2 fun b2 =>
gd (!b2) (
K ((0 : Int), x1.2) w1) (
C_length_Range v2_from v3_n x1.1 (fun x3 w2 =>
nilIfcK x3 fun b4 =>
gd (!b4) (
K ((0 : Int), x3) w2) (
C_split_section v0_s v1_id v2_from v3_n (fun x5 w3 =>
K (x5.1, x5.2) w3) w2)) w1)) w0
theorem S_split_Section (v0_s : Option Addr) (v1_id : Int) (v2_from : Int) (v3_n : Int) (K : (Int × Value) → World → Prop) (w0 : World) (h : F_split_Section v0_s v1_id v2_from v3_n K w0) : C_split_Section v0_s v1_id v2_from v3_n K w0 := by
  have e : denFn P [] Try.f22 #[.pointer v0_s, .int .i64 v1_id, .int .i64 v2_from, .int .i64 v3_n] (.tup (.pair (.int .i64) .iface)) K w0 = F_split_Section v0_s v1_id v2_from v3_n K w0 := by kernel_rfl
  exact fn_sound mixed (f := 22) Try.func22 (by kernel_rfl) (e.mpr h)

def F_split_Cut (v0_s : Option Addr) (v1_id : Int) (v2_at : Sl) (K : (Sl × Value) → World → Prop) (w0 : World) : Prop :=
C_split_check v0_s v1_id (fun x1 w1 =>
nilIfcK x1.2 fun b2 =>
gd (!b2) (
K (⟨none, 0, 0⟩, x1.2) w1) (
LoopP (X := Int × Int × Unit) ((0 : Int), (0 : Int), ()) w1 fun next4 x3 w2 => ∀ _ : Env,
gd (decide (x3.2.1 < (v2_at.len : Int))) (
idxK v2_at.a v2_at.len x3.2.1 1 fun p5 =>
∃ x6 : Int, At w2 p5 (cells (.int .i64) x6) ∧
JoinP (X := Bool × Unit) (fun R8 =>
gd (decide (x6 < x3.1)) (
R8 (true, ()) w2) (
R8 (decide (x1.1 < x6), ()) w2)) (fun x7 w3 => ∀ _ : Env,
gd x7.1 (
K (⟨none, 0, 0⟩, .iface t_api_Errno (.int .i64 (1 : Int))) w3) (
arith .i64 (x3.2.1 + (1 : Int)) fun n9 =>
next4 (x6, n9, ()) w3))) (
arith .i64 ((v2_at.len : Int) + (1 : Int)) fun n10 =>
0 ≤ (0 : Int) ∧ (0 : Int) ≤ n10 ∧ n10 ≤ 9223372036854775807 ∧ 8 * n10 ≤ 281474976710656 ∧
allocK (.cells (zrow #[.int .i64 (0 : Int)] (n10.toNat * 1)) t_api_ID) w2 fun a11 w4 =>
LoopP (X := Sl × Int × Int × Unit) (⟨some a11, (0 : Int).toNat, n10.toNat⟩, (0 : Int), (0 : Int), ()) w4 fun next13 x12 w5 => ∀ _ : Env,
gd (decide (x12.2.2.1 ≤ (v2_at.len : Int))) (
JoinP (X := Int × Unit) (fun R15 =>
gd (decide (x12.2.2.1 < (v2_at.len : Int))) (
idxK v2_at.a v2_at.len x12.2.2.1 1 fun p16 =>
∃ x17 : Int, At w5 p16 (cells (.int .i64) x17) ∧
R15 (x17, ()) w5) (
R15 (x1.1, ()) w5)) (fun x14 w6 => ∀ _ : Env,
arith .i64 (x14.1 - x12.2.1) fun n18 =>
C_split_section v0_s v1_id x12.2.1 n18 (fun x19 w7 =>
nilIfcK x19.2 fun b20 =>
gd (!b20) (
K (⟨none, 0, 0⟩, x19.2) w7) (
allocK (.cells #[.int .i64 x19.1] t_api_ID) w7 fun a21 w8 =>
appK t_api_ID 1 8 #[.int .i64 (0 : Int)] x12.1.a x12.1.len x12.1.cap (.slice (some a21) 1 1) 1 w8 fun s22 w9 =>
arith .i64 (x12.2.2.1 + (1 : Int)) fun n23 =>
next13 (s22, x14.1, n23, ()) w9)) w6)) (
K (x12.1, .nilIface) w5)))) w0
theorem S_split_Cut (v0_s : Option Addr) (v1_id : Int) (v2_at : Sl) (K : (Sl × Value) → World → Prop) (w0 : World) (h : F_split_Cut v0_s v1_id v2_at K w0) : C_split_Cut v0_s v1_id v2_at K w0 := by
  have e : denFn P [(1006, [(10, .int .i64), (30, .int .i64)]), (9, [(41, .bool)]), (1015, [(13, .slice), (14, .int .i64), (15, .int .i64)]), (20, [(16, .int .i64)])] Try.f23 #[.pointer v0_s, .int .i64 v1_id, .slice v2_at.a v2_at.len v2_at.cap] (.tup (.pair .slice .iface)) K w0 = F_split_Cut v0_s v1_id v2_at K w0 := by kernel_rfl
  exact fn_sound mixed (f := 23) Try.func23 (by kernel_rfl) (e.mpr h)

def F_intern_Store_Letter (v0_s : Option Addr) (v1_b : Int) (K : (Int × Value) → World → Prop) (w0 : World) : Prop :=
gd v0_s.isNone (
K ((0 : Int), .iface t_api_Errno (.int .i64 (5 : Int))) w0) (
allocK (.cells #[.int .i64 (0 : Int), .int .u8 (0 : Int), .int .i64 (0 : Int), .int .i64 (0 : Int), .int .i64 (0 : Int)] t_api_Rule) w0 fun a1 w1 =>
stK w1 a1 ([.int .i64 (1 : Int), .int .u8 v1_b, .int .i64 (0 : Int), .int .i64 (0 : Int), .int .i64 (0 : Int)]) fun w2 =>
∃ x2 : yapi_Rule.T, At w2 a1 (cells yapi_Rule x2) ∧
C_intern_Store_find v0_s x2 (fun x3 w3 =>
JoinP (X := Bool × Unit) (fun R5 =>
gd (x3.1 != (0 : Int)) (
R5 (true, ()) w3) (
nilIfcK x3.2 fun b6 =>
R5 (!b6, ()) w3)) (fun x4 w4 => ∀ _ : Env,
gd x4.1 (
K (x3.1, x3.2) w4) (
drawK w4 fun w5 =>
∃ x7 : yapi_Rule.T, At w5 a1 (cells yapi_Rule x7) ∧
C_weight_Letter v1_b (fun x8 w6 =>
At w6 a1 (cells yapi_Rule x7) ∧
C_intern_Store_add v0_s ((x7.1, (x7.2.1, (x7.2.2.1, (x7.2.2.2.1, x7.2.2.2.2)))), ((x8.1, (x8.2.1, (x8.2.2.1, (x8.2.2.2.1, (x8.2.2.2.2.1, x8.2.2.2.2.2))))), ((0 : Int), true))) (fun x9 w7 =>
K (x9, .nilIface) w7) w6) w5))) w2)
theorem S_intern_Store_Letter (v0_s : Option Addr) (v1_b : Int) (K : (Int × Value) → World → Prop) (w0 : World) (h : F_intern_Store_Letter v0_s v1_b K w0) : C_intern_Store_Letter v0_s v1_b K w0 := by
  have e : denFn P [(6, [(25, .bool)])] Try.f24 #[.pointer v0_s, .int .u8 v1_b] (.tup (.pair (.int .i64) .iface)) K w0 = F_intern_Store_Letter v0_s v1_b K w0 := by kernel_rfl
  exact fn_sound mixed (f := 24) Try.func24 (by kernel_rfl) (e.mpr h)

def F_intern_Store_Power (v0_s : Option Addr) (v1_x : Int) (v2_k : Int) (K : (Int × Value) → World → Prop) (w0 : World) : Prop :=
gd v0_s.isNone (
K ((0 : Int), .iface t_api_Errno (.int .i64 (5 : Int))) w0) (
JoinP (X := Bool × Unit) (fun R2 =>
C_intern_Store_known v0_s v1_x (fun x3 w2 =>
gd (!x3) (
R2 (true, ()) w2) (
R2 (decide (v2_k < (0 : Int)), ()) w2)) w0) (fun x1 w1 => ∀ _ : Env,
gd x1.1 (
K ((0 : Int), .iface t_api_Errno (.int .i64 (1 : Int))) w1) (
JoinP (X := Bool × Unit) (fun R5 =>
gd (v2_k == (0 : Int)) (
R5 (true, ()) w1) (
R5 (v1_x == (0 : Int), ()) w1)) (fun x4 w3 => ∀ _ : Env,
gd x4.1 (
K ((0 : Int), .nilIface) w3) (
gd (v2_k == (1 : Int)) (
K (v1_x, .nilIface) w3) (
C_intern_Store_at v0_s v1_x (fun x6 w4 =>
allocK (.cells #[.int .i64 (0 : Int), .int .u8 (0 : Int), .int .i64 (0 : Int), .int .i64 (0 : Int), .int .i64 (0 : Int), .int .i64 (0 : Int), .int .i64 (0 : Int), .int .i64 (0 : Int), .int .i64 (0 : Int), .int .u64 (0 : Int), .int .u64 (0 : Int), .int .i64 (0 : Int), .bool false] t_intern_entry) w4 fun a7 w5 =>
stK w5 a7 (cells yintern_entry x6) fun w6 =>
∃ x8 : Int, At w6 ((a7.add 5).add 0) (cells (.int .i64) x8) ∧
C_length_Mul x8 v2_k (fun x9 w7 =>
nilIfcK x9.2 fun b10 =>
gd (!b10) (
K ((0 : Int), .iface t_api_Errno (.int .i64 (2 : Int))) w7) (
allocK (.cells #[.int .i64 (0 : Int), .int .u8 (0 : Int), .int .i64 (0 : Int), .int .i64 (0 : Int), .int .i64 (0 : Int)] t_api_Rule) w7 fun a11 w8 =>
stK w8 a11 ([.int .i64 (3 : Int), .int .u8 (0 : Int), .int .i64 v1_x, .int .i64 (0 : Int), .int .i64 v2_k]) fun w9 =>
∃ x12 : yapi_Rule.T, At w9 a11 (cells yapi_Rule x12) ∧
C_intern_Store_find v0_s x12 (fun x13 w10 =>
JoinP (X := Bool × Unit) (fun R15 =>
gd (x13.1 != (0 : Int)) (
R15 (true, ()) w10) (
nilIfcK x13.2 fun b16 =>
R15 (!b16, ()) w10)) (fun x14 w11 => ∀ _ : Env,
gd x14.1 (
K (x13.1, x13.2) w11) (
∃ x17 : yapi_Weight.T, At w11 (a7.add 5) (cells yapi_Weight x17) ∧
C_weight_Repeat x17 v2_k (fun x18 w12 =>
allocK (.cells #[.int .i64 (0 : Int), .int .i64 (0 : Int), .int .i64 (0 : Int), .int .i64 (0 : Int), .int .u64 (0 : Int), .int .u64 (0 : Int)] t_api_Weight) w12 fun a19 w13 =>
stK w13 a19 (cells yapi_Weight x18.1) fun w14 =>
nilIfcK x18.2 fun b20 =>
gd (!b20) (
K ((0 : Int), x18.2) w14) (
∃ x21 : yapi_Rule.T, At w14 a11 (cells yapi_Rule x21) ∧
∃ x22 : yapi_Weight.T, At w14 a19 (cells yapi_Weight x22) ∧
∃ x23 : Int, At w14 (a7.add 11) (cells (.int .i64) x23) ∧
arith .i64 ((1 : Int) + x23) fun n24 =>
C_intern_Store_add v0_s ((x21.1, (x21.2.1, (x21.2.2.1, (x21.2.2.2.1, x21.2.2.2.2)))), ((x22.1, (x22.2.1, (x22.2.2.1, (x22.2.2.2.1, (x22.2.2.2.2.1, x22.2.2.2.2.2))))), (n24, false))) (fun x25 w15 =>
K (x25, .nilIface) w15) w14)) w11))) w9)) w6) w3))))))
theorem S_intern_Store_Power (v0_s : Option Addr) (v1_x : Int) (v2_k : Int) (K : (Int × Value) → World → Prop) (w0 : World) (h : F_intern_Store_Power v0_s v1_x v2_k K w0) : C_intern_Store_Power v0_s v1_x v2_k K w0 := by
  have e : denFn P [(4, [(26, .bool)]), (6, [(33, .bool)]), (16, [(65, .bool)])] Try.f25 #[.pointer v0_s, .int .i64 v1_x, .int .i64 v2_k] (.tup (.pair (.int .i64) .iface)) K w0 = F_intern_Store_Power v0_s v1_x v2_k K w0 := by kernel_rfl
  exact fn_sound mixed (f := 25) Try.func25 (by kernel_rfl) (e.mpr h)

def F_intern_Store_Pair (v0_s : Option Addr) (v1_l : Int) (v2_r : Int) (K : (Int × Value) → World → Prop) (w0 : World) : Prop :=
gd v0_s.isNone (
K ((0 : Int), .iface t_api_Errno (.int .i64 (5 : Int))) w0) (
JoinP (X := Bool × Unit) (fun R2 =>
C_intern_Store_known v0_s v1_l (fun x3 w2 =>
gd (!x3) (
R2 (true, ()) w2) (
C_intern_Store_known v0_s v2_r (fun x4 w3 =>
R2 (!x4, ()) w3) w2)) w0) (fun x1 w1 => ∀ _ : Env,
gd x1.1 (
K ((0 : Int), .iface t_api_Errno (.int .i64 (1 : Int))) w1) (
gd (v1_l == (0 : Int)) (
K (v2_r, .nilIface) w1) (
gd (v2_r == (0 : Int)) (
K (v1_l, .nilIface) w1) (
C_intern_Store_at v0_s v1_l (fun x5 w4 =>
C_intern_Store_at v0_s v2_r (fun x6 w5 =>
allocK (.cells #[.int .i64 (0 : Int), .int .u8 (0 : Int), .int .i64 (0 : Int), .int .i64 (0 : Int), .int .i64 (0 : Int), .int .i64 (0 : Int), .int .i64 (0 : Int), .int .i64 (0 : Int), .int .i64 (0 : Int), .int .u64 (0 : Int), .int .u64 (0 : Int), .int .i64 (0 : Int), .bool false] t_intern_entry) w5 fun a7 w6 =>
allocK (.cells #[.int .i64 (0 : Int), .int .u8 (0 : Int), .int .i64 (0 : Int), .int .i64 (0 : Int), .int .i64 (0 : Int), .int .i64 (0 : Int), .int .i64 (0 : Int), .int .i64 (0 : Int), .int .i64 (0 : Int), .int .u64 (0 : Int), .int .u64 (0 : Int), .int .i64 (0 : Int), .bool false] t_intern_entry) w6 fun a8 w7 =>
stK w7 a7 (cells yintern_entry x5) fun w8 =>
stK w8 a8 (cells yintern_entry x6) fun w9 =>
∃ x9 : Int, At w9 ((a7.add 5).add 0) (cells (.int .i64) x9) ∧
∃ x10 : Int, At w9 ((a8.add 5).add 0) (cells (.int .i64) x10) ∧
C_length_Add x9 x10 (fun x11 w10 =>
nilIfcK x11.2 fun b12 =>
gd (!b12) (
K ((0 : Int), .iface t_api_Errno (.int .i64 (2 : Int))) w10) (
allocK (.cells #[.int .i64 (0 : Int), .int .u8 (0 : Int), .int .i64 (0 : Int), .int .i64 (0 : Int), .int .i64 (0 : Int)] t_api_Rule) w10 fun a13 w11 =>
stK w11 a13 ([.int .i64 (2 : Int), .int .u8 (0 : Int), .int .i64 v1_l, .int .i64 v2_r, .int .i64 (0 : Int)]) fun w12 =>
∃ x14 : yapi_Rule.T, At w12 a13 (cells yapi_Rule x14) ∧
C_intern_Store_find v0_s x14 (fun x15 w13 =>
JoinP (X := Bool × Unit) (fun R17 =>
gd (x15.1 != (0 : Int)) (
R17 (true, ()) w13) (
nilIfcK x15.2 fun b18 =>
R17 (!b18, ()) w13)) (fun x16 w14 => ∀ _ : Env,
gd x16.1 (
K (x15.1, x15.2) w14) (
∃ x19 : yapi_Weight.T, At w14 (a7.add 5) (cells yapi_Weight x19) ∧
∃ x20 : yapi_Weight.T, At w14 (a8.add 5) (cells yapi_Weight x20) ∧
C_weight_Join x19 x20 (fun x21 w15 =>
allocK (.cells #[.int .i64 (0 : Int), .int .i64 (0 : Int), .int .i64 (0 : Int), .int .i64 (0 : Int), .int .u64 (0 : Int), .int .u64 (0 : Int)] t_api_Weight) w15 fun a22 w16 =>
stK w16 a22 (cells yapi_Weight x21.1) fun w17 =>
nilIfcK x21.2 fun b23 =>
gd (!b23) (
K ((0 : Int), x21.2) w17) (
∃ x24 : Int, At w17 (a7.add 11) (cells (.int .i64) x24) ∧
∃ x25 : Int, At w17 (a8.add 11) (cells (.int .i64) x25) ∧
arith .i64 (x24 - x25) fun n26 =>
∃ x27 : yapi_Rule.T, At w17 a13 (cells yapi_Rule x27) ∧
∃ x28 : yapi_Weight.T, At w17 a22 (cells yapi_Weight x28) ∧
∃ x29 : Int, At w17 (a7.add 11) (cells (.int .i64) x29) ∧
∃ x30 : Int, At w17 (a8.add 11) (cells (.int .i64) x30) ∧
arith .i64 ((1 : Int) + (if x29 < x30 then x30 else x29)) fun n31 =>
∃ x32 : Bool, At w17 (a7.add 12) (cells .bool x32) ∧
gd x32 (
∃ x33 : Bool, At w17 (a8.add 12) (cells .bool x33) ∧
gd x33 (
gd (decide ((-1 : Int) ≤ n26)) (
C_intern_Store_add v0_s ((x27.1, (x27.2.1, (x27.2.2.1, (x27.2.2.2.1, x27.2.2.2.2)))), ((x28.1, (x28.2.1, (x28.2.2.1, (x28.2.2.2.1, (x28.2.2.2.2.1, x28.2.2.2.2.2))))), (n31, decide (n26 ≤ (1 : Int))))) (fun x34 w18 =>
K (x34, .nilIface) w18) w17) (
C_intern_Store_add v0_s ((x27.1, (x27.2.1, (x27.2.2.1, (x27.2.2.2.1, x27.2.2.2.2)))), ((x28.1, (x28.2.1, (x28.2.2.1, (x28.2.2.2.1, (x28.2.2.2.2.1, x28.2.2.2.2.2))))), (n31, false))) (fun x35 w19 =>
K (x35, .nilIface) w19) w17)) (
C_intern_Store_add v0_s ((x27.1, (x27.2.1, (x27.2.2.1, (x27.2.2.2.1, x27.2.2.2.2)))), ((x28.1, (x28.2.1, (x28.2.2.1, (x28.2.2.2.1, (x28.2.2.2.2.1, x28.2.2.2.2.2))))), (n31, false))) (fun x36 w20 =>
K (x36, .nilIface) w20) w17)) (
C_intern_Store_add v0_s ((x27.1, (x27.2.1, (x27.2.2.1, (x27.2.2.2.1, x27.2.2.2.2)))), ((x28.1, (x28.2.1, (x28.2.2.1, (x28.2.2.2.1, (x28.2.2.2.2.1, x28.2.2.2.2.2))))), (n31, false))) (fun x37 w21 =>
K (x37, .nilIface) w21) w17))) w14))) w12)) w9) w4) w1)))))
theorem S_intern_Store_Pair (v0_s : Option Addr) (v1_l : Int) (v2_r : Int) (K : (Int × Value) → World → Prop) (w0 : World) (h : F_intern_Store_Pair v0_s v1_l v2_r K w0) : C_intern_Store_Pair v0_s v1_l v2_r K w0 := by
  have e : denFn P [(4, [(30, .bool)]), (16, [(71, .bool)])] Try.f26 #[.pointer v0_s, .int .i64 v1_l, .int .i64 v2_r] (.tup (.pair (.int .i64) .iface)) K w0 = F_intern_Store_Pair v0_s v1_l v2_r K w0 := by kernel_rfl
  exact fn_sound mixed (f := 26) Try.func26 (by kernel_rfl) (e.mpr h)

def F_law14_fails (v0_s : Option Addr) (v1_raw : Int) (v2_at : Int) (v3_n : Int) (v4_want : Int) (K : Bool → World → Prop) (w0 : World) : Prop :=
C_split_Split v0_s v1_raw v2_at (fun x1 w1 =>
C_split_Section v0_s v1_raw v2_at v3_n (fun x2 w2 =>
allocK (.cells #[.int .i64 v2_at, .int .i64 v3_n] t_int) w2 fun a3 w3 =>
C_split_Cut v0_s v1_raw (⟨some a3, 2, 2⟩) (fun x4 w4 =>
gd (x1.1 == (0 : Int)) (
gd (x1.2.1 == (0 : Int)) (
gd (x2.1 == (0 : Int)) (
gd ((x4.1.len : Int) == (0 : Int)) (
C_base_Is x1.2.2 v4_want (fun x5 w5 =>
gd x5 (
C_base_Is x2.2 v4_want (fun x6 w6 =>
gd x6 (
C_base_Is x4.2 v4_want (fun x7 w7 =>
K x7 w7) w6) (
K false w6)) w5) (
K false w5)) w4) (
K false w4)) (
K false w4)) (
K false w4)) (
K false w4)) w3) w1) w0
theorem S_law14_fails (v0_s : Option Addr) (v1_raw : Int) (v2_at : Int) (v3_n : Int) (v4_want : Int) (K : Bool → World → Prop) (w0 : World) (h : F_law14_fails v0_s v1_raw v2_at v3_n v4_want K w0) : C_law14_fails v0_s v1_raw v2_at v3_n v4_want K w0 := by
  have e : denFn P [] Try.f27 #[.pointer v0_s, .int .i64 v1_raw, .int .i64 v2_at, .int .i64 v3_n, .int .i64 v4_want] .bool K w0 = F_law14_fails v0_s v1_raw v2_at v3_n v4_want K w0 := by kernel_rfl
  exact fn_sound mixed (f := 27) Try.func27 (by kernel_rfl) (e.mpr h)

def F_base_Is (v0_e : Value) (v1_want : Int) (K : Bool → World → Prop) (w0 : World) : Prop :=
C_base_Num v0_e (fun x1 w1 =>
gd (x1 == v1_want) (
K (v1_want != (0 : Int)) w1) (
K false w1)) w0
theorem S_base_Is (v0_e : Value) (v1_want : Int) (K : Bool → World → Prop) (w0 : World) (h : F_base_Is v0_e v1_want K w0) : C_base_Is v0_e v1_want K w0 := by
  have e : denFn P [] Try.f28 #[v0_e, .int .i64 v1_want] .bool K w0 = F_base_Is v0_e v1_want K w0 := by kernel_rfl
  exact fn_sound mixed (f := 28) Try.func28 (by kernel_rfl) (e.mpr h)

def F_law14_is (v0_s : Option Addr) (v1_id : Int) (v2_want : Sl) (K : Bool → World → Prop) (w0 : World) : Prop :=
C_avl_Balanced v0_s v1_id (fun x1 w1 =>
C_law14_Plain v0_s v1_id (fun x2 w2 =>
gd x1.1 (
nilIfcK x1.2 fun b3 =>
gd b3 (
gd x2.2 (
C_base_Bytes x2.1 v2_want (fun x4 w3 =>
K x4 w3) w2) (
K false w2)) (
K false w2)) (
K false w2)) w1) w0
theorem S_law14_is (v0_s : Option Addr) (v1_id : Int) (v2_want : Sl) (K : Bool → World → Prop) (w0 : World) (h : F_law14_is v0_s v1_id v2_want K w0) : C_law14_is v0_s v1_id v2_want K w0 := by
  have e : denFn P [] Try.f29 #[.pointer v0_s, .int .i64 v1_id, .slice v2_want.a v2_want.len v2_want.cap] .bool K w0 = F_law14_is v0_s v1_id v2_want K w0 := by kernel_rfl
  exact fn_sound mixed (f := 29) Try.func29 (by kernel_rfl) (e.mpr h)

def F_ref01_Range (v0_from : Int) (v1_n : Int) (v2_length : Int) (K : Bool → World → Prop) (w0 : World) : Prop :=
C_ref01_Valid v2_length (fun x1 w1 =>
gd x1 (
gd (decide ((0 : Int) ≤ v0_from)) (
gd (decide ((0 : Int) ≤ v1_n)) (
gd (decide (v0_from ≤ v2_length)) (
arith .i64 (v2_length - v0_from) fun n2 =>
K (decide (v1_n ≤ n2)) w1) (
K false w1)) (
K false w1)) (
K false w1)) (
K false w1)) w0
theorem S_ref01_Range (v0_from : Int) (v1_n : Int) (v2_length : Int) (K : Bool → World → Prop) (w0 : World) (h : F_ref01_Range v0_from v1_n v2_length K w0) : C_ref01_Range v0_from v1_n v2_length K w0 := by
  have e : denFn P [] Try.f30 #[.int .i64 v0_from, .int .i64 v1_n, .int .i64 v2_length] .bool K w0 = F_ref01_Range v0_from v1_n v2_length K w0 := by kernel_rfl
  exact fn_sound mixed (f := 30) Try.func30 (by kernel_rfl) (e.mpr h)

def F_ref14_Parts (v0_text : Sl) (v1_at : Sl) (K : (Sl × Bool) → World → Prop) (w0 : World) : Prop :=
LoopP (X := Sl × Int × Int × Unit) (⟨none, 0, 0⟩, (0 : Int), (0 : Int), ()) w0 fun next2 x1 w1 => ∀ _ : Env,
gd (decide (x1.2.2.1 < (v1_at.len : Int))) (
JoinP (X := Bool × Unit) (fun R4 =>
idxK v1_at.a v1_at.len x1.2.2.1 1 fun p5 =>
∃ x6 : Int, At w1 p5 (cells (.int .i64) x6) ∧
gd (decide (x6 < x1.2.1)) (
R4 (true, ()) w1) (
idxK v1_at.a v1_at.len x1.2.2.1 1 fun p7 =>
∃ x8 : Int, At w1 p7 (cells (.int .i64) x8) ∧
R4 (decide ((v0_text.len : Int) < x8), ()) w1)) (fun x3 w2 => ∀ _ : Env,
gd x3.1 (
K (⟨none, 0, 0⟩, false) w2) (
idxK v1_at.a v1_at.len x1.2.2.1 1 fun p9 =>
∃ x10 : Int, At w2 p9 (cells (.int .i64) x10) ∧
slK 1 v0_text.a v0_text.len v0_text.cap (some x1.2.1) (some x10) fun s11 =>
allocK (.cells #[.slice s11.a s11.len s11.cap] t_sl_uint8) w2 fun a12 w3 =>
appK t_sl_uint8 1 24 #[.slice none 0 0] x1.1.a x1.1.len x1.1.cap (.slice (some a12) 1 1) 1 w3 fun s13 w4 =>
idxK v1_at.a v1_at.len x1.2.2.1 1 fun p14 =>
∃ x15 : Int, At w4 p14 (cells (.int .i64) x15) ∧
arith .i64 (x1.2.2.1 + (1 : Int)) fun n16 =>
next2 (s13, x15, n16, ()) w4))) (
slK 1 v0_text.a v0_text.len v0_text.cap (some x1.2.1) none fun s17 =>
allocK (.cells #[.slice s17.a s17.len s17.cap] t_sl_uint8) w1 fun a18 w5 =>
appK t_sl_uint8 1 24 #[.slice none 0 0] x1.1.a x1.1.len x1.1.cap (.slice (some a18) 1 1) 1 w5 fun s19 w6 =>
K (s19, true) w6)
theorem S_ref14_Parts (v0_text : Sl) (v1_at : Sl) (K : (Sl × Bool) → World → Prop) (w0 : World) (h : F_ref14_Parts v0_text v1_at K w0) : C_ref14_Parts v0_text v1_at K w0 := by
  have e : denFn P [(1004, [(6, .slice), (7, .int .i64), (8, .int .i64)]), (7, [(29, .bool)])] Try.f31 #[.slice v0_text.a v0_text.len v0_text.cap, .slice v1_at.a v1_at.len v1_at.cap] (.tup (.pair .slice .bool)) K w0 = F_ref14_Parts v0_text v1_at K w0 := by kernel_rfl
  exact fn_sound mixed (f := 31) Try.func31 (by kernel_rfl) (e.mpr h)

def F_intern_Store_Export (v0_s : Option Addr) (v1_id : Int) (K : (Sl × Value) → World → Prop) (w0 : World) : Prop :=
gd v0_s.isNone (
K (⟨none, 0, 0⟩, .iface t_api_Errno (.int .i64 (5 : Int))) w0) (
C_intern_Store_known v0_s v1_id (fun x1 w1 =>
gd (!x1) (
K (⟨none, 0, 0⟩, .iface t_api_Errno (.int .i64 (1 : Int))) w1) (
C_intern_Store_reach v0_s v1_id (fun x2 w2 =>
allocK (.map #[] 0) w2 fun a3 w3 =>
0 ≤ (0 : Int) ∧ (0 : Int) ≤ (x2.len : Int) ∧ (x2.len : Int) ≤ 9223372036854775807 ∧ 40 * (x2.len : Int) ≤ 281474976710656 ∧
allocK (.cells (zrow #[.int .i64 (0 : Int), .int .u8 (0 : Int), .int .i64 (0 : Int), .int .i64 (0 : Int), .int .i64 (0 : Int)] ((x2.len : Int).toNat * 5)) t_api_Rule) w3 fun a4 w4 =>
LoopP (X := Sl × Int × Unit) (⟨some a4, (0 : Int).toNat, (x2.len : Int).toNat⟩, (0 : Int), ()) w4 fun next6 x5 w5 => ∀ _ : Env,
gd (decide (x5.2.1 < (x2.len : Int))) (
idxK x2.a x2.len x5.2.1 1 fun p7 =>
∃ x8 : Int, At w5 p7 (cells (.int .i64) x8) ∧
arith .i64 (x5.2.1 + (1 : Int)) fun n9 =>
runU P (Instr.mapUpdate t_map_api_ID_api_ID (.map (some a3.block)) (.int .i64 x8) (.int .i64 n9)) w5 fun w6 =>
nonNil v0_s fun p10 =>
∃ x11 : Sl, At w6 (p10.add 1) (cells .slice x11) ∧
arith .i64 (x8 - (1 : Int)) fun n12 =>
idxK x11.a x11.len n12 13 fun p13 =>
∃ x14 : yapi_Rule.T, At w6 (p13.add 0) (cells yapi_Rule x14) ∧
allocK (.cells #[.int .i64 (0 : Int), .int .u8 (0 : Int), .int .i64 (0 : Int), .int .i64 (0 : Int), .int .i64 (0 : Int)] t_api_Rule) w6 fun a15 w7 =>
stK w7 a15 (cells yapi_Rule x14) fun w8 =>
drawK w8 fun w9 =>
∃ x16 : Int, At w9 (a15.add 2) (cells (.int .i64) x16) ∧
∃ x17 : Int, Lk1 P t_map_api_ID_api_ID (.int .i64) (.map (some a3.block)) (.int .i64 x16) x17 w9 ∧
∃ x18 : Int, At w9 (a15.add 3) (cells (.int .i64) x18) ∧
∃ x19 : Int, Lk1 P t_map_api_ID_api_ID (.int .i64) (.map (some a3.block)) (.int .i64 x18) x19 w9 ∧
stK w9 (a15.add 2) ([.int .i64 x17]) fun w10 =>
Lk1 P t_map_api_ID_api_ID (.int .i64) (.map (some a3.block)) (.int .i64 x18) x19 w10 ∧
stK w10 (a15.add 3) ([.int .i64 x19]) fun w11 =>
∃ x20 : yapi_Rule.T, At w11 a15 (cells yapi_Rule x20) ∧
allocK (.cells (cells yapi_Rule x20).toArray t_api_Rule) w11 fun a21 w12 =>
appK t_api_Rule 5 40 #[.int .i64 (0 : Int), .int .u8 (0 : Int), .int .i64 (0 : Int), .int .i64 (0 : Int), .int .i64 (0 : Int)] x5.1.a x5.1.len x5.1.cap (.slice (some a21) 1 1) 1 w12 fun s22 w13 =>
arith .i64 (x5.2.1 + (1 : Int)) fun n23 =>
next6 (s22, n23, ()) w13) (
K (x5.1, .nilIface) w5)) w1)) w0)
theorem S_intern_Store_Export (v0_s : Option Addr) (v1_id : Int) (K : (Sl × Value) → World → Prop) (w0 : World) (h : F_intern_Store_Export v0_s v1_id K w0) : C_intern_Store_Export v0_s v1_id K w0 := by
  have e : denFn P [(1009, [(8, .slice), (31, .int .i64)])] Try.f32 #[.pointer v0_s, .int .i64 v1_id] (.tup (.pair .slice .iface)) K w0 = F_intern_Store_Export v0_s v1_id K w0 := by kernel_rfl
  exact fn_sound mixed (f := 32) Try.func32 (by kernel_rfl) (e.mpr h)

def F_intern_New (v0_most : Int) (K : (Option Addr) → World → Prop) (w0 : World) : Prop :=
C_length_Clip v0_most (0 : Int) (1048576 : Int) (fun x1 w1 =>
allocK (.map #[] 0) w1 fun a2 w2 =>
allocK (.cells ([.int .i64 x1, .slice none 0 0, .map (some a2.block)]).toArray t_intern_Store) w2 fun a3 w3 =>
K (some a3) w3) w0
theorem S_intern_New (v0_most : Int) (K : (Option Addr) → World → Prop) (w0 : World) (h : F_intern_New v0_most K w0) : C_intern_New v0_most K w0 := by
  have e : denFn P [] Try.f33 #[.int .i64 v0_most] .ptr K w0 = F_intern_New v0_most K w0 := by kernel_rfl
  exact fn_sound mixed (f := 33) Try.func33 (by kernel_rfl) (e.mpr h)

def F_intern_Store_Import (v0_s : Option Addr) (v1_list : Sl) (K : (Int × Value) → World → Prop) (w0 : World) : Prop :=
gd v0_s.isNone (
K ((0 : Int), .iface t_api_Errno (.int .i64 (5 : Int))) w0) (
LoopP (X := Int × Unit) ((0 : Int), ()) w0 fun next2 x1 w1 => ∀ _ : Env,
gd (decide (x1.1 < (v1_list.len : Int))) (
idxK v1_list.a v1_list.len x1.1 5 fun p3 =>
∃ x4 : yapi_Rule.T, At w1 p3 (cells yapi_Rule x4) ∧
allocK (.cells #[.int .i64 (0 : Int), .int .u8 (0 : Int), .int .i64 (0 : Int), .int .i64 (0 : Int), .int .i64 (0 : Int)] t_api_Rule) w1 fun a5 w2 =>
stK w2 a5 (cells yapi_Rule x4) fun w3 =>
∃ x6 : yapi_Rule.T, At w3 a5 (cells yapi_Rule x6) ∧
arith .i64 (x1.1 + (1 : Int)) fun n7 =>
C_rule_Check x6 n7 (fun x8 w4 =>
nilIfcK x8 fun b9 =>
gd (!b9) (
K ((0 : Int), x8) w4) (
arith .i64 (x1.1 + (1 : Int)) fun n10 =>
next2 (n10, ()) w4)) w3) (
arith .i64 ((v1_list.len : Int) + (1 : Int)) fun n11 =>
0 ≤ n11 ∧ n11 ≤ n11 ∧ n11 ≤ 9223372036854775807 ∧ 8 * n11 ≤ 281474976710656 ∧
allocK (.cells (zrow #[.int .i64 (0 : Int)] (n11.toNat * 1)) t_api_ID) w1 fun a12 w5 =>
LoopP (X := Int × Unit) ((0 : Int), ()) w5 fun next14 x13 w6 => ∀ _ : Env,
gd (decide (x13.1 < (v1_list.len : Int))) (
idxK v1_list.a v1_list.len x13.1 5 fun p15 =>
∃ x16 : yapi_Rule.T, At w6 p15 (cells yapi_Rule x16) ∧
allocK (.cells #[.int .i64 (0 : Int), .int .u8 (0 : Int), .int .i64 (0 : Int), .int .i64 (0 : Int), .int .i64 (0 : Int)] t_api_Rule) w6 fun a17 w7 =>
stK w7 a17 (cells yapi_Rule x16) fun w8 =>
∃ x18 : yapi_Rule.T, At w8 a17 (cells yapi_Rule x18) ∧
C_intern_Store_put v0_s x18 (⟨some a12, n11.toNat, n11.toNat⟩) (fun x19 w9 =>
nilIfcK x19.2 fun b20 =>
gd (!b20) (
K ((0 : Int), x19.2) w9) (
arith .i64 (x13.1 + (1 : Int)) fun n21 =>
idxK (some a12) n11.toNat n21 1 fun p22 =>
stK w9 p22 ([.int .i64 x19.1]) fun w10 =>
arith .i64 (x13.1 + (1 : Int)) fun n23 =>
next14 (n23, ()) w10)) w8) (
idxK (some a12) n11.toNat (v1_list.len : Int) 1 fun p24 =>
∃ x25 : Int, At w6 p24 (cells (.int .i64) x25) ∧
K (x25, .nilIface) w6)))
theorem S_intern_Store_Import (v0_s : Option Addr) (v1_list : Sl) (K : (Int × Value) → World → Prop) (w0 : World) (h : F_intern_Store_Import v0_s v1_list K w0) : C_intern_Store_Import v0_s v1_list K w0 := by
  have e : denFn P [(1004, [(19, .int .i64)]), (1012, [(38, .int .i64)])] Try.f34 #[.pointer v0_s, .slice v1_list.a v1_list.len v1_list.cap] (.tup (.pair (.int .i64) .iface)) K w0 = F_intern_Store_Import v0_s v1_list K w0 := by kernel_rfl
  exact fn_sound mixed (f := 34) Try.func34 (by kernel_rfl) (e.mpr h)

def F_split_check (v0_s : Option Addr) (v1_id : Int) (K : (Int × Value) → World → Prop) (w0 : World) : Prop :=
C_avl_Balanced v0_s v1_id (fun x1 w1 =>
nilIfcK x1.2 fun b2 =>
gd (!b2) (
K ((0 : Int), x1.2) w1) (
gd (!x1.1) (
K ((0 : Int), .iface t_api_Errno (.int .i64 (4 : Int))) w1) (
C_split_size v0_s v1_id (fun x3 w2 =>
K (x3.1, x3.2) w2) w1))) w0
theorem S_split_check (v0_s : Option Addr) (v1_id : Int) (K : (Int × Value) → World → Prop) (w0 : World) (h : F_split_check v0_s v1_id K w0) : C_split_check v0_s v1_id K w0 := by
  have e : denFn P [] Try.f35 #[.pointer v0_s, .int .i64 v1_id] (.tup (.pair (.int .i64) .iface)) K w0 = F_split_check v0_s v1_id K w0 := by kernel_rfl
  exact fn_sound mixed (f := 35) Try.func35 (by kernel_rfl) (e.mpr h)

def F_split_front (v0_s : Option Addr) (v1_id : Int) (v2_n : Int) (K : (Int × Value) → World → Prop) (w0 : World) : Prop :=
gd (v2_n == (0 : Int)) (
K ((0 : Int), .nilIface) w0) (
C_split_size v0_s v1_id (fun x1 w1 =>
nilIfcK x1.2 fun b2 =>
gd (!b2) (
K ((0 : Int), x1.2) w1) (
gd (v2_n == x1.1) (
K (v1_id, .nilIface) w1) (
C_intern_Store_Rule v0_s v1_id (fun x3 w2 =>
allocK (.cells #[.int .i64 (0 : Int), .int .u8 (0 : Int), .int .i64 (0 : Int), .int .i64 (0 : Int), .int .i64 (0 : Int)] t_api_Rule) w2 fun a4 w3 =>
stK w3 a4 (cells yapi_Rule x3.1) fun w4 =>
nilIfcK x3.2 fun b5 =>
gd (!b5) (
K ((0 : Int), x3.2) w4) (
∃ x6 : Int, At w4 (a4.add 2) (cells (.int .i64) x6) ∧
C_split_size v0_s x6 (fun x7 w5 =>
nilIfcK x7.2 fun b8 =>
gd (!b8) (
K ((0 : Int), x7.2) w5) (
gd (decide (v2_n ≤ x7.1)) (
∃ x9 : Int, At w5 (a4.add 2) (cells (.int .i64) x9) ∧
C_split_front v0_s x9 v2_n (fun x10 w6 =>
K (x10.1, x10.2) w6) w5) (
∃ x11 : Int, At w5 (a4.add 3) (cells (.int .i64) x11) ∧
arith .i64 (v2_n - x7.1) fun n12 =>
C_split_front v0_s x11 n12 (fun x13 w7 =>
nilIfcK x13.2 fun b14 =>
gd (!b14) (
K ((0 : Int), x13.2) w7) (
∃ x15 : Int, At w7 (a4.add 2) (cells (.int .i64) x15) ∧
C_avl_Join v0_s x15 x13.1 (fun x16 w8 =>
K (x16.1, x16.2) w8) w7)) w5))) w4)) w1))) w0)
theorem S_split_front (v0_s : Option Addr) (v1_id : Int) (v2_n : Int) (K : (Int × Value) → World → Prop) (w0 : World) (h : F_split_front v0_s v1_id v2_n K w0) : C_split_front v0_s v1_id v2_n K w0 := by
  have e : denFn P [] Try.f36 #[.pointer v0_s, .int .i64 v1_id, .int .i64 v2_n] (.tup (.pair (.int .i64) .iface)) K w0 = F_split_front v0_s v1_id v2_n K w0 := by kernel_rfl
  exact fn_sound mixed (f := 36) Try.func36 (by kernel_rfl) (e.mpr h)

def F_split_rest (v0_s : Option Addr) (v1_id : Int) (v2_from : Int) (K : (Int × Value) → World → Prop) (w0 : World) : Prop :=
gd (v2_from == (0 : Int)) (
K (v1_id, .nilIface) w0) (
C_split_size v0_s v1_id (fun x1 w1 =>
JoinP (X := Bool × Unit) (fun R3 =>
nilIfcK x1.2 fun b4 =>
gd (!b4) (
R3 (true, ()) w1) (
R3 (v2_from == x1.1, ()) w1)) (fun x2 w2 => ∀ _ : Env,
gd x2.1 (
K ((0 : Int), x1.2) w2) (
C_intern_Store_Rule v0_s v1_id (fun x5 w3 =>
allocK (.cells #[.int .i64 (0 : Int), .int .u8 (0 : Int), .int .i64 (0 : Int), .int .i64 (0 : Int), .int .i64 (0 : Int)] t_api_Rule) w3 fun a6 w4 =>
stK w4 a6 (cells yapi_Rule x5.1) fun w5 =>
nilIfcK x5.2 fun b7 =>
gd (!b7) (
K ((0 : Int), x5.2) w5) (
∃ x8 : Int, At w5 (a6.add 2) (cells (.int .i64) x8) ∧
C_split_size v0_s x8 (fun x9 w6 =>
nilIfcK x9.2 fun b10 =>
gd (!b10) (
K ((0 : Int), x9.2) w6) (
gd (decide (x9.1 ≤ v2_from)) (
∃ x11 : Int, At w6 (a6.add 3) (cells (.int .i64) x11) ∧
arith .i64 (v2_from - x9.1) fun n12 =>
C_split_rest v0_s x11 n12 (fun x13 w7 =>
K (x13.1, x13.2) w7) w6) (
∃ x14 : Int, At w6 (a6.add 2) (cells (.int .i64) x14) ∧
C_split_rest v0_s x14 v2_from (fun x15 w8 =>
nilIfcK x15.2 fun b16 =>
gd (!b16) (
K ((0 : Int), x15.2) w8) (
∃ x17 : Int, At w8 (a6.add 3) (cells (.int .i64) x17) ∧
C_avl_Join v0_s x15.1 x17 (fun x18 w9 =>
K (x18.1, x18.2) w9) w8)) w6))) w5)) w2))) w0)
theorem S_split_rest (v0_s : Option Addr) (v1_id : Int) (v2_from : Int) (K : (Int × Value) → World → Prop) (w0 : World) (h : F_split_rest v0_s v1_id v2_from K w0) : C_split_rest v0_s v1_id v2_from K w0 := by
  have e : denFn P [(5, [(28, .bool)])] Try.f37 #[.pointer v0_s, .int .i64 v1_id, .int .i64 v2_from] (.tup (.pair (.int .i64) .iface)) K w0 = F_split_rest v0_s v1_id v2_from K w0 := by kernel_rfl
  exact fn_sound mixed (f := 37) Try.func37 (by kernel_rfl) (e.mpr h)

def F_intern_Store_known (v0_s : Option Addr) (v1_id : Int) (K : Bool → World → Prop) (w0 : World) : Prop :=
gd (decide ((0 : Int) ≤ v1_id)) (
nonNil v0_s fun p1 =>
∃ x2 : Sl, At w0 (p1.add 1) (cells .slice x2) ∧
K (decide (v1_id ≤ (x2.len : Int))) w0) (
K false w0)
theorem S_intern_Store_known (v0_s : Option Addr) (v1_id : Int) (K : Bool → World → Prop) (w0 : World) (h : F_intern_Store_known v0_s v1_id K w0) : C_intern_Store_known v0_s v1_id K w0 := by
  have e : denFn P [] Try.f38 #[.pointer v0_s, .int .i64 v1_id] .bool K w0 = F_intern_Store_known v0_s v1_id K w0 := by kernel_rfl
  exact fn_sound mixed (f := 38) Try.func38 (by kernel_rfl) (e.mpr h)

def F_intern_Store_at (v0_s : Option Addr) (v1_id : Int) (K : yintern_entry.T → World → Prop) (w0 : World) : Prop :=
allocK (.cells #[.int .i64 (0 : Int), .int .u8 (0 : Int), .int .i64 (0 : Int), .int .i64 (0 : Int), .int .i64 (0 : Int), .int .i64 (0 : Int), .int .i64 (0 : Int), .int .i64 (0 : Int), .int .i64 (0 : Int), .int .u64 (0 : Int), .int .u64 (0 : Int), .int .i64 (0 : Int), .bool false] t_intern_entry) w0 fun a1 w1 =>
gd (v1_id == (0 : Int)) (
C_weight_Unit  (fun x2 w2 =>
stK w2 a1 ([.int .i64 (0 : Int), .int .u8 (0 : Int), .int .i64 (0 : Int), .int .i64 (0 : Int), .int .i64 (0 : Int), .int .i64 x2.1, .int .i64 x2.2.1, .int .i64 x2.2.2.1, .int .i64 x2.2.2.2.1, .int .u64 x2.2.2.2.2.1, .int .u64 x2.2.2.2.2.2, .int .i64 (0 : Int), .bool true]) fun w3 =>
∃ x3 : yintern_entry.T, At w3 a1 (cells yintern_entry x3) ∧
K x3 w3) w1) (
nonNil v0_s fun p4 =>
∃ x5 : Sl, At w1 (p4.add 1) (cells .slice x5) ∧
arith .i64 (v1_id - (1 : Int)) fun n6 =>
idxK x5.a x5.len n6 13 fun p7 =>
∃ x8 : yintern_entry.T, At w1 p7 (cells yintern_entry x8) ∧
stK w1 a1 (cells yintern_entry x8) fun w4 =>
∃ x9 : yintern_entry.T, At w4 a1 (cells yintern_entry x9) ∧
K x9 w4)
theorem S_intern_Store_at (v0_s : Option Addr) (v1_id : Int) (K : yintern_entry.T → World → Prop) (w0 : World) (h : F_intern_Store_at v0_s v1_id K w0) : C_intern_Store_at v0_s v1_id K w0 := by
  have e : denFn P [] Try.f39 #[.pointer v0_s, .int .i64 v1_id] yintern_entry K w0 = F_intern_Store_at v0_s v1_id K w0 := by kernel_rfl
  exact fn_sound mixed (f := 39) Try.func39 (by kernel_rfl) (e.mpr h)

def F_weight_Valid (v0_w : yapi_Weight.T) (K : Bool → World → Prop) (w0 : World) : Prop :=
allocK (.cells (cells yapi_Weight v0_w).toArray t_api_Weight) w0 fun a1 w1 =>
JoinP (X := Bool × Unit) (fun R3 =>
∃ x4 : Int, At w1 (a1.add 0) (cells (.int .i64) x4) ∧
C_length_Valid x4 (fun x5 w3 =>
gd (!x5) (
R3 (true, ()) w3) (
∃ x6 : Int, At w3 (a1.add 1) (cells (.int .i64) x6) ∧
R3 (decide (x6 < (0 : Int)), ()) w3)) w1) (fun x2 w2 => ∀ _ : Env,
gd x2.1 (
K false w2) (
JoinP (X := Unit) (fun R8 =>
∃ x9 : Int, At w2 (a1.add 1) (cells (.int .i64) x9) ∧
gd (x9 == (0 : Int)) (
JoinP (X := Bool × Unit) (fun R11 =>
∃ x12 : Int, At w2 (a1.add 2) (cells (.int .i64) x12) ∧
∃ x13 : Int, At w2 (a1.add 0) (cells (.int .i64) x13) ∧
gd (x12 != x13) (
R11 (true, ()) w2) (
∃ x14 : Int, At w2 (a1.add 3) (cells (.int .i64) x14) ∧
∃ x15 : Int, At w2 (a1.add 0) (cells (.int .i64) x15) ∧
R11 (x14 != x15, ()) w2)) (fun x10 w5 => ∀ _ : Env,
gd x10.1 (
K false w5) (
R8 () w5))) (
JoinP (X := Bool × Unit) (fun R17 =>
∃ x18 : Int, At w2 (a1.add 2) (cells (.int .i64) x18) ∧
gd (decide (x18 < (0 : Int))) (
R17 (true, ()) w2) (
∃ x19 : Int, At w2 (a1.add 2) (cells (.int .i64) x19) ∧
∃ x20 : Int, At w2 (a1.add 0) (cells (.int .i64) x20) ∧
gd (decide (x20 < x19)) (
R17 (true, ()) w2) (
∃ x21 : Int, At w2 (a1.add 3) (cells (.int .i64) x21) ∧
gd (decide (x21 < (0 : Int))) (
R17 (true, ()) w2) (
∃ x22 : Int, At w2 (a1.add 3) (cells (.int .i64) x22) ∧
∃ x23 : Int, At w2 (a1.add 0) (cells (.int .i64) x23) ∧
∃ x24 : Int, At w2 (a1.add 2) (cells (.int .i64) x24) ∧
arith .i64 (x23 - x24) fun n25 =>
R17 (decide (n25 < x22), ()) w2)))) (fun x16 w6 => ∀ _ : Env,
gd x16.1 (
K false w6) (
∃ x26 : Int, At w6 (a1.add 0) (cells (.int .i64) x26) ∧
∃ x27 : Int, At w6 (a1.add 2) (cells (.int .i64) x27) ∧
arith .i64 (x26 - x27) fun n28 =>
∃ x29 : Int, At w6 (a1.add 3) (cells (.int .i64) x29) ∧
arith .i64 (n28 - x29) fun n30 =>
JoinP (X := Bool × Unit) (fun R32 =>
∃ x33 : Int, At w6 (a1.add 1) (cells (.int .i64) x33) ∧
gd (decide (n30 < x33)) (
R32 (true, ()) w6) (
∃ x34 : Int, At w6 (a1.add 1) (cells (.int .i64) x34) ∧
gd (x34 == (1 : Int)) (
R32 (n30 != (1 : Int), ()) w6) (
R32 (false, ()) w6))) (fun x31 w7 => ∀ _ : Env,
gd x31.1 (
K false w7) (
R8 () w7)))))) (fun x7 w4 => ∀ _ : Env,
JoinP (X := Bool × Unit) (fun R36 =>
∃ x37 : Int, At w4 ((a1.add 4).add 0) (cells (.int .u64) x37) ∧
gd (decide ((2305843009213693951 : Int) ≤ x37)) (
R36 (true, ()) w4) (
∃ x38 : Int, At w4 (a1.add 0) (cells (.int .i64) x38) ∧
gd (x38 == (0 : Int)) (
∃ x39 : Int, At w4 ((a1.add 4).add 0) (cells (.int .u64) x39) ∧
R36 (x39 != (0 : Int), ()) w4) (
R36 (false, ()) w4))) (fun x35 w8 => ∀ _ : Env,
gd x35.1 (
K false w8) (
drawK w8 fun w9 =>
∃ x40 : Int, At w9 ((a1.add 4).add 1) (cells (.int .u64) x40) ∧
∃ x41 : Int, At w9 (a1.add 0) (cells (.int .i64) x41) ∧
arith .u64 (x41) fun n42 =>
C_modular_Pow (1103515245 : Int) n42 (fun x43 w10 =>
At w10 ((a1.add 4).add 1) (cells (.int .u64) x40) ∧
K (x40 == x43) w10) w9)))))
theorem S_weight_Valid (v0_w : yapi_Weight.T) (K : Bool → World → Prop) (w0 : World) (h : F_weight_Valid v0_w K w0) : C_weight_Valid v0_w K w0 := by
  have e : denFn P [(2, [(12, .bool)]), (11, []), (5, [(27, .bool)]), (7, [(52, .bool)]), (10, [(73, .bool)]), (12, [(88, .bool)])] Try.f40 #[val yapi_Weight v0_w] .bool K w0 = F_weight_Valid v0_w K w0 := by kernel_rfl
  exact fn_sound mixed (f := 40) Try.func40 (by kernel_rfl) (e.mpr h)

end Go.Proofs.Ytgbledjehnojeaa

/- The typed texts of the functions, printed by a program; each proved to imply the call. -/
set_option linter.unusedVariables false
set_option maxRecDepth 100000
set_option maxHeartbeats 4000000
namespace Go.Proofs.Ytgbledjehnojeaa
open Go.Den

def F_length_Add (v0_a : Int) (v1_b : Int) (K : (Int × Value) → World → Prop) (w0 : World) : Prop :=
JoinP (X := Bool × Unit) (fun R2 =>
C_length_Valid v0_a (fun x3 w2 =>
gd (!x3) (
R2 (true, ()) w2) (
C_length_Valid v1_b (fun x4 w3 =>
R2 (!x4, ()) w3) w2)) w0) (fun x1 w1 => ∀ _ : Env,
gd x1.1 (
K ((0 : Int), .iface t_api_Errno (.int .i64 (1 : Int))) w1) (
arith .i64 ((1152921504606846976 : Int) - v1_b) fun n5 =>
gd (decide (n5 < v0_a)) (
K ((0 : Int), .iface t_api_Errno (.int .i64 (2 : Int))) w1) (
arith .i64 (v0_a + v1_b) fun n6 =>
K (n6, .nilIface) w1)))
theorem S_length_Add (v0_a : Int) (v1_b : Int) (K : (Int × Value) → World → Prop) (w0 : World) (h : F_length_Add v0_a v1_b K w0) : C_length_Add v0_a v1_b K w0 := by
  have e : denFn P [(2, [(13, .bool)])] Try.f41 #[.int .i64 v0_a, .int .i64 v1_b] (.tup (.pair (.int .i64) .iface)) K w0 = F_length_Add v0_a v1_b K w0 := by kernel_rfl
  exact fn_sound mixed (f := 41) Try.func41 (by kernel_rfl) (e.mpr h)

def F_digest_Join (v0_a : yapi_Digest.T) (v1_b : yapi_Digest.T) (K : yapi_Digest.T → World → Prop) (w0 : World) : Prop :=
allocK (.cells (cells yapi_Digest v0_a).toArray t_api_Digest) w0 fun a1 w1 =>
allocK (.cells (cells yapi_Digest v1_b).toArray t_api_Digest) w1 fun a2 w2 =>
allocK (.cells #[.int .u64 (0 : Int), .int .u64 (0 : Int)] t_api_Digest) w2 fun a3 w3 =>
drawK w3 fun w4 =>
∃ x4 : Int, At w4 (a1.add 0) (cells (.int .u64) x4) ∧
∃ x5 : Int, At w4 (a2.add 1) (cells (.int .u64) x5) ∧
∃ x6 : Int, At w4 (a2.add 0) (cells (.int .u64) x6) ∧
∃ x7 : Int, At w4 (a1.add 1) (cells (.int .u64) x7) ∧
∃ x8 : Int, At w4 (a2.add 1) (cells (.int .u64) x8) ∧
C_modular_Mul x4 x5 (fun x9 w5 =>
At w5 (a2.add 1) (cells (.int .u64) x8) ∧
At w5 (a1.add 1) (cells (.int .u64) x7) ∧
At w5 (a2.add 0) (cells (.int .u64) x6) ∧
C_modular_Add x9 x6 (fun x10 w6 =>
At w6 (a2.add 1) (cells (.int .u64) x8) ∧
At w6 (a1.add 1) (cells (.int .u64) x7) ∧
C_modular_Mul x7 x8 (fun x11 w7 =>
stK w7 a3 ([.int .u64 x10, .int .u64 x11]) fun w8 =>
∃ x12 : yapi_Digest.T, At w8 a3 (cells yapi_Digest x12) ∧
K x12 w8) w6) w5) w4
theorem S_digest_Join (v0_a : yapi_Digest.T) (v1_b : yapi_Digest.T) (K : yapi_Digest.T → World → Prop) (w0 : World) (h : F_digest_Join v0_a v1_b K w0) : C_digest_Join v0_a v1_b K w0 := by
  have e : denFn P [] Try.f42 #[val yapi_Digest v0_a, val yapi_Digest v1_b] yapi_Digest K w0 = F_digest_Join v0_a v1_b K w0 := by kernel_rfl
  exact fn_sound mixed (f := 42) Try.func42 (by kernel_rfl) (e.mpr h)

def F_intern_Store_Even (v0_s : Option Addr) (v1_id : Int) (K : Bool → World → Prop) (w0 : World) : Prop :=
gd (!v0_s.isNone) (
C_intern_Store_known v0_s v1_id (fun x1 w1 =>
gd x1 (
C_intern_Store_at v0_s v1_id (fun x2 w2 =>
K x2.2.2.2 w2) w1) (
K false w1)) w0) (
K false w0)
theorem S_intern_Store_Even (v0_s : Option Addr) (v1_id : Int) (K : Bool → World → Prop) (w0 : World) (h : F_intern_Store_Even v0_s v1_id K w0) : C_intern_Store_Even v0_s v1_id K w0 := by
  have e : denFn P [] Try.f43 #[.pointer v0_s, .int .i64 v1_id] .bool K w0 = F_intern_Store_Even v0_s v1_id K w0 := by kernel_rfl
  exact fn_sound mixed (f := 43) Try.func43 (by kernel_rfl) (e.mpr h)

def F_avl_join (v0_s : Option Addr) (v1_a : Int) (v2_b : Int) (K : (Int × Value) → World → Prop) (w0 : World) : Prop :=
C_intern_Store_Depth v0_s v1_a (fun x1 w1 =>
nilIfcK x1.2 fun b2 =>
gd (!b2) (
K ((0 : Int), x1.2) w1) (
C_intern_Store_Depth v0_s v2_b (fun x3 w2 =>
nilIfcK x3.2 fun b4 =>
gd (!b4) (
K ((0 : Int), x3.2) w2) (
arith .i64 (x3.1 + (1 : Int)) fun n5 =>
gd (decide (n5 < x1.1)) (
C_avl_parts v0_s v1_a (fun x6 w3 =>
nilIfcK x6.2.2.2.2 fun b7 =>
gd (!b7) (
K ((0 : Int), x6.2.2.2.2) w3) (
C_avl_join v0_s x6.2.1 v2_b (fun x8 w4 =>
nilIfcK x8.2 fun b9 =>
gd (!b9) (
K ((0 : Int), x8.2) w4) (
C_avl_level v0_s x6.1 x8.1 (fun x10 w5 =>
K (x10.1, x10.2) w5) w4)) w3)) w2) (
arith .i64 (x1.1 + (1 : Int)) fun n11 =>
gd (decide (n11 < x3.1)) (
C_avl_parts v0_s v2_b (fun x12 w6 =>
nilIfcK x12.2.2.2.2 fun b13 =>
gd (!b13) (
K ((0 : Int), x12.2.2.2.2) w6) (
C_avl_join v0_s v1_a x12.1 (fun x14 w7 =>
nilIfcK x14.2 fun b15 =>
gd (!b15) (
K ((0 : Int), x14.2) w7) (
C_avl_level v0_s x14.1 x12.2.1 (fun x16 w8 =>
K (x16.1, x16.2) w8) w7)) w6)) w2) (
C_intern_Store_Pair v0_s v1_a v2_b (fun x17 w9 =>
K (x17.1, x17.2) w9) w2)))) w1)) w0
theorem S_avl_join (v0_s : Option Addr) (v1_a : Int) (v2_b : Int) (K : (Int × Value) → World → Prop) (w0 : World) (h : F_avl_join v0_s v1_a v2_b K w0) : C_avl_join v0_s v1_a v2_b K w0 := by
  have e : denFn P [] Try.f44 #[.pointer v0_s, .int .i64 v1_a, .int .i64 v2_b] (.tup (.pair (.int .i64) .iface)) K w0 = F_avl_join v0_s v1_a v2_b K w0 := by kernel_rfl
  exact fn_sound mixed (f := 44) Try.func44 (by kernel_rfl) (e.mpr h)

def F_length_Range (v0_from : Int) (v1_n : Int) (v2_length : Int) (K : Value → World → Prop) (w0 : World) : Prop :=
JoinP (X := Bool × Unit) (fun R2 =>
C_length_Valid v2_length (fun x3 w2 =>
gd (!x3) (
R2 (true, ()) w2) (
gd (decide (v0_from < (0 : Int))) (
R2 (true, ()) w2) (
gd (decide (v1_n < (0 : Int))) (
R2 (true, ()) w2) (
gd (decide (v2_length < v0_from)) (
R2 (true, ()) w2) (
arith .i64 (v2_length - v0_from) fun n4 =>
R2 (decide (n4 < v1_n), ()) w2))))) w0) (fun x1 w1 => ∀ _ : Env,
gd x1.1 (
K (.iface t_api_Errno (.int .i64 (1 : Int))) w1) (
K .nilIface w1))
theorem S_length_Range (v0_from : Int) (v1_n : Int) (v2_length : Int) (K : Value → World → Prop) (w0 : World) (h : F_length_Range v0_from v1_n v2_length K w0) : C_length_Range v0_from v1_n v2_length K w0 := by
  have e : denFn P [(2, [(29, .bool)])] Try.f45 #[.int .i64 v0_from, .int .i64 v1_n, .int .i64 v2_length] .iface K w0 = F_length_Range v0_from v1_n v2_length K w0 := by kernel_rfl
  exact fn_sound mixed (f := 45) Try.func45 (by kernel_rfl) (e.mpr h)

def F_split_section (v0_s : Option Addr) (v1_id : Int) (v2_from : Int) (v3_n : Int) (K : (Int × Value) → World → Prop) (w0 : World) : Prop :=
gd (v3_n == (0 : Int)) (
K ((0 : Int), .nilIface) w0) (
LoopP (X := Int × Int × Unit) (v1_id, v2_from, ()) w0 fun next2 x1 w1 => ∀ _ : Env,
C_split_size v0_s x1.1 (fun x3 w2 =>
nilIfcK x3.2 fun b4 =>
gd (!b4) (
K ((0 : Int), x3.2) w2) (
gd (v3_n == x3.1) (
K (x1.1, .nilIface) w2) (
C_intern_Store_Rule v0_s x1.1 (fun x5 w3 =>
allocK (.cells #[.int .i64 (0 : Int), .int .u8 (0 : Int), .int .i64 (0 : Int), .int .i64 (0 : Int), .int .i64 (0 : Int)] t_api_Rule) w3 fun a6 w4 =>
stK w4 a6 (cells yapi_Rule x5.1) fun w5 =>
nilIfcK x5.2 fun b7 =>
gd (!b7) (
K ((0 : Int), x5.2) w5) (
∃ x8 : Int, At w5 (a6.add 2) (cells (.int .i64) x8) ∧
C_split_size v0_s x8 (fun x9 w6 =>
nilIfcK x9.2 fun b10 =>
gd (!b10) (
K ((0 : Int), x9.2) w6) (
arith .i64 (x1.2.1 + v3_n) fun n11 =>
gd (decide (n11 ≤ x9.1)) (
∃ x12 : Int, At w6 (a6.add 2) (cells (.int .i64) x12) ∧
next2 (x12, x1.2.1, ()) w6) (
gd (decide (x9.1 ≤ x1.2.1)) (
∃ x13 : Int, At w6 (a6.add 3) (cells (.int .i64) x13) ∧
arith .i64 (x1.2.1 - x9.1) fun n14 =>
next2 (x13, n14, ()) w6) (
∃ x15 : Int, At w6 (a6.add 2) (cells (.int .i64) x15) ∧
C_split_rest v0_s x15 x1.2.1 (fun x16 w7 =>
nilIfcK x16.2 fun b17 =>
gd (!b17) (
K ((0 : Int), x16.2) w7) (
∃ x18 : Int, At w7 (a6.add 3) (cells (.int .i64) x18) ∧
arith .i64 (x1.2.1 + v3_n) fun n19 =>
arith .i64 (n19 - x9.1) fun n20 =>
C_split_front v0_s x18 n20 (fun x21 w8 =>
nilIfcK x21.2 fun b22 =>
gd (!b22) (
K ((0 : Int), x21.2) w8) (
C_avl_Join v0_s x16.1 x21.1 (fun x23 w9 =>
K (x23.1, x23.2) w9) w8)) w7)) w6)))) w5)) w2))) w1)
theorem S_split_section (v0_s : Option Addr) (v1_id : Int) (v2_from : Int) (v3_n : Int) (K : (Int × Value) → World → Prop) (w0 : World) (h : F_split_section v0_s v1_id v2_from v3_n K w0) : C_split_section v0_s v1_id v2_from v3_n K w0 := by
  have e : denFn P [(1003, [(1, .int .i64), (2, .int .i64)])] Try.f46 #[.pointer v0_s, .int .i64 v1_id, .int .i64 v2_from, .int .i64 v3_n] (.tup (.pair (.int .i64) .iface)) K w0 = F_split_section v0_s v1_id v2_from v3_n K w0 := by kernel_rfl
  exact fn_sound mixed (f := 46) Try.func46 (by kernel_rfl) (e.mpr h)

def F_intern_Store_find (v0_s : Option Addr) (v1_r : yapi_Rule.T) (K : (Int × Value) → World → Prop) (w0 : World) : Prop :=
allocK (.cells (cells yapi_Rule v1_r).toArray t_api_Rule) w0 fun a1 w1 =>
drawK w1 fun w2 =>
nonNil v0_s fun p2 =>
∃ x3 : Option Nat, At w2 (p2.add 2) (cells .map x3) ∧
∃ x4 : yapi_Rule.T, At w2 a1 (cells yapi_Rule x4) ∧
∃ (x5 : Int) (b6 : Bool), Lk2 P t_map_api_Rule_api_ID (.int .i64) (.map x3) (val yapi_Rule x4) x5 b6 w2 ∧
gd b6 (
K (x5, .nilIface) w2) (
drawK w2 fun w3 =>
nonNil v0_s fun p7 =>
∃ x8 : Sl, At w3 (p7.add 1) (cells .slice x8) ∧
nonNil v0_s fun p9 =>
∃ x10 : Int, At w3 (p9.add 0) (cells (.int .i64) x10) ∧
gd (decide (x10 ≤ (x8.len : Int))) (
K ((0 : Int), .iface t_api_Errno (.int .i64 (3 : Int))) w3) (
K ((0 : Int), .nilIface) w3))
theorem S_intern_Store_find (v0_s : Option Addr) (v1_r : yapi_Rule.T) (K : (Int × Value) → World → Prop) (w0 : World) (h : F_intern_Store_find v0_s v1_r K w0) : C_intern_Store_find v0_s v1_r K w0 := by
  have e : denFn P [] Try.f47 #[.pointer v0_s, val yapi_Rule v1_r] (.tup (.pair (.int .i64) .iface)) K w0 = F_intern_Store_find v0_s v1_r K w0 := by kernel_rfl
  exact fn_sound mixed (f := 47) Try.func47 (by kernel_rfl) (e.mpr h)

def F_intern_Store_add (v0_s : Option Addr) (v1_e : yintern_entry.T) (K : Int → World → Prop) (w0 : World) : Prop :=
allocK (.cells (cells yintern_entry v1_e).toArray t_intern_entry) w0 fun a1 w1 =>
drawK w1 fun w2 =>
nonNil v0_s fun p2 =>
∃ x3 : Sl, At w2 (p2.add 1) (cells .slice x3) ∧
∃ x4 : yintern_entry.T, At w2 a1 (cells yintern_entry x4) ∧
allocK (.cells (cells yintern_entry x4).toArray t_intern_entry) w2 fun a5 w3 =>
At w3 (p2.add 1) (cells .slice x3) ∧
appK t_intern_entry 13 104 #[.int .i64 (0 : Int), .int .u8 (0 : Int), .int .i64 (0 : Int), .int .i64 (0 : Int), .int .i64 (0 : Int), .int .i64 (0 : Int), .int .i64 (0 : Int), .int .i64 (0 : Int), .int .i64 (0 : Int), .int .u64 (0 : Int), .int .u64 (0 : Int), .int .i64 (0 : Int), .bool false] x3.a x3.len x3.cap (.slice (some a5) 1 1) 1 w3 fun s6 w4 =>
nonNil v0_s fun p7 =>
stK w4 (p7.add 1) ([.slice s6.a s6.len s6.cap]) fun w5 =>
nonNil v0_s fun p8 =>
∃ x9 : Sl, At w5 (p8.add 1) (cells .slice x9) ∧
drawK w5 fun w6 =>
nonNil v0_s fun p10 =>
∃ x11 : Option Nat, At w6 (p10.add 2) (cells .map x11) ∧
∃ x12 : yapi_Rule.T, At w6 (a1.add 0) (cells yapi_Rule x12) ∧
runU P (Instr.mapUpdate t_map_api_Rule_api_ID (.map x11) (val yapi_Rule x12) (.int .i64 (x9.len : Int))) w6 fun w7 =>
K (x9.len : Int) w7
theorem S_intern_Store_add (v0_s : Option Addr) (v1_e : yintern_entry.T) (K : Int → World → Prop) (w0 : World) (h : F_intern_Store_add v0_s v1_e K w0) : C_intern_Store_add v0_s v1_e K w0 := by
  have e : denFn P [] Try.f48 #[.pointer v0_s, val yintern_entry v1_e] (.int .i64) K w0 = F_intern_Store_add v0_s v1_e K w0 := by kernel_rfl
  exact fn_sound mixed (f := 48) Try.func48 (by kernel_rfl) (e.mpr h)

def F_weight_Letter (v0_b : Int) (K : yapi_Weight.T → World → Prop) (w0 : World) : Prop :=
allocK (.cells #[.int .i64 (0 : Int), .int .i64 (0 : Int), .int .i64 (0 : Int), .int .i64 (0 : Int), .int .u64 (0 : Int), .int .u64 (0 : Int)] t_api_Weight) w0 fun a1 w1 =>
gd (v0_b == (10 : Int)) (
C_digest_Letter v0_b (fun x2 w2 =>
stK w2 a1 ([.int .i64 (1 : Int), .int .i64 (1 : Int), .int .i64 (0 : Int), .int .i64 (0 : Int), .int .u64 x2.1, .int .u64 x2.2]) fun w3 =>
∃ x3 : yapi_Weight.T, At w3 a1 (cells yapi_Weight x3) ∧
K x3 w3) w1) (
C_digest_Letter v0_b (fun x4 w4 =>
stK w4 a1 ([.int .i64 (1 : Int), .int .i64 (0 : Int), .int .i64 (1 : Int), .int .i64 (1 : Int), .int .u64 x4.1, .int .u64 x4.2]) fun w5 =>
∃ x5 : yapi_Weight.T, At w5 a1 (cells yapi_Weight x5) ∧
K x5 w5) w1)
theorem S_weight_Letter (v0_b : Int) (K : yapi_Weight.T → World → Prop) (w0 : World) (h : F_weight_Letter v0_b K w0) : C_weight_Letter v0_b K w0 := by
  have e : denFn P [] Try.f49 #[.int .u8 v0_b] yapi_Weight K w0 = F_weight_Letter v0_b K w0 := by kernel_rfl
  exact fn_sound mixed (f := 49) Try.func49 (by kernel_rfl) (e.mpr h)

def F_length_Mul (v0_a : Int) (v1_k : Int) (K : (Int × Value) → World → Prop) (w0 : World) : Prop :=
JoinP (X := Bool × Unit) (fun R2 =>
C_length_Valid v0_a (fun x3 w2 =>
gd (!x3) (
R2 (true, ()) w2) (
R2 (decide (v1_k < (0 : Int)), ()) w2)) w0) (fun x1 w1 => ∀ _ : Env,
gd x1.1 (
K ((0 : Int), .iface t_api_Errno (.int .i64 (1 : Int))) w1) (
gd (v0_a == (0 : Int)) (
K ((0 : Int), .nilIface) w1) (
v0_a ≠ 0 ∧
arith .i64 (Int.tdiv (1152921504606846976 : Int) v0_a) fun n4 =>
gd (decide (n4 < v1_k)) (
K ((0 : Int), .iface t_api_Errno (.int .i64 (2 : Int))) w1) (
arith .i64 (v0_a * v1_k) fun n5 =>
K (n5, .nilIface) w1))))
theorem S_length_Mul (v0_a : Int) (v1_k : Int) (K : (Int × Value) → World → Prop) (w0 : World) (h : F_length_Mul v0_a v1_k K w0) : C_length_Mul v0_a v1_k K w0 := by
  have e : denFn P [(2, [(12, .bool)])] Try.f50 #[.int .i64 v0_a, .int .i64 v1_k] (.tup (.pair (.int .i64) .iface)) K w0 = F_length_Mul v0_a v1_k K w0 := by kernel_rfl
  exact fn_sound mixed (f := 50) Try.func50 (by kernel_rfl) (e.mpr h)

def F_weight_Repeat (v0_w : yapi_Weight.T) (v1_k : Int) (K : (yapi_Weight.T × Value) → World → Prop) (w0 : World) : Prop :=
allocK (.cells (cells yapi_Weight v0_w).toArray t_api_Weight) w0 fun a1 w1 =>
allocK (.cells #[.int .i64 (0 : Int), .int .i64 (0 : Int), .int .i64 (0 : Int), .int .i64 (0 : Int), .int .u64 (0 : Int), .int .u64 (0 : Int)] t_api_Weight) w1 fun a2 w2 =>
∃ x3 : yapi_Weight.T, At w2 a1 (cells yapi_Weight x3) ∧
C_weight_Valid x3 (fun x4 w3 =>
gd (!x4) (
stK w3 a2 ([.int .i64 (0 : Int), .int .i64 (0 : Int), .int .i64 (0 : Int), .int .i64 (0 : Int), .int .u64 (0 : Int), .int .u64 (0 : Int)]) fun w4 =>
∃ x5 : yapi_Weight.T, At w4 a2 (cells yapi_Weight x5) ∧
K (x5, .iface t_api_Errno (.int .i64 (4 : Int))) w4) (
gd (decide (v1_k < (0 : Int))) (
stK w3 a2 ([.int .i64 (0 : Int), .int .i64 (0 : Int), .int .i64 (0 : Int), .int .i64 (0 : Int), .int .u64 (0 : Int), .int .u64 (0 : Int)]) fun w5 =>
∃ x6 : yapi_Weight.T, At w5 a2 (cells yapi_Weight x6) ∧
K (x6, .iface t_api_Errno (.int .i64 (1 : Int))) w5) (
∃ x7 : Int, At w3 (a1.add 0) (cells (.int .i64) x7) ∧
C_length_Mul x7 v1_k (fun x8 w6 =>
nilIfcK x8.2 fun b9 =>
gd (!b9) (
stK w6 a2 ([.int .i64 (0 : Int), .int .i64 (0 : Int), .int .i64 (0 : Int), .int .i64 (0 : Int), .int .u64 (0 : Int), .int .u64 (0 : Int)]) fun w7 =>
∃ x10 : yapi_Weight.T, At w7 a2 (cells yapi_Weight x10) ∧
K (x10, .iface t_api_Errno (.int .i64 (2 : Int))) w7) (
gd (x8.1 == (0 : Int)) (
C_weight_Unit  (fun x11 w8 =>
stK w8 a2 (cells yapi_Weight x11) fun w9 =>
∃ x12 : yapi_Weight.T, At w9 a2 (cells yapi_Weight x12) ∧
K (x12, .nilIface) w9) w6) (
JoinP (X := Addr × Unit) (fun R14 =>
drawK w6 fun w11 =>
∃ x15 : Int, At w11 (a1.add 1) (cells (.int .i64) x15) ∧
arith .i64 (x15 * v1_k) fun n16 =>
∃ x17 : Int, At w11 (a1.add 2) (cells (.int .i64) x17) ∧
∃ x18 : Int, At w11 (a1.add 3) (cells (.int .i64) x18) ∧
∃ x19 : yapi_Digest.T, At w11 (a1.add 4) (cells yapi_Digest x19) ∧
(C_digest_Repeat x19 v1_k (fun x20 w12 =>
At w12 (a1.add 3) (cells (.int .i64) x18) ∧
At w12 (a1.add 2) (cells (.int .i64) x17) ∧
At w12 (a1.add 1) (cells (.int .i64) x15) ∧
allocK (.cells #[.int .i64 (0 : Int), .int .i64 (0 : Int), .int .i64 (0 : Int), .int .i64 (0 : Int), .int .u64 (0 : Int), .int .u64 (0 : Int)] t_api_Weight) w12 fun a21 w13 =>
At w13 (a1.add 3) (cells (.int .i64) x18) ∧
At w13 (a1.add 2) (cells (.int .i64) x17) ∧
At w13 (a1.add 1) (cells (.int .i64) x15) ∧
stK w13 a21 ([.int .i64 x8.1, .int .i64 n16, .int .i64 x17, .int .i64 x18, .int .u64 x20.1, .int .u64 x20.2]) fun w14 =>
R14 (a21, ()) w14) w11) ∧
(allocK (.cells #[.int .i64 (0 : Int), .int .i64 (0 : Int), .int .i64 (0 : Int), .int .i64 (0 : Int), .int .u64 (0 : Int), .int .u64 (0 : Int)] t_api_Weight) w11 fun a22 w15 =>
At w15 (a1.add 4) (cells yapi_Digest x19) ∧
At w15 (a1.add 3) (cells (.int .i64) x18) ∧
At w15 (a1.add 2) (cells (.int .i64) x17) ∧
At w15 (a1.add 1) (cells (.int .i64) x15) ∧
C_digest_Repeat x19 v1_k (fun x23 w16 =>
At w16 (a1.add 3) (cells (.int .i64) x18) ∧
At w16 (a1.add 2) (cells (.int .i64) x17) ∧
At w16 (a1.add 1) (cells (.int .i64) x15) ∧
stK w16 a22 ([.int .i64 x8.1, .int .i64 n16, .int .i64 x17, .int .i64 x18, .int .u64 x23.1, .int .u64 x23.2]) fun w17 =>
R14 (a22, ()) w17) w15)) (fun x13 w10 => ∀ _ : Env,
JoinP (X := Unit) (fun R25 =>
∃ x26 : Int, At w10 (a1.add 1) (cells (.int .i64) x26) ∧
gd (x26 == (0 : Int)) (
stK w10 (x13.1.add 2) ([.int .i64 x8.1]) fun w19 =>
stK w19 (x13.1.add 3) ([.int .i64 x8.1]) fun w20 =>
R25 () w20) (
R25 () w10)) (fun x24 w18 => ∀ _ : Env,
∃ x27 : yapi_Weight.T, At w18 x13.1 (cells yapi_Weight x27) ∧
stK w18 a2 (cells yapi_Weight x27) fun w21 =>
∃ x28 : yapi_Weight.T, At w21 a2 (cells yapi_Weight x28) ∧
K (x28, .nilIface) w21))))) w3))) w2
theorem S_weight_Repeat (v0_w : yapi_Weight.T) (v1_k : Int) (K : (yapi_Weight.T × Value) → World → Prop) (w0 : World) (h : F_weight_Repeat v0_w v1_k K w0) : C_weight_Repeat v0_w v1_k K w0 := by
  have e : denFn P [(11, [(8, .addr)]), (13, [])] Try.f51 #[val yapi_Weight v0_w, .int .i64 v1_k] (.tup (.pair yapi_Weight .iface)) K w0 = F_weight_Repeat v0_w v1_k K w0 := by kernel_rfl
  exact fn_sound mixed (f := 51) Try.func51 (by kernel_rfl) (e.mpr h)

def F_base_Num (v0_e : Value) (K : Int → World → Prop) (w0 : World) : Prop :=
nilIfcK v0_e fun b1 =>
gd b1 (
K (0 : Int) w0) (
assertK t_api_Errno (.int .i64) (0 : Int) v0_e fun y2 b3 =>
gd (!b3) (
K (-1 : Int) w0) (
K y2 w0))
theorem S_base_Num (v0_e : Value) (K : Int → World → Prop) (w0 : World) (h : F_base_Num v0_e K w0) : C_base_Num v0_e K w0 := by
  have e : denFn P [] Try.f52 #[v0_e] (.int .i64) K w0 = F_base_Num v0_e K w0 := by kernel_rfl
  exact fn_sound mixed (f := 52) Try.func52 (by kernel_rfl) (e.mpr h)

def F_law14_Plain (v0_s : Option Addr) (v1_id : Int) (K : (Sl × Bool) → World → Prop) (w0 : World) : Prop :=
C_intern_Store_Export v0_s v1_id (fun x1 w1 =>
nilIfcK x1.2 fun b2 =>
gd (!b2) (
K (⟨none, 0, 0⟩, false) w1) (
C_ref11_Plain x1.1 (x1.1.len : Int) (fun x3 w2 =>
K (x3.1, x3.2) w2) w1)) w0
theorem S_law14_Plain (v0_s : Option Addr) (v1_id : Int) (K : (Sl × Bool) → World → Prop) (w0 : World) (h : F_law14_Plain v0_s v1_id K w0) : C_law14_Plain v0_s v1_id K w0 := by
  have e : denFn P [] Try.f53 #[.pointer v0_s, .int .i64 v1_id] (.tup (.pair .slice .bool)) K w0 = F_law14_Plain v0_s v1_id K w0 := by kernel_rfl
  exact fn_sound mixed (f := 53) Try.func53 (by kernel_rfl) (e.mpr h)

def F_base_Bytes (v0_a : Sl) (v1_b : Sl) (K : Bool → World → Prop) (w0 : World) : Prop :=
runK P .str (convert t_sl_uint8 t_string (.slice v0_a.a v0_a.len v0_a.cap)) w0 fun x1 w1 =>
runK P .str (convert t_sl_uint8 t_string (.slice v1_b.a v1_b.len v1_b.cap)) w1 fun x2 w2 =>
K (x1.toList == x2.toList) w2
theorem S_base_Bytes (v0_a : Sl) (v1_b : Sl) (K : Bool → World → Prop) (w0 : World) (h : F_base_Bytes v0_a v1_b K w0) : C_base_Bytes v0_a v1_b K w0 := by
  have e : denFn P [] Try.f54 #[.slice v0_a.a v0_a.len v0_a.cap, .slice v1_b.a v1_b.len v1_b.cap] .bool K w0 = F_base_Bytes v0_a v1_b K w0 := by kernel_rfl
  exact fn_sound mixed (f := 54) Try.func54 (by kernel_rfl) (e.mpr h)

def F_ref01_Valid (v0_n : Int) (K : Bool → World → Prop) (w0 : World) : Prop :=
gd (decide ((0 : Int) ≤ v0_n)) (
K (decide (v0_n ≤ (1152921504606846976 : Int))) w0) (
K false w0)
theorem S_ref01_Valid (v0_n : Int) (K : Bool → World → Prop) (w0 : World) (h : F_ref01_Valid v0_n K w0) : C_ref01_Valid v0_n K w0 := by
  have e : denFn P [] Try.f55 #[.int .i64 v0_n] .bool K w0 = F_ref01_Valid v0_n K w0 := by kernel_rfl
  exact fn_sound mixed (f := 55) Try.func55 (by kernel_rfl) (e.mpr h)

def F_intern_Store_reach (v0_s : Option Addr) (v1_id : Int) (K : Sl → World → Prop) (w0 : World) : Prop :=
gd (v1_id == (0 : Int)) (
K (⟨none, 0, 0⟩) w0) (
allocK (.cells #[.int .i64 v1_id] t_api_ID) w0 fun a1 w1 =>
allocK (.map #[] 0) w1 fun a2 w2 =>
runU P (Instr.mapUpdate t_map_api_ID_bool (.map (some a2.block)) (.int .i64 v1_id) (.bool true)) w2 fun w3 =>
LoopP (X := Sl × Int × Unit) (⟨some a1, 1, 1⟩, (0 : Int), ()) w3 fun next4 x3 w4 => ∀ _ : Env,
gd (decide (x3.2.1 < (x3.1.len : Int))) (
drawK w4 fun w5 =>
nonNil v0_s fun p5 =>
∃ x6 : Sl, At w5 (p5.add 1) (cells .slice x6) ∧
idxK x3.1.a x3.1.len x3.2.1 1 fun p7 =>
∃ x8 : Int, At w5 p7 (cells (.int .i64) x8) ∧
arith .i64 (x8 - (1 : Int)) fun n9 =>
idxK x6.a x6.len n9 13 fun p10 =>
∃ x11 : yapi_Rule.T, At w5 (p10.add 0) (cells yapi_Rule x11) ∧
C_rule_Refs x11 (fun x12 w6 =>
LoopP (X := Sl × Int × Unit) (x3.1, (0 : Int), ()) w6 fun next14 x13 w7 => ∀ _ : Env,
gd (decide (x13.2.1 < (x12.len : Int))) (
JoinP (X := Sl × Unit) (fun R16 =>
idxK x12.a x12.len x13.2.1 1 fun p17 =>
∃ x18 : Int, At w7 p17 (cells (.int .i64) x18) ∧
∃ x19 : Bool, Lk1 P t_map_api_ID_bool .bool (.map (some a2.block)) (.int .i64 x18) x19 w7 ∧
gd (!x19) (
runU P (Instr.mapUpdate t_map_api_ID_bool (.map (some a2.block)) (.int .i64 x18) (.bool true)) w7 fun w9 =>
allocK (.cells #[.int .i64 x18] t_api_ID) w9 fun a20 w10 =>
appK t_api_ID 1 8 #[.int .i64 (0 : Int)] x13.1.a x13.1.len x13.1.cap (.slice (some a20) 1 1) 1 w10 fun s21 w11 =>
R16 (s21, ()) w11) (
R16 (x13.1, ()) w7)) (fun x15 w8 => ∀ _ : Env,
arith .i64 (x13.2.1 + (1 : Int)) fun n22 =>
next14 (x15.1, n22, ()) w8)) (
arith .i64 (x3.2.1 + (1 : Int)) fun n23 =>
next4 (x13.1, n23, ()) w7)) w5) (
C_slices_Sort x3.1 (fun x24 w12 =>
K x3.1 w12) w4))
theorem S_intern_Store_reach (v0_s : Option Addr) (v1_id : Int) (K : Sl → World → Prop) (w0 : World) (h : F_intern_Store_reach v0_s v1_id K w0) : C_intern_Store_reach v0_s v1_id K w0 := by
  have e : denFn P [(1006, [(5, .slice), (7, .int .i64)]), (1009, [(5, .slice), (37, .int .i64)]), (14, [(5, .slice)])] Try.f56 #[.pointer v0_s, .int .i64 v1_id] .slice K w0 = F_intern_Store_reach v0_s v1_id K w0 := by kernel_rfl
  exact fn_sound mixed (f := 56) Try.func56 (by kernel_rfl) (e.mpr h)

def F_length_Clip (v0_n : Int) (v1_low : Int) (v2_high : Int) (K : Int → World → Prop) (w0 : World) : Prop :=
gd (decide (v0_n < v1_low)) (
K v1_low w0) (
gd (decide (v2_high < v0_n)) (
K v2_high w0) (
K v0_n w0))
theorem S_length_Clip (v0_n : Int) (v1_low : Int) (v2_high : Int) (K : Int → World → Prop) (w0 : World) (h : F_length_Clip v0_n v1_low v2_high K w0) : C_length_Clip v0_n v1_low v2_high K w0 := by
  have e : denFn P [] Try.f57 #[.int .i64 v0_n, .int .i64 v1_low, .int .i64 v2_high] (.int .i64) K w0 = F_length_Clip v0_n v1_low v2_high K w0 := by kernel_rfl
  exact fn_sound mixed (f := 57) Try.func57 (by kernel_rfl) (e.mpr h)

def F_rule_Check (v0_r : yapi_Rule.T) (v1_n : Int) (K : Value → World → Prop) (w0 : World) : Prop :=
allocK (.cells (cells yapi_Rule v0_r).toArray t_api_Rule) w0 fun a1 w1 =>
JoinP (X := Bool × Unit) (fun R3 =>
∃ x4 : Int, At w1 (a1.add 0) (cells (.int .i64) x4) ∧
gd (x4 == (1 : Int)) (
∃ x5 : Int, At w1 (a1.add 2) (cells (.int .i64) x5) ∧
gd (x5 == (0 : Int)) (
∃ x6 : Int, At w1 (a1.add 3) (cells (.int .i64) x6) ∧
gd (x6 == (0 : Int)) (
∃ x7 : Int, At w1 (a1.add 4) (cells (.int .i64) x7) ∧
R3 (x7 == (0 : Int), ()) w1) (
R3 (false, ()) w1)) (
R3 (false, ()) w1)) (
gd (x4 == (2 : Int)) (
∃ x8 : Int, At w1 (a1.add 1) (cells (.int .u8) x8) ∧
gd (x8 == (0 : Int)) (
∃ x9 : Int, At w1 (a1.add 4) (cells (.int .i64) x9) ∧
R3 (x9 == (0 : Int), ()) w1) (
R3 (false, ()) w1)) (
gd (x4 == (3 : Int)) (
∃ x10 : Int, At w1 (a1.add 1) (cells (.int .u8) x10) ∧
gd (x10 == (0 : Int)) (
∃ x11 : Int, At w1 (a1.add 3) (cells (.int .i64) x11) ∧
gd (x11 == (0 : Int)) (
∃ x12 : Int, At w1 (a1.add 4) (cells (.int .i64) x12) ∧
R3 (decide ((2 : Int) ≤ x12), ()) w1) (
R3 (false, ()) w1)) (
R3 (false, ()) w1)) (
R3 (false, ()) w1)))) (fun x2 w2 => ∀ _ : Env,
gd (!x2.1) (
K (.iface t_api_Errno (.int .i64 (4 : Int))) w2) (
∃ x13 : yapi_Rule.T, At w2 a1 (cells yapi_Rule x13) ∧
C_rule_place x13 v1_n (fun x14 w3 =>
K x14 w3) w2))
theorem S_rule_Check (v0_r : yapi_Rule.T) (v1_n : Int) (K : Value → World → Prop) (w0 : World) (h : F_rule_Check v0_r v1_n K w0) : C_rule_Check v0_r v1_n K w0 := by
  have e : denFn P [(9, [(5, .bool)])] Try.f58 #[val yapi_Rule v0_r, .int .i64 v1_n] .iface K w0 = F_rule_Check v0_r v1_n K w0 := by kernel_rfl
  exact fn_sound mixed (f := 58) Try.func58 (by kernel_rfl) (e.mpr h)

def F_intern_Store_put (v0_s : Option Addr) (v1_r : yapi_Rule.T) (v2_to : Sl) (K : (Int × Value) → World → Prop) (w0 : World) : Prop :=
allocK (.cells (cells yapi_Rule v1_r).toArray t_api_Rule) w0 fun a1 w1 =>
∃ x2 : Int, At w1 (a1.add 0) (cells (.int .i64) x2) ∧
gd (x2 == (1 : Int)) (
∃ x3 : Int, At w1 (a1.add 1) (cells (.int .u8) x3) ∧
C_intern_Store_Letter v0_s x3 (fun x4 w2 =>
K (x4.1, x4.2) w2) w1) (
gd (x2 == (2 : Int)) (
drawK w1 fun w3 =>
∃ x5 : Int, At w3 (a1.add 2) (cells (.int .i64) x5) ∧
idxK v2_to.a v2_to.len x5 1 fun p6 =>
∃ x7 : Int, At w3 p6 (cells (.int .i64) x7) ∧
∃ x8 : Int, At w3 (a1.add 3) (cells (.int .i64) x8) ∧
idxK v2_to.a v2_to.len x8 1 fun p9 =>
∃ x10 : Int, At w3 p9 (cells (.int .i64) x10) ∧
C_intern_Store_Pair v0_s x7 x10 (fun x11 w4 =>
K (x11.1, x11.2) w4) w3) (
drawK w1 fun w5 =>
∃ x12 : Int, At w5 (a1.add 2) (cells (.int .i64) x12) ∧
idxK v2_to.a v2_to.len x12 1 fun p13 =>
∃ x14 : Int, At w5 p13 (cells (.int .i64) x14) ∧
∃ x15 : Int, At w5 (a1.add 4) (cells (.int .i64) x15) ∧
C_intern_Store_Power v0_s x14 x15 (fun x16 w6 =>
K (x16.1, x16.2) w6) w5))
theorem S_intern_Store_put (v0_s : Option Addr) (v1_r : yapi_Rule.T) (v2_to : Sl) (K : (Int × Value) → World → Prop) (w0 : World) (h : F_intern_Store_put v0_s v1_r v2_to K w0) : C_intern_Store_put v0_s v1_r v2_to K w0 := by
  have e : denFn P [] Try.f59 #[.pointer v0_s, val yapi_Rule v1_r, .slice v2_to.a v2_to.len v2_to.cap] (.tup (.pair (.int .i64) .iface)) K w0 = F_intern_Store_put v0_s v1_r v2_to K w0 := by kernel_rfl
  exact fn_sound mixed (f := 59) Try.func59 (by kernel_rfl) (e.mpr h)

def F_split_size (v0_s : Option Addr) (v1_id : Int) (K : (Int × Value) → World → Prop) (w0 : World) : Prop :=
C_intern_Store_Weight v0_s v1_id (fun x1 w1 =>
allocK (.cells #[.int .i64 (0 : Int), .int .i64 (0 : Int), .int .i64 (0 : Int), .int .i64 (0 : Int), .int .u64 (0 : Int), .int .u64 (0 : Int)] t_api_Weight) w1 fun a2 w2 =>
stK w2 a2 (cells yapi_Weight x1.1) fun w3 =>
nilIfcK x1.2 fun b3 =>
gd (!b3) (
K ((0 : Int), x1.2) w3) (
∃ x4 : Int, At w3 (a2.add 0) (cells (.int .i64) x4) ∧
K (x4, .nilIface) w3)) w0
theorem S_split_size (v0_s : Option Addr) (v1_id : Int) (K : (Int × Value) → World → Prop) (w0 : World) (h : F_split_size v0_s v1_id K w0) : C_split_size v0_s v1_id K w0 := by
  have e : denFn P [] Try.f60 #[.pointer v0_s, .int .i64 v1_id] (.tup (.pair (.int .i64) .iface)) K w0 = F_split_size v0_s v1_id K w0 := by kernel_rfl
  exact fn_sound mixed (f := 60) Try.func60 (by kernel_rfl) (e.mpr h)

def F_intern_Store_Rule (v0_s : Option Addr) (v1_id : Int) (K : (yapi_Rule.T × Value) → World → Prop) (w0 : World) : Prop :=
allocK (.cells #[.int .i64 (0 : Int), .int .u8 (0 : Int), .int .i64 (0 : Int), .int .i64 (0 : Int), .int .i64 (0 : Int)] t_api_Rule) w0 fun a1 w1 =>
gd v0_s.isNone (
stK w1 a1 ([.int .i64 (0 : Int), .int .u8 (0 : Int), .int .i64 (0 : Int), .int .i64 (0 : Int), .int .i64 (0 : Int)]) fun w2 =>
∃ x2 : yapi_Rule.T, At w2 a1 (cells yapi_Rule x2) ∧
K (x2, .iface t_api_Errno (.int .i64 (5 : Int))) w2) (
JoinP (X := Bool × Unit) (fun R4 =>
gd (v1_id == (0 : Int)) (
R4 (true, ()) w1) (
C_intern_Store_known v0_s v1_id (fun x5 w4 =>
R4 (!x5, ()) w4) w1)) (fun x3 w3 => ∀ _ : Env,
gd x3.1 (
stK w3 a1 ([.int .i64 (0 : Int), .int .u8 (0 : Int), .int .i64 (0 : Int), .int .i64 (0 : Int), .int .i64 (0 : Int)]) fun w5 =>
∃ x6 : yapi_Rule.T, At w5 a1 (cells yapi_Rule x6) ∧
K (x6, .iface t_api_Errno (.int .i64 (1 : Int))) w5) (
nonNil v0_s fun p7 =>
∃ x8 : Sl, At w3 (p7.add 1) (cells .slice x8) ∧
arith .i64 (v1_id - (1 : Int)) fun n9 =>
idxK x8.a x8.len n9 13 fun p10 =>
∃ x11 : yapi_Rule.T, At w3 (p10.add 0) (cells yapi_Rule x11) ∧
stK w3 a1 (cells yapi_Rule x11) fun w6 =>
∃ x12 : yapi_Rule.T, At w6 a1 (cells yapi_Rule x12) ∧
K (x12, .nilIface) w6)))
theorem S_intern_Store_Rule (v0_s : Option Addr) (v1_id : Int) (K : (yapi_Rule.T × Value) → World → Prop) (w0 : World) (h : F_intern_Store_Rule v0_s v1_id K w0) : C_intern_Store_Rule v0_s v1_id K w0 := by
  have e : denFn P [(4, [(17, .bool)])] Try.f61 #[.pointer v0_s, .int .i64 v1_id] (.tup (.pair yapi_Rule .iface)) K w0 = F_intern_Store_Rule v0_s v1_id K w0 := by kernel_rfl
  exact fn_sound mixed (f := 61) Try.func61 (by kernel_rfl) (e.mpr h)

def F_weight_Unit  (K : yapi_Weight.T → World → Prop) (w0 : World) : Prop :=
allocK (.cells #[.int .i64 (0 : Int), .int .i64 (0 : Int), .int .i64 (0 : Int), .int .i64 (0 : Int), .int .u64 (0 : Int), .int .u64 (0 : Int)] t_api_Weight) w0 fun a1 w1 =>
C_digest_Unit  (fun x2 w2 =>
stK w2 a1 ([.int .i64 (0 : Int), .int .i64 (0 : Int), .int .i64 (0 : Int), .int .i64 (0 : Int), .int .u64 x2.1, .int .u64 x2.2]) fun w3 =>
∃ x3 : yapi_Weight.T, At w3 a1 (cells yapi_Weight x3) ∧
K x3 w3) w1
theorem S_weight_Unit  (K : yapi_Weight.T → World → Prop) (w0 : World) (h : F_weight_Unit  K w0) : C_weight_Unit  K w0 := by
  have e : denFn P [] Try.f62 #[] yapi_Weight K w0 = F_weight_Unit  K w0 := by kernel_rfl
  exact fn_sound mixed (f := 62) Try.func62 (by kernel_rfl) (e.mpr h)

def F_length_Valid (v0_n : Int) (K : Bool → World → Prop) (w0 : World) : Prop :=
gd (decide ((0 : Int) ≤ v0_n)) (
K (decide (v0_n ≤ (1152921504606846976 : Int))) w0) (
K false w0)
theorem S_length_Valid (v0_n : Int) (K : Bool → World → Prop) (w0 : World) (h : F_length_Valid v0_n K w0) : C_length_Valid v0_n K w0 := by
  have e : denFn P [] Try.f63 #[.int .i64 v0_n] .bool K w0 = F_length_Valid v0_n K w0 := by kernel_rfl
  exact fn_sound mixed (f := 63) Try.func63 (by kernel_rfl) (e.mpr h)

def F_modular_Pow (v0_a : Int) (v1_n : Int) (K : Int → World → Prop) (w0 : World) : Prop :=
C_modular_Reduce v0_a (fun x1 w1 =>
LoopP (X := Int × Int × Int × Unit) (x1, v1_n, (1 : Int), ()) w1 fun next3 x2 w2 => ∀ _ : Env,
gd (decide ((0 : Int) < x2.2.1)) (
JoinP (X := Int × Unit) (fun R5 =>
(2 : Int) ≠ 0 ∧
letZ (Int.tmod x2.2.1 (2 : Int)) fun n6 =>
gd (n6 == (1 : Int)) (
C_modular_Mul x2.2.2.1 x2.1 (fun x7 w4 =>
R5 (x7, ()) w4) w2) (
R5 (x2.2.2.1, ()) w2)) (fun x4 w3 => ∀ _ : Env,
C_modular_Mul x2.1 x2.1 (fun x8 w5 =>
(2 : Int) ≠ 0 ∧
arith .u64 (Int.tdiv x2.2.1 (2 : Int)) fun n9 =>
next3 (x8, n9, x4.1, ()) w5) w3)) (
K x2.2.2.1 w2)) w0
theorem S_modular_Pow (v0_a : Int) (v1_n : Int) (K : Int → World → Prop) (w0 : World) (h : F_modular_Pow v0_a v1_n K w0) : C_modular_Pow v0_a v1_n K w0 := by
  have e : denFn P [(1003, [(0, .int .u64), (1, .int .u64), (5, .int .u64)]), (7, [(5, .int .u64)])] Try.f64 #[.int .u64 v0_a, .int .u64 v1_n] (.int .u64) K w0 = F_modular_Pow v0_a v1_n K w0 := by kernel_rfl
  exact fn_sound mixed (f := 64) Try.func64 (by kernel_rfl) (e.mpr h)

def F_modular_Add (v0_a : Int) (v1_b : Int) (K : Int → World → Prop) (w0 : World) : Prop :=
C_modular_Reduce v0_a (fun x1 w1 =>
C_modular_Reduce v1_b (fun x2 w2 =>
arith .u64 (x1 + x2) fun n3 =>
C_modular_Reduce n3 (fun x4 w3 =>
K x4 w3) w2) w1) w0
theorem S_modular_Add (v0_a : Int) (v1_b : Int) (K : Int → World → Prop) (w0 : World) (h : F_modular_Add v0_a v1_b K w0) : C_modular_Add v0_a v1_b K w0 := by
  have e : denFn P [] Try.f65 #[.int .u64 v0_a, .int .u64 v1_b] (.int .u64) K w0 = F_modular_Add v0_a v1_b K w0 := by kernel_rfl
  exact fn_sound mixed (f := 65) Try.func65 (by kernel_rfl) (e.mpr h)

def F_modular_Mul (v0_a : Int) (v1_b : Int) (K : Int → World → Prop) (w0 : World) : Prop :=
C_modular_Reduce v0_a (fun x1 w1 =>
C_modular_Reduce v1_b (fun x2 w2 =>
C_bits_Mul64 x1 x2 (fun x3 w3 =>
0 ≤ (3 : Int) ∧
arith .u64 (x3.1 * 2 ^ min (Int.toNat (3 : Int)) (IntKind.bits .u64)) fun n4 =>
0 ≤ (61 : Int) ∧
letZ (Int.fdiv x3.2 (2 ^ min (Int.toNat (61 : Int)) (IntKind.bits .u64))) fun n5 =>
arith .u64 (n4 + n5) fun n6 =>
arith .u64 ((BitVec.ofInt (IntKind.bits .u64) x3.2 &&& BitVec.ofInt (IntKind.bits .u64) (2305843009213693951 : Int)).toNat) fun n7 =>
arith .u64 (n6 + n7) fun n8 =>
C_modular_Reduce n8 (fun x9 w4 =>
K x9 w4) w3) w2) w1) w0
theorem S_modular_Mul (v0_a : Int) (v1_b : Int) (K : Int → World → Prop) (w0 : World) (h : F_modular_Mul v0_a v1_b K w0) : C_modular_Mul v0_a v1_b K w0 := by
  have e : denFn P [] Try.f66 #[.int .u64 v0_a, .int .u64 v1_b] (.int .u64) K w0 = F_modular_Mul v0_a v1_b K w0 := by kernel_rfl
  exact fn_sound mixed (f := 66) Try.func66 (by kernel_rfl) (e.mpr h)

def F_avl_parts (v0_s : Option Addr) (v1_id : Int) (K : (Int × Int × Int × Int × Value) → World → Prop) (w0 : World) : Prop :=
C_intern_Store_Rule v0_s v1_id (fun x1 w1 =>
allocK (.cells #[.int .i64 (0 : Int), .int .u8 (0 : Int), .int .i64 (0 : Int), .int .i64 (0 : Int), .int .i64 (0 : Int)] t_api_Rule) w1 fun a2 w2 =>
stK w2 a2 (cells yapi_Rule x1.1) fun w3 =>
nilIfcK x1.2 fun b3 =>
gd (!b3) (
K ((0 : Int), (0 : Int), (0 : Int), (0 : Int), x1.2) w3) (
∃ x4 : Int, At w3 (a2.add 2) (cells (.int .i64) x4) ∧
C_intern_Store_Depth v0_s x4 (fun x5 w4 =>
nilIfcK x5.2 fun b6 =>
gd (!b6) (
K ((0 : Int), (0 : Int), (0 : Int), (0 : Int), x5.2) w4) (
∃ x7 : Int, At w4 (a2.add 3) (cells (.int .i64) x7) ∧
C_intern_Store_Depth v0_s x7 (fun x8 w5 =>
nilIfcK x8.2 fun b9 =>
gd (!b9) (
K ((0 : Int), (0 : Int), (0 : Int), (0 : Int), x8.2) w5) (
drawK w5 fun w6 =>
∃ x10 : Int, At w6 (a2.add 2) (cells (.int .i64) x10) ∧
∃ x11 : Int, At w6 (a2.add 3) (cells (.int .i64) x11) ∧
K (x10, x11, x5.1, x8.1, .nilIface) w6)) w4)) w3)) w0
theorem S_avl_parts (v0_s : Option Addr) (v1_id : Int) (K : (Int × Int × Int × Int × Value) → World → Prop) (w0 : World) (h : F_avl_parts v0_s v1_id K w0) : C_avl_parts v0_s v1_id K w0 := by
  have e : denFn P [] Try.f67 #[.pointer v0_s, .int .i64 v1_id] (.tup (.pair (.int .i64) (.pair (.int .i64) (.pair (.int .i64) (.pair (.int .i64) .iface))))) K w0 = F_avl_parts v0_s v1_id K w0 := by kernel_rfl
  exact fn_sound mixed (f := 67) Try.func67 (by kernel_rfl) (e.mpr h)

def F_avl_level (v0_s : Option Addr) (v1_a : Int) (v2_b : Int) (K : (Int × Value) → World → Prop) (w0 : World) : Prop :=
C_intern_Store_Depth v0_s v1_a (fun x1 w1 =>
nilIfcK x1.2 fun b2 =>
gd (!b2) (
K ((0 : Int), x1.2) w1) (
C_intern_Store_Depth v0_s v2_b (fun x3 w2 =>
nilIfcK x3.2 fun b4 =>
gd (!b4) (
K ((0 : Int), x3.2) w2) (
arith .i64 (x3.1 + (1 : Int)) fun n5 =>
gd (decide (n5 < x1.1)) (
C_avl_parts v0_s v1_a (fun x6 w3 =>
nilIfcK x6.2.2.2.2 fun b7 =>
gd (!b7) (
K ((0 : Int), x6.2.2.2.2) w3) (
gd (decide (x6.2.2.2.1 ≤ x6.2.2.1)) (
C_avl_two v0_s x6.1 x6.2.1 v2_b (fun x8 w4 =>
K (x8.1, x8.2) w4) w3) (
C_avl_parts v0_s x6.2.1 (fun x9 w5 =>
nilIfcK x9.2.2.2.2 fun b10 =>
gd (!b10) (
K ((0 : Int), x9.2.2.2.2) w5) (
C_avl_four v0_s x6.1 x9.1 x9.2.1 v2_b (fun x11 w6 =>
K (x11.1, x11.2) w6) w5)) w3))) w2) (
arith .i64 (x1.1 + (1 : Int)) fun n12 =>
gd (decide (n12 < x3.1)) (
C_avl_parts v0_s v2_b (fun x13 w7 =>
nilIfcK x13.2.2.2.2 fun b14 =>
gd (!b14) (
K ((0 : Int), x13.2.2.2.2) w7) (
gd (decide (x13.2.2.2.1 < x13.2.2.1)) (
C_avl_parts v0_s x13.1 (fun x15 w8 =>
nilIfcK x15.2.2.2.2 fun b16 =>
gd (!b16) (
K ((0 : Int), x15.2.2.2.2) w8) (
C_avl_four v0_s v1_a x15.1 x15.2.1 x13.2.1 (fun x17 w9 =>
K (x17.1, x17.2) w9) w8)) w7) (
C_intern_Store_Pair v0_s v1_a x13.1 (fun x18 w10 =>
nilIfcK x18.2 fun b19 =>
gd (!b19) (
K ((0 : Int), x18.2) w10) (
C_intern_Store_Pair v0_s x18.1 x13.2.1 (fun x20 w11 =>
K (x20.1, x20.2) w11) w10)) w7))) w2) (
C_intern_Store_Pair v0_s v1_a v2_b (fun x21 w12 =>
K (x21.1, x21.2) w12) w2)))) w1)) w0
theorem S_avl_level (v0_s : Option Addr) (v1_a : Int) (v2_b : Int) (K : (Int × Value) → World → Prop) (w0 : World) (h : F_avl_level v0_s v1_a v2_b K w0) : C_avl_level v0_s v1_a v2_b K w0 := by
  have e : denFn P [] Try.f68 #[.pointer v0_s, .int .i64 v1_a, .int .i64 v2_b] (.tup (.pair (.int .i64) .iface)) K w0 = F_avl_level v0_s v1_a v2_b K w0 := by kernel_rfl
  exact fn_sound mixed (f := 68) Try.func68 (by kernel_rfl) (e.mpr h)

def F_digest_Letter (v0_b : Int) (K : yapi_Digest.T → World → Prop) (w0 : World) : Prop :=
allocK (.cells #[.int .u64 (0 : Int), .int .u64 (0 : Int)] t_api_Digest) w0 fun a1 w1 =>
arith .u64 (v0_b) fun n2 =>
arith .u64 (n2 + (1 : Int)) fun n3 =>
stK w1 a1 ([.int .u64 n3, .int .u64 (1103515245 : Int)]) fun w2 =>
∃ x4 : yapi_Digest.T, At w2 a1 (cells yapi_Digest x4) ∧
K x4 w2
theorem S_digest_Letter (v0_b : Int) (K : yapi_Digest.T → World → Prop) (w0 : World) (h : F_digest_Letter v0_b K w0) : C_digest_Letter v0_b K w0 := by
  have e : denFn P [] Try.f69 #[.int .u8 v0_b] yapi_Digest K w0 = F_digest_Letter v0_b K w0 := by kernel_rfl
  exact fn_sound mixed (f := 69) Try.func69 (by kernel_rfl) (e.mpr h)

def F_digest_Repeat (v0_d : yapi_Digest.T) (v1_k : Int) (K : yapi_Digest.T → World → Prop) (w0 : World) : Prop :=
allocK (.cells (cells yapi_Digest v0_d).toArray t_api_Digest) w0 fun a1 w1 =>
allocK (.cells #[.int .u64 (0 : Int), .int .u64 (0 : Int)] t_api_Digest) w1 fun a2 w2 =>
C_digest_Unit  (fun x3 w3 =>
allocK (.cells #[.int .u64 (0 : Int), .int .u64 (0 : Int)] t_api_Digest) w3 fun a4 w4 =>
stK w4 a4 (cells yapi_Digest x3) fun w5 =>
LoopP (X := Int × Unit) (v1_k, ()) w5 fun next6 x5 w6 => ∀ _ : Env,
gd (decide ((0 : Int) < x5.1)) (
JoinP (X := Unit) (fun R8 =>
(2 : Int) ≠ 0 ∧
letZ (Int.tmod x5.1 (2 : Int)) fun n9 =>
gd (n9 == (1 : Int)) (
∃ x10 : yapi_Digest.T, At w6 a4 (cells yapi_Digest x10) ∧
∃ x11 : yapi_Digest.T, At w6 a1 (cells yapi_Digest x11) ∧
C_digest_Join x10 x11 (fun x12 w8 =>
stK w8 a4 (cells yapi_Digest x12) fun w9 =>
R8 () w9) w6) (
R8 () w6)) (fun x7 w7 => ∀ _ : Env,
∃ x13 : yapi_Digest.T, At w7 a1 (cells yapi_Digest x13) ∧
∃ x14 : yapi_Digest.T, At w7 a1 (cells yapi_Digest x14) ∧
C_digest_Join x13 x14 (fun x15 w10 =>
stK w10 a1 (cells yapi_Digest x15) fun w11 =>
(2 : Int) ≠ 0 ∧
arith .i64 (Int.tdiv x5.1 (2 : Int)) fun n16 =>
next6 (n16, ()) w11) w7)) (
∃ x17 : yapi_Digest.T, At w6 a4 (cells yapi_Digest x17) ∧
stK w6 a2 (cells yapi_Digest x17) fun w12 =>
∃ x18 : yapi_Digest.T, At w12 a2 (cells yapi_Digest x18) ∧
K x18 w12)) w2
theorem S_digest_Repeat (v0_d : yapi_Digest.T) (v1_k : Int) (K : yapi_Digest.T → World → Prop) (w0 : World) (h : F_digest_Repeat v0_d v1_k K w0) : C_digest_Repeat v0_d v1_k K w0 := by
  have e : denFn P [(1002, [(1, .int .i64)]), (6, [])] Try.f70 #[val yapi_Digest v0_d, .int .i64 v1_k] yapi_Digest K w0 = F_digest_Repeat v0_d v1_k K w0 := by kernel_rfl
  exact fn_sound mixed (f := 70) Try.func70 (by kernel_rfl) (e.mpr h)

def F_ref11_Plain (v0_g : Sl) (v1_n : Int) (K : (Sl × Bool) → World → Prop) (w0 : World) : Prop :=
C_ref11_Lengths v0_g (fun x1 w1 =>
JoinP (X := Bool × Unit) (fun R3 =>
gd (x1.2 != (0 : Int)) (
R3 (true, ()) w1) (
gd (decide (v1_n < (0 : Int))) (
R3 (true, ()) w1) (
gd (decide ((v0_g.len : Int) < v1_n)) (
R3 (true, ()) w1) (
gd (decide ((0 : Int) < v1_n)) (
arith .i64 (v1_n - (1 : Int)) fun n4 =>
idxK x1.1.a x1.1.len n4 1 fun p5 =>
∃ x6 : Int, At w1 p5 (cells (.int .i64) x6) ∧
R3 (decide ((4096 : Int) < x6), ()) w1) (
R3 (false, ()) w1))))) (fun x2 w2 => ∀ _ : Env,
gd x2.1 (
K (⟨none, 0, 0⟩, false) w2) (
C_ref11_plain v0_g v1_n (fun x7 w3 =>
K (x7, true) w3) w2))) w0
theorem S_ref11_Plain (v0_g : Sl) (v1_n : Int) (K : (Sl × Bool) → World → Prop) (w0 : World) (h : F_ref11_Plain v0_g v1_n K w0) : C_ref11_Plain v0_g v1_n K w0 := by
  have e : denFn P [(3, [(36, .bool)])] Try.f71 #[.slice v0_g.a v0_g.len v0_g.cap, .int .i64 v1_n] (.tup (.pair .slice .bool)) K w0 = F_ref11_Plain v0_g v1_n K w0 := by kernel_rfl
  exact fn_sound mixed (f := 71) Try.func71 (by kernel_rfl) (e.mpr h)

def F_rule_Refs (v0_r : yapi_Rule.T) (K : Sl → World → Prop) (w0 : World) : Prop :=
allocK (.cells (cells yapi_Rule v0_r).toArray t_api_Rule) w0 fun a1 w1 =>
∃ x2 : Int, At w1 (a1.add 0) (cells (.int .i64) x2) ∧
gd (x2 == (2 : Int)) (
∃ x3 : Int, At w1 (a1.add 2) (cells (.int .i64) x3) ∧
∃ x4 : Int, At w1 (a1.add 3) (cells (.int .i64) x4) ∧
allocK (.cells #[.int .i64 x3, .int .i64 x4] t_api_ID) w1 fun a5 w2 =>
K (⟨some a5, 2, 2⟩) w2) (
gd (x2 == (3 : Int)) (
∃ x6 : Int, At w1 (a1.add 2) (cells (.int .i64) x6) ∧
allocK (.cells #[.int .i64 x6] t_api_ID) w1 fun a7 w3 =>
K (⟨some a7, 1, 1⟩) w3) (
K (⟨none, 0, 0⟩) w1))
theorem S_rule_Refs (v0_r : yapi_Rule.T) (K : Sl → World → Prop) (w0 : World) (h : F_rule_Refs v0_r K w0) : C_rule_Refs v0_r K w0 := by
  have e : denFn P [] Try.f72 #[val yapi_Rule v0_r] .slice K w0 = F_rule_Refs v0_r K w0 := by kernel_rfl
  exact fn_sound mixed (f := 72) Try.func72 (by kernel_rfl) (e.mpr h)

def F_rule_place (v0_r : yapi_Rule.T) (v1_n : Int) (K : Value → World → Prop) (w0 : World) : Prop :=
allocK (.cells (cells yapi_Rule v0_r).toArray t_api_Rule) w0 fun a1 w1 =>
gd (decide (v1_n < (1 : Int))) (
K (.iface t_api_Errno (.int .i64 (1 : Int))) w1) (
∃ x2 : yapi_Rule.T, At w1 a1 (cells yapi_Rule x2) ∧
C_rule_Refs x2 (fun x3 w2 =>
LoopP (X := Int × Unit) ((0 : Int), ()) w2 fun next5 x4 w3 => ∀ _ : Env,
gd (decide (x4.1 < (x3.len : Int))) (
idxK x3.a x3.len x4.1 1 fun p6 =>
∃ x7 : Int, At w3 p6 (cells (.int .i64) x7) ∧
JoinP (X := Bool × Unit) (fun R9 =>
gd (decide (x7 < (1 : Int))) (
R9 (true, ()) w3) (
arith .i64 (v1_n - (1 : Int)) fun n10 =>
R9 (decide (n10 < x7), ()) w3)) (fun x8 w4 => ∀ _ : Env,
gd x8.1 (
K (.iface t_api_Errno (.int .i64 (1 : Int))) w4) (
arith .i64 (x4.1 + (1 : Int)) fun n11 =>
next5 (n11, ()) w4))) (
K .nilIface w3)) w1)
theorem S_rule_place (v0_r : yapi_Rule.T) (v1_n : Int) (K : Value → World → Prop) (w0 : World) (h : F_rule_place v0_r v1_n K w0) : C_rule_place v0_r v1_n K w0 := by
  have e : denFn P [(1004, [(13, .int .i64)]), (7, [(24, .bool)])] Try.f74 #[val yapi_Rule v0_r, .int .i64 v1_n] .iface K w0 = F_rule_place v0_r v1_n K w0 := by kernel_rfl
  exact fn_sound mixed (f := 74) Try.func74 (by kernel_rfl) (e.mpr h)

def F_digest_Unit  (K : yapi_Digest.T → World → Prop) (w0 : World) : Prop :=
allocK (.cells #[.int .u64 (0 : Int), .int .u64 (0 : Int)] t_api_Digest) w0 fun a1 w1 =>
stK w1 a1 ([.int .u64 (0 : Int), .int .u64 (1 : Int)]) fun w2 =>
∃ x2 : yapi_Digest.T, At w2 a1 (cells yapi_Digest x2) ∧
K x2 w2
theorem S_digest_Unit  (K : yapi_Digest.T → World → Prop) (w0 : World) (h : F_digest_Unit  K w0) : C_digest_Unit  K w0 := by
  have e : denFn P [] Try.f75 #[] yapi_Digest K w0 = F_digest_Unit  K w0 := by kernel_rfl
  exact fn_sound mixed (f := 75) Try.func75 (by kernel_rfl) (e.mpr h)

def F_modular_Reduce (v0_x : Int) (K : Int → World → Prop) (w0 : World) : Prop :=
arith .u64 ((BitVec.ofInt (IntKind.bits .u64) v0_x &&& BitVec.ofInt (IntKind.bits .u64) (2305843009213693951 : Int)).toNat) fun n1 =>
0 ≤ (61 : Int) ∧
letZ (Int.fdiv v0_x (2 ^ min (Int.toNat (61 : Int)) (IntKind.bits .u64))) fun n2 =>
arith .u64 (n1 + n2) fun n3 =>
JoinP (X := Int × Unit) (fun R5 =>
gd (decide ((2305843009213693951 : Int) ≤ n3)) (
arith .u64 (n3 - (2305843009213693951 : Int)) fun n6 =>
R5 (n6, ()) w0) (
R5 (n3, ()) w0)) (fun x4 w1 => ∀ _ : Env,
K x4.1 w1)
theorem S_modular_Reduce (v0_x : Int) (K : Int → World → Prop) (w0 : World) (h : F_modular_Reduce v0_x K w0) : C_modular_Reduce v0_x K w0 := by
  have e : denFn P [(4, [(0, .int .u64)])] Try.f76 #[.int .u64 v0_x] (.int .u64) K w0 = F_modular_Reduce v0_x K w0 := by kernel_rfl
  exact fn_sound mixed (f := 76) Try.func76 (by kernel_rfl) (e.mpr h)

def F_bits_Mul64 (v0_x : Int) (v1_y : Int) (K : (Int × Int) → World → Prop) (w0 : World) : Prop :=
arith .u64 ((BitVec.ofInt (IntKind.bits .u64) v0_x &&& BitVec.ofInt (IntKind.bits .u64) (4294967295 : Int)).toNat) fun n1 =>
0 ≤ (32 : Int) ∧
letZ (Int.fdiv v0_x (2 ^ min (Int.toNat (32 : Int)) (IntKind.bits .u64))) fun n2 =>
arith .u64 ((BitVec.ofInt (IntKind.bits .u64) v1_y &&& BitVec.ofInt (IntKind.bits .u64) (4294967295 : Int)).toNat) fun n3 =>
0 ≤ (32 : Int) ∧
letZ (Int.fdiv v1_y (2 ^ min (Int.toNat (32 : Int)) (IntKind.bits .u64))) fun n4 =>
arith .u64 (n1 * n3) fun n5 =>
arith .u64 (n2 * n3) fun n6 =>
0 ≤ (32 : Int) ∧
letZ (Int.fdiv n5 (2 ^ min (Int.toNat (32 : Int)) (IntKind.bits .u64))) fun n7 =>
arith .u64 (n6 + n7) fun n8 =>
arith .u64 ((BitVec.ofInt (IntKind.bits .u64) n8 &&& BitVec.ofInt (IntKind.bits .u64) (4294967295 : Int)).toNat) fun n9 =>
0 ≤ (32 : Int) ∧
letZ (Int.fdiv n8 (2 ^ min (Int.toNat (32 : Int)) (IntKind.bits .u64))) fun n10 =>
arith .u64 (n1 * n4) fun n11 =>
arith .u64 (n9 + n11) fun n12 =>
arith .u64 (n2 * n4) fun n13 =>
arith .u64 (n13 + n10) fun n14 =>
0 ≤ (32 : Int) ∧
letZ (Int.fdiv n12 (2 ^ min (Int.toNat (32 : Int)) (IntKind.bits .u64))) fun n15 =>
arith .u64 (n14 + n15) fun n16 =>
arith .u64 (v0_x * v1_y) fun n17 =>
K (n16, n17) w0
theorem S_bits_Mul64 (v0_x : Int) (v1_y : Int) (K : (Int × Int) → World → Prop) (w0 : World) (h : F_bits_Mul64 v0_x v1_y K w0) : C_bits_Mul64 v0_x v1_y K w0 := by
  have e : denFn P [] Try.f77 #[.int .u64 v0_x, .int .u64 v1_y] (.tup (.pair (.int .u64) (.int .u64))) K w0 = F_bits_Mul64 v0_x v1_y K w0 := by kernel_rfl
  exact fn_sound mixed (f := 77) Try.func77 (by kernel_rfl) (e.mpr h)

def F_avl_two (v0_s : Option Addr) (v1_a : Int) (v2_b : Int) (v3_c : Int) (K : (Int × Value) → World → Prop) (w0 : World) : Prop :=
C_intern_Store_Pair v0_s v2_b v3_c (fun x1 w1 =>
nilIfcK x1.2 fun b2 =>
gd (!b2) (
K ((0 : Int), x1.2) w1) (
C_intern_Store_Pair v0_s v1_a x1.1 (fun x3 w2 =>
K (x3.1, x3.2) w2) w1)) w0
theorem S_avl_two (v0_s : Option Addr) (v1_a : Int) (v2_b : Int) (v3_c : Int) (K : (Int × Value) → World → Prop) (w0 : World) (h : F_avl_two v0_s v1_a v2_b v3_c K w0) : C_avl_two v0_s v1_a v2_b v3_c K w0 := by
  have e : denFn P [] Try.f78 #[.pointer v0_s, .int .i64 v1_a, .int .i64 v2_b, .int .i64 v3_c] (.tup (.pair (.int .i64) .iface)) K w0 = F_avl_two v0_s v1_a v2_b v3_c K w0 := by kernel_rfl
  exact fn_sound mixed (f := 78) Try.func78 (by kernel_rfl) (e.mpr h)

def F_avl_four (v0_s : Option Addr) (v1_a : Int) (v2_b : Int) (v3_c : Int) (v4_d : Int) (K : (Int × Value) → World → Prop) (w0 : World) : Prop :=
C_intern_Store_Pair v0_s v1_a v2_b (fun x1 w1 =>
nilIfcK x1.2 fun b2 =>
gd (!b2) (
K ((0 : Int), x1.2) w1) (
C_avl_two v0_s x1.1 v3_c v4_d (fun x3 w2 =>
K (x3.1, x3.2) w2) w1)) w0
theorem S_avl_four (v0_s : Option Addr) (v1_a : Int) (v2_b : Int) (v3_c : Int) (v4_d : Int) (K : (Int × Value) → World → Prop) (w0 : World) (h : F_avl_four v0_s v1_a v2_b v3_c v4_d K w0) : C_avl_four v0_s v1_a v2_b v3_c v4_d K w0 := by
  have e : denFn P [] Try.f79 #[.pointer v0_s, .int .i64 v1_a, .int .i64 v2_b, .int .i64 v3_c, .int .i64 v4_d] (.tup (.pair (.int .i64) .iface)) K w0 = F_avl_four v0_s v1_a v2_b v3_c v4_d K w0 := by kernel_rfl
  exact fn_sound mixed (f := 79) Try.func79 (by kernel_rfl) (e.mpr h)

def F_ref11_Lengths (v0_g : Sl) (K : (Sl × Int) → World → Prop) (w0 : World) : Prop :=
C_ref11_Check v0_g (fun x1 w1 =>
gd (x1 != (0 : Int)) (
K (⟨none, 0, 0⟩, x1) w1) (
LoopP (X := Sl × Int × Unit) (⟨none, 0, 0⟩, (0 : Int), ()) w1 fun next3 x2 w2 => ∀ _ : Env,
gd (decide (x2.2.1 < (v0_g.len : Int))) (
JoinP (X := Int × Int × Unit) (fun R5 =>
idxK v0_g.a v0_g.len x2.2.1 5 fun p6 =>
∃ x7 : Int, At w2 (p6.add 0) (cells (.int .i64) x7) ∧
gd (x7 == (2 : Int)) (
drawK w2 fun w4 =>
idxK v0_g.a v0_g.len x2.2.1 5 fun p8 =>
∃ x9 : Int, At w4 (p8.add 2) (cells (.int .i64) x9) ∧
arith .i64 (x9 - (1 : Int)) fun n10 =>
idxK x2.1.a x2.1.len n10 1 fun p11 =>
∃ x12 : Int, At w4 p11 (cells (.int .i64) x12) ∧
idxK v0_g.a v0_g.len x2.2.1 5 fun p13 =>
∃ x14 : Int, At w4 (p13.add 3) (cells (.int .i64) x14) ∧
arith .i64 (x14 - (1 : Int)) fun n15 =>
idxK x2.1.a x2.1.len n15 1 fun p16 =>
∃ x17 : Int, At w4 p16 (cells (.int .i64) x17) ∧
C_ref01_Add x12 x17 (fun x18 w5 =>
R5 (x18.1, x18.2, ()) w5) w4) (
gd (x7 == (3 : Int)) (
drawK w2 fun w6 =>
idxK v0_g.a v0_g.len x2.2.1 5 fun p19 =>
∃ x20 : Int, At w6 (p19.add 2) (cells (.int .i64) x20) ∧
arith .i64 (x20 - (1 : Int)) fun n21 =>
idxK x2.1.a x2.1.len n21 1 fun p22 =>
∃ x23 : Int, At w6 p22 (cells (.int .i64) x23) ∧
idxK v0_g.a v0_g.len x2.2.1 5 fun p24 =>
∃ x25 : Int, At w6 (p24.add 4) (cells (.int .i64) x25) ∧
C_ref01_Mul x23 x25 (fun x26 w7 =>
R5 (x26.1, x26.2, ()) w7) w6) (
R5 ((1 : Int), (0 : Int), ()) w2))) (fun x4 w3 => ∀ _ : Env,
gd (x4.2.1 != (0 : Int)) (
K (⟨none, 0, 0⟩, x4.2.1) w3) (
allocK (.cells #[.int .i64 x4.1] t_int) w3 fun a27 w8 =>
appK t_int 1 8 #[.int .i64 (0 : Int)] x2.1.a x2.1.len x2.1.cap (.slice (some a27) 1 1) 1 w8 fun s28 w9 =>
arith .i64 (x2.2.1 + (1 : Int)) fun n29 =>
next3 (s28, n29, ()) w9))) (
K (x2.1, (0 : Int)) w2))) w0
theorem S_ref11_Lengths (v0_g : Sl) (K : (Sl × Int) → World → Prop) (w0 : World) (h : F_ref11_Lengths v0_g K w0) : C_ref11_Lengths v0_g K w0 := by
  have e : denFn P [(1006, [(5, .slice), (6, .int .i64)]), (14, [(7, .int .i64), (8, .int .i64)])] Try.f80 #[.slice v0_g.a v0_g.len v0_g.cap] (.tup (.pair .slice (.int .i64))) K w0 = F_ref11_Lengths v0_g K w0 := by kernel_rfl
  exact fn_sound mixed (f := 80) Try.func80 (by kernel_rfl) (e.mpr h)

def F_ref11_plain (v0_g : Sl) (v1_n : Int) (K : Sl → World → Prop) (w0 : World) : Prop :=
gd (v1_n == (0 : Int)) (
K (⟨none, 0, 0⟩) w0) (
arith .i64 (v1_n - (1 : Int)) fun n1 =>
idxK v0_g.a v0_g.len n1 5 fun p2 =>
∃ x3 : yapi_Rule.T, At w0 p2 (cells yapi_Rule x3) ∧
allocK (.cells #[.int .i64 (0 : Int), .int .u8 (0 : Int), .int .i64 (0 : Int), .int .i64 (0 : Int), .int .i64 (0 : Int)] t_api_Rule) w0 fun a4 w1 =>
stK w1 a4 (cells yapi_Rule x3) fun w2 =>
∃ x5 : Int, At w2 (a4.add 0) (cells (.int .i64) x5) ∧
gd (x5 == (1 : Int)) (
∃ x6 : Int, At w2 (a4.add 1) (cells (.int .u8) x6) ∧
allocK (.cells #[.int .u8 x6] t_uint8) w2 fun a7 w3 =>
K (⟨some a7, 1, 1⟩) w3) (
gd (x5 == (2 : Int)) (
drawK w2 fun w4 =>
∃ x8 : Int, At w4 (a4.add 2) (cells (.int .i64) x8) ∧
∃ x9 : Int, At w4 (a4.add 3) (cells (.int .i64) x9) ∧
C_ref11_plain v0_g x8 (fun x10 w5 =>
At w5 (a4.add 3) (cells (.int .i64) x9) ∧
C_ref11_plain v0_g x9 (fun x11 w6 =>
appK t_uint8 1 1 #[.int .u8 (0 : Int)] x10.a x10.len x10.cap (.slice x11.a x11.len x11.cap) x11.len w6 fun s12 w7 =>
K s12 w7) w5) w4) (
∃ x13 : Int, At w2 (a4.add 2) (cells (.int .i64) x13) ∧
C_ref11_plain v0_g x13 (fun x14 w8 =>
LoopP (X := Sl × Int × Unit) (⟨none, 0, 0⟩, (0 : Int), ()) w8 fun next16 x15 w9 => ∀ _ : Env,
∃ x17 : Int, At w9 (a4.add 4) (cells (.int .i64) x17) ∧
gd (decide (x15.2.1 < x17)) (
appK t_uint8 1 1 #[.int .u8 (0 : Int)] x15.1.a x15.1.len x15.1.cap (.slice x14.a x14.len x14.cap) x14.len w9 fun s18 w10 =>
arith .i64 (x15.2.1 + (1 : Int)) fun n19 =>
next16 (s18, n19, ()) w10) (
K x15.1 w9)) w2)))
theorem S_ref11_plain (v0_g : Sl) (v1_n : Int) (K : Sl → World → Prop) (w0 : World) (h : F_ref11_plain v0_g v1_n K w0) : C_ref11_plain v0_g v1_n K w0 := by
  have e : denFn P [(1012, [(7, .slice), (8, .int .i64)])] Try.f81 #[.slice v0_g.a v0_g.len v0_g.cap, .int .i64 v1_n] .slice K w0 = F_ref11_plain v0_g v1_n K w0 := by kernel_rfl
  exact fn_sound mixed (f := 81) Try.func81 (by kernel_rfl) (e.mpr h)

end Go.Proofs.Ytgbledjehnojeaa

/- The typed texts of the functions, printed by a program; each proved to imply the call. -/
set_option linter.unusedVariables false
set_option maxRecDepth 100000
set_option maxHeartbeats 4000000
namespace Go.Proofs.Ytgbledjehnojeaa
open Go.Den

def F_bits_Len (v0_x : Int) (K : Int → World → Prop) (w0 : World) : Prop :=
C_bits_Len64 v0_x (fun x1 w1 =>
K x1 w1) w0
theorem S_bits_Len (v0_x : Int) (K : Int → World → Prop) (w0 : World) (h : F_bits_Len v0_x K w0) : C_bits_Len v0_x K w0 := by
  have e : denFn P [] Try.f83 #[.int .u64 v0_x] (.int .i64) K w0 = F_bits_Len v0_x K w0 := by kernel_rfl
  exact fn_sound mixed (f := 83) Try.func83 (by kernel_rfl) (e.mpr h)

def F_ref11_Check (v0_g : Sl) (K : Int → World → Prop) (w0 : World) : Prop :=
LoopP (X := Int × Unit) ((0 : Int), ()) w0 fun next2 x1 w1 => ∀ _ : Env,
gd (decide (x1.1 < (v0_g.len : Int))) (
idxK v0_g.a v0_g.len x1.1 5 fun p3 =>
∃ x4 : yapi_Rule.T, At w1 p3 (cells yapi_Rule x4) ∧
arith .i64 (x1.1 + (1 : Int)) fun n5 =>
C_ref11_Rule x4 n5 (fun x6 w2 =>
gd (x6 != (0 : Int)) (
K x6 w2) (
arith .i64 (x1.1 + (1 : Int)) fun n7 =>
next2 (n7, ()) w2)) w1) (
K (0 : Int) w1)
theorem S_ref11_Check (v0_g : Sl) (K : Int → World → Prop) (w0 : World) (h : F_ref11_Check v0_g K w0) : C_ref11_Check v0_g K w0 := by
  have e : denFn P [(1002, [(3, .int .i64)])] Try.f84 #[.slice v0_g.a v0_g.len v0_g.cap] (.int .i64) K w0 = F_ref11_Check v0_g K w0 := by kernel_rfl
  exact fn_sound mixed (f := 84) Try.func84 (by kernel_rfl) (e.mpr h)

def F_ref01_Add (v0_a : Int) (v1_b : Int) (K : (Int × Int) → World → Prop) (w0 : World) : Prop :=
JoinP (X := Bool × Unit) (fun R2 =>
C_ref01_Valid v0_a (fun x3 w2 =>
gd (!x3) (
R2 (true, ()) w2) (
C_ref01_Valid v1_b (fun x4 w3 =>
R2 (!x4, ()) w3) w2)) w0) (fun x1 w1 => ∀ _ : Env,
gd x1.1 (
K ((0 : Int), (1 : Int)) w1) (
arith .i64 (v0_a + v1_b) fun n5 =>
gd (decide ((1152921504606846976 : Int) < n5)) (
K ((0 : Int), (2 : Int)) w1) (
arith .i64 (v0_a + v1_b) fun n6 =>
K (n6, (0 : Int)) w1)))
theorem S_ref01_Add (v0_a : Int) (v1_b : Int) (K : (Int × Int) → World → Prop) (w0 : World) (h : F_ref01_Add v0_a v1_b K w0) : C_ref01_Add v0_a v1_b K w0 := by
  have e : denFn P [(2, [(13, .bool)])] Try.f85 #[.int .i64 v0_a, .int .i64 v1_b] (.tup (.pair (.int .i64) (.int .i64))) K w0 = F_ref01_Add v0_a v1_b K w0 := by kernel_rfl
  exact fn_sound mixed (f := 85) Try.func85 (by kernel_rfl) (e.mpr h)

def F_ref01_Mul (v0_a : Int) (v1_k : Int) (K : (Int × Int) → World → Prop) (w0 : World) : Prop :=
JoinP (X := Bool × Unit) (fun R2 =>
C_ref01_Valid v0_a (fun x3 w2 =>
gd (!x3) (
R2 (true, ()) w2) (
R2 (decide (v1_k < (0 : Int)), ()) w2)) w0) (fun x1 w1 => ∀ _ : Env,
gd x1.1 (
K ((0 : Int), (1 : Int)) w1) (
JoinP (X := Bool × Unit) (fun R5 =>
gd (decide ((0 : Int) < v0_a)) (
v0_a ≠ 0 ∧
arith .i64 (Int.tdiv (1152921504606846976 : Int) v0_a) fun n6 =>
R5 (decide (n6 < v1_k), ()) w1) (
R5 (false, ()) w1)) (fun x4 w3 => ∀ _ : Env,
gd x4.1 (
K ((0 : Int), (2 : Int)) w3) (
arith .i64 (v0_a * v1_k) fun n7 =>
K (n7, (0 : Int)) w3))))
theorem S_ref01_Mul (v0_a : Int) (v1_k : Int) (K : (Int × Int) → World → Prop) (w0 : World) (h : F_ref01_Mul v0_a v1_k K w0) : C_ref01_Mul v0_a v1_k K w0 := by
  have e : denFn P [(2, [(12, .bool)]), (4, [(20, .bool)])] Try.f86 #[.int .i64 v0_a, .int .i64 v1_k] (.tup (.pair (.int .i64) (.int .i64))) K w0 = F_ref01_Mul v0_a v1_k K w0 := by kernel_rfl
  exact fn_sound mixed (f := 86) Try.func86 (by kernel_rfl) (e.mpr h)

def F_bits_Len32 (v0_x : Int) (K : Int → World → Prop) (w0 : World) : Prop :=
JoinP (X := Int × Int × Unit) (fun R2 =>
gd (decide ((65536 : Int) ≤ v0_x)) (
0 ≤ (16 : Int) ∧
letZ (Int.fdiv v0_x (2 ^ min (Int.toNat (16 : Int)) (IntKind.bits .u32))) fun n3 =>
R2 (n3, (16 : Int), ()) w0) (
R2 (v0_x, (0 : Int), ()) w0)) (fun x1 w1 => ∀ _ : Env,
JoinP (X := Int × Int × Unit) (fun R5 =>
gd (decide ((256 : Int) ≤ x1.1)) (
0 ≤ (8 : Int) ∧
letZ (Int.fdiv x1.1 (2 ^ min (Int.toNat (8 : Int)) (IntKind.bits .u32))) fun n6 =>
arith .i64 (x1.2.1 + (8 : Int)) fun n7 =>
R5 (n6, n7, ()) w1) (
R5 (x1.1, x1.2.1, ()) w1)) (fun x4 w2 => ∀ _ : Env,
arith .u8 (x4.1) fun n8 =>
0 ≤ n8 ∧ ∃ hx : n8.toNat < (⟨#[0, 1, 2, 2, 3, 3, 3, 3, 4, 4, 4, 4, 4, 4, 4, 4, 5, 5, 5, 5, 5, 5, 5, 5, 5, 5, 5, 5, 5, 5, 5, 5, 6, 6, 6, 6, 6, 6, 6, 6, 6, 6, 6, 6, 6, 6, 6, 6, 6, 6, 6, 6, 6, 6, 6, 6, 6, 6, 6, 6, 6, 6, 6, 6, 7, 7, 7, 7, 7, 7, 7, 7, 7, 7, 7, 7, 7, 7, 7, 7, 7, 7, 7, 7, 7, 7, 7, 7, 7, 7, 7, 7, 7, 7, 7, 7, 7, 7, 7, 7, 7, 7, 7, 7, 7, 7, 7, 7, 7, 7, 7, 7, 7, 7, 7, 7, 7, 7, 7, 7, 7, 7, 7, 7, 7, 7, 7, 7, 8, 8, 8, 8, 8, 8, 8, 8, 8, 8, 8, 8, 8, 8, 8, 8, 8, 8, 8, 8, 8, 8, 8, 8, 8, 8, 8, 8, 8, 8, 8, 8, 8, 8, 8, 8, 8, 8, 8, 8, 8, 8, 8, 8, 8, 8, 8, 8, 8, 8, 8, 8, 8, 8, 8, 8, 8, 8, 8, 8, 8, 8, 8, 8, 8, 8, 8, 8, 8, 8, 8, 8, 8, 8, 8, 8, 8, 8, 8, 8, 8, 8, 8, 8, 8, 8, 8, 8, 8, 8, 8, 8, 8, 8, 8, 8, 8, 8, 8, 8, 8, 8, 8, 8, 8, 8, 8, 8, 8, 8, 8, 8, 8, 8, 8, 8, 8, 8, 8, 8, 8, 8, 8, 8, 8, 8, 8, 8]⟩ : ByteArray).size,
arith .i64 ((((⟨#[0, 1, 2, 2, 3, 3, 3, 3, 4, 4, 4, 4, 4, 4, 4, 4, 5, 5, 5, 5, 5, 5, 5, 5, 5, 5, 5, 5, 5, 5, 5, 5, 6, 6, 6, 6, 6, 6, 6, 6, 6, 6, 6, 6, 6, 6, 6, 6, 6, 6, 6, 6, 6, 6, 6, 6, 6, 6, 6, 6, 6, 6, 6, 6, 7, 7, 7, 7, 7, 7, 7, 7, 7, 7, 7, 7, 7, 7, 7, 7, 7, 7, 7, 7, 7, 7, 7, 7, 7, 7, 7, 7, 7, 7, 7, 7, 7, 7, 7, 7, 7, 7, 7, 7, 7, 7, 7, 7, 7, 7, 7, 7, 7, 7, 7, 7, 7, 7, 7, 7, 7, 7, 7, 7, 7, 7, 7, 7, 8, 8, 8, 8, 8, 8, 8, 8, 8, 8, 8, 8, 8, 8, 8, 8, 8, 8, 8, 8, 8, 8, 8, 8, 8, 8, 8, 8, 8, 8, 8, 8, 8, 8, 8, 8, 8, 8, 8, 8, 8, 8, 8, 8, 8, 8, 8, 8, 8, 8, 8, 8, 8, 8, 8, 8, 8, 8, 8, 8, 8, 8, 8, 8, 8, 8, 8, 8, 8, 8, 8, 8, 8, 8, 8, 8, 8, 8, 8, 8, 8, 8, 8, 8, 8, 8, 8, 8, 8, 8, 8, 8, 8, 8, 8, 8, 8, 8, 8, 8, 8, 8, 8, 8, 8, 8, 8, 8, 8, 8, 8, 8, 8, 8, 8, 8, 8, 8, 8, 8, 8, 8, 8, 8, 8, 8, 8, 8]⟩ : ByteArray)[n8.toNat]).toNat : Int)) fun n9 =>
arith .i64 (x4.2.1 + n9) fun n10 =>
K n10 w2))
theorem S_bits_Len32 (v0_x : Int) (K : Int → World → Prop) (w0 : World) (h : F_bits_Len32 v0_x K w0) : C_bits_Len32 v0_x K w0 := by
  have e : denFn P [(4, [(0, .int .u32), (2, .int .i64)]), (7, [(0, .int .u32), (2, .int .i64)])] Try.f96 #[.int .u32 v0_x] (.int .i64) K w0 = F_bits_Len32 v0_x K w0 := by kernel_rfl
  exact fn_sound mixed (f := 96) Try.func96 (by kernel_rfl) (e.mpr h)

def F_bits_Len64 (v0_x : Int) (K : Int → World → Prop) (w0 : World) : Prop :=
JoinP (X := Int × Int × Unit) (fun R2 =>
gd (decide ((4294967296 : Int) ≤ v0_x)) (
0 ≤ (32 : Int) ∧
letZ (Int.fdiv v0_x (2 ^ min (Int.toNat (32 : Int)) (IntKind.bits .u64))) fun n3 =>
R2 (n3, (32 : Int), ()) w0) (
R2 (v0_x, (0 : Int), ()) w0)) (fun x1 w1 => ∀ _ : Env,
JoinP (X := Int × Int × Unit) (fun R5 =>
gd (decide ((65536 : Int) ≤ x1.1)) (
0 ≤ (16 : Int) ∧
letZ (Int.fdiv x1.1 (2 ^ min (Int.toNat (16 : Int)) (IntKind.bits .u64))) fun n6 =>
arith .i64 (x1.2.1 + (16 : Int)) fun n7 =>
R5 (n6, n7, ()) w1) (
R5 (x1.1, x1.2.1, ()) w1)) (fun x4 w2 => ∀ _ : Env,
JoinP (X := Int × Int × Unit) (fun R9 =>
gd (decide ((256 : Int) ≤ x4.1)) (
0 ≤ (8 : Int) ∧
letZ (Int.fdiv x4.1 (2 ^ min (Int.toNat (8 : Int)) (IntKind.bits .u64))) fun n10 =>
arith .i64 (x4.2.1 + (8 : Int)) fun n11 =>
R9 (n10, n11, ()) w2) (
R9 (x4.1, x4.2.1, ()) w2)) (fun x8 w3 => ∀ _ : Env,
arith .u8 (x8.1) fun n12 =>
0 ≤ n12 ∧ ∃ hx : n12.toNat < (⟨#[0, 1, 2, 2, 3, 3, 3, 3, 4, 4, 4, 4, 4, 4, 4, 4, 5, 5, 5, 5, 5, 5, 5, 5, 5, 5, 5, 5, 5, 5, 5, 5, 6, 6, 6, 6, 6, 6, 6, 6, 6, 6, 6, 6, 6, 6, 6, 6, 6, 6, 6, 6, 6, 6, 6, 6, 6, 6, 6, 6, 6, 6, 6, 6, 7, 7, 7, 7, 7, 7, 7, 7, 7, 7, 7, 7, 7, 7, 7, 7, 7, 7, 7, 7, 7, 7, 7, 7, 7, 7, 7, 7, 7, 7, 7, 7, 7, 7, 7, 7, 7, 7, 7, 7, 7, 7, 7, 7, 7, 7, 7, 7, 7, 7, 7, 7, 7, 7, 7, 7, 7, 7, 7, 7, 7, 7, 7, 7, 8, 8, 8, 8, 8, 8, 8, 8, 8, 8, 8, 8, 8, 8, 8, 8, 8, 8, 8, 8, 8, 8, 8, 8, 8, 8, 8, 8, 8, 8, 8, 8, 8, 8, 8, 8, 8, 8, 8, 8, 8, 8, 8, 8, 8, 8, 8, 8, 8, 8, 8, 8, 8, 8, 8, 8, 8, 8, 8, 8, 8, 8, 8, 8, 8, 8, 8, 8, 8, 8, 8, 8, 8, 8, 8, 8, 8, 8, 8, 8, 8, 8, 8, 8, 8, 8, 8, 8, 8, 8, 8, 8, 8, 8, 8, 8, 8, 8, 8, 8, 8, 8, 8, 8, 8, 8, 8, 8, 8, 8, 8, 8, 8, 8, 8, 8, 8, 8, 8, 8, 8, 8, 8, 8, 8, 8, 8, 8]⟩ : ByteArray).size,
arith .i64 ((((⟨#[0, 1, 2, 2, 3, 3, 3, 3, 4, 4, 4, 4, 4, 4, 4, 4, 5, 5, 5, 5, 5, 5, 5, 5, 5, 5, 5, 5, 5, 5, 5, 5, 6, 6, 6, 6, 6, 6, 6, 6, 6, 6, 6, 6, 6, 6, 6, 6, 6, 6, 6, 6, 6, 6, 6, 6, 6, 6, 6, 6, 6, 6, 6, 6, 7, 7, 7, 7, 7, 7, 7, 7, 7, 7, 7, 7, 7, 7, 7, 7, 7, 7, 7, 7, 7, 7, 7, 7, 7, 7, 7, 7, 7, 7, 7, 7, 7, 7, 7, 7, 7, 7, 7, 7, 7, 7, 7, 7, 7, 7, 7, 7, 7, 7, 7, 7, 7, 7, 7, 7, 7, 7, 7, 7, 7, 7, 7, 7, 8, 8, 8, 8, 8, 8, 8, 8, 8, 8, 8, 8, 8, 8, 8, 8, 8, 8, 8, 8, 8, 8, 8, 8, 8, 8, 8, 8, 8, 8, 8, 8, 8, 8, 8, 8, 8, 8, 8, 8, 8, 8, 8, 8, 8, 8, 8, 8, 8, 8, 8, 8, 8, 8, 8, 8, 8, 8, 8, 8, 8, 8, 8, 8, 8, 8, 8, 8, 8, 8, 8, 8, 8, 8, 8, 8, 8, 8, 8, 8, 8, 8, 8, 8, 8, 8, 8, 8, 8, 8, 8, 8, 8, 8, 8, 8, 8, 8, 8, 8, 8, 8, 8, 8, 8, 8, 8, 8, 8, 8, 8, 8, 8, 8, 8, 8, 8, 8, 8, 8, 8, 8, 8, 8, 8, 8, 8, 8]⟩ : ByteArray)[n12.toNat]).toNat : Int)) fun n13 =>
arith .i64 (x8.2.1 + n13) fun n14 =>
K n14 w3)))
theorem S_bits_Len64 (v0_x : Int) (K : Int → World → Prop) (w0 : World) (h : F_bits_Len64 v0_x K w0) : C_bits_Len64 v0_x K w0 := by
  have e : denFn P [(4, [(0, .int .u64), (2, .int .i64)]), (7, [(0, .int .u64), (2, .int .i64)]), (10, [(0, .int .u64), (2, .int .i64)])] Try.f97 #[.int .u64 v0_x] (.int .i64) K w0 = F_bits_Len64 v0_x K w0 := by kernel_rfl
  exact fn_sound mixed (f := 97) Try.func97 (by kernel_rfl) (e.mpr h)

def F_ref11_Rule (v0_r : yapi_Rule.T) (v1_n : Int) (K : Int → World → Prop) (w0 : World) : Prop :=
allocK (.cells (cells yapi_Rule v0_r).toArray t_api_Rule) w0 fun a1 w1 =>
∃ x2 : Int, At w1 (a1.add 0) (cells (.int .i64) x2) ∧
gd (x2 == (1 : Int)) (
JoinP (X := Bool × Unit) (fun R4 =>
∃ x5 : Int, At w1 (a1.add 2) (cells (.int .i64) x5) ∧
gd (x5 != (0 : Int)) (
R4 (true, ()) w1) (
∃ x6 : Int, At w1 (a1.add 3) (cells (.int .i64) x6) ∧
gd (x6 != (0 : Int)) (
R4 (true, ()) w1) (
∃ x7 : Int, At w1 (a1.add 4) (cells (.int .i64) x7) ∧
R4 (x7 != (0 : Int), ()) w1))) (fun x3 w2 => ∀ _ : Env,
gd x3.1 (
K (4 : Int) w2) (
gd (decide (v1_n < (1 : Int))) (
K (1 : Int) w2) (
K (0 : Int) w2)))) (
gd (x2 == (2 : Int)) (
JoinP (X := Bool × Unit) (fun R9 =>
∃ x10 : Int, At w1 (a1.add 1) (cells (.int .u8) x10) ∧
gd (x10 != (0 : Int)) (
R9 (true, ()) w1) (
∃ x11 : Int, At w1 (a1.add 4) (cells (.int .i64) x11) ∧
R9 (x11 != (0 : Int), ()) w1)) (fun x8 w3 => ∀ _ : Env,
gd x8.1 (
K (4 : Int) w3) (
JoinP (X := Bool × Unit) (fun R13 =>
gd (decide (v1_n < (1 : Int))) (
R13 (true, ()) w3) (
∃ x14 : Int, At w3 (a1.add 2) (cells (.int .i64) x14) ∧
C_ref11_earlier x14 v1_n (fun x15 w5 =>
gd (!x15) (
R13 (true, ()) w5) (
∃ x16 : Int, At w5 (a1.add 3) (cells (.int .i64) x16) ∧
C_ref11_earlier x16 v1_n (fun x17 w6 =>
R13 (!x17, ()) w6) w5)) w3)) (fun x12 w4 => ∀ _ : Env,
gd x12.1 (
K (1 : Int) w4) (
K (0 : Int) w4))))) (
gd (x2 == (3 : Int)) (
JoinP (X := Bool × Unit) (fun R19 =>
∃ x20 : Int, At w1 (a1.add 1) (cells (.int .u8) x20) ∧
gd (x20 != (0 : Int)) (
R19 (true, ()) w1) (
∃ x21 : Int, At w1 (a1.add 3) (cells (.int .i64) x21) ∧
gd (x21 != (0 : Int)) (
R19 (true, ()) w1) (
∃ x22 : Int, At w1 (a1.add 4) (cells (.int .i64) x22) ∧
R19 (decide (x22 < (2 : Int)), ()) w1))) (fun x18 w7 => ∀ _ : Env,
gd x18.1 (
K (4 : Int) w7) (
JoinP (X := Bool × Unit) (fun R24 =>
gd (decide (v1_n < (1 : Int))) (
R24 (true, ()) w7) (
∃ x25 : Int, At w7 (a1.add 2) (cells (.int .i64) x25) ∧
C_ref11_earlier x25 v1_n (fun x26 w9 =>
R24 (!x26, ()) w9) w7)) (fun x23 w8 => ∀ _ : Env,
gd x23.1 (
K (1 : Int) w8) (
K (0 : Int) w8))))) (
K (4 : Int) w1)))
theorem S_ref11_Rule (v0_r : yapi_Rule.T) (v1_n : Int) (K : Int → World → Prop) (w0 : World) (h : F_ref11_Rule v0_r v1_n K w0) : C_ref11_Rule v0_r v1_n K w0 := by
  have e : denFn P [(4, [(21, .bool)]), (10, [(33, .bool)]), (12, [(49, .bool)]), (16, [(64, .bool)]), (18, [(73, .bool)])] Try.f98 #[val yapi_Rule v0_r, .int .i64 v1_n] (.int .i64) K w0 = F_ref11_Rule v0_r v1_n K w0 := by kernel_rfl
  exact fn_sound mixed (f := 98) Try.func98 (by kernel_rfl) (e.mpr h)

def F_ref11_earlier (v0_id : Int) (v1_n : Int) (K : Bool → World → Prop) (w0 : World) : Prop :=
gd (decide ((1 : Int) ≤ v0_id)) (
K (decide (v0_id < v1_n)) w0) (
K false w0)
theorem S_ref11_earlier (v0_id : Int) (v1_n : Int) (K : Bool → World → Prop) (w0 : World) (h : F_ref11_earlier v0_id v1_n K w0) : C_ref11_earlier v0_id v1_n K w0 := by
  have e : denFn P [] Try.f105 #[.int .i64 v0_id, .int .i64 v1_n] .bool K w0 = F_ref11_earlier v0_id v1_n K w0 := by kernel_rfl
  exact fn_sound mixed (f := 105) Try.func105 (by kernel_rfl) (e.mpr h)

end Go.Proofs.Ytgbledjehnojeaa

/- All typed texts. -/
