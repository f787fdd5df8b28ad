/- The typed texts of the functions, printed by a program; each proved to imply the call. -/
import Derived.Test.YtddhndabnbckmaaDenC
import Derived.Test.YtddhndabnbckmaaProg
set_option linter.unusedVariables false
set_option maxRecDepth 100000
namespace Go.Proofs.Ytddhndabnbckmaa
open Go.Den

noncomputable def P : Program := Try.prog
theorem mixed : P.follows .mixedOrders = true := by kernel_rfl

abbrev t_int : Nat := 3
abbrev t_bool : Nat := 4
abbrev t_uint8 : Nat := 5
abbrev t_pt_intern_Store : Nat := 25
abbrev t_evergreenref10_S : Nat := 29
abbrev t_evergreenlaw10_Op : Nat := 35
abbrev t_api_ID : Nat := 36
abbrev t_api_Digest : Nat := 50
abbrev t_api_Weight : Nat := 53
abbrev t_api_Errno : Nat := 58
abbrev t_api_Rule : Nat := 63
abbrev t_map_api_Rule_api_ID : Nat := 89
abbrev t_intern_Store : Nat := 92
abbrev t_intern_entry : Nat := 96
abbrev t_map_api_ID_api_ID : Nat := 116
abbrev t_map_api_ID_bool : Nat := 122

abbrev yevergreenref10_S : Ty := .st (.pair (.int .i64) (.pair .slice (.pair .slice .slice)))
abbrev yevergreenlaw10_Op : Ty := .st (.pair (.int .u8) (.pair (.int .u8) (.pair (.int .i64) (.pair (.int .i64) (.int .i64)))))
abbrev yapi_Digest : Ty := .st (.pair (.int .u64) (.int .u64))
abbrev yapi_Weight : Ty := .st (.pair (.int .i64) (.pair (.int .i64) (.pair (.int .i64) (.pair (.int .i64) yapi_Digest))))
abbrev yapi_Rule : Ty := .st (.pair (.int .i64) (.pair (.int .u8) (.pair (.int .i64) (.pair (.int .i64) (.int .i64)))))
abbrev yT85 : Ty := .st (.pair (.int .i64) (.pair (.int .i64) (.pair (.int .i64) (.pair (.int .i64) (.pair (.int .i64) (.pair (.int .i64) (.pair (.int .i64) (.int .i64))))))))
abbrev yintern_Store : Ty := .st (.pair (.int .i64) (.pair .slice .map))
abbrev yintern_entry : Ty := .st (.pair yapi_Rule (.pair yapi_Weight (.pair (.int .i64) .bool)))

def C_law10_InternRules (v0_most : Int) (v1_ops : Sl) (K : Bool → World → Prop) (w0 : World) : Prop := callP P 3 #[.int .i64 v0_most, .slice v1_ops.a v1_ops.len v1_ops.cap] .bool w0 K
def C_law10_InternTwice (v0_ops : Sl) (K : Bool → World → Prop) (w0 : World) : Prop := callP P 4 #[.slice v0_ops.a v0_ops.len v0_ops.cap] .bool w0 K
def C_law10_InternTexts (v0_ops : Sl) (K : Bool → World → Prop) (w0 : World) : Prop := callP P 5 #[.slice v0_ops.a v0_ops.len v0_ops.cap] .bool w0 K
def C_law10_InternLimits (v0_b : Int) (v1_k : Int) (v2_n : Int) (K : Bool → World → Prop) (w0 : World) : Prop := callP P 6 #[.int .u8 v0_b, .int .i64 v1_k, .int .i64 v2_n] .bool w0 K
def C_law10_InternWeights (v0_ops : Sl) (K : Bool → World → Prop) (w0 : World) : Prop := callP P 7 #[.slice v0_ops.a v0_ops.len v0_ops.cap] .bool w0 K
def C_law10_InternAsks (v0_ops : Sl) (v1_other : Int) (v2_ask : yapi_Rule.T) (K : Bool → World → Prop) (w0 : World) : Prop := callP P 8 #[.slice v0_ops.a v0_ops.len v0_ops.cap, .int .i64 v1_other, val yapi_Rule v2_ask] .bool w0 K
def C_law10_InternImports (v0_most : Int) (v1_ops : Sl) (v2_list : Sl) (K : Bool → World → Prop) (w0 : World) : Prop := callP P 9 #[.int .i64 v0_most, .slice v1_ops.a v1_ops.len v1_ops.cap, .slice v2_list.a v2_list.len v2_list.cap] .bool w0 K
def C_law10_InternExports (v0_ops : Sl) (v1_id : Int) (K : Bool → World → Prop) (w0 : World) : Prop := callP P 10 #[.slice v0_ops.a v0_ops.len v0_ops.cap, .int .i64 v1_id] .bool w0 K
def C_law10_InternMoves (v0_ops : Sl) (K : Bool → World → Prop) (w0 : World) : Prop := callP P 11 #[.slice v0_ops.a v0_ops.len v0_ops.cap] .bool w0 K
def C_law10_InternNil (v0_b : Int) (v1_l : Int) (v2_k : Int) (v3_list : Sl) (K : Bool → World → Prop) (w0 : World) : Prop := callP P 12 #[.int .u8 v0_b, .int .i64 v1_l, .int .i64 v2_k, .slice v3_list.a v3_list.len v3_list.cap] .bool w0 K
def C_law10_awake  (K : Bool → World → Prop) (w0 : World) : Prop := callP P 13 #[] .bool w0 K
def C_law10_few (v0_ops : Sl) (K : Bool → World → Prop) (w0 : World) : Prop := callP P 14 #[.slice v0_ops.a v0_ops.len v0_ops.cap] .bool w0 K
def C_law10_Built (v0_most : Int) (v1_ops : Sl) (K : ((Option Addr) × yevergreenref10_S.T × Bool) → World → Prop) (w0 : World) : Prop := callP P 15 #[.int .i64 v0_most, .slice v1_ops.a v1_ops.len v1_ops.cap] (.tup (.pair .ptr (.pair yevergreenref10_S .bool))) w0 K
def C_intern_New (v0_most : Int) (K : (Option Addr) → World → Prop) (w0 : World) : Prop := callP P 16 #[.int .i64 v0_most] .ptr w0 K
def C_law10_InternTwice_1 (v0_o : yevergreenlaw10_Op.T) (v1 : Addr) (K : (Int × Value) → World → Prop) (w0 : World) : Prop := callP P 17 #[val yevergreenlaw10_Op v0_o, .pointer (some v1)] (.tup (.pair (.int .i64) .iface)) w0 K
def C_intern_Store_Letter (v0_s : Option Addr) (v1_b : Int) (K : (Int × Value) → World → Prop) (w0 : World) : Prop := callP P 18 #[.pointer v0_s, .int .u8 v1_b] (.tup (.pair (.int .i64) .iface)) w0 K
def C_intern_Store_Pair (v0_s : Option Addr) (v1_l : Int) (v2_r : Int) (K : (Int × Value) → World → Prop) (w0 : World) : Prop := callP P 19 #[.pointer v0_s, .int .i64 v1_l, .int .i64 v2_r] (.tup (.pair (.int .i64) .iface)) w0 K
def C_intern_Store_Power (v0_s : Option Addr) (v1_x : Int) (v2_k : Int) (K : (Int × Value) → World → Prop) (w0 : World) : Prop := callP P 20 #[.pointer v0_s, .int .i64 v1_x, .int .i64 v2_k] (.tup (.pair (.int .i64) .iface)) w0 K
def C_intern_Store_Len (v0_s : Option Addr) (K : Int → World → Prop) (w0 : World) : Prop := callP P 21 #[.pointer v0_s] (.int .i64) w0 K
def C_base_Num (v0_e : Value) (K : Int → World → Prop) (w0 : World) : Prop := callP P 22 #[v0_e] (.int .i64) w0 K
def C_intern_Store_Room (v0_s : Option Addr) (K : Int → World → Prop) (w0 : World) : Prop := callP P 23 #[.pointer v0_s] (.int .i64) w0 K
def C_ref10_Text (v0_s : yevergreenref10_S.T) (v1_id : Int) (K : Sl → World → Prop) (w0 : World) : Prop := callP P 24 #[val yevergreenref10_S v0_s, .int .i64 v1_id] .slice w0 K
def C_ref05_Of (v0_text : Sl) (K : yapi_Digest.T → World → Prop) (w0 : World) : Prop := callP P 25 #[.slice v0_text.a v0_text.len v0_text.cap] yapi_Digest w0 K
def C_intern_Store_Weight (v0_s : Option Addr) (v1_id : Int) (K : (yapi_Weight.T × Value) → World → Prop) (w0 : World) : Prop := callP P 26 #[.pointer v0_s, .int .i64 v1_id] (.tup (.pair yapi_Weight .iface)) w0 K
def C_base_Is (v0_e : Value) (v1_want : Int) (K : Bool → World → Prop) (w0 : World) : Prop := callP P 27 #[v0_e, .int .i64 v1_want] .bool w0 K
def C_law10_do (v0_s : Option Addr) (v1_m : yevergreenref10_S.T) (v2_o : yevergreenlaw10_Op.T) (K : (yevergreenref10_S.T × Bool) → World → Prop) (w0 : World) : Prop := callP P 28 #[.pointer v0_s, val yevergreenref10_S v1_m, val yevergreenlaw10_Op v2_o] (.tup (.pair yevergreenref10_S .bool)) w0 K
def C_intern_Store_Rule (v0_s : Option Addr) (v1_id : Int) (K : (yapi_Rule.T × Value) → World → Prop) (w0 : World) : Prop := callP P 29 #[.pointer v0_s, .int .i64 v1_id] (.tup (.pair yapi_Rule .iface)) w0 K
def C_weight_Letter (v0_b : Int) (K : yapi_Weight.T → World → Prop) (w0 : World) : Prop := callP P 30 #[.int .u8 v0_b] yapi_Weight w0 K
def C_weight_Join (v0_a : yapi_Weight.T) (v1_b : yapi_Weight.T) (K : (yapi_Weight.T × Value) → World → Prop) (w0 : World) : Prop := callP P 31 #[val yapi_Weight v0_a, val yapi_Weight v1_b] (.tup (.pair yapi_Weight .iface)) w0 K
def C_weight_Repeat (v0_w : yapi_Weight.T) (v1_k : Int) (K : (yapi_Weight.T × Value) → World → Prop) (w0 : World) : Prop := callP P 32 #[val yapi_Weight v0_w, .int .i64 v1_k] (.tup (.pair yapi_Weight .iface)) w0 K
def C_intern_Store_Depth (v0_s : Option Addr) (v1_id : Int) (K : (Int × Value) → World → Prop) (w0 : World) : Prop := callP P 33 #[.pointer v0_s, .int .i64 v1_id] (.tup (.pair (.int .i64) .iface)) w0 K
def C_intern_Store_Find (v0_s : Option Addr) (v1_r : yapi_Rule.T) (K : (Int × Bool) → World → Prop) (w0 : World) : Prop := callP P 34 #[.pointer v0_s, val yapi_Rule v1_r] (.tup (.pair (.int .i64) .bool)) w0 K
def C_ref10_Find (v0_s : yevergreenref10_S.T) (v1_r : yapi_Rule.T) (K : Int → World → Prop) (w0 : World) : Prop := callP P 35 #[val yevergreenref10_S v0_s, val yapi_Rule v1_r] (.int .i64) w0 K
def C_ref10_Unknown (v0_s : yevergreenref10_S.T) (v1_id : Int) (K : Bool → World → Prop) (w0 : World) : Prop := callP P 36 #[val yevergreenref10_S v0_s, .int .i64 v1_id] .bool w0 K
def C_intern_Store_Import (v0_s : Option Addr) (v1_list : Sl) (K : (Int × Value) → World → Prop) (w0 : World) : Prop := callP P 37 #[.pointer v0_s, .slice v1_list.a v1_list.len v1_list.cap] (.tup (.pair (.int .i64) .iface)) w0 K
def C_ref10_Import (v0_s : yevergreenref10_S.T) (v1_list : Sl) (K : (yevergreenref10_S.T × Int × Int) → World → Prop) (w0 : World) : Prop := callP P 38 #[val yevergreenref10_S v0_s, .slice v1_list.a v1_list.len v1_list.cap] (.tup (.pair yevergreenref10_S (.pair (.int .i64) (.int .i64)))) w0 K
def C_ref10_Same (v0_a : Sl) (v1_b : Sl) (K : Bool → World → Prop) (w0 : World) : Prop := callP P 39 #[.slice v0_a.a v0_a.len v0_a.cap, .slice v1_b.a v1_b.len v1_b.cap] .bool w0 K
def C_intern_Store_Export (v0_s : Option Addr) (v1_id : Int) (K : (Sl × Value) → World → Prop) (w0 : World) : Prop := callP P 40 #[.pointer v0_s, .int .i64 v1_id] (.tup (.pair .slice .iface)) w0 K
def C_ref10_Export (v0_s : yevergreenref10_S.T) (v1_id : Int) (K : Sl → World → Prop) (w0 : World) : Prop := callP P 41 #[val yevergreenref10_S v0_s, .int .i64 v1_id] .slice w0 K
def C_ref10_New (v0_most : Int) (K : yevergreenref10_S.T → World → Prop) (w0 : World) : Prop := callP P 42 #[.int .i64 v0_most] yevergreenref10_S w0 K
def C_length_Clip (v0_n : Int) (v1_low : Int) (v2_high : Int) (K : Int → World → Prop) (w0 : World) : Prop := callP P 43 #[.int .i64 v0_n, .int .i64 v1_low, .int .i64 v2_high] (.int .i64) w0 K
def C_intern_Store_find (v0_s : Option Addr) (v1_r : yapi_Rule.T) (K : (Int × Value) → World → Prop) (w0 : World) : Prop := callP P 44 #[.pointer v0_s, val yapi_Rule v1_r] (.tup (.pair (.int .i64) .iface)) w0 K
def C_intern_Store_add (v0_s : Option Addr) (v1_e : yintern_entry.T) (K : Int → World → Prop) (w0 : World) : Prop := callP P 45 #[.pointer v0_s, val yintern_entry v1_e] (.int .i64) w0 K
def C_intern_Store_known (v0_s : Option Addr) (v1_id : Int) (K : Bool → World → Prop) (w0 : World) : Prop := callP P 46 #[.pointer v0_s, .int .i64 v1_id] .bool w0 K
def C_intern_Store_at (v0_s : Option Addr) (v1_id : Int) (K : yintern_entry.T → World → Prop) (w0 : World) : Prop := callP P 47 #[.pointer v0_s, .int .i64 v1_id] yintern_entry w0 K
def C_length_Add (v0_a : Int) (v1_b : Int) (K : (Int × Value) → World → Prop) (w0 : World) : Prop := callP P 48 #[.int .i64 v0_a, .int .i64 v1_b] (.tup (.pair (.int .i64) .iface)) w0 K
def C_length_Mul (v0_a : Int) (v1_k : Int) (K : (Int × Value) → World → Prop) (w0 : World) : Prop := callP P 49 #[.int .i64 v0_a, .int .i64 v1_k] (.tup (.pair (.int .i64) .iface)) w0 K
def C_ref10_Length (v0_s : yevergreenref10_S.T) (v1_id : Int) (K : Int → World → Prop) (w0 : World) : Prop := callP P 50 #[val yevergreenref10_S v0_s, .int .i64 v1_id] (.int .i64) w0 K
def C_ref05_Add (v0_a : Int) (v1_b : Int) (K : Int → World → Prop) (w0 : World) : Prop := callP P 51 #[.int .u64 v0_a, .int .u64 v1_b] (.int .u64) w0 K
def C_ref05_Mul (v0_a : Int) (v1_b : Int) (K : Int → World → Prop) (w0 : World) : Prop := callP P 52 #[.int .u64 v0_a, .int .u64 v1_b] (.int .u64) w0 K
def C_ref10_Letter (v0_s : yevergreenref10_S.T) (v1_b : Int) (K : (yevergreenref10_S.T × Int × Int) → World → Prop) (w0 : World) : Prop := callP P 53 #[val yevergreenref10_S v0_s, .int .u8 v1_b] (.tup (.pair yevergreenref10_S (.pair (.int .i64) (.int .i64)))) w0 K
def C_ref10_Pair (v0_s : yevergreenref10_S.T) (v1_l : Int) (v2_r : Int) (K : (yevergreenref10_S.T × Int × Int) → World → Prop) (w0 : World) : Prop := callP P 54 #[val yevergreenref10_S v0_s, .int .i64 v1_l, .int .i64 v2_r] (.tup (.pair yevergreenref10_S (.pair (.int .i64) (.int .i64)))) w0 K
def C_ref10_Power (v0_s : yevergreenref10_S.T) (v1_x : Int) (v2_k : Int) (K : (yevergreenref10_S.T × Int × Int) → World → Prop) (w0 : World) : Prop := callP P 55 #[val yevergreenref10_S v0_s, .int .i64 v1_x, .int .i64 v2_k] (.tup (.pair yevergreenref10_S (.pair (.int .i64) (.int .i64)))) w0 K
def C_digest_Letter (v0_b : Int) (K : yapi_Digest.T → World → Prop) (w0 : World) : Prop := callP P 56 #[.int .u8 v0_b] yapi_Digest w0 K
def C_weight_Valid (v0_w : yapi_Weight.T) (K : Bool → World → Prop) (w0 : World) : Prop := callP P 57 #[val yapi_Weight v0_w] .bool w0 K
def C_digest_Join (v0_a : yapi_Digest.T) (v1_b : yapi_Digest.T) (K : yapi_Digest.T → World → Prop) (w0 : World) : Prop := callP P 58 #[val yapi_Digest v0_a, val yapi_Digest v1_b] yapi_Digest w0 K
def C_weight_Unit  (K : yapi_Weight.T → World → Prop) (w0 : World) : Prop := callP P 59 #[] yapi_Weight w0 K
def C_digest_Repeat (v0_d : yapi_Digest.T) (v1_k : Int) (K : yapi_Digest.T → World → Prop) (w0 : World) : Prop := callP P 60 #[val yapi_Digest v0_d, .int .i64 v1_k] yapi_Digest w0 K
def C_rule_Check (v0_r : yapi_Rule.T) (v1_n : Int) (K : Value → World → Prop) (w0 : World) : Prop := callP P 61 #[val yapi_Rule v0_r, .int .i64 v1_n] .iface w0 K
def C_intern_Store_put (v0_s : Option Addr) (v1_r : yapi_Rule.T) (v2_to : Sl) (K : (Int × Value) → World → Prop) (w0 : World) : Prop := callP P 62 #[.pointer v0_s, val yapi_Rule v1_r, .slice v2_to.a v2_to.len v2_to.cap] (.tup (.pair (.int .i64) .iface)) w0 K
def C_ref10_Check (v0_r : yapi_Rule.T) (v1_n : Int) (K : Int → World → Prop) (w0 : World) : Prop := callP P 63 #[val yapi_Rule v0_r, .int .i64 v1_n] (.int .i64) w0 K
def C_intern_Store_reach (v0_s : Option Addr) (v1_id : Int) (K : Sl → World → Prop) (w0 : World) : Prop := callP P 64 #[.pointer v0_s, .int .i64 v1_id] .slice w0 K
def C_ref10_Reached (v0_s : yevergreenref10_S.T) (v1_id : Int) (K : Sl → World → Prop) (w0 : World) : Prop := callP P 65 #[val yevergreenref10_S v0_s, .int .i64 v1_id] .slice w0 K
def C_length_Valid (v0_n : Int) (K : Bool → World → Prop) (w0 : World) : Prop := callP P 66 #[.int .i64 v0_n] .bool w0 K
def C_ref10_intern (v0_s : yevergreenref10_S.T) (v1_r : yapi_Rule.T) (v2_length : Int) (v3_depth : Int) (K : (yevergreenref10_S.T × Int × Int) → World → Prop) (w0 : World) : Prop := callP P 67 #[val yevergreenref10_S v0_s, val yapi_Rule v1_r, .int .i64 v2_length, .int .i64 v3_depth] (.tup (.pair yevergreenref10_S (.pair (.int .i64) (.int .i64)))) w0 K
def C_ref10_Depth (v0_s : yevergreenref10_S.T) (v1_id : Int) (K : Int → World → Prop) (w0 : World) : Prop := callP P 68 #[val yevergreenref10_S v0_s, .int .i64 v1_id] (.int .i64) w0 K
def C_modular_Pow (v0_a : Int) (v1_n : Int) (K : Int → World → Prop) (w0 : World) : Prop := callP P 69 #[.int .u64 v0_a, .int .u64 v1_n] (.int .u64) w0 K
def C_modular_Add (v0_a : Int) (v1_b : Int) (K : Int → World → Prop) (w0 : World) : Prop := callP P 70 #[.int .u64 v0_a, .int .u64 v1_b] (.int .u64) w0 K
def C_modular_Mul (v0_a : Int) (v1_b : Int) (K : Int → World → Prop) (w0 : World) : Prop := callP P 71 #[.int .u64 v0_a, .int .u64 v1_b] (.int .u64) w0 K
def C_digest_Unit  (K : yapi_Digest.T → World → Prop) (w0 : World) : Prop := callP P 72 #[] yapi_Digest w0 K
def C_rule_place (v0_r : yapi_Rule.T) (v1_n : Int) (K : Value → World → Prop) (w0 : World) : Prop := callP P 73 #[val yapi_Rule v0_r, .int .i64 v1_n] .iface w0 K
def C_rule_Refs (v0_r : yapi_Rule.T) (K : Sl → World → Prop) (w0 : World) : Prop := callP P 74 #[val yapi_Rule v0_r] .slice w0 K
def C_slices_Sort (a0 : Sl) (K : Unit → World → Prop) (w0 : World) : Prop := callP P 75 #[.slice a0.a a0.len a0.cap] (.tup .unit) w0 K
def C_modular_Reduce (v0_x : Int) (K : Int → World → Prop) (w0 : World) : Prop := callP P 76 #[.int .u64 v0_x] (.int .u64) w0 K
def C_bits_Mul64 (v0_x : Int) (v1_y : Int) (K : (Int × Int) → World → Prop) (w0 : World) : Prop := callP P 77 #[.int .u64 v0_x, .int .u64 v1_y] (.tup (.pair (.int .u64) (.int .u64))) w0 K
def C_bits_Len (v0_x : Int) (K : Int → World → Prop) (w0 : World) : Prop := callP P 79 #[.int .u64 v0_x] (.int .i64) w0 K
def C_bits_Len32 (v0_x : Int) (K : Int → World → Prop) (w0 : World) : Prop := callP P 89 #[.int .u32 v0_x] (.int .i64) w0 K
def C_bits_Len64 (v0_x : Int) (K : Int → World → Prop) (w0 : World) : Prop := callP P 90 #[.int .u64 v0_x] (.int .i64) w0 K

end Go.Proofs.Ytddhndabnbckmaa
