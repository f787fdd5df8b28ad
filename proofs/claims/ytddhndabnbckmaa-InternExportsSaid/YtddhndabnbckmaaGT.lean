/- Texts that belong together, joined: TextC, Text1, Text2, Text3, Text4. No conditions. -/
import Derived.Test.YtddhndabnbckmaaProg
import Derived.Test.YtddhndabnbckmaaDenC
/- The typed texts of the functions, printed by a program; each proved to imply the call. -/
set_option linter.unusedVariables false
set_option maxRecDepth 100000
namespace Go.Proofs.Ytddhndabnbckmaa
open Go.Den

noncomputable def P : Program := Try.prog
theorem mixed : P.follows .mixedOrders = true := by kernel_rfl

abbrev t_int : Nat := 3
abbrev t_bool : Nat := 4
abbrev t_uint8 : Nat := 5
abbrev t_pt_intern_Store : Nat := 25
abbrev t_evergreenref10_S : Nat := 29
abbrev t_evergreenlaw10_Op : Nat := 35
abbrev t_api_ID : Nat := 36
abbrev t_api_Digest : Nat := 50
abbrev t_api_Weight : Nat := 53
abbrev t_api_Errno : Nat := 58
abbrev t_api_Rule : Nat := 63
abbrev t_map_api_Rule_api_ID : Nat := 89
abbrev t_intern_Store : Nat := 92
abbrev t_intern_entry : Nat := 96
abbrev t_map_api_ID_api_ID : Nat := 116
abbrev t_map_api_ID_bool : Nat := 122

abbrev yevergreenref10_S : Ty := .st (.pair (.int .i64) (.pair .slice (.pair .slice .slice)))
abbrev yevergreenlaw10_Op : Ty := .st (.pair (.int .u8) (.pair (.int .u8) (.pair (.int .i64) (.pair (.int .i64) (.int .i64)))))
abbrev yapi_Digest : Ty := .st (.pair (.int .u64) (.int .u64))
abbrev yapi_Weight : Ty := .st (.pair (.int .i64) (.pair (.int .i64) (.pair (.int .i64) (.pair (.int .i64) yapi_Digest))))
abbrev yapi_Rule : Ty := .st (.pair (.int .i64) (.pair (.int .u8) (.pair (.int .i64) (.pair (.int .i64) (.int .i64)))))
abbrev yT85 : Ty := .st (.pair (.int .i64) (.pair (.int .i64) (.pair (.int .i64) (.pair (.int .i64) (.pair (.int .i64) (.pair (.int .i64) (.pair (.int .i64) (.int .i64))))))))
abbrev yintern_Store : Ty := .st (.pair (.int .i64) (.pair .slice .map))
abbrev yintern_entry : Ty := .st (.pair yapi_Rule (.pair yapi_Weight (.pair (.int .i64) .bool)))

def C_law10_InternRules (v0_most : Int) (v1_ops : Sl) (K : Bool → World → Prop) (w0 : World) : Prop := callP P 3 #[.int .i64 v0_most, .slice v1_ops.a v1_ops.len v1_ops.cap] .bool w0 K
def C_law10_InternTwice (v0_ops : Sl) (K : Bool → World → Prop) (w0 : World) : Prop := callP P 4 #[.slice v0_ops.a v0_ops.len v0_ops.cap] .bool w0 K
def C_law10_InternTexts (v0_ops : Sl) (K : Bool → World → Prop) (w0 : World) : Prop := callP P 5 #[.slice v0_ops.a v0_ops.len v0_ops.cap] .bool w0 K
def C_law10_InternLimits (v0_b : Int) (v1_k : Int) (v2_n : Int) (K : Bool → World → Prop) (w0 : World) : Prop := callP P 6 #[.int .u8 v0_b, .int .i64 v1_k, .int .i64 v2_n] .bool w0 K
def C_law10_InternWeights (v0_ops : Sl) (K : Bool → World → Prop) (w0 : World) : Prop := callP P 7 #[.slice v0_ops.a v0_ops.len v0_ops.cap] .bool w0 K
def C_law10_InternAsks (v0_ops : Sl) (v1_other : Int) (v2_ask : yapi_Rule.T) (K : Bool → World → Prop) (w0 : World) : Prop := callP P 8 #[.slice v0_ops.a v0_ops.len v0_ops.cap, .int .i64 v1_other, val yapi_Rule v2_ask] .bool w0 K
def C_law10_InternImports (v0_most : Int) (v1_ops : Sl) (v2_list : Sl) (K : Bool → World → Prop) (w0 : World) : Prop := callP P 9 #[.int .i64 v0_most, .slice v1_ops.a v1_ops.len v1_ops.cap, .slice v2_list.a v2_list.len v2_list.cap] .bool w0 K
def C_law10_InternExports (v0_ops : Sl) (v1_id : Int) (K : Bool → World → Prop) (w0 : World) : Prop := callP P 10 #[.slice v0_ops.a v0_ops.len v0_ops.cap, .int .i64 v1_id] .bool w0 K
def C_law10_InternMoves (v0_ops : Sl) (K : Bool → World → Prop) (w0 : World) : Prop := callP P 11 #[.slice v0_ops.a v0_ops.len v0_ops.cap] .bool w0 K
def C_law10_InternNil (v0_b : Int) (v1_l : Int) (v2_k : Int) (v3_list : Sl) (K : Bool → World → Prop) (w0 : World) : Prop := callP P 12 #[.int .u8 v0_b, .int .i64 v1_l, .int .i64 v2_k, .slice v3_list.a v3_list.len v3_list.cap] .bool w0 K
def C_law10_awake  (K : Bool → World → Prop) (w0 : World) : Prop := callP P 13 #[] .bool w0 K
def C_law10_few (v0_ops : Sl) (K : Bool → World → Prop) (w0 : World) : Prop := callP P 14 #[.slice v0_ops.a v0_ops.len v0_ops.cap] .bool w0 K
def C_law10_Built (v0_most : Int) (v1_ops : Sl) (K : ((Option Addr) × yevergreenref10_S.T × Bool) → World → Prop) (w0 : World) : Prop := callP P 15 #[.int .i64 v0_most, .slice v1_ops.a v1_ops.len v1_ops.cap] (.tup (.pair .ptr (.pair yevergreenref10_S .bool))) w0 K
def C_intern_New (v0_most : Int) (K : (Option Addr) → World → Prop) (w0 : World) : Prop := callP P 16 #[.int .i64 v0_most] .ptr w0 K
def C_law10_InternTwice_1 (v0_o : yevergreenlaw10_Op.T) (v1 : Addr) (K : (Int × Value) → World → Prop) (w0 : World) : Prop := callP P 17 #[val yevergreenlaw10_Op v0_o, .pointer (some v1)] (.tup (.pair (.int .i64) .iface)) w0 K
def C_intern_Store_Letter (v0_s : Option Addr) (v1_b : Int) (K : (Int × Value) → World → Prop) (w0 : World) : Prop := callP P 18 #[.pointer v0_s, .int .u8 v1_b] (.tup (.pair (.int .i64) .iface)) w0 K
def C_intern_Store_Pair (v0_s : Option Addr) (v1_l : Int) (v2_r : Int) (K : (Int × Value) → World → Prop) (w0 : World) : Prop := callP P 19 #[.pointer v0_s, .int .i64 v1_l, .int .i64 v2_r] (.tup (.pair (.int .i64) .iface)) w0 K
def C_intern_Store_Power (v0_s : Option Addr) (v1_x : Int) (v2_k : Int) (K : (Int × Value) → World → Prop) (w0 : World) : Prop := callP P 20 #[.pointer v0_s, .int .i64 v1_x, .int .i64 v2_k] (.tup (.pair (.int .i64) .iface)) w0 K
def C_intern_Store_Len (v0_s : Option Addr) (K : Int → World → Prop) (w0 : World) : Prop := callP P 21 #[.pointer v0_s] (.int .i64) w0 K
def C_base_Num (v0_e : Value) (K : Int → World → Prop) (w0 : World) : Prop := callP P 22 #[v0_e] (.int .i64) w0 K
def C_intern_Store_Room (v0_s : Option Addr) (K : Int → World → Prop) (w0 : World) : Prop := callP P 23 #[.pointer v0_s] (.int .i64) w0 K
def C_ref10_Text (v0_s : yevergreenref10_S.T) (v1_id : Int) (K : Sl → World → Prop) (w0 : World) : Prop := callP P 24 #[val yevergreenref10_S v0_s, .int .i64 v1_id] .slice w0 K
def C_ref05_Of (v0_text : Sl) (K : yapi_Digest.T → World → Prop) (w0 : World) : Prop := callP P 25 #[.slice v0_text.a v0_text.len v0_text.cap] yapi_Digest w0 K
def C_intern_Store_Weight (v0_s : Option Addr) (v1_id : Int) (K : (yapi_Weight.T × Value) → World → Prop) (w0 : World) : Prop := callP P 26 #[.pointer v0_s, .int .i64 v1_id] (.tup (.pair yapi_Weight .iface)) w0 K
def C_base_Is (v0_e : Value) (v1_want : Int) (K : Bool → World → Prop) (w0 : World) : Prop := callP P 27 #[v0_e, .int .i64 v1_want] .bool w0 K
def C_law10_do (v0_s : Option Addr) (v1_m : yevergreenref10_S.T) (v2_o : yevergreenlaw10_Op.T) (K : (yevergreenref10_S.T × Bool) → World → Prop) (w0 : World) : Prop := callP P 28 #[.pointer v0_s, val yevergreenref10_S v1_m, val yevergreenlaw10_Op v2_o] (.tup (.pair yevergreenref10_S .bool)) w0 K
def C_intern_Store_Rule (v0_s : Option Addr) (v1_id : Int) (K : (yapi_Rule.T × Value) → World → Prop) (w0 : World) : Prop := callP P 29 #[.pointer v0_s, .int .i64 v1_id] (.tup (.pair yapi_Rule .iface)) w0 K
def C_weight_Letter (v0_b : Int) (K : yapi_Weight.T → World → Prop) (w0 : World) : Prop := callP P 30 #[.int .u8 v0_b] yapi_Weight w0 K
def C_weight_Join (v0_a : yapi_Weight.T) (v1_b : yapi_Weight.T) (K : (yapi_Weight.T × Value) → World → Prop) (w0 : World) : Prop := callP P 31 #[val yapi_Weight v0_a, val yapi_Weight v1_b] (.tup (.pair yapi_Weight .iface)) w0 K
def C_weight_Repeat (v0_w : yapi_Weight.T) (v1_k : Int) (K : (yapi_Weight.T × Value) → World → Prop) (w0 : World) : Prop := callP P 32 #[val yapi_Weight v0_w, .int .i64 v1_k] (.tup (.pair yapi_Weight .iface)) w0 K
def C_intern_Store_Depth (v0_s : Option Addr) (v1_id : Int) (K : (Int × Value) → World → Prop) (w0 : World) : Prop := callP P 33 #[.pointer v0_s, .int .i64 v1_id] (.tup (.pair (.int .i64) .iface)) w0 K
def C_intern_Store_Find (v0_s : Option Addr) (v1_r : yapi_Rule.T) (K : (Int × Bool) → World → Prop) (w0 : World) : Prop := callP P 34 #[.pointer v0_s, val yapi_Rule v1_r] (.tup (.pair (.int .i64) .bool)) w0 K
def C_ref10_Find (v0_s : yevergreenref10_S.T) (v1_r : yapi_Rule.T) (K : Int → World → Prop) (w0 : World) : Prop := callP P 35 #[val yevergreenref10_S v0_s, val yapi_Rule v1_r] (.int .i64) w0 K
def C_ref10_Unknown (v0_s : yevergreenref10_S.T) (v1_id : Int) (K : Bool → World → Prop) (w0 : World) : Prop := callP P 36 #[val yevergreenref10_S v0_s, .int .i64 v1_id] .bool w0 K
def C_intern_Store_Import (v0_s : Option Addr) (v1_list : Sl) (K : (Int × Value) → World → Prop) (w0 : World) : Prop := callP P 37 #[.pointer v0_s, .slice v1_list.a v1_list.len v1_list.cap] (.tup (.pair (.int .i64) .iface)) w0 K
def C_ref10_Import (v0_s : yevergreenref10_S.T) (v1_list : Sl) (K : (yevergreenref10_S.T × Int × Int) → World → Prop) (w0 : World) : Prop := callP P 38 #[val yevergreenref10_S v0_s, .slice v1_list.a v1_list.len v1_list.cap] (.tup (.pair yevergreenref10_S (.pair (.int .i64) (.int .i64)))) w0 K
def C_ref10_Same (v0_a : Sl) (v1_b : Sl) (K : Bool → World → Prop) (w0 : World) : Prop := callP P 39 #[.slice v0_a.a v0_a.len v0_a.cap, .slice v1_b.a v1_b.len v1_b.cap] .bool w0 K
def C_intern_Store_Export (v0_s : Option Addr) (v1_id : Int) (K : (Sl × Value) → World → Prop) (w0 : World) : Prop := callP P 40 #[.pointer v0_s, .int .i64 v1_id] (.tup (.pair .slice .iface)) w0 K
def C_ref10_Export (v0_s : yevergreenref10_S.T) (v1_id : Int) (K : Sl → World → Prop) (w0 : World) : Prop := callP P 41 #[val yevergreenref10_S v0_s, .int .i64 v1_id] .slice w0 K
def C_ref10_New (v0_most : Int) (K : yevergreenref10_S.T → World → Prop) (w0 : World) : Prop := callP P 42 #[.int .i64 v0_most] yevergreenref10_S w0 K
def C_length_Clip (v0_n : Int) (v1_low : Int) (v2_high : Int) (K : Int → World → Prop) (w0 : World) : Prop := callP P 43 #[.int .i64 v0_n, .int .i64 v1_low, .int .i64 v2_high] (.int .i64) w0 K
def C_intern_Store_find (v0_s : Option Addr) (v1_r : yapi_Rule.T) (K : (Int × Value) → World → Prop) (w0 : World) : Prop := callP P 44 #[.pointer v0_s, val yapi_Rule v1_r] (.tup (.pair (.int .i64) .iface)) w0 K
def C_intern_Store_add (v0_s : Option Addr) (v1_e : yintern_entry.T) (K : Int → World → Prop) (w0 : World) : Prop := callP P 45 #[.pointer v0_s, val yintern_entry v1_e] (.int .i64) w0 K
def C_intern_Store_known (v0_s : Option Addr) (v1_id : Int) (K : Bool → World → Prop) (w0 : World) : Prop := callP P 46 #[.pointer v0_s, .int .i64 v1_id] .bool w0 K
def C_intern_Store_at (v0_s : Option Addr) (v1_id : Int) (K : yintern_entry.T → World → Prop) (w0 : World) : Prop := callP P 47 #[.pointer v0_s, .int .i64 v1_id] yintern_entry w0 K
def C_length_Add (v0_a : Int) (v1_b : Int) (K : (Int × Value) → World → Prop) (w0 : World) : Prop := callP P 48 #[.int .i64 v0_a, .int .i64 v1_b] (.tup (.pair (.int .i64) .iface)) w0 K
def C_length_Mul (v0_a : Int) (v1_k : Int) (K : (Int × Value) → World → Prop) (w0 : World) : Prop := callP P 49 #[.int .i64 v0_a, .int .i64 v1_k] (.tup (.pair (.int .i64) .iface)) w0 K
def C_ref10_Length (v0_s : yevergreenref10_S.T) (v1_id : Int) (K : Int → World → Prop) (w0 : World) : Prop := callP P 50 #[val yevergreenref10_S v0_s, .int .i64 v1_id] (.int .i64) w0 K
def C_ref05_Add (v0_a : Int) (v1_b : Int) (K : Int → World → Prop) (w0 : World) : Prop := callP P 51 #[.int .u64 v0_a, .int .u64 v1_b] (.int .u64) w0 K
def C_ref05_Mul (v0_a : Int) (v1_b : Int) (K : Int → World → Prop) (w0 : World) : Prop := callP P 52 #[.int .u64 v0_a, .int .u64 v1_b] (.int .u64) w0 K
def C_ref10_Letter (v0_s : yevergreenref10_S.T) (v1_b : Int) (K : (yevergreenref10_S.T × Int × Int) → World → Prop) (w0 : World) : Prop := callP P 53 #[val yevergreenref10_S v0_s, .int .u8 v1_b] (.tup (.pair yevergreenref10_S (.pair (.int .i64) (.int .i64)))) w0 K
def C_ref10_Pair (v0_s : yevergreenref10_S.T) (v1_l : Int) (v2_r : Int) (K : (yevergreenref10_S.T × Int × Int) → World → Prop) (w0 : World) : Prop := callP P 54 #[val yevergreenref10_S v0_s, .int .i64 v1_l, .int .i64 v2_r] (.tup (.pair yevergreenref10_S (.pair (.int .i64) (.int .i64)))) w0 K
def C_ref10_Power (v0_s : yevergreenref10_S.T) (v1_x : Int) (v2_k : Int) (K : (yevergreenref10_S.T × Int × Int) → World → Prop) (w0 : World) : Prop := callP P 55 #[val yevergreenref10_S v0_s, .int .i64 v1_x, .int .i64 v2_k] (.tup (.pair yevergreenref10_S (.pair (.int .i64) (.int .i64)))) w0 K
def C_digest_Letter (v0_b : Int) (K : yapi_Digest.T → World → Prop) (w0 : World) : Prop := callP P 56 #[.int .u8 v0_b] yapi_Digest w0 K
def C_weight_Valid (v0_w : yapi_Weight.T) (K : Bool → World → Prop) (w0 : World) : Prop := callP P 57 #[val yapi_Weight v0_w] .bool w0 K
def C_digest_Join (v0_a : yapi_Digest.T) (v1_b : yapi_Digest.T) (K : yapi_Digest.T → World → Prop) (w0 : World) : Prop := callP P 58 #[val yapi_Digest v0_a, val yapi_Digest v1_b] yapi_Digest w0 K
def C_weight_Unit  (K : yapi_Weight.T → World → Prop) (w0 : World) : Prop := callP P 59 #[] yapi_Weight w0 K
def C_digest_Repeat (v0_d : yapi_Digest.T) (v1_k : Int) (K : yapi_Digest.T → World → Prop) (w0 : World) : Prop := callP P 60 #[val yapi_Digest v0_d, .int .i64 v1_k] yapi_Digest w0 K
def C_rule_Check (v0_r : yapi_Rule.T) (v1_n : Int) (K : Value → World → Prop) (w0 : World) : Prop := callP P 61 #[val yapi_Rule v0_r, .int .i64 v1_n] .iface w0 K
def C_intern_Store_put (v0_s : Option Addr) (v1_r : yapi_Rule.T) (v2_to : Sl) (K : (Int × Value) → World → Prop) (w0 : World) : Prop := callP P 62 #[.pointer v0_s, val yapi_Rule v1_r, .slice v2_to.a v2_to.len v2_to.cap] (.tup (.pair (.int .i64) .iface)) w0 K
def C_ref10_Check (v0_r : yapi_Rule.T) (v1_n : Int) (K : Int → World → Prop) (w0 : World) : Prop := callP P 63 #[val yapi_Rule v0_r, .int .i64 v1_n] (.int .i64) w0 K
def C_intern_Store_reach (v0_s : Option Addr) (v1_id : Int) (K : Sl → World → Prop) (w0 : World) : Prop := callP P 64 #[.pointer v0_s, .int .i64 v1_id] .slice w0 K
def C_ref10_Reached (v0_s : yevergreenref10_S.T) (v1_id : Int) (K : Sl → World → Prop) (w0 : World) : Prop := callP P 65 #[val yevergreenref10_S v0_s, .int .i64 v1_id] .slice w0 K
def C_length_Valid (v0_n : Int) (K : Bool → World → Prop) (w0 : World) : Prop := callP P 66 #[.int .i64 v0_n] .bool w0 K
def C_ref10_intern (v0_s : yevergreenref10_S.T) (v1_r : yapi_Rule.T) (v2_length : Int) (v3_depth : Int) (K : (yevergreenref10_S.T × Int × Int) → World → Prop) (w0 : World) : Prop := callP P 67 #[val yevergreenref10_S v0_s, val yapi_Rule v1_r, .int .i64 v2_length, .int .i64 v3_depth] (.tup (.pair yevergreenref10_S (.pair (.int .i64) (.int .i64)))) w0 K
def C_ref10_Depth (v0_s : yevergreenref10_S.T) (v1_id : Int) (K : Int → World → Prop) (w0 : World) : Prop := callP P 68 #[val yevergreenref10_S v0_s, .int .i64 v1_id] (.int .i64) w0 K
def C_modular_Pow (v0_a : Int) (v1_n : Int) (K : Int → World → Prop) (w0 : World) : Prop := callP P 69 #[.int .u64 v0_a, .int .u64 v1_n] (.int .u64) w0 K
def C_modular_Add (v0_a : Int) (v1_b : Int) (K : Int → World → Prop) (w0 : World) : Prop := callP P 70 #[.int .u64 v0_a, .int .u64 v1_b] (.int .u64) w0 K
def C_modular_Mul (v0_a : Int) (v1_b : Int) (K : Int → World → Prop) (w0 : World) : Prop := callP P 71 #[.int .u64 v0_a, .int .u64 v1_b] (.int .u64) w0 K
def C_digest_Unit  (K : yapi_Digest.T → World → Prop) (w0 : World) : Prop := callP P 72 #[] yapi_Digest w0 K
def C_rule_place (v0_r : yapi_Rule.T) (v1_n : Int) (K : Value → World → Prop) (w0 : World) : Prop := callP P 73 #[val yapi_Rule v0_r, .int .i64 v1_n] .iface w0 K
def C_rule_Refs (v0_r : yapi_Rule.T) (K : Sl → World → Prop) (w0 : World) : Prop := callP P 74 #[val yapi_Rule v0_r] .slice w0 K
def C_slices_Sort (a0 : Sl) (K : Unit → World → Prop) (w0 : World) : Prop := callP P 75 #[.slice a0.a a0.len a0.cap] (.tup .unit) w0 K
def C_modular_Reduce (v0_x : Int) (K : Int → World → Prop) (w0 : World) : Prop := callP P 76 #[.int .u64 v0_x] (.int .u64) w0 K
def C_bits_Mul64 (v0_x : Int) (v1_y : Int) (K : (Int × Int) → World → Prop) (w0 : World) : Prop := callP P 77 #[.int .u64 v0_x, .int .u64 v1_y] (.tup (.pair (.int .u64) (.int .u64))) w0 K
def C_bits_Len (v0_x : Int) (K : Int → World → Prop) (w0 : World) : Prop := callP P 79 #[.int .u64 v0_x] (.int .i64) w0 K
def C_bits_Len32 (v0_x : Int) (K : Int → World → Prop) (w0 : World) : Prop := callP P 89 #[.int .u32 v0_x] (.int .i64) w0 K
def C_bits_Len64 (v0_x : Int) (K : Int → World → Prop) (w0 : World) : Prop := callP P 90 #[.int .u64 v0_x] (.int .i64) w0 K

end Go.Proofs.Ytddhndabnbckmaa

/- The typed texts of the functions, printed by a program; each proved to imply the call. -/
set_option linter.unusedVariables false
set_option maxRecDepth 100000
set_option maxHeartbeats 4000000
namespace Go.Proofs.Ytddhndabnbckmaa
open Go.Den

def F_law10_InternRules (v0_most : Int) (v1_ops : Sl) (K : Bool → World → Prop) (w0 : World) : Prop :=
JoinP (X := Bool × Unit) (fun R2 =>
C_law10_awake  (fun x3 w2 =>
gd (!x3) (
R2 (true, ()) w2) (
C_law10_few v1_ops (fun x4 w3 =>
R2 (!x4, ()) w3) w2)) w0) (fun x1 w1 => ∀ _ : Env,
gd x1.1 (
C_law10_awake  (fun x5 w4 =>
K x5 w4) w1) (
C_law10_Built v0_most v1_ops (fun x6 w5 =>
allocK (.cells #[.int .i64 (0 : Int), .slice none 0 0, .slice none 0 0, .slice none 0 0] t_evergreenref10_S) w5 fun a7 w6 =>
stK w6 a7 (cells yevergreenref10_S x6.2.1) fun w7 =>
K x6.2.2 w7) w1))
theorem S_law10_InternRules (v0_most : Int) (v1_ops : Sl) (K : Bool → World → Prop) (w0 : World) (h : F_law10_InternRules v0_most v1_ops K w0) : C_law10_InternRules v0_most v1_ops K w0 := by
  have e : denFn P [(2, [(14, .bool)])] Try.f3 #[.int .i64 v0_most, .slice v1_ops.a v1_ops.len v1_ops.cap] .bool K w0 = F_law10_InternRules v0_most v1_ops K w0 := by kernel_rfl
  exact fn_sound mixed (f := 3) Try.func3 (by kernel_rfl) (e.mpr h)

def F_law10_InternTwice (v0_ops : Sl) (K : Bool → World → Prop) (w0 : World) : Prop :=
JoinP (X := Bool × Unit) (fun R2 =>
C_law10_awake  (fun x3 w2 =>
gd (!x3) (
R2 (true, ()) w2) (
C_law10_few v0_ops (fun x4 w3 =>
R2 (!x4, ()) w3) w2)) w0) (fun x1 w1 => ∀ _ : Env,
gd x1.1 (
C_law10_awake  (fun x5 w4 =>
K x5 w4) w1) (
C_intern_New (12 : Int) (fun x6 w5 =>
allocK (.cells #[.pointer none] t_pt_intern_Store) w5 fun a7 w6 =>
stK w6 a7 ([.pointer x6]) fun w7 =>
∃ x8 : Option Addr, At w7 a7 (cells .ptr x8) ∧
gd x8.isNone (
K false w7) (
LoopP (X := Int × Unit) ((0 : Int), ()) w7 fun next10 x9 w8 => ∀ _ : Env,
gd (decide (x9.1 < (v0_ops.len : Int))) (
idxK v0_ops.a v0_ops.len x9.1 5 fun p11 =>
∃ x12 : yevergreenlaw10_Op.T, At w8 p11 (cells yevergreenlaw10_Op x12) ∧
allocK (.cells #[.int .u8 (0 : Int), .int .u8 (0 : Int), .int .i64 (0 : Int), .int .i64 (0 : Int), .int .i64 (0 : Int)] t_evergreenlaw10_Op) w8 fun a13 w9 =>
stK w9 a13 (cells yevergreenlaw10_Op x12) fun w10 =>
∃ x14 : yevergreenlaw10_Op.T, At w10 a13 (cells yevergreenlaw10_Op x14) ∧
C_law10_InternTwice_1 x14 a7 (fun x15 w11 =>
∃ x16 : Option Addr, At w11 a7 (cells .ptr x16) ∧
C_intern_Store_Len x16 (fun x17 w12 =>
∃ x18 : yevergreenlaw10_Op.T, At w12 a13 (cells yevergreenlaw10_Op x18) ∧
C_law10_InternTwice_1 x18 a7 (fun x19 w13 =>
JoinP (X := Bool × Unit) (fun R21 =>
gd (x15.1 != x19.1) (
R21 (true, ()) w13) (
C_base_Num x15.2 (fun x22 w15 =>
C_base_Num x19.2 (fun x23 w16 =>
gd (x22 != x23) (
R21 (true, ()) w16) (
∃ x24 : Option Addr, At w16 a7 (cells .ptr x24) ∧
C_intern_Store_Len x24 (fun x25 w17 =>
gd (x25 != x17) (
R21 (true, ()) w17) (
∃ x26 : Option Addr, At w17 a7 (cells .ptr x26) ∧
C_intern_Store_Room x26 (fun x27 w18 =>
arith .i64 (x17 + x27) fun n28 =>
R21 (n28 != (12 : Int), ()) w18) w17)) w16)) w15) w13)) (fun x20 w14 => ∀ _ : Env,
gd x20.1 (
K false w14) (
arith .i64 (x9.1 + (1 : Int)) fun n29 =>
next10 (n29, ()) w14))) w12) w11) w10) (
K true w8))) w1))
theorem S_law10_InternTwice (v0_ops : Sl) (K : Bool → World → Prop) (w0 : World) (h : F_law10_InternTwice v0_ops K w0) : C_law10_InternTwice v0_ops K w0 := by
  have e : denFn P [(2, [(18, .bool)]), (1008, [(26, .int .i64)]), (14, [(66, .bool)])] Try.f4 #[.slice v0_ops.a v0_ops.len v0_ops.cap] .bool K w0 = F_law10_InternTwice v0_ops K w0 := by kernel_rfl
  exact fn_sound mixed (f := 4) Try.func4 (by kernel_rfl) (e.mpr h)

def F_law10_InternTexts (v0_ops : Sl) (K : Bool → World → Prop) (w0 : World) : Prop :=
JoinP (X := Bool × Unit) (fun R2 =>
C_law10_awake  (fun x3 w2 =>
gd (!x3) (
R2 (true, ()) w2) (
C_law10_few v0_ops (fun x4 w3 =>
R2 (!x4, ()) w3) w2)) w0) (fun x1 w1 => ∀ _ : Env,
gd x1.1 (
C_law10_awake  (fun x5 w4 =>
K x5 w4) w1) (
C_law10_Built (100 : Int) v0_ops (fun x6 w5 =>
allocK (.cells #[.int .i64 (0 : Int), .slice none 0 0, .slice none 0 0, .slice none 0 0] t_evergreenref10_S) w5 fun a7 w6 =>
stK w6 a7 (cells yevergreenref10_S x6.2.1) fun w7 =>
gd (!x6.2.2) (
K false w7) (
∃ x8 : Sl, At w7 (a7.add 1) (cells .slice x8) ∧
LoopP (X := Int × Unit) ((0 : Int), ()) w7 fun next10 x9 w8 => ∀ _ : Env,
gd (decide (x9.1 < (x8.len : Int))) (
JoinP (X := Unit) (fun R12 =>
∃ x13 : Sl, At w8 (a7.add 2) (cells .slice x13) ∧
idxK x13.a x13.len x9.1 1 fun p14 =>
∃ x15 : Int, At w8 p14 (cells (.int .i64) x15) ∧
gd (decide ((4096 : Int) < x15)) (
R12 () w8) (
∃ x16 : yevergreenref10_S.T, At w8 a7 (cells yevergreenref10_S x16) ∧
arith .i64 (x9.1 + (1 : Int)) fun n17 =>
C_ref10_Text x16 n17 (fun x18 w10 =>
C_ref05_Of x18 (fun x19 w11 =>
allocK (.cells #[.int .i64 (0 : Int), .int .i64 (0 : Int), .int .i64 (0 : Int), .int .i64 (0 : Int), .int .u64 (0 : Int), .int .u64 (0 : Int)] t_api_Weight) w11 fun a20 w12 =>
stK w12 a20 ([.int .i64 (x18.len : Int), .int .i64 (0 : Int), .int .i64 (x18.len : Int), .int .i64 (x18.len : Int), .int .u64 x19.1, .int .u64 x19.2]) fun w13 =>
LoopP (X := Int × Unit) ((0 : Int), ()) w13 fun next22 x21 w14 => ∀ _ : Env,
gd (decide (x21.1 < (x18.len : Int))) (
JoinP (X := Unit) (fun R24 =>
idxK x18.a x18.len x21.1 1 fun p25 =>
∃ x26 : Int, At w14 p25 (cells (.int .u8) x26) ∧
gd (x26 != (10 : Int)) (
R24 () w14) (
JoinP (X := Unit) (fun R28 =>
∃ x29 : Int, At w14 (a20.add 1) (cells (.int .i64) x29) ∧
gd (x29 == (0 : Int)) (
stK w14 (a20.add 2) ([.int .i64 x21.1]) fun w17 =>
R28 () w17) (
R28 () w14)) (fun x27 w16 => ∀ _ : Env,
∃ x30 : Int, At w16 (a20.add 1) (cells (.int .i64) x30) ∧
arith .i64 (x30 + (1 : Int)) fun n31 =>
stK w16 (a20.add 1) ([.int .i64 n31]) fun w18 =>
arith .i64 ((x18.len : Int) - (1 : Int)) fun n32 =>
arith .i64 (n32 - x21.1) fun n33 =>
stK w18 (a20.add 3) ([.int .i64 n33]) fun w19 =>
R24 () w19))) (fun x23 w15 => ∀ _ : Env,
arith .i64 (x21.1 + (1 : Int)) fun n34 =>
next22 (n34, ()) w15)) (
arith .i64 (x9.1 + (1 : Int)) fun n35 =>
C_intern_Store_Weight x6.1 n35 (fun x36 w20 =>
allocK (.cells #[.int .i64 (0 : Int), .int .i64 (0 : Int), .int .i64 (0 : Int), .int .i64 (0 : Int), .int .u64 (0 : Int), .int .u64 (0 : Int)] t_api_Weight) w20 fun a37 w21 =>
stK w21 a37 (cells yapi_Weight x36.1) fun w22 =>
JoinP (X := Bool × Unit) (fun R39 =>
nilIfcK x36.2 fun b40 =>
gd (!b40) (
R39 (true, ()) w22) (
∃ x41 : yapi_Weight.T, At w22 a37 (cells yapi_Weight x41) ∧
∃ x42 : yapi_Weight.T, At w22 a20 (cells yapi_Weight x42) ∧
testK P (do eqGuard .neq t_api_Weight (.tmp 89) (.tmp 90) (val yapi_Weight x41) (val yapi_Weight x42); binOp .neq t_api_Weight (val yapi_Weight x41) (val yapi_Weight x42)) fun b43 =>
R39 (b43, ()) w22)) (fun x38 w23 => ∀ _ : Env,
gd x38.1 (
K false w23) (
R12 () w23))) w14)) w10) w8)) (fun x11 w9 => ∀ _ : Env,
arith .i64 (x9.1 + (1 : Int)) fun n44 =>
next10 (n44, ()) w9)) (
K true w8))) w1))
theorem S_law10_InternTexts (v0_ops : Sl) (K : Bool → World → Prop) (w0 : World) (h : F_law10_InternTexts v0_ops K w0) : C_law10_InternTexts v0_ops K w0 := by
  have e : denFn P [(2, [(19, .bool)]), (1007, [(32, .int .i64)]), (24, []), (1013, [(56, .int .i64)]), (20, []), (18, []), (23, [(92, .bool)])] Try.f5 #[.slice v0_ops.a v0_ops.len v0_ops.cap] .bool K w0 = F_law10_InternTexts v0_ops K w0 := by kernel_rfl
  exact fn_sound mixed (f := 5) Try.func5 (by kernel_rfl) (e.mpr h)

def F_law10_InternLimits (v0_b : Int) (v1_k : Int) (v2_n : Int) (K : Bool → World → Prop) (w0 : World) : Prop :=
C_law10_awake  (fun x1 w1 =>
gd (!x1) (
K false w1) (
C_intern_New (10 : Int) (fun x2 w2 =>
gd x2.isNone (
K false w2) (
C_intern_Store_Letter x2 v0_b (fun x3 w3 =>
nilIfcK x3.2 fun b4 =>
gd (!b4) (
K false w3) (
arith .u64 (v1_k) fun n5 =>
(1152921504606846975 : Int) ≠ 0 ∧
letZ (Int.tmod n5 (1152921504606846975 : Int)) fun n6 =>
arith .i64 (n6) fun n7 =>
arith .i64 (n7 + (2 : Int)) fun n8 =>
C_intern_Store_Power x2 x3.1 n8 (fun x9 w4 =>
C_intern_Store_Weight x2 x9.1 (fun x10 w5 =>
allocK (.cells #[.int .i64 (0 : Int), .int .i64 (0 : Int), .int .i64 (0 : Int), .int .i64 (0 : Int), .int .u64 (0 : Int), .int .u64 (0 : Int)] t_api_Weight) w5 fun a11 w6 =>
stK w6 a11 (cells yapi_Weight x10.1) fun w7 =>
JoinP (X := Bool × Unit) (fun R13 =>
nilIfcK x9.2 fun b14 =>
gd (!b14) (
R13 (true, ()) w7) (
nilIfcK x10.2 fun b15 =>
gd (!b15) (
R13 (true, ()) w7) (
∃ x16 : Int, At w7 (a11.add 0) (cells (.int .i64) x16) ∧
R13 (x16 != n8, ()) w7))) (fun x12 w8 => ∀ _ : Env,
gd x12.1 (
K false w8) (
C_intern_Store_Power x2 x3.1 (1152921504606846977 : Int) (fun x17 w9 =>
C_base_Is x17.2 (2 : Int) (fun x18 w10 =>
gd (!x18) (
K false w10) (
n8 ≠ 0 ∧
arith .i64 (Int.tdiv (1152921504606846976 : Int) n8) fun n19 =>
arith .u64 (v2_n) fun n20 =>
(4 : Int) ≠ 0 ∧
letZ (Int.tmod n20 (4 : Int)) fun n21 =>
arith .i64 (n21) fun n22 =>
arith .i64 (n22 + n19) fun n23 =>
arith .i64 (n23 - (2 : Int)) fun n24 =>
C_intern_Store_Power x2 x9.1 n24 (fun x25 w11 =>
gd (decide (n24 < (0 : Int))) (
C_base_Is x25.2 (1 : Int) (fun x26 w12 =>
K x26 w12) w11) (
gd (decide (n19 < n24)) (
C_base_Is x25.2 (2 : Int) (fun x27 w13 =>
K x27 w13) w11) (
C_intern_Store_Weight x2 x25.1 (fun x28 w14 =>
stK w14 a11 (cells yapi_Weight x28.1) fun w15 =>
JoinP (X := Bool × Unit) (fun R30 =>
nilIfcK x25.2 fun b31 =>
gd (!b31) (
R30 (true, ()) w15) (
nilIfcK x28.2 fun b32 =>
gd (!b32) (
R30 (true, ()) w15) (
∃ x33 : Int, At w15 (a11.add 0) (cells (.int .i64) x33) ∧
arith .i64 (n24 * n8) fun n34 =>
R30 (x33 != n34, ()) w15))) (fun x29 w16 => ∀ _ : Env,
gd x29.1 (
K false w16) (
C_intern_Store_Pair x2 x9.1 x25.1 (fun x35 w17 =>
C_intern_Store_Weight x2 x35.1 (fun x36 w18 =>
stK w18 a11 (cells yapi_Weight x36.1) fun w19 =>
arith .i64 (n24 * n8) fun n37 =>
arith .i64 ((1152921504606846976 : Int) - n37) fun n38 =>
gd (decide (n38 < n8)) (
C_base_Is x35.2 (2 : Int) (fun x39 w20 =>
K x39 w20) w19) (
nilIfcK x35.2 fun b40 =>
gd b40 (
nilIfcK x36.2 fun b41 =>
gd b41 (
∃ x42 : Int, At w19 (a11.add 0) (cells (.int .i64) x42) ∧
arith .i64 (n24 * n8) fun n43 =>
arith .i64 (n8 + n43) fun n44 =>
K (x42 == n44) w19) (
K false w19)) (
K false w19))) w17) w16))) w11))) w10)) w9) w8))) w4) w3)) w2)) w1)) w0
theorem S_law10_InternLimits (v0_b : Int) (v1_k : Int) (v2_n : Int) (K : Bool → World → Prop) (w0 : World) (h : F_law10_InternLimits v0_b v1_k v2_n K w0) : C_law10_InternLimits v0_b v1_k v2_n K w0 := by
  have e : denFn P [(13, [(60, .bool)]), (26, [(116, .bool)])] Try.f6 #[.int .u8 v0_b, .int .i64 v1_k, .int .i64 v2_n] .bool K w0 = F_law10_InternLimits v0_b v1_k v2_n K w0 := by kernel_rfl
  exact fn_sound mixed (f := 6) Try.func6 (by kernel_rfl) (e.mpr h)

def F_law10_InternWeights (v0_ops : Sl) (K : Bool → World → Prop) (w0 : World) : Prop :=
JoinP (X := Bool × Unit) (fun R2 =>
C_law10_awake  (fun x3 w2 =>
gd (!x3) (
R2 (true, ()) w2) (
C_law10_few v0_ops (fun x4 w3 =>
R2 (!x4, ()) w3) w2)) w0) (fun x1 w1 => ∀ _ : Env,
gd x1.1 (
C_law10_awake  (fun x5 w4 =>
K x5 w4) w1) (
C_intern_New (100 : Int) (fun x6 w5 =>
gd x6.isNone (
K false w5) (
LoopP (X := Int × Unit) ((0 : Int), ()) w5 fun next8 x7 w6 => ∀ _ : Env,
gd (decide (x7.1 < (v0_ops.len : Int))) (
idxK v0_ops.a v0_ops.len x7.1 5 fun p9 =>
∃ x10 : yevergreenlaw10_Op.T, At w6 p9 (cells yevergreenlaw10_Op x10) ∧
allocK (.cells #[.int .u8 (0 : Int), .int .u8 (0 : Int), .int .i64 (0 : Int), .int .i64 (0 : Int), .int .i64 (0 : Int)] t_evergreenlaw10_Op) w6 fun a11 w7 =>
stK w7 a11 (cells yevergreenlaw10_Op x10) fun w8 =>
∃ x12 : yevergreenlaw10_Op.T, At w8 a11 (cells yevergreenlaw10_Op x12) ∧
C_law10_do x6 ((0 : Int), (⟨none, 0, 0⟩, (⟨none, 0, 0⟩, ⟨none, 0, 0⟩))) x12 (fun x13 w9 =>
arith .i64 (x7.1 + (1 : Int)) fun n14 =>
next8 (n14, ()) w9) w8) (
LoopP (X := Int × Unit) ((1 : Int), ()) w6 fun next16 x15 w10 => ∀ _ : Env,
C_intern_Store_Len x6 (fun x17 w11 =>
gd (decide (x15.1 ≤ x17)) (
C_intern_Store_Weight x6 x15.1 (fun x18 w12 =>
allocK (.cells #[.int .i64 (0 : Int), .int .i64 (0 : Int), .int .i64 (0 : Int), .int .i64 (0 : Int), .int .u64 (0 : Int), .int .u64 (0 : Int)] t_api_Weight) w12 fun a19 w13 =>
stK w13 a19 (cells yapi_Weight x18.1) fun w14 =>
C_intern_Store_Rule x6 x15.1 (fun x20 w15 =>
allocK (.cells #[.int .i64 (0 : Int), .int .u8 (0 : Int), .int .i64 (0 : Int), .int .i64 (0 : Int), .int .i64 (0 : Int)] t_api_Rule) w15 fun a21 w16 =>
stK w16 a21 (cells yapi_Rule x20.1) fun w17 =>
JoinP (X := Bool × Unit) (fun R23 =>
nilIfcK x18.2 fun b24 =>
gd (!b24) (
R23 (true, ()) w17) (
nilIfcK x20.2 fun b25 =>
R23 (!b25, ()) w17)) (fun x22 w18 => ∀ _ : Env,
gd x22.1 (
K false w18) (
∃ x26 : Int, At w18 (a21.add 2) (cells (.int .i64) x26) ∧
C_intern_Store_Weight x6 x26 (fun x27 w19 =>
allocK (.cells #[.int .i64 (0 : Int), .int .i64 (0 : Int), .int .i64 (0 : Int), .int .i64 (0 : Int), .int .u64 (0 : Int), .int .u64 (0 : Int)] t_api_Weight) w19 fun a28 w20 =>
stK w20 a28 (cells yapi_Weight x27.1) fun w21 =>
∃ x29 : Int, At w21 (a21.add 3) (cells (.int .i64) x29) ∧
C_intern_Store_Weight x6 x29 (fun x30 w22 =>
allocK (.cells #[.int .i64 (0 : Int), .int .i64 (0 : Int), .int .i64 (0 : Int), .int .i64 (0 : Int), .int .u64 (0 : Int), .int .u64 (0 : Int)] t_api_Weight) w22 fun a31 w23 =>
stK w23 a31 (cells yapi_Weight x30.1) fun w24 =>
allocK (.cells #[.int .i64 (0 : Int), .int .i64 (0 : Int), .int .i64 (0 : Int), .int .i64 (0 : Int), .int .u64 (0 : Int), .int .u64 (0 : Int)] t_api_Weight) w24 fun a32 w25 =>
JoinP (X := Value × Unit) (fun R34 =>
∃ x35 : Int, At w25 (a21.add 0) (cells (.int .i64) x35) ∧
gd (x35 == (1 : Int)) (
∃ x36 : Int, At w25 (a21.add 1) (cells (.int .u8) x36) ∧
C_weight_Letter x36 (fun x37 w27 =>
stK w27 a32 (cells yapi_Weight x37) fun w28 =>
R34 (x18.2, ()) w28) w25) (
gd (x35 == (2 : Int)) (
∃ x38 : yapi_Weight.T, At w25 a28 (cells yapi_Weight x38) ∧
∃ x39 : yapi_Weight.T, At w25 a31 (cells yapi_Weight x39) ∧
C_weight_Join x38 x39 (fun x40 w29 =>
stK w29 a32 (cells yapi_Weight x40.1) fun w30 =>
R34 (x40.2, ()) w30) w25) (
∃ x41 : yapi_Weight.T, At w25 a28 (cells yapi_Weight x41) ∧
∃ x42 : Int, At w25 (a21.add 4) (cells (.int .i64) x42) ∧
C_weight_Repeat x41 x42 (fun x43 w31 =>
stK w31 a32 (cells yapi_Weight x43.1) fun w32 =>
R34 (x43.2, ()) w32) w25))) (fun x33 w26 => ∀ _ : Env,
JoinP (X := Bool × Unit) (fun R45 =>
nilIfcK x33.1 fun b46 =>
gd (!b46) (
R45 (true, ()) w26) (
∃ x47 : yapi_Weight.T, At w26 a19 (cells yapi_Weight x47) ∧
∃ x48 : yapi_Weight.T, At w26 a32 (cells yapi_Weight x48) ∧
testK P (do eqGuard .neq t_api_Weight (.tmp 101) (.tmp 102) (val yapi_Weight x47) (val yapi_Weight x48); binOp .neq t_api_Weight (val yapi_Weight x47) (val yapi_Weight x48)) fun b49 =>
R45 (b49, ()) w26)) (fun x44 w33 => ∀ _ : Env,
gd x44.1 (
K false w33) (
arith .i64 (x15.1 + (1 : Int)) fun n50 =>
next16 (n50, ()) w33)))) w21) w18))) w14) w11) (
K true w11)) w10))) w1))
theorem S_law10_InternWeights (v0_ops : Sl) (K : Bool → World → Prop) (w0 : World) (h : F_law10_InternWeights v0_ops K w0) : C_law10_InternWeights v0_ops K w0 := by
  have e : denFn P [(2, [(22, .bool)]), (1007, [(29, .int .i64)]), (1012, [(6, .int .i64)]), (17, [(61, .bool)]), (27, [(8, .iface)]), (28, [(104, .bool)])] Try.f7 #[.slice v0_ops.a v0_ops.len v0_ops.cap] .bool K w0 = F_law10_InternWeights v0_ops K w0 := by kernel_rfl
  exact fn_sound mixed (f := 7) Try.func7 (by kernel_rfl) (e.mpr h)

def F_law10_InternAsks (v0_ops : Sl) (v1_other : Int) (v2_ask : yapi_Rule.T) (K : Bool → World → Prop) (w0 : World) : Prop :=
allocK (.cells (cells yapi_Rule v2_ask).toArray t_api_Rule) w0 fun a1 w1 =>
JoinP (X := Bool × Unit) (fun R3 =>
C_law10_awake  (fun x4 w3 =>
gd (!x4) (
R3 (true, ()) w3) (
C_law10_few v0_ops (fun x5 w4 =>
R3 (!x5, ()) w4) w3)) w1) (fun x2 w2 => ∀ _ : Env,
gd x2.1 (
C_law10_awake  (fun x6 w5 =>
K x6 w5) w2) (
C_law10_Built (100 : Int) v0_ops (fun x7 w6 =>
allocK (.cells #[.int .i64 (0 : Int), .slice none 0 0, .slice none 0 0, .slice none 0 0] t_evergreenref10_S) w6 fun a8 w7 =>
stK w7 a8 (cells yevergreenref10_S x7.2.1) fun w8 =>
gd (!x7.2.2) (
K false w8) (
∃ x9 : Sl, At w8 (a8.add 1) (cells .slice x9) ∧
LoopP (X := Int × Unit) ((0 : Int), ()) w8 fun next11 x10 w9 => ∀ _ : Env,
gd (decide (x10.1 < (x9.len : Int))) (
arith .i64 (x10.1 + (1 : Int)) fun n12 =>
C_intern_Store_Rule x7.1 n12 (fun x13 w10 =>
allocK (.cells #[.int .i64 (0 : Int), .int .u8 (0 : Int), .int .i64 (0 : Int), .int .i64 (0 : Int), .int .i64 (0 : Int)] t_api_Rule) w10 fun a14 w11 =>
stK w11 a14 (cells yapi_Rule x13.1) fun w12 =>
C_intern_Store_Depth x7.1 n12 (fun x15 w13 =>
C_intern_Store_Weight x7.1 n12 (fun x16 w14 =>
allocK (.cells #[.int .i64 (0 : Int), .int .i64 (0 : Int), .int .i64 (0 : Int), .int .i64 (0 : Int), .int .u64 (0 : Int), .int .u64 (0 : Int)] t_api_Weight) w14 fun a17 w15 =>
stK w15 a17 (cells yapi_Weight x16.1) fun w16 =>
∃ x18 : yapi_Rule.T, At w16 a14 (cells yapi_Rule x18) ∧
C_intern_Store_Find x7.1 x18 (fun x19 w17 =>
JoinP (X := Bool × Unit) (fun R21 =>
drawK w17 fun w19 =>
nilIfcK x13.2 fun b22 =>
gd (!b22) (
R21 (true, ()) w19) (
nilIfcK x15.2 fun b23 =>
gd (!b23) (
R21 (true, ()) w19) (
nilIfcK x16.2 fun b24 =>
gd (!b24) (
R21 (true, ()) w19) (
∃ x25 : yapi_Rule.T, At w19 a14 (cells yapi_Rule x25) ∧
∃ x26 : Sl, At w19 (a8.add 1) (cells .slice x26) ∧
idxK x26.a x26.len x10.1 5 fun p27 =>
∃ x28 : yapi_Rule.T, At w19 p27 (cells yapi_Rule x28) ∧
testK P (do eqGuard .neq t_api_Rule (.tmp 88) (.tmp 93) (val yapi_Rule x25) (val yapi_Rule x28); binOp .neq t_api_Rule (val yapi_Rule x25) (val yapi_Rule x28)) fun b29 =>
gd b29 (
R21 (true, ()) w19) (
∃ x30 : Sl, At w19 (a8.add 3) (cells .slice x30) ∧
idxK x30.a x30.len x10.1 1 fun p31 =>
∃ x32 : Int, At w19 p31 (cells (.int .i64) x32) ∧
gd (x15.1 != x32) (
R21 (true, ()) w19) (
∃ x33 : Int, At w19 (a17.add 0) (cells (.int .i64) x33) ∧
∃ x34 : Sl, At w19 (a8.add 2) (cells .slice x34) ∧
idxK x34.a x34.len x10.1 1 fun p35 =>
∃ x36 : Int, At w19 p35 (cells (.int .i64) x36) ∧
gd (x33 != x36) (
R21 (true, ()) w19) (
gd (!x19.2) (
R21 (true, ()) w19) (
R21 (x19.1 != n12, ()) w19)))))))) (fun x20 w18 => ∀ _ : Env,
gd x20.1 (
K false w18) (
arith .i64 (x10.1 + (1 : Int)) fun n37 =>
next11 (n37, ()) w18))) w16) w13) w12) w9) (
C_intern_Store_Rule x7.1 (0 : Int) (fun x38 w20 =>
allocK (.cells #[.int .i64 (0 : Int), .int .u8 (0 : Int), .int .i64 (0 : Int), .int .i64 (0 : Int), .int .i64 (0 : Int)] t_api_Rule) w20 fun a39 w21 =>
stK w21 a39 (cells yapi_Rule x38.1) fun w22 =>
C_intern_Store_Depth x7.1 (0 : Int) (fun x40 w23 =>
C_intern_Store_Weight x7.1 (0 : Int) (fun x41 w24 =>
allocK (.cells #[.int .i64 (0 : Int), .int .i64 (0 : Int), .int .i64 (0 : Int), .int .i64 (0 : Int), .int .u64 (0 : Int), .int .u64 (0 : Int)] t_api_Weight) w24 fun a42 w25 =>
stK w25 a42 (cells yapi_Weight x41.1) fun w26 =>
JoinP (X := Bool × Unit) (fun R44 =>
C_base_Is x38.2 (1 : Int) (fun x45 w28 =>
gd (!x45) (
R44 (true, ()) w28) (
nilIfcK x40.2 fun b46 =>
gd (!b46) (
R44 (true, ()) w28) (
nilIfcK x41.2 fun b47 =>
gd (!b47) (
R44 (true, ()) w28) (
gd (x40.1 != (0 : Int)) (
R44 (true, ()) w28) (
∃ x48 : yapi_Weight.T, At w28 a42 (cells yapi_Weight x48) ∧
testK P (do eqGuard .neq t_api_Weight (.tmp 156) (.tmp 158) (val yapi_Weight x48) (.agg #[.int .i64 (0 : Int), .int .i64 (0 : Int), .int .i64 (0 : Int), .int .i64 (0 : Int), .int .u64 (0 : Int), .int .u64 (1 : Int)]); binOp .neq t_api_Weight (val yapi_Weight x48) (.agg #[.int .i64 (0 : Int), .int .i64 (0 : Int), .int .i64 (0 : Int), .int .i64 (0 : Int), .int .u64 (0 : Int), .int .u64 (1 : Int)])) fun b49 =>
R44 (b49, ()) w28))))) w26) (fun x43 w27 => ∀ _ : Env,
gd x43.1 (
K false w27) (
∃ x50 : yapi_Rule.T, At w27 a1 (cells yapi_Rule x50) ∧
C_intern_Store_Find x7.1 x50 (fun x51 w29 =>
∃ x52 : yevergreenref10_S.T, At w29 a8 (cells yevergreenref10_S x52) ∧
∃ x53 : yapi_Rule.T, At w29 a1 (cells yapi_Rule x53) ∧
C_ref10_Find x52 x53 (fun x54 w30 =>
JoinP (X := Bool × Unit) (fun R56 =>
gd (x51.1 != x54) (
R56 (true, ()) w30) (
R56 (!(x51.2 == (x54 != (0 : Int))), ()) w30)) (fun x55 w31 => ∀ _ : Env,
gd x55.1 (
K false w31) (
∃ x57 : yevergreenref10_S.T, At w31 a8 (cells yevergreenref10_S x57) ∧
C_ref10_Unknown x57 v1_other (fun x58 w32 =>
gd (!x58) (
K true w32) (
C_intern_Store_Rule x7.1 v1_other (fun x59 w33 =>
C_intern_Store_Depth x7.1 v1_other (fun x60 w34 =>
C_intern_Store_Weight x7.1 v1_other (fun x61 w35 =>
C_base_Is x59.2 (1 : Int) (fun x62 w36 =>
gd x62 (
C_base_Is x60.2 (1 : Int) (fun x63 w37 =>
gd x63 (
C_base_Is x61.2 (1 : Int) (fun x64 w38 =>
K x64 w38) w37) (
K false w37)) w36) (
K false w36)) w35) w34) w33) w32)) w31))) w29) w27))) w23) w22) w9))) w2))
theorem S_law10_InternAsks (v0_ops : Sl) (v1_other : Int) (v2_ask : yapi_Rule.T) (K : Bool → World → Prop) (w0 : World) (h : F_law10_InternAsks v0_ops v1_other v2_ask K w0) : C_law10_InternAsks v0_ops v1_other v2_ask K w0 := by
  have e : denFn P [(2, [(35, .bool)]), (1007, [(48, .int .i64)]), (15, [(123, .bool)]), (21, [(160, .bool)]), (25, [(178, .bool)])] Try.f8 #[.slice v0_ops.a v0_ops.len v0_ops.cap, .int .i64 v1_other, val yapi_Rule v2_ask] .bool K w0 = F_law10_InternAsks v0_ops v1_other v2_ask K w0 := by kernel_rfl
  exact fn_sound mixed (f := 8) Try.func8 (by kernel_rfl) (e.mpr h)

def F_law10_InternImports (v0_most : Int) (v1_ops : Sl) (v2_list : Sl) (K : Bool → World → Prop) (w0 : World) : Prop :=
JoinP (X := Bool × Unit) (fun R2 =>
C_law10_awake  (fun x3 w2 =>
gd (!x3) (
R2 (true, ()) w2) (
C_law10_few v1_ops (fun x4 w3 =>
gd (!x4) (
R2 (true, ()) w3) (
R2 (decide ((60 : Int) < (v2_list.len : Int)), ()) w3)) w2)) w0) (fun x1 w1 => ∀ _ : Env,
gd x1.1 (
C_law10_awake  (fun x5 w4 =>
K x5 w4) w1) (
C_law10_Built v0_most v1_ops (fun x6 w5 =>
allocK (.cells #[.int .i64 (0 : Int), .slice none 0 0, .slice none 0 0, .slice none 0 0] t_evergreenref10_S) w5 fun a7 w6 =>
stK w6 a7 (cells yevergreenref10_S x6.2.1) fun w7 =>
gd (!x6.2.2) (
K false w7) (
allocK (.cells #[] t_api_Rule) w7 fun a8 w8 =>
appK t_api_Rule 5 40 #[.int .i64 (0 : Int), .int .u8 (0 : Int), .int .i64 (0 : Int), .int .i64 (0 : Int), .int .i64 (0 : Int)] (some a8) 0 0 (.slice v2_list.a v2_list.len v2_list.cap) v2_list.len w8 fun s9 w9 =>
C_intern_Store_Import x6.1 s9 (fun x10 w10 =>
∃ x11 : yevergreenref10_S.T, At w10 a7 (cells yevergreenref10_S x11) ∧
C_ref10_Import x11 v2_list (fun x12 w11 =>
stK w11 a7 (cells yevergreenref10_S x12.1) fun w12 =>
JoinP (X := Bool × Unit) (fun R14 =>
drawK w12 fun w14 =>
gd (x10.1 != x12.2.1) (
R14 (true, ()) w14) (
C_base_Num x10.2 (fun x15 w15 =>
gd (x15 != x12.2.2) (
R14 (true, ()) w15) (
∃ x16 : Sl, At w15 (a7.add 1) (cells .slice x16) ∧
C_intern_Store_Len x6.1 (fun x17 w16 =>
At w16 (a7.add 1) (cells .slice x16) ∧
gd (x17 != (x16.len : Int)) (
R14 (true, ()) w16) (
C_ref10_Same s9 v2_list (fun x18 w17 =>
R14 (!x18, ()) w17) w16)) w15)) w14)) (fun x13 w13 => ∀ _ : Env,
gd x13.1 (
K false w13) (
∃ x19 : Sl, At w13 (a7.add 1) (cells .slice x19) ∧
LoopP (X := Int × Unit) ((0 : Int), ()) w13 fun next21 x20 w18 => ∀ _ : Env,
gd (decide (x20.1 < (x19.len : Int))) (
arith .i64 (x20.1 + (1 : Int)) fun n22 =>
C_intern_Store_Rule x6.1 n22 (fun x23 w19 =>
allocK (.cells #[.int .i64 (0 : Int), .int .u8 (0 : Int), .int .i64 (0 : Int), .int .i64 (0 : Int), .int .i64 (0 : Int)] t_api_Rule) w19 fun a24 w20 =>
stK w20 a24 (cells yapi_Rule x23.1) fun w21 =>
JoinP (X := Bool × Unit) (fun R26 =>
drawK w21 fun w23 =>
nilIfcK x23.2 fun b27 =>
gd (!b27) (
R26 (true, ()) w23) (
∃ x28 : yapi_Rule.T, At w23 a24 (cells yapi_Rule x28) ∧
∃ x29 : Sl, At w23 (a7.add 1) (cells .slice x29) ∧
idxK x29.a x29.len x20.1 5 fun p30 =>
∃ x31 : yapi_Rule.T, At w23 p30 (cells yapi_Rule x31) ∧
testK P (do eqGuard .neq t_api_Rule (.tmp 95) (.tmp 100) (val yapi_Rule x28) (val yapi_Rule x31); binOp .neq t_api_Rule (val yapi_Rule x28) (val yapi_Rule x31)) fun b32 =>
R26 (b32, ()) w23)) (fun x25 w22 => ∀ _ : Env,
gd x25.1 (
K false w22) (
arith .i64 (x20.1 + (1 : Int)) fun n33 =>
next21 (n33, ()) w22))) w18) (
K true w18)))) w10) w9)) w1))
theorem S_law10_InternImports (v0_most : Int) (v1_ops : Sl) (v2_list : Sl) (K : Bool → World → Prop) (w0 : World) (h : F_law10_InternImports v0_most v1_ops v2_list K w0) : C_law10_InternImports v0_most v1_ops v2_list K w0 := by
  have e : denFn P [(2, [(29, .bool)]), (10, [(78, .bool)]), (1012, [(82, .int .i64)]), (16, [(102, .bool)])] Try.f9 #[.int .i64 v0_most, .slice v1_ops.a v1_ops.len v1_ops.cap, .slice v2_list.a v2_list.len v2_list.cap] .bool K w0 = F_law10_InternImports v0_most v1_ops v2_list K w0 := by kernel_rfl
  exact fn_sound mixed (f := 9) Try.func9 (by kernel_rfl) (e.mpr h)

def F_law10_InternExports (v0_ops : Sl) (v1_id : Int) (K : Bool → World → Prop) (w0 : World) : Prop :=
JoinP (X := Bool × Unit) (fun R2 =>
C_law10_awake  (fun x3 w2 =>
gd (!x3) (
R2 (true, ()) w2) (
C_law10_few v0_ops (fun x4 w3 =>
R2 (!x4, ()) w3) w2)) w0) (fun x1 w1 => ∀ _ : Env,
gd x1.1 (
C_law10_awake  (fun x5 w4 =>
K x5 w4) w1) (
C_law10_Built (100 : Int) v0_ops (fun x6 w5 =>
allocK (.cells #[.int .i64 (0 : Int), .slice none 0 0, .slice none 0 0, .slice none 0 0] t_evergreenref10_S) w5 fun a7 w6 =>
stK w6 a7 (cells yevergreenref10_S x6.2.1) fun w7 =>
gd (!x6.2.2) (
K false w7) (
LoopP (X := Int × Unit) ((0 : Int), ()) w7 fun next9 x8 w8 => ∀ _ : Env,
∃ x10 : Sl, At w8 (a7.add 1) (cells .slice x10) ∧
gd (decide (x8.1 ≤ (x10.len : Int))) (
C_intern_Store_Export x6.1 x8.1 (fun x11 w9 =>
JoinP (X := Bool × Unit) (fun R13 =>
nilIfcK x11.2 fun b14 =>
gd (!b14) (
R13 (true, ()) w9) (
∃ x15 : yevergreenref10_S.T, At w9 a7 (cells yevergreenref10_S x15) ∧
C_ref10_Export x15 x8.1 (fun x16 w11 =>
C_ref10_Same x11.1 x16 (fun x17 w12 =>
R13 (!x17, ()) w12) w11) w9)) (fun x12 w10 => ∀ _ : Env,
gd x12.1 (
K false w10) (
arith .i64 (x8.1 + (1 : Int)) fun n18 =>
next9 (n18, ()) w10))) w8) (
C_intern_Store_Export x6.1 v1_id (fun x19 w13 =>
∃ x20 : yevergreenref10_S.T, At w13 a7 (cells yevergreenref10_S x20) ∧
C_ref10_Unknown x20 v1_id (fun x21 w14 =>
gd (!x21) (
K true w14) (
C_base_Is x19.2 (1 : Int) (fun x22 w15 =>
gd x22 (
K ((x19.1.len : Int) == (0 : Int)) w15) (
K false w15)) w14)) w13) w8))) w1))
theorem S_law10_InternExports (v0_ops : Sl) (v1_id : Int) (K : Bool → World → Prop) (w0 : World) (h : F_law10_InternExports v0_ops v1_id K w0) : C_law10_InternExports v0_ops v1_id K w0 := by
  have e : denFn P [(2, [(19, .bool)]), (1007, [(8, .int .i64)]), (11, [(51, .bool)])] Try.f10 #[.slice v0_ops.a v0_ops.len v0_ops.cap, .int .i64 v1_id] .bool K w0 = F_law10_InternExports v0_ops v1_id K w0 := by kernel_rfl
  exact fn_sound mixed (f := 10) Try.func10 (by kernel_rfl) (e.mpr h)

def F_law10_InternMoves (v0_ops : Sl) (K : Bool → World → Prop) (w0 : World) : Prop :=
JoinP (X := Bool × Unit) (fun R2 =>
C_law10_awake  (fun x3 w2 =>
gd (!x3) (
R2 (true, ()) w2) (
C_law10_few v0_ops (fun x4 w3 =>
R2 (!x4, ()) w3) w2)) w0) (fun x1 w1 => ∀ _ : Env,
gd x1.1 (
C_law10_awake  (fun x5 w4 =>
K x5 w4) w1) (
C_intern_New (100 : Int) (fun x6 w5 =>
C_intern_New (100 : Int) (fun x7 w6 =>
JoinP (X := Bool × Unit) (fun R9 =>
gd x6.isNone (
R9 (true, ()) w6) (
R9 (x7.isNone, ()) w6)) (fun x8 w7 => ∀ _ : Env,
gd x8.1 (
K false w7) (
LoopP (X := Int × Unit) ((0 : Int), ()) w7 fun next11 x10 w8 => ∀ _ : Env,
gd (decide (x10.1 < (v0_ops.len : Int))) (
idxK v0_ops.a v0_ops.len x10.1 5 fun p12 =>
∃ x13 : yevergreenlaw10_Op.T, At w8 p12 (cells yevergreenlaw10_Op x13) ∧
allocK (.cells #[.int .u8 (0 : Int), .int .u8 (0 : Int), .int .i64 (0 : Int), .int .i64 (0 : Int), .int .i64 (0 : Int)] t_evergreenlaw10_Op) w8 fun a14 w9 =>
stK w9 a14 (cells yevergreenlaw10_Op x13) fun w10 =>
∃ x15 : yevergreenlaw10_Op.T, At w10 a14 (cells yevergreenlaw10_Op x15) ∧
C_law10_do x6 ((0 : Int), (⟨none, 0, 0⟩, (⟨none, 0, 0⟩, ⟨none, 0, 0⟩))) x15 (fun x16 w11 =>
arith .i64 (x10.1 + (1 : Int)) fun n17 =>
next11 (n17, ()) w11) w10) (
C_intern_Store_Len x6 (fun x18 w12 =>
C_intern_Store_Export x6 x18 (fun x19 w13 =>
nilIfcK x19.2 fun b20 =>
gd (!b20) (
K false w13) (
C_intern_Store_Import x6 x19.1 (fun x21 w14 =>
C_intern_Store_Import x7 x19.1 (fun x22 w15 =>
C_intern_Store_Export x7 x22.1 (fun x23 w16 =>
nilIfcK x21.2 fun b24 =>
gd b24 (
nilIfcK x22.2 fun b25 =>
gd b25 (
nilIfcK x23.2 fun b26 =>
gd b26 (
gd (x21.1 == x18) (
C_intern_Store_Len x6 (fun x27 w17 =>
gd (x27 == x18) (
C_intern_Store_Len x7 (fun x28 w18 =>
gd (x28 == (x19.1.len : Int)) (
gd (x22.1 == (x19.1.len : Int)) (
C_ref10_Same x19.1 x23.1 (fun x29 w19 =>
K x29 w19) w18) (
K false w18)) (
K false w18)) w17) (
K false w17)) w16) (
K false w16)) (
K false w16)) (
K false w16)) (
K false w16)) w15) w14) w13)) w12) w8)))) w5) w1))
theorem S_law10_InternMoves (v0_ops : Sl) (K : Bool → World → Prop) (w0 : World) (h : F_law10_InternMoves v0_ops K w0) : C_law10_InternMoves v0_ops K w0 := by
  have e : denFn P [(2, [(22, .bool)]), (5, [(31, .bool)]), (1007, [(34, .int .i64)])] Try.f11 #[.slice v0_ops.a v0_ops.len v0_ops.cap] .bool K w0 = F_law10_InternMoves v0_ops K w0 := by kernel_rfl
  exact fn_sound mixed (f := 11) Try.func11 (by kernel_rfl) (e.mpr h)

def F_law10_InternNil (v0_b : Int) (v1_l : Int) (v2_k : Int) (v3_list : Sl) (K : Bool → World → Prop) (w0 : World) : Prop :=
C_law10_awake  (fun x1 w1 =>
gd (!x1) (
K false w1) (
C_intern_Store_Letter none v0_b (fun x2 w2 =>
C_intern_Store_Pair none v1_l v1_l (fun x3 w3 =>
C_intern_Store_Power none v1_l v2_k (fun x4 w4 =>
C_intern_Store_Rule none v1_l (fun x5 w5 =>
allocK (.cells #[.int .i64 (0 : Int), .int .u8 (0 : Int), .int .i64 (0 : Int), .int .i64 (0 : Int), .int .i64 (0 : Int)] t_api_Rule) w5 fun a6 w6 =>
stK w6 a6 (cells yapi_Rule x5.1) fun w7 =>
C_intern_Store_Weight none v1_l (fun x7 w8 =>
allocK (.cells #[.int .i64 (0 : Int), .int .i64 (0 : Int), .int .i64 (0 : Int), .int .i64 (0 : Int), .int .u64 (0 : Int), .int .u64 (0 : Int)] t_api_Weight) w8 fun a8 w9 =>
stK w9 a8 (cells yapi_Weight x7.1) fun w10 =>
C_intern_Store_Depth none v1_l (fun x9 w11 =>
C_intern_Store_Import none v3_list (fun x10 w12 =>
C_intern_Store_Export none v1_l (fun x11 w13 =>
C_intern_Store_Find none ((1 : Int), (v0_b, ((0 : Int), ((0 : Int), (0 : Int))))) (fun x12 w14 =>
C_base_Num x2.2 (fun x13 w15 =>
C_base_Num x3.2 (fun x14 w16 =>
C_base_Num x4.2 (fun x15 w17 =>
C_base_Num x5.2 (fun x16 w18 =>
C_base_Num x7.2 (fun x17 w19 =>
C_base_Num x9.2 (fun x18 w20 =>
C_base_Num x10.2 (fun x19 w21 =>
C_base_Num x11.2 (fun x20 w22 =>
LoopP (X := Int × Unit) ((0 : Int), ()) w22 fun next22 x21 w23 => ∀ _ : Env,
gd (decide (x21.1 < (8 : Int))) (
0 ≤ x21.1 ∧ x21.1 < 8 ∧ ∃ y23 : Int, partV P t_int #[.int .i64 x13, .int .i64 x14, .int .i64 x15, .int .i64 x16, .int .i64 x17, .int .i64 x18, .int .i64 x19, .int .i64 x20] (x21.1.toNat * 1) = some (val (.int .i64) y23) ∧
gd (y23 != (5 : Int)) (
K false w23) (
arith .i64 (x21.1 + (1 : Int)) fun n24 =>
next22 (n24, ()) w23)) (
gd (!x12.2) (
C_intern_Store_Len none (fun x25 w24 =>
gd (x25 == (0 : Int)) (
C_intern_Store_Room none (fun x26 w25 =>
K (x26 == (0 : Int)) w25) w24) (
K false w24)) w23) (
K false w23))) w21) w20) w19) w18) w17) w16) w15) w14) w13) w12) w11) w10) w7) w4) w3) w2) w1)) w0
theorem S_law10_InternNil (v0_b : Int) (v1_l : Int) (v2_k : Int) (v3_list : Sl) (K : Bool → World → Prop) (w0 : World) (h : F_law10_InternNil v0_b v1_l v2_k v3_list K w0) : C_law10_InternNil v0_b v1_l v2_k v3_list K w0 := by
  have e : denFn P [(1015, [(108, .int .i64)])] Try.f12 #[.int .u8 v0_b, .int .i64 v1_l, .int .i64 v2_k, .slice v3_list.a v3_list.len v3_list.cap] .bool K w0 = F_law10_InternNil v0_b v1_l v2_k v3_list K w0 := by kernel_rfl
  exact fn_sound mixed (f := 12) Try.func12 (by kernel_rfl) (e.mpr h)

def F_law10_awake  (K : Bool → World → Prop) (w0 : World) : Prop :=
C_intern_New (4 : Int) (fun x1 w1 =>
gd x1.isNone (
K false w1) (
C_intern_Store_Letter x1 (97 : Int) (fun x2 w2 =>
C_intern_Store_Letter x1 (98 : Int) (fun x3 w3 =>
C_intern_Store_Pair x1 x2.1 x3.1 (fun x4 w4 =>
C_intern_Store_Power x1 x4.1 (5 : Int) (fun x5 w5 =>
C_intern_Store_Power x1 x4.1 (6 : Int) (fun x6 w6 =>
gd (x2.1 == (1 : Int)) (
gd (x3.1 == (2 : Int)) (
gd (x4.1 == (3 : Int)) (
gd (x5.1 == (4 : Int)) (
nilIfcK x5.2 fun b7 =>
gd b7 (
C_base_Is x6.2 (3 : Int) (fun x8 w7 =>
gd x8 (
C_intern_Store_Len x1 (fun x9 w8 =>
gd (x9 == (4 : Int)) (
C_intern_Store_Room x1 (fun x10 w9 =>
K (x10 == (0 : Int)) w9) w8) (
K false w8)) w7) (
K false w7)) w6) (
K false w6)) (
K false w6)) (
K false w6)) (
K false w6)) (
K false w6)) w5) w4) w3) w2) w1)) w0
theorem S_law10_awake  (K : Bool → World → Prop) (w0 : World) (h : F_law10_awake  K w0) : C_law10_awake  K w0 := by
  have e : denFn P [] Try.f13 #[] .bool K w0 = F_law10_awake  K w0 := by kernel_rfl
  exact fn_sound mixed (f := 13) Try.func13 (by kernel_rfl) (e.mpr h)

def F_law10_few (v0_ops : Sl) (K : Bool → World → Prop) (w0 : World) : Prop :=
K (decide ((v0_ops.len : Int) ≤ (60 : Int))) w0
theorem S_law10_few (v0_ops : Sl) (K : Bool → World → Prop) (w0 : World) (h : F_law10_few v0_ops K w0) : C_law10_few v0_ops K w0 := by
  have e : denFn P [] Try.f14 #[.slice v0_ops.a v0_ops.len v0_ops.cap] .bool K w0 = F_law10_few v0_ops K w0 := by kernel_rfl
  exact fn_sound mixed (f := 14) Try.func14 (by kernel_rfl) (e.mpr h)

def F_law10_Built (v0_most : Int) (v1_ops : Sl) (K : ((Option Addr) × yevergreenref10_S.T × Bool) → World → Prop) (w0 : World) : Prop :=
allocK (.cells #[.int .i64 (0 : Int), .slice none 0 0, .slice none 0 0, .slice none 0 0] t_evergreenref10_S) w0 fun a1 w1 =>
C_intern_New v0_most (fun x2 w2 =>
C_ref10_New v0_most (fun x3 w3 =>
allocK (.cells #[.int .i64 (0 : Int), .slice none 0 0, .slice none 0 0, .slice none 0 0] t_evergreenref10_S) w3 fun a4 w4 =>
stK w4 a4 (cells yevergreenref10_S x3) fun w5 =>
JoinP (X := Bool × Unit) (fun R6 =>
drawK w5 fun w7 =>
gd x2.isNone (
R6 (true, ()) w7) (
C_intern_Store_Len x2 (fun x7 w8 =>
gd (x7 != (0 : Int)) (
R6 (true, ()) w8) (
∃ x8 : Int, At w8 (a4.add 0) (cells (.int .i64) x8) ∧
C_intern_Store_Room x2 (fun x9 w9 =>
At w9 (a4.add 0) (cells (.int .i64) x8) ∧
R6 (x9 != x8, ()) w9) w8)) w7)) (fun x5 w6 => ∀ _ : Env,
gd x5.1 (
drawK w6 fun w10 =>
∃ x10 : yevergreenref10_S.T, At w10 a4 (cells yevergreenref10_S x10) ∧
stK w10 a1 (cells yevergreenref10_S x10) fun w11 =>
∃ x11 : yevergreenref10_S.T, At w11 a1 (cells yevergreenref10_S x11) ∧
K (none, x11, false) w11) (
LoopP (X := Int × Unit) ((0 : Int), ()) w6 fun next13 x12 w12 => ∀ _ : Env,
gd (decide (x12.1 < (v1_ops.len : Int))) (
idxK v1_ops.a v1_ops.len x12.1 5 fun p14 =>
∃ x15 : yevergreenlaw10_Op.T, At w12 p14 (cells yevergreenlaw10_Op x15) ∧
allocK (.cells #[.int .u8 (0 : Int), .int .u8 (0 : Int), .int .i64 (0 : Int), .int .i64 (0 : Int), .int .i64 (0 : Int)] t_evergreenlaw10_Op) w12 fun a16 w13 =>
stK w13 a16 (cells yevergreenlaw10_Op x15) fun w14 =>
∃ x17 : yevergreenref10_S.T, At w14 a4 (cells yevergreenref10_S x17) ∧
∃ x18 : yevergreenlaw10_Op.T, At w14 a16 (cells yevergreenlaw10_Op x18) ∧
C_law10_do x2 x17 x18 (fun x19 w15 =>
stK w15 a4 (cells yevergreenref10_S x19.1) fun w16 =>
gd (!x19.2) (
drawK w16 fun w17 =>
∃ x20 : yevergreenref10_S.T, At w17 a4 (cells yevergreenref10_S x20) ∧
stK w17 a1 (cells yevergreenref10_S x20) fun w18 =>
∃ x21 : yevergreenref10_S.T, At w18 a1 (cells yevergreenref10_S x21) ∧
K (x2, x21, false) w18) (
arith .i64 (x12.1 + (1 : Int)) fun n22 =>
next13 (n22, ()) w16)) w14) (
drawK w12 fun w19 =>
∃ x23 : yevergreenref10_S.T, At w19 a4 (cells yevergreenref10_S x23) ∧
stK w19 a1 (cells yevergreenref10_S x23) fun w20 =>
∃ x24 : yevergreenref10_S.T, At w20 a1 (cells yevergreenref10_S x24) ∧
K (x2, x24, true) w20)))) w2) w1
theorem S_law10_Built (v0_most : Int) (v1_ops : Sl) (K : ((Option Addr) × yevergreenref10_S.T × Bool) → World → Prop) (w0 : World) (h : F_law10_Built v0_most v1_ops K w0) : C_law10_Built v0_most v1_ops K w0 := by
  have e : denFn P [(3, [(29, .bool)]), (1005, [(33, .int .i64)])] Try.f15 #[.int .i64 v0_most, .slice v1_ops.a v1_ops.len v1_ops.cap] (.tup (.pair .ptr (.pair yevergreenref10_S .bool))) K w0 = F_law10_Built v0_most v1_ops K w0 := by kernel_rfl
  exact fn_sound mixed (f := 15) Try.func15 (by kernel_rfl) (e.mpr h)

def F_intern_New (v0_most : Int) (K : (Option Addr) → World → Prop) (w0 : World) : Prop :=
C_length_Clip v0_most (0 : Int) (1048576 : Int) (fun x1 w1 =>
allocK (.map #[] 0) w1 fun a2 w2 =>
allocK (.cells ([.int .i64 x1, .slice none 0 0, .map (some a2.block)]).toArray t_intern_Store) w2 fun a3 w3 =>
K (some a3) w3) w0
theorem S_intern_New (v0_most : Int) (K : (Option Addr) → World → Prop) (w0 : World) (h : F_intern_New v0_most K w0) : C_intern_New v0_most K w0 := by
  have e : denFn P [] Try.f16 #[.int .i64 v0_most] .ptr K w0 = F_intern_New v0_most K w0 := by kernel_rfl
  exact fn_sound mixed (f := 16) Try.func16 (by kernel_rfl) (e.mpr h)

def F_law10_InternTwice_1 (v0_o : yevergreenlaw10_Op.T) (v1 : Addr) (K : (Int × Value) → World → Prop) (w0 : World) : Prop :=
allocK (.cells (cells yevergreenlaw10_Op v0_o).toArray t_evergreenlaw10_Op) w0 fun a1 w1 =>
∃ x2 : Int, At w1 (a1.add 0) (cells (.int .u8) x2) ∧
(3 : Int) ≠ 0 ∧
letZ (Int.tmod x2 (3 : Int)) fun n3 =>
gd (n3 == (0 : Int)) (
∃ x4 : Option Addr, At w1 v1 (cells .ptr x4) ∧
∃ x5 : Int, At w1 (a1.add 1) (cells (.int .u8) x5) ∧
C_intern_Store_Letter x4 x5 (fun x6 w2 =>
K (x6.1, x6.2) w2) w1) (
gd (n3 == (1 : Int)) (
∃ x7 : Option Addr, At w1 v1 (cells .ptr x7) ∧
∃ x8 : Int, At w1 (a1.add 2) (cells (.int .i64) x8) ∧
∃ x9 : Int, At w1 (a1.add 3) (cells (.int .i64) x9) ∧
C_intern_Store_Pair x7 x8 x9 (fun x10 w3 =>
K (x10.1, x10.2) w3) w1) (
∃ x11 : Option Addr, At w1 v1 (cells .ptr x11) ∧
∃ x12 : Int, At w1 (a1.add 2) (cells (.int .i64) x12) ∧
∃ x13 : Int, At w1 (a1.add 4) (cells (.int .i64) x13) ∧
C_intern_Store_Power x11 x12 x13 (fun x14 w4 =>
K (x14.1, x14.2) w4) w1))
theorem S_law10_InternTwice_1 (v0_o : yevergreenlaw10_Op.T) (v1 : Addr) (K : (Int × Value) → World → Prop) (w0 : World) (h : F_law10_InternTwice_1 v0_o v1 K w0) : C_law10_InternTwice_1 v0_o v1 K w0 := by
  have e : denFn P [] Try.f17 #[val yevergreenlaw10_Op v0_o, .pointer (some v1)] (.tup (.pair (.int .i64) .iface)) K w0 = F_law10_InternTwice_1 v0_o v1 K w0 := by kernel_rfl
  exact fn_sound mixed (f := 17) Try.func17 (by kernel_rfl) (e.mpr h)

end Go.Proofs.Ytddhndabnbckmaa

/- The typed texts of the functions, printed by a program; each proved to imply the call. -/
set_option linter.unusedVariables false
set_option maxRecDepth 100000
set_option maxHeartbeats 4000000
namespace Go.Proofs.Ytddhndabnbckmaa
open Go.Den

def F_intern_Store_Letter (v0_s : Option Addr) (v1_b : Int) (K : (Int × Value) → World → Prop) (w0 : World) : Prop :=
gd v0_s.isNone (
K ((0 : Int), .iface t_api_Errno (.int .i64 (5 : Int))) w0) (
allocK (.cells #[.int .i64 (0 : Int), .int .u8 (0 : Int), .int .i64 (0 : Int), .int .i64 (0 : Int), .int .i64 (0 : Int)] t_api_Rule) w0 fun a1 w1 =>
stK w1 a1 ([.int .i64 (1 : Int), .int .u8 v1_b, .int .i64 (0 : Int), .int .i64 (0 : Int), .int .i64 (0 : Int)]) fun w2 =>
∃ x2 : yapi_Rule.T, At w2 a1 (cells yapi_Rule x2) ∧
C_intern_Store_find v0_s x2 (fun x3 w3 =>
JoinP (X := Bool × Unit) (fun R5 =>
gd (x3.1 != (0 : Int)) (
R5 (true, ()) w3) (
nilIfcK x3.2 fun b6 =>
R5 (!b6, ()) w3)) (fun x4 w4 => ∀ _ : Env,
gd x4.1 (
K (x3.1, x3.2) w4) (
drawK w4 fun w5 =>
∃ x7 : yapi_Rule.T, At w5 a1 (cells yapi_Rule x7) ∧
C_weight_Letter v1_b (fun x8 w6 =>
At w6 a1 (cells yapi_Rule x7) ∧
C_intern_Store_add v0_s ((x7.1, (x7.2.1, (x7.2.2.1, (x7.2.2.2.1, x7.2.2.2.2)))), ((x8.1, (x8.2.1, (x8.2.2.1, (x8.2.2.2.1, (x8.2.2.2.2.1, x8.2.2.2.2.2))))), ((0 : Int), true))) (fun x9 w7 =>
K (x9, .nilIface) w7) w6) w5))) w2)
theorem S_intern_Store_Letter (v0_s : Option Addr) (v1_b : Int) (K : (Int × Value) → World → Prop) (w0 : World) (h : F_intern_Store_Letter v0_s v1_b K w0) : C_intern_Store_Letter v0_s v1_b K w0 := by
  have e : denFn P [(6, [(25, .bool)])] Try.f18 #[.pointer v0_s, .int .u8 v1_b] (.tup (.pair (.int .i64) .iface)) K w0 = F_intern_Store_Letter v0_s v1_b K w0 := by kernel_rfl
  exact fn_sound mixed (f := 18) Try.func18 (by kernel_rfl) (e.mpr h)

def F_intern_Store_Pair (v0_s : Option Addr) (v1_l : Int) (v2_r : Int) (K : (Int × Value) → World → Prop) (w0 : World) : Prop :=
gd v0_s.isNone (
K ((0 : Int), .iface t_api_Errno (.int .i64 (5 : Int))) w0) (
JoinP (X := Bool × Unit) (fun R2 =>
C_intern_Store_known v0_s v1_l (fun x3 w2 =>
gd (!x3) (
R2 (true, ()) w2) (
C_intern_Store_known v0_s v2_r (fun x4 w3 =>
R2 (!x4, ()) w3) w2)) w0) (fun x1 w1 => ∀ _ : Env,
gd x1.1 (
K ((0 : Int), .iface t_api_Errno (.int .i64 (1 : Int))) w1) (
gd (v1_l == (0 : Int)) (
K (v2_r, .nilIface) w1) (
gd (v2_r == (0 : Int)) (
K (v1_l, .nilIface) w1) (
C_intern_Store_at v0_s v1_l (fun x5 w4 =>
C_intern_Store_at v0_s v2_r (fun x6 w5 =>
allocK (.cells #[.int .i64 (0 : Int), .int .u8 (0 : Int), .int .i64 (0 : Int), .int .i64 (0 : Int), .int .i64 (0 : Int), .int .i64 (0 : Int), .int .i64 (0 : Int), .int .i64 (0 : Int), .int .i64 (0 : Int), .int .u64 (0 : Int), .int .u64 (0 : Int), .int .i64 (0 : Int), .bool false] t_intern_entry) w5 fun a7 w6 =>
allocK (.cells #[.int .i64 (0 : Int), .int .u8 (0 : Int), .int .i64 (0 : Int), .int .i64 (0 : Int), .int .i64 (0 : Int), .int .i64 (0 : Int), .int .i64 (0 : Int), .int .i64 (0 : Int), .int .i64 (0 : Int), .int .u64 (0 : Int), .int .u64 (0 : Int), .int .i64 (0 : Int), .bool false] t_intern_entry) w6 fun a8 w7 =>
stK w7 a7 (cells yintern_entry x5) fun w8 =>
stK w8 a8 (cells yintern_entry x6) fun w9 =>
∃ x9 : Int, At w9 ((a7.add 5).add 0) (cells (.int .i64) x9) ∧
∃ x10 : Int, At w9 ((a8.add 5).add 0) (cells (.int .i64) x10) ∧
C_length_Add x9 x10 (fun x11 w10 =>
nilIfcK x11.2 fun b12 =>
gd (!b12) (
K ((0 : Int), .iface t_api_Errno (.int .i64 (2 : Int))) w10) (
allocK (.cells #[.int .i64 (0 : Int), .int .u8 (0 : Int), .int .i64 (0 : Int), .int .i64 (0 : Int), .int .i64 (0 : Int)] t_api_Rule) w10 fun a13 w11 =>
stK w11 a13 ([.int .i64 (2 : Int), .int .u8 (0 : Int), .int .i64 v1_l, .int .i64 v2_r, .int .i64 (0 : Int)]) fun w12 =>
∃ x14 : yapi_Rule.T, At w12 a13 (cells yapi_Rule x14) ∧
C_intern_Store_find v0_s x14 (fun x15 w13 =>
JoinP (X := Bool × Unit) (fun R17 =>
gd (x15.1 != (0 : Int)) (
R17 (true, ()) w13) (
nilIfcK x15.2 fun b18 =>
R17 (!b18, ()) w13)) (fun x16 w14 => ∀ _ : Env,
gd x16.1 (
K (x15.1, x15.2) w14) (
∃ x19 : yapi_Weight.T, At w14 (a7.add 5) (cells yapi_Weight x19) ∧
∃ x20 : yapi_Weight.T, At w14 (a8.add 5) (cells yapi_Weight x20) ∧
C_weight_Join x19 x20 (fun x21 w15 =>
allocK (.cells #[.int .i64 (0 : Int), .int .i64 (0 : Int), .int .i64 (0 : Int), .int .i64 (0 : Int), .int .u64 (0 : Int), .int .u64 (0 : Int)] t_api_Weight) w15 fun a22 w16 =>
stK w16 a22 (cells yapi_Weight x21.1) fun w17 =>
nilIfcK x21.2 fun b23 =>
gd (!b23) (
K ((0 : Int), x21.2) w17) (
∃ x24 : Int, At w17 (a7.add 11) (cells (.int .i64) x24) ∧
∃ x25 : Int, At w17 (a8.add 11) (cells (.int .i64) x25) ∧
arith .i64 (x24 - x25) fun n26 =>
∃ x27 : yapi_Rule.T, At w17 a13 (cells yapi_Rule x27) ∧
∃ x28 : yapi_Weight.T, At w17 a22 (cells yapi_Weight x28) ∧
∃ x29 : Int, At w17 (a7.add 11) (cells (.int .i64) x29) ∧
∃ x30 : Int, At w17 (a8.add 11) (cells (.int .i64) x30) ∧
arith .i64 ((1 : Int) + (if x29 < x30 then x30 else x29)) fun n31 =>
∃ x32 : Bool, At w17 (a7.add 12) (cells .bool x32) ∧
gd x32 (
∃ x33 : Bool, At w17 (a8.add 12) (cells .bool x33) ∧
gd x33 (
gd (decide ((-1 : Int) ≤ n26)) (
C_intern_Store_add v0_s ((x27.1, (x27.2.1, (x27.2.2.1, (x27.2.2.2.1, x27.2.2.2.2)))), ((x28.1, (x28.2.1, (x28.2.2.1, (x28.2.2.2.1, (x28.2.2.2.2.1, x28.2.2.2.2.2))))), (n31, decide (n26 ≤ (1 : Int))))) (fun x34 w18 =>
K (x34, .nilIface) w18) w17) (
C_intern_Store_add v0_s ((x27.1, (x27.2.1, (x27.2.2.1, (x27.2.2.2.1, x27.2.2.2.2)))), ((x28.1, (x28.2.1, (x28.2.2.1, (x28.2.2.2.1, (x28.2.2.2.2.1, x28.2.2.2.2.2))))), (n31, false))) (fun x35 w19 =>
K (x35, .nilIface) w19) w17)) (
C_intern_Store_add v0_s ((x27.1, (x27.2.1, (x27.2.2.1, (x27.2.2.2.1, x27.2.2.2.2)))), ((x28.1, (x28.2.1, (x28.2.2.1, (x28.2.2.2.1, (x28.2.2.2.2.1, x28.2.2.2.2.2))))), (n31, false))) (fun x36 w20 =>
K (x36, .nilIface) w20) w17)) (
C_intern_Store_add v0_s ((x27.1, (x27.2.1, (x27.2.2.1, (x27.2.2.2.1, x27.2.2.2.2)))), ((x28.1, (x28.2.1, (x28.2.2.1, (x28.2.2.2.1, (x28.2.2.2.2.1, x28.2.2.2.2.2))))), (n31, false))) (fun x37 w21 =>
K (x37, .nilIface) w21) w17))) w14))) w12)) w9) w4) w1)))))
theorem S_intern_Store_Pair (v0_s : Option Addr) (v1_l : Int) (v2_r : Int) (K : (Int × Value) → World → Prop) (w0 : World) (h : F_intern_Store_Pair v0_s v1_l v2_r K w0) : C_intern_Store_Pair v0_s v1_l v2_r K w0 := by
  have e : denFn P [(4, [(30, .bool)]), (16, [(71, .bool)])] Try.f19 #[.pointer v0_s, .int .i64 v1_l, .int .i64 v2_r] (.tup (.pair (.int .i64) .iface)) K w0 = F_intern_Store_Pair v0_s v1_l v2_r K w0 := by kernel_rfl
  exact fn_sound mixed (f := 19) Try.func19 (by kernel_rfl) (e.mpr h)

def F_intern_Store_Power (v0_s : Option Addr) (v1_x : Int) (v2_k : Int) (K : (Int × Value) → World → Prop) (w0 : World) : Prop :=
gd v0_s.isNone (
K ((0 : Int), .iface t_api_Errno (.int .i64 (5 : Int))) w0) (
JoinP (X := Bool × Unit) (fun R2 =>
C_intern_Store_known v0_s v1_x (fun x3 w2 =>
gd (!x3) (
R2 (true, ()) w2) (
R2 (decide (v2_k < (0 : Int)), ()) w2)) w0) (fun x1 w1 => ∀ _ : Env,
gd x1.1 (
K ((0 : Int), .iface t_api_Errno (.int .i64 (1 : Int))) w1) (
JoinP (X := Bool × Unit) (fun R5 =>
gd (v2_k == (0 : Int)) (
R5 (true, ()) w1) (
R5 (v1_x == (0 : Int), ()) w1)) (fun x4 w3 => ∀ _ : Env,
gd x4.1 (
K ((0 : Int), .nilIface) w3) (
gd (v2_k == (1 : Int)) (
K (v1_x, .nilIface) w3) (
C_intern_Store_at v0_s v1_x (fun x6 w4 =>
allocK (.cells #[.int .i64 (0 : Int), .int .u8 (0 : Int), .int .i64 (0 : Int), .int .i64 (0 : Int), .int .i64 (0 : Int), .int .i64 (0 : Int), .int .i64 (0 : Int), .int .i64 (0 : Int), .int .i64 (0 : Int), .int .u64 (0 : Int), .int .u64 (0 : Int), .int .i64 (0 : Int), .bool false] t_intern_entry) w4 fun a7 w5 =>
stK w5 a7 (cells yintern_entry x6) fun w6 =>
∃ x8 : Int, At w6 ((a7.add 5).add 0) (cells (.int .i64) x8) ∧
C_length_Mul x8 v2_k (fun x9 w7 =>
nilIfcK x9.2 fun b10 =>
gd (!b10) (
K ((0 : Int), .iface t_api_Errno (.int .i64 (2 : Int))) w7) (
allocK (.cells #[.int .i64 (0 : Int), .int .u8 (0 : Int), .int .i64 (0 : Int), .int .i64 (0 : Int), .int .i64 (0 : Int)] t_api_Rule) w7 fun a11 w8 =>
stK w8 a11 ([.int .i64 (3 : Int), .int .u8 (0 : Int), .int .i64 v1_x, .int .i64 (0 : Int), .int .i64 v2_k]) fun w9 =>
∃ x12 : yapi_Rule.T, At w9 a11 (cells yapi_Rule x12) ∧
C_intern_Store_find v0_s x12 (fun x13 w10 =>
JoinP (X := Bool × Unit) (fun R15 =>
gd (x13.1 != (0 : Int)) (
R15 (true, ()) w10) (
nilIfcK x13.2 fun b16 =>
R15 (!b16, ()) w10)) (fun x14 w11 => ∀ _ : Env,
gd x14.1 (
K (x13.1, x13.2) w11) (
∃ x17 : yapi_Weight.T, At w11 (a7.add 5) (cells yapi_Weight x17) ∧
C_weight_Repeat x17 v2_k (fun x18 w12 =>
allocK (.cells #[.int .i64 (0 : Int), .int .i64 (0 : Int), .int .i64 (0 : Int), .int .i64 (0 : Int), .int .u64 (0 : Int), .int .u64 (0 : Int)] t_api_Weight) w12 fun a19 w13 =>
stK w13 a19 (cells yapi_Weight x18.1) fun w14 =>
nilIfcK x18.2 fun b20 =>
gd (!b20) (
K ((0 : Int), x18.2) w14) (
∃ x21 : yapi_Rule.T, At w14 a11 (cells yapi_Rule x21) ∧
∃ x22 : yapi_Weight.T, At w14 a19 (cells yapi_Weight x22) ∧
∃ x23 : Int, At w14 (a7.add 11) (cells (.int .i64) x23) ∧
arith .i64 ((1 : Int) + x23) fun n24 =>
C_intern_Store_add v0_s ((x21.1, (x21.2.1, (x21.2.2.1, (x21.2.2.2.1, x21.2.2.2.2)))), ((x22.1, (x22.2.1, (x22.2.2.1, (x22.2.2.2.1, (x22.2.2.2.2.1, x22.2.2.2.2.2))))), (n24, false))) (fun x25 w15 =>
K (x25, .nilIface) w15) w14)) w11))) w9)) w6) w3))))))
theorem S_intern_Store_Power (v0_s : Option Addr) (v1_x : Int) (v2_k : Int) (K : (Int × Value) → World → Prop) (w0 : World) (h : F_intern_Store_Power v0_s v1_x v2_k K w0) : C_intern_Store_Power v0_s v1_x v2_k K w0 := by
  have e : denFn P [(4, [(26, .bool)]), (6, [(33, .bool)]), (16, [(65, .bool)])] Try.f20 #[.pointer v0_s, .int .i64 v1_x, .int .i64 v2_k] (.tup (.pair (.int .i64) .iface)) K w0 = F_intern_Store_Power v0_s v1_x v2_k K w0 := by kernel_rfl
  exact fn_sound mixed (f := 20) Try.func20 (by kernel_rfl) (e.mpr h)

def F_intern_Store_Len (v0_s : Option Addr) (K : Int → World → Prop) (w0 : World) : Prop :=
gd v0_s.isNone (
K (0 : Int) w0) (
nonNil v0_s fun p1 =>
∃ x2 : Sl, At w0 (p1.add 1) (cells .slice x2) ∧
K (x2.len : Int) w0)
theorem S_intern_Store_Len (v0_s : Option Addr) (K : Int → World → Prop) (w0 : World) (h : F_intern_Store_Len v0_s K w0) : C_intern_Store_Len v0_s K w0 := by
  have e : denFn P [] Try.f21 #[.pointer v0_s] (.int .i64) K w0 = F_intern_Store_Len v0_s K w0 := by kernel_rfl
  exact fn_sound mixed (f := 21) Try.func21 (by kernel_rfl) (e.mpr h)

def F_base_Num (v0_e : Value) (K : Int → World → Prop) (w0 : World) : Prop :=
nilIfcK v0_e fun b1 =>
gd b1 (
K (0 : Int) w0) (
assertK t_api_Errno (.int .i64) (0 : Int) v0_e fun y2 b3 =>
gd (!b3) (
K (-1 : Int) w0) (
K y2 w0))
theorem S_base_Num (v0_e : Value) (K : Int → World → Prop) (w0 : World) (h : F_base_Num v0_e K w0) : C_base_Num v0_e K w0 := by
  have e : denFn P [] Try.f22 #[v0_e] (.int .i64) K w0 = F_base_Num v0_e K w0 := by kernel_rfl
  exact fn_sound mixed (f := 22) Try.func22 (by kernel_rfl) (e.mpr h)

def F_intern_Store_Room (v0_s : Option Addr) (K : Int → World → Prop) (w0 : World) : Prop :=
gd v0_s.isNone (
K (0 : Int) w0) (
drawK w0 fun w1 =>
nonNil v0_s fun p1 =>
∃ x2 : Int, At w1 (p1.add 0) (cells (.int .i64) x2) ∧
nonNil v0_s fun p3 =>
∃ x4 : Sl, At w1 (p3.add 1) (cells .slice x4) ∧
arith .i64 (x2 - (x4.len : Int)) fun n5 =>
K n5 w1)
theorem S_intern_Store_Room (v0_s : Option Addr) (K : Int → World → Prop) (w0 : World) (h : F_intern_Store_Room v0_s K w0) : C_intern_Store_Room v0_s K w0 := by
  have e : denFn P [] Try.f23 #[.pointer v0_s] (.int .i64) K w0 = F_intern_Store_Room v0_s K w0 := by kernel_rfl
  exact fn_sound mixed (f := 23) Try.func23 (by kernel_rfl) (e.mpr h)

def F_ref10_Text (v0_s : yevergreenref10_S.T) (v1_id : Int) (K : Sl → World → Prop) (w0 : World) : Prop :=
allocK (.cells (cells yevergreenref10_S v0_s).toArray t_evergreenref10_S) w0 fun a1 w1 =>
JoinP (X := Bool × Unit) (fun R3 =>
gd (v1_id == (0 : Int)) (
R3 (true, ()) w1) (
∃ x4 : yevergreenref10_S.T, At w1 a1 (cells yevergreenref10_S x4) ∧
C_ref10_Length x4 v1_id (fun x5 w3 =>
R3 (decide ((4096 : Int) < x5), ()) w3) w1)) (fun x2 w2 => ∀ _ : Env,
gd x2.1 (
K (⟨none, 0, 0⟩) w2) (
∃ x6 : Sl, At w2 (a1.add 1) (cells .slice x6) ∧
arith .i64 (v1_id - (1 : Int)) fun n7 =>
idxK x6.a x6.len n7 5 fun p8 =>
∃ x9 : yapi_Rule.T, At w2 p8 (cells yapi_Rule x9) ∧
allocK (.cells #[.int .i64 (0 : Int), .int .u8 (0 : Int), .int .i64 (0 : Int), .int .i64 (0 : Int), .int .i64 (0 : Int)] t_api_Rule) w2 fun a10 w4 =>
stK w4 a10 (cells yapi_Rule x9) fun w5 =>
∃ x11 : Int, At w5 (a10.add 0) (cells (.int .i64) x11) ∧
gd (x11 == (1 : Int)) (
∃ x12 : Int, At w5 (a10.add 1) (cells (.int .u8) x12) ∧
allocK (.cells #[.int .u8 x12] t_uint8) w5 fun a13 w6 =>
K (⟨some a13, 1, 1⟩) w6) (
gd (x11 == (2 : Int)) (
∃ x14 : yevergreenref10_S.T, At w5 a1 (cells yevergreenref10_S x14) ∧
∃ x15 : Int, At w5 (a10.add 2) (cells (.int .i64) x15) ∧
C_ref10_Text x14 x15 (fun x16 w7 =>
appK t_uint8 1 1 #[.int .u8 (0 : Int)] none 0 0 (.slice x16.a x16.len x16.cap) x16.len w7 fun s17 w8 =>
∃ x18 : yevergreenref10_S.T, At w8 a1 (cells yevergreenref10_S x18) ∧
∃ x19 : Int, At w8 (a10.add 3) (cells (.int .i64) x19) ∧
C_ref10_Text x18 x19 (fun x20 w9 =>
appK t_uint8 1 1 #[.int .u8 (0 : Int)] s17.a s17.len s17.cap (.slice x20.a x20.len x20.cap) x20.len w9 fun s21 w10 =>
K s21 w10) w8) w5) (
∃ x22 : yevergreenref10_S.T, At w5 a1 (cells yevergreenref10_S x22) ∧
∃ x23 : Int, At w5 (a10.add 2) (cells (.int .i64) x23) ∧
C_ref10_Text x22 x23 (fun x24 w11 =>
LoopP (X := Sl × Int × Unit) (⟨none, 0, 0⟩, (0 : Int), ()) w11 fun next26 x25 w12 => ∀ _ : Env,
∃ x27 : Int, At w12 (a10.add 4) (cells (.int .i64) x27) ∧
gd (decide (x25.2.1 < x27)) (
appK t_uint8 1 1 #[.int .u8 (0 : Int)] x25.1.a x25.1.len x25.1.cap (.slice x24.a x24.len x24.cap) x24.len w12 fun s28 w13 =>
arith .i64 (x25.2.1 + (1 : Int)) fun n29 =>
next26 (s28, n29, ()) w13) (
K x25.1 w12)) w5))))
theorem S_ref10_Text (v0_s : yevergreenref10_S.T) (v1_id : Int) (K : Sl → World → Prop) (w0 : World) (h : F_ref10_Text v0_s v1_id K w0) : C_ref10_Text v0_s v1_id K w0 := by
  have e : denFn P [(2, [(16, .bool)]), (1013, [(6, .slice), (8, .int .i64)])] Try.f24 #[val yevergreenref10_S v0_s, .int .i64 v1_id] .slice K w0 = F_ref10_Text v0_s v1_id K w0 := by kernel_rfl
  exact fn_sound mixed (f := 24) Try.func24 (by kernel_rfl) (e.mpr h)

def F_ref05_Of (v0_text : Sl) (K : yapi_Digest.T → World → Prop) (w0 : World) : Prop :=
allocK (.cells #[.int .u64 (0 : Int), .int .u64 (0 : Int)] t_api_Digest) w0 fun a1 w1 =>
allocK (.cells #[.int .u64 (0 : Int), .int .u64 (0 : Int)] t_api_Digest) w1 fun a2 w2 =>
stK w2 a2 ([.int .u64 (0 : Int), .int .u64 (1 : Int)]) fun w3 =>
arith .i64 ((v0_text.len : Int) - (1 : Int)) fun n3 =>
LoopP (X := Int × Unit) (n3, ()) w3 fun next5 x4 w4 => ∀ _ : Env,
gd (decide ((0 : Int) ≤ x4.1)) (
drawK w4 fun w5 =>
∃ x6 : Int, At w5 (a2.add 0) (cells (.int .u64) x6) ∧
idxK v0_text.a v0_text.len x4.1 1 fun p7 =>
∃ x8 : Int, At w5 p7 (cells (.int .u8) x8) ∧
arith .u64 (x8) fun n9 =>
arith .u64 (n9 + (1 : Int)) fun n10 =>
∃ x11 : Int, At w5 (a2.add 1) (cells (.int .u64) x11) ∧
C_ref05_Mul n10 x11 (fun x12 w6 =>
At w6 (a2.add 0) (cells (.int .u64) x6) ∧
C_ref05_Add x6 x12 (fun x13 w7 =>
stK w7 (a2.add 0) ([.int .u64 x13]) fun w8 =>
∃ x14 : Int, At w8 (a2.add 1) (cells (.int .u64) x14) ∧
C_ref05_Mul x14 (1103515245 : Int) (fun x15 w9 =>
stK w9 (a2.add 1) ([.int .u64 x15]) fun w10 =>
arith .i64 (x4.1 - (1 : Int)) fun n16 =>
next5 (n16, ()) w10) w8) w6) w5) (
∃ x17 : yapi_Digest.T, At w4 a2 (cells yapi_Digest x17) ∧
stK w4 a1 (cells yapi_Digest x17) fun w11 =>
∃ x18 : yapi_Digest.T, At w11 a1 (cells yapi_Digest x18) ∧
K x18 w11)
theorem S_ref05_Of (v0_text : Sl) (K : yapi_Digest.T → World → Prop) (w0 : World) (h : F_ref05_Of v0_text K w0) : C_ref05_Of v0_text K w0 := by
  have e : denFn P [(1003, [(4, .int .i64)])] Try.f25 #[.slice v0_text.a v0_text.len v0_text.cap] yapi_Digest K w0 = F_ref05_Of v0_text K w0 := by kernel_rfl
  exact fn_sound mixed (f := 25) Try.func25 (by kernel_rfl) (e.mpr h)

def F_intern_Store_Weight (v0_s : Option Addr) (v1_id : Int) (K : (yapi_Weight.T × Value) → World → Prop) (w0 : World) : Prop :=
allocK (.cells #[.int .i64 (0 : Int), .int .i64 (0 : Int), .int .i64 (0 : Int), .int .i64 (0 : Int), .int .u64 (0 : Int), .int .u64 (0 : Int)] t_api_Weight) w0 fun a1 w1 =>
gd v0_s.isNone (
stK w1 a1 ([.int .i64 (0 : Int), .int .i64 (0 : Int), .int .i64 (0 : Int), .int .i64 (0 : Int), .int .u64 (0 : Int), .int .u64 (0 : Int)]) fun w2 =>
∃ x2 : yapi_Weight.T, At w2 a1 (cells yapi_Weight x2) ∧
K (x2, .iface t_api_Errno (.int .i64 (5 : Int))) w2) (
C_intern_Store_known v0_s v1_id (fun x3 w3 =>
gd (!x3) (
stK w3 a1 ([.int .i64 (0 : Int), .int .i64 (0 : Int), .int .i64 (0 : Int), .int .i64 (0 : Int), .int .u64 (0 : Int), .int .u64 (0 : Int)]) fun w4 =>
∃ x4 : yapi_Weight.T, At w4 a1 (cells yapi_Weight x4) ∧
K (x4, .iface t_api_Errno (.int .i64 (1 : Int))) w4) (
C_intern_Store_at v0_s v1_id (fun x5 w5 =>
stK w5 a1 ([.int .i64 x5.2.1.1, .int .i64 x5.2.1.2.1, .int .i64 x5.2.1.2.2.1, .int .i64 x5.2.1.2.2.2.1, .int .u64 x5.2.1.2.2.2.2.1, .int .u64 x5.2.1.2.2.2.2.2]) fun w6 =>
∃ x6 : yapi_Weight.T, At w6 a1 (cells yapi_Weight x6) ∧
K (x6, .nilIface) w6) w3)) w1)
theorem S_intern_Store_Weight (v0_s : Option Addr) (v1_id : Int) (K : (yapi_Weight.T × Value) → World → Prop) (w0 : World) (h : F_intern_Store_Weight v0_s v1_id K w0) : C_intern_Store_Weight v0_s v1_id K w0 := by
  have e : denFn P [] Try.f26 #[.pointer v0_s, .int .i64 v1_id] (.tup (.pair yapi_Weight .iface)) K w0 = F_intern_Store_Weight v0_s v1_id K w0 := by kernel_rfl
  exact fn_sound mixed (f := 26) Try.func26 (by kernel_rfl) (e.mpr h)

def F_base_Is (v0_e : Value) (v1_want : Int) (K : Bool → World → Prop) (w0 : World) : Prop :=
C_base_Num v0_e (fun x1 w1 =>
gd (x1 == v1_want) (
K (v1_want != (0 : Int)) w1) (
K false w1)) w0
theorem S_base_Is (v0_e : Value) (v1_want : Int) (K : Bool → World → Prop) (w0 : World) (h : F_base_Is v0_e v1_want K w0) : C_base_Is v0_e v1_want K w0 := by
  have e : denFn P [] Try.f27 #[v0_e, .int .i64 v1_want] .bool K w0 = F_base_Is v0_e v1_want K w0 := by kernel_rfl
  exact fn_sound mixed (f := 27) Try.func27 (by kernel_rfl) (e.mpr h)

def F_law10_do (v0_s : Option Addr) (v1_m : yevergreenref10_S.T) (v2_o : yevergreenlaw10_Op.T) (K : (yevergreenref10_S.T × Bool) → World → Prop) (w0 : World) : Prop :=
allocK (.cells (cells yevergreenref10_S v1_m).toArray t_evergreenref10_S) w0 fun a1 w1 =>
allocK (.cells (cells yevergreenlaw10_Op v2_o).toArray t_evergreenlaw10_Op) w1 fun a2 w2 =>
allocK (.cells #[.int .i64 (0 : Int), .slice none 0 0, .slice none 0 0, .slice none 0 0] t_evergreenref10_S) w2 fun a3 w3 =>
JoinP (X := Int × Int × Value × Int × Unit) (fun R5 =>
∃ x6 : Int, At w3 (a2.add 0) (cells (.int .u8) x6) ∧
(3 : Int) ≠ 0 ∧
letZ (Int.tmod x6 (3 : Int)) fun n7 =>
gd (n7 == (0 : Int)) (
∃ x8 : Int, At w3 (a2.add 1) (cells (.int .u8) x8) ∧
C_intern_Store_Letter v0_s x8 (fun x9 w5 =>
∃ x10 : yevergreenref10_S.T, At w5 a1 (cells yevergreenref10_S x10) ∧
∃ x11 : Int, At w5 (a2.add 1) (cells (.int .u8) x11) ∧
C_ref10_Letter x10 x11 (fun x12 w6 =>
stK w6 a1 (cells yevergreenref10_S x12.1) fun w7 =>
R5 (x9.1, x12.2.1, x9.2, x12.2.2, ()) w7) w5) w3) (
gd (n7 == (1 : Int)) (
∃ x13 : Int, At w3 (a2.add 2) (cells (.int .i64) x13) ∧
∃ x14 : Int, At w3 (a2.add 3) (cells (.int .i64) x14) ∧
C_intern_Store_Pair v0_s x13 x14 (fun x15 w8 =>
∃ x16 : yevergreenref10_S.T, At w8 a1 (cells yevergreenref10_S x16) ∧
∃ x17 : Int, At w8 (a2.add 2) (cells (.int .i64) x17) ∧
∃ x18 : Int, At w8 (a2.add 3) (cells (.int .i64) x18) ∧
C_ref10_Pair x16 x17 x18 (fun x19 w9 =>
stK w9 a1 (cells yevergreenref10_S x19.1) fun w10 =>
R5 (x15.1, x19.2.1, x15.2, x19.2.2, ()) w10) w8) w3) (
∃ x20 : Int, At w3 (a2.add 2) (cells (.int .i64) x20) ∧
∃ x21 : Int, At w3 (a2.add 4) (cells (.int .i64) x21) ∧
C_intern_Store_Power v0_s x20 x21 (fun x22 w11 =>
∃ x23 : yevergreenref10_S.T, At w11 a1 (cells yevergreenref10_S x23) ∧
∃ x24 : Int, At w11 (a2.add 2) (cells (.int .i64) x24) ∧
∃ x25 : Int, At w11 (a2.add 4) (cells (.int .i64) x25) ∧
C_ref10_Power x23 x24 x25 (fun x26 w12 =>
stK w12 a1 (cells yevergreenref10_S x26.1) fun w13 =>
R5 (x22.1, x26.2.1, x22.2, x26.2.2, ()) w13) w11) w3))) (fun x4 w4 => ∀ _ : Env,
drawK w4 fun w14 =>
∃ x27 : yevergreenref10_S.T, At w14 a1 (cells yevergreenref10_S x27) ∧
gd (x4.1 == x4.2.1) (
C_base_Num x4.2.2.1 (fun x28 w15 =>
At w15 a1 (cells yevergreenref10_S x27) ∧
gd (x28 == x4.2.2.2.1) (
∃ x29 : Sl, At w15 (a1.add 1) (cells .slice x29) ∧
C_intern_Store_Len v0_s (fun x30 w16 =>
At w16 (a1.add 1) (cells .slice x29) ∧
At w16 a1 (cells yevergreenref10_S x27) ∧
gd (x30 == (x29.len : Int)) (
∃ x31 : Int, At w16 (a1.add 0) (cells (.int .i64) x31) ∧
∃ x32 : Sl, At w16 (a1.add 1) (cells .slice x32) ∧
arith .i64 (x31 - (x32.len : Int)) fun n33 =>
C_intern_Store_Room v0_s (fun x34 w17 =>
At w17 (a1.add 1) (cells .slice x32) ∧
At w17 (a1.add 0) (cells (.int .i64) x31) ∧
At w17 a1 (cells yevergreenref10_S x27) ∧
stK w17 a3 (cells yevergreenref10_S x27) fun w18 =>
At w18 (a1.add 1) (cells .slice x32) ∧
At w18 (a1.add 0) (cells (.int .i64) x31) ∧
∃ x35 : yevergreenref10_S.T, At w18 a3 (cells yevergreenref10_S x35) ∧
K (x35, x34 == n33) w18) w16) (
stK w16 a3 (cells yevergreenref10_S x27) fun w19 =>
∃ x36 : yevergreenref10_S.T, At w19 a3 (cells yevergreenref10_S x36) ∧
K (x36, false) w19)) w15) (
stK w15 a3 (cells yevergreenref10_S x27) fun w20 =>
∃ x37 : yevergreenref10_S.T, At w20 a3 (cells yevergreenref10_S x37) ∧
K (x37, false) w20)) w14) (
stK w14 a3 (cells yevergreenref10_S x27) fun w21 =>
∃ x38 : yevergreenref10_S.T, At w21 a3 (cells yevergreenref10_S x38) ∧
K (x38, false) w21))
theorem S_law10_do (v0_s : Option Addr) (v1_m : yevergreenref10_S.T) (v2_o : yevergreenlaw10_Op.T) (K : (yevergreenref10_S.T × Bool) → World → Prop) (w0 : World) (h : F_law10_do v0_s v1_m v2_o K w0) : C_law10_do v0_s v1_m v2_o K w0 := by
  have e : denFn P [(13, [(8, .int .i64), (9, .int .i64), (10, .iface), (11, .int .i64)])] Try.f28 #[.pointer v0_s, val yevergreenref10_S v1_m, val yevergreenlaw10_Op v2_o] (.tup (.pair yevergreenref10_S .bool)) K w0 = F_law10_do v0_s v1_m v2_o K w0 := by kernel_rfl
  exact fn_sound mixed (f := 28) Try.func28 (by kernel_rfl) (e.mpr h)

def F_intern_Store_Rule (v0_s : Option Addr) (v1_id : Int) (K : (yapi_Rule.T × Value) → World → Prop) (w0 : World) : Prop :=
allocK (.cells #[.int .i64 (0 : Int), .int .u8 (0 : Int), .int .i64 (0 : Int), .int .i64 (0 : Int), .int .i64 (0 : Int)] t_api_Rule) w0 fun a1 w1 =>
gd v0_s.isNone (
stK w1 a1 ([.int .i64 (0 : Int), .int .u8 (0 : Int), .int .i64 (0 : Int), .int .i64 (0 : Int), .int .i64 (0 : Int)]) fun w2 =>
∃ x2 : yapi_Rule.T, At w2 a1 (cells yapi_Rule x2) ∧
K (x2, .iface t_api_Errno (.int .i64 (5 : Int))) w2) (
JoinP (X := Bool × Unit) (fun R4 =>
gd (v1_id == (0 : Int)) (
R4 (true, ()) w1) (
C_intern_Store_known v0_s v1_id (fun x5 w4 =>
R4 (!x5, ()) w4) w1)) (fun x3 w3 => ∀ _ : Env,
gd x3.1 (
stK w3 a1 ([.int .i64 (0 : Int), .int .u8 (0 : Int), .int .i64 (0 : Int), .int .i64 (0 : Int), .int .i64 (0 : Int)]) fun w5 =>
∃ x6 : yapi_Rule.T, At w5 a1 (cells yapi_Rule x6) ∧
K (x6, .iface t_api_Errno (.int .i64 (1 : Int))) w5) (
nonNil v0_s fun p7 =>
∃ x8 : Sl, At w3 (p7.add 1) (cells .slice x8) ∧
arith .i64 (v1_id - (1 : Int)) fun n9 =>
idxK x8.a x8.len n9 13 fun p10 =>
∃ x11 : yapi_Rule.T, At w3 (p10.add 0) (cells yapi_Rule x11) ∧
stK w3 a1 (cells yapi_Rule x11) fun w6 =>
∃ x12 : yapi_Rule.T, At w6 a1 (cells yapi_Rule x12) ∧
K (x12, .nilIface) w6)))
theorem S_intern_Store_Rule (v0_s : Option Addr) (v1_id : Int) (K : (yapi_Rule.T × Value) → World → Prop) (w0 : World) (h : F_intern_Store_Rule v0_s v1_id K w0) : C_intern_Store_Rule v0_s v1_id K w0 := by
  have e : denFn P [(4, [(17, .bool)])] Try.f29 #[.pointer v0_s, .int .i64 v1_id] (.tup (.pair yapi_Rule .iface)) K w0 = F_intern_Store_Rule v0_s v1_id K w0 := by kernel_rfl
  exact fn_sound mixed (f := 29) Try.func29 (by kernel_rfl) (e.mpr h)

def F_weight_Letter (v0_b : Int) (K : yapi_Weight.T → World → Prop) (w0 : World) : Prop :=
allocK (.cells #[.int .i64 (0 : Int), .int .i64 (0 : Int), .int .i64 (0 : Int), .int .i64 (0 : Int), .int .u64 (0 : Int), .int .u64 (0 : Int)] t_api_Weight) w0 fun a1 w1 =>
gd (v0_b == (10 : Int)) (
C_digest_Letter v0_b (fun x2 w2 =>
stK w2 a1 ([.int .i64 (1 : Int), .int .i64 (1 : Int), .int .i64 (0 : Int), .int .i64 (0 : Int), .int .u64 x2.1, .int .u64 x2.2]) fun w3 =>
∃ x3 : yapi_Weight.T, At w3 a1 (cells yapi_Weight x3) ∧
K x3 w3) w1) (
C_digest_Letter v0_b (fun x4 w4 =>
stK w4 a1 ([.int .i64 (1 : Int), .int .i64 (0 : Int), .int .i64 (1 : Int), .int .i64 (1 : Int), .int .u64 x4.1, .int .u64 x4.2]) fun w5 =>
∃ x5 : yapi_Weight.T, At w5 a1 (cells yapi_Weight x5) ∧
K x5 w5) w1)
theorem S_weight_Letter (v0_b : Int) (K : yapi_Weight.T → World → Prop) (w0 : World) (h : F_weight_Letter v0_b K w0) : C_weight_Letter v0_b K w0 := by
  have e : denFn P [] Try.f30 #[.int .u8 v0_b] yapi_Weight K w0 = F_weight_Letter v0_b K w0 := by kernel_rfl
  exact fn_sound mixed (f := 30) Try.func30 (by kernel_rfl) (e.mpr h)

def F_weight_Join (v0_a : yapi_Weight.T) (v1_b : yapi_Weight.T) (K : (yapi_Weight.T × Value) → World → Prop) (w0 : World) : Prop :=
allocK (.cells (cells yapi_Weight v0_a).toArray t_api_Weight) w0 fun a1 w1 =>
allocK (.cells (cells yapi_Weight v1_b).toArray t_api_Weight) w1 fun a2 w2 =>
allocK (.cells #[.int .i64 (0 : Int), .int .i64 (0 : Int), .int .i64 (0 : Int), .int .i64 (0 : Int), .int .u64 (0 : Int), .int .u64 (0 : Int)] t_api_Weight) w2 fun a3 w3 =>
JoinP (X := Bool × Unit) (fun R5 =>
∃ x6 : yapi_Weight.T, At w3 a1 (cells yapi_Weight x6) ∧
C_weight_Valid x6 (fun x7 w5 =>
gd (!x7) (
R5 (true, ()) w5) (
∃ x8 : yapi_Weight.T, At w5 a2 (cells yapi_Weight x8) ∧
C_weight_Valid x8 (fun x9 w6 =>
R5 (!x9, ()) w6) w5)) w3) (fun x4 w4 => ∀ _ : Env,
gd x4.1 (
stK w4 a3 ([.int .i64 (0 : Int), .int .i64 (0 : Int), .int .i64 (0 : Int), .int .i64 (0 : Int), .int .u64 (0 : Int), .int .u64 (0 : Int)]) fun w7 =>
∃ x10 : yapi_Weight.T, At w7 a3 (cells yapi_Weight x10) ∧
K (x10, .iface t_api_Errno (.int .i64 (4 : Int))) w7) (
∃ x11 : Int, At w4 (a1.add 0) (cells (.int .i64) x11) ∧
∃ x12 : Int, At w4 (a2.add 0) (cells (.int .i64) x12) ∧
C_length_Add x11 x12 (fun x13 w8 =>
nilIfcK x13.2 fun b14 =>
gd (!b14) (
stK w8 a3 ([.int .i64 (0 : Int), .int .i64 (0 : Int), .int .i64 (0 : Int), .int .i64 (0 : Int), .int .u64 (0 : Int), .int .u64 (0 : Int)]) fun w9 =>
∃ x15 : yapi_Weight.T, At w9 a3 (cells yapi_Weight x15) ∧
K (x15, .iface t_api_Errno (.int .i64 (2 : Int))) w9) (
JoinP (X := Addr × Unit) (fun R17 =>
drawK w8 fun w11 =>
∃ x18 : Int, At w11 (a1.add 1) (cells (.int .i64) x18) ∧
∃ x19 : Int, At w11 (a2.add 1) (cells (.int .i64) x19) ∧
arith .i64 (x18 + x19) fun n20 =>
∃ x21 : Int, At w11 (a1.add 2) (cells (.int .i64) x21) ∧
∃ x22 : Int, At w11 (a2.add 3) (cells (.int .i64) x22) ∧
∃ x23 : yapi_Digest.T, At w11 (a1.add 4) (cells yapi_Digest x23) ∧
∃ x24 : yapi_Digest.T, At w11 (a2.add 4) (cells yapi_Digest x24) ∧
(C_digest_Join x23 x24 (fun x25 w12 =>
At w12 (a2.add 3) (cells (.int .i64) x22) ∧
At w12 (a1.add 2) (cells (.int .i64) x21) ∧
At w12 (a2.add 1) (cells (.int .i64) x19) ∧
At w12 (a1.add 1) (cells (.int .i64) x18) ∧
allocK (.cells #[.int .i64 (0 : Int), .int .i64 (0 : Int), .int .i64 (0 : Int), .int .i64 (0 : Int), .int .u64 (0 : Int), .int .u64 (0 : Int)] t_api_Weight) w12 fun a26 w13 =>
At w13 (a2.add 3) (cells (.int .i64) x22) ∧
At w13 (a1.add 2) (cells (.int .i64) x21) ∧
At w13 (a2.add 1) (cells (.int .i64) x19) ∧
At w13 (a1.add 1) (cells (.int .i64) x18) ∧
stK w13 a26 ([.int .i64 x13.1, .int .i64 n20, .int .i64 x21, .int .i64 x22, .int .u64 x25.1, .int .u64 x25.2]) fun w14 =>
R17 (a26, ()) w14) w11) ∧
(allocK (.cells #[.int .i64 (0 : Int), .int .i64 (0 : Int), .int .i64 (0 : Int), .int .i64 (0 : Int), .int .u64 (0 : Int), .int .u64 (0 : Int)] t_api_Weight) w11 fun a27 w15 =>
At w15 (a2.add 4) (cells yapi_Digest x24) ∧
At w15 (a1.add 4) (cells yapi_Digest x23) ∧
At w15 (a2.add 3) (cells (.int .i64) x22) ∧
At w15 (a1.add 2) (cells (.int .i64) x21) ∧
At w15 (a2.add 1) (cells (.int .i64) x19) ∧
At w15 (a1.add 1) (cells (.int .i64) x18) ∧
C_digest_Join x23 x24 (fun x28 w16 =>
At w16 (a2.add 3) (cells (.int .i64) x22) ∧
At w16 (a1.add 2) (cells (.int .i64) x21) ∧
At w16 (a2.add 1) (cells (.int .i64) x19) ∧
At w16 (a1.add 1) (cells (.int .i64) x18) ∧
stK w16 a27 ([.int .i64 x13.1, .int .i64 n20, .int .i64 x21, .int .i64 x22, .int .u64 x28.1, .int .u64 x28.2]) fun w17 =>
R17 (a27, ()) w17) w15)) (fun x16 w10 => ∀ _ : Env,
JoinP (X := Unit) (fun R30 =>
∃ x31 : Int, At w10 (a1.add 1) (cells (.int .i64) x31) ∧
gd (x31 == (0 : Int)) (
∃ x32 : Int, At w10 (a1.add 0) (cells (.int .i64) x32) ∧
∃ x33 : Int, At w10 (a2.add 2) (cells (.int .i64) x33) ∧
arith .i64 (x32 + x33) fun n34 =>
stK w10 (x16.1.add 2) ([.int .i64 n34]) fun w19 =>
R30 () w19) (
R30 () w10)) (fun x29 w18 => ∀ _ : Env,
JoinP (X := Unit) (fun R36 =>
∃ x37 : Int, At w18 (a2.add 1) (cells (.int .i64) x37) ∧
gd (x37 == (0 : Int)) (
∃ x38 : Int, At w18 (a2.add 0) (cells (.int .i64) x38) ∧
∃ x39 : Int, At w18 (a1.add 3) (cells (.int .i64) x39) ∧
arith .i64 (x38 + x39) fun n40 =>
stK w18 (x16.1.add 3) ([.int .i64 n40]) fun w21 =>
R36 () w21) (
R36 () w18)) (fun x35 w20 => ∀ _ : Env,
∃ x41 : yapi_Weight.T, At w20 x16.1 (cells yapi_Weight x41) ∧
stK w20 a3 (cells yapi_Weight x41) fun w22 =>
∃ x42 : yapi_Weight.T, At w22 a3 (cells yapi_Weight x42) ∧
K (x42, .nilIface) w22))))) w4))
theorem S_weight_Join (v0_a : yapi_Weight.T) (v1_b : yapi_Weight.T) (K : (yapi_Weight.T × Value) → World → Prop) (w0 : World) (h : F_weight_Join v0_a v1_b K w0) : C_weight_Join v0_a v1_b K w0 := by
  have e : denFn P [(2, [(16, .bool)]), (7, [(8, .addr)]), (9, []), (11, [])] Try.f31 #[val yapi_Weight v0_a, val yapi_Weight v1_b] (.tup (.pair yapi_Weight .iface)) K w0 = F_weight_Join v0_a v1_b K w0 := by kernel_rfl
  exact fn_sound mixed (f := 31) Try.func31 (by kernel_rfl) (e.mpr h)

def F_weight_Repeat (v0_w : yapi_Weight.T) (v1_k : Int) (K : (yapi_Weight.T × Value) → World → Prop) (w0 : World) : Prop :=
allocK (.cells (cells yapi_Weight v0_w).toArray t_api_Weight) w0 fun a1 w1 =>
allocK (.cells #[.int .i64 (0 : Int), .int .i64 (0 : Int), .int .i64 (0 : Int), .int .i64 (0 : Int), .int .u64 (0 : Int), .int .u64 (0 : Int)] t_api_Weight) w1 fun a2 w2 =>
∃ x3 : yapi_Weight.T, At w2 a1 (cells yapi_Weight x3) ∧
C_weight_Valid x3 (fun x4 w3 =>
gd (!x4) (
stK w3 a2 ([.int .i64 (0 : Int), .int .i64 (0 : Int), .int .i64 (0 : Int), .int .i64 (0 : Int), .int .u64 (0 : Int), .int .u64 (0 : Int)]) fun w4 =>
∃ x5 : yapi_Weight.T, At w4 a2 (cells yapi_Weight x5) ∧
K (x5, .iface t_api_Errno (.int .i64 (4 : Int))) w4) (
gd (decide (v1_k < (0 : Int))) (
stK w3 a2 ([.int .i64 (0 : Int), .int .i64 (0 : Int), .int .i64 (0 : Int), .int .i64 (0 : Int), .int .u64 (0 : Int), .int .u64 (0 : Int)]) fun w5 =>
∃ x6 : yapi_Weight.T, At w5 a2 (cells yapi_Weight x6) ∧
K (x6, .iface t_api_Errno (.int .i64 (1 : Int))) w5) (
∃ x7 : Int, At w3 (a1.add 0) (cells (.int .i64) x7) ∧
C_length_Mul x7 v1_k (fun x8 w6 =>
nilIfcK x8.2 fun b9 =>
gd (!b9) (
stK w6 a2 ([.int .i64 (0 : Int), .int .i64 (0 : Int), .int .i64 (0 : Int), .int .i64 (0 : Int), .int .u64 (0 : Int), .int .u64 (0 : Int)]) fun w7 =>
∃ x10 : yapi_Weight.T, At w7 a2 (cells yapi_Weight x10) ∧
K (x10, .iface t_api_Errno (.int .i64 (2 : Int))) w7) (
gd (x8.1 == (0 : Int)) (
C_weight_Unit  (fun x11 w8 =>
stK w8 a2 (cells yapi_Weight x11) fun w9 =>
∃ x12 : yapi_Weight.T, At w9 a2 (cells yapi_Weight x12) ∧
K (x12, .nilIface) w9) w6) (
JoinP (X := Addr × Unit) (fun R14 =>
drawK w6 fun w11 =>
∃ x15 : Int, At w11 (a1.add 1) (cells (.int .i64) x15) ∧
arith .i64 (x15 * v1_k) fun n16 =>
∃ x17 : Int, At w11 (a1.add 2) (cells (.int .i64) x17) ∧
∃ x18 : Int, At w11 (a1.add 3) (cells (.int .i64) x18) ∧
∃ x19 : yapi_Digest.T, At w11 (a1.add 4) (cells yapi_Digest x19) ∧
(C_digest_Repeat x19 v1_k (fun x20 w12 =>
At w12 (a1.add 3) (cells (.int .i64) x18) ∧
At w12 (a1.add 2) (cells (.int .i64) x17) ∧
At w12 (a1.add 1) (cells (.int .i64) x15) ∧
allocK (.cells #[.int .i64 (0 : Int), .int .i64 (0 : Int), .int .i64 (0 : Int), .int .i64 (0 : Int), .int .u64 (0 : Int), .int .u64 (0 : Int)] t_api_Weight) w12 fun a21 w13 =>
At w13 (a1.add 3) (cells (.int .i64) x18) ∧
At w13 (a1.add 2) (cells (.int .i64) x17) ∧
At w13 (a1.add 1) (cells (.int .i64) x15) ∧
stK w13 a21 ([.int .i64 x8.1, .int .i64 n16, .int .i64 x17, .int .i64 x18, .int .u64 x20.1, .int .u64 x20.2]) fun w14 =>
R14 (a21, ()) w14) w11) ∧
(allocK (.cells #[.int .i64 (0 : Int), .int .i64 (0 : Int), .int .i64 (0 : Int), .int .i64 (0 : Int), .int .u64 (0 : Int), .int .u64 (0 : Int)] t_api_Weight) w11 fun a22 w15 =>
At w15 (a1.add 4) (cells yapi_Digest x19) ∧
At w15 (a1.add 3) (cells (.int .i64) x18) ∧
At w15 (a1.add 2) (cells (.int .i64) x17) ∧
At w15 (a1.add 1) (cells (.int .i64) x15) ∧
C_digest_Repeat x19 v1_k (fun x23 w16 =>
At w16 (a1.add 3) (cells (.int .i64) x18) ∧
At w16 (a1.add 2) (cells (.int .i64) x17) ∧
At w16 (a1.add 1) (cells (.int .i64) x15) ∧
stK w16 a22 ([.int .i64 x8.1, .int .i64 n16, .int .i64 x17, .int .i64 x18, .int .u64 x23.1, .int .u64 x23.2]) fun w17 =>
R14 (a22, ()) w17) w15)) (fun x13 w10 => ∀ _ : Env,
JoinP (X := Unit) (fun R25 =>
∃ x26 : Int, At w10 (a1.add 1) (cells (.int .i64) x26) ∧
gd (x26 == (0 : Int)) (
stK w10 (x13.1.add 2) ([.int .i64 x8.1]) fun w19 =>
stK w19 (x13.1.add 3) ([.int .i64 x8.1]) fun w20 =>
R25 () w20) (
R25 () w10)) (fun x24 w18 => ∀ _ : Env,
∃ x27 : yapi_Weight.T, At w18 x13.1 (cells yapi_Weight x27) ∧
stK w18 a2 (cells yapi_Weight x27) fun w21 =>
∃ x28 : yapi_Weight.T, At w21 a2 (cells yapi_Weight x28) ∧
K (x28, .nilIface) w21))))) w3))) w2
theorem S_weight_Repeat (v0_w : yapi_Weight.T) (v1_k : Int) (K : (yapi_Weight.T × Value) → World → Prop) (w0 : World) (h : F_weight_Repeat v0_w v1_k K w0) : C_weight_Repeat v0_w v1_k K w0 := by
  have e : denFn P [(11, [(8, .addr)]), (13, [])] Try.f32 #[val yapi_Weight v0_w, .int .i64 v1_k] (.tup (.pair yapi_Weight .iface)) K w0 = F_weight_Repeat v0_w v1_k K w0 := by kernel_rfl
  exact fn_sound mixed (f := 32) Try.func32 (by kernel_rfl) (e.mpr h)

def F_intern_Store_Depth (v0_s : Option Addr) (v1_id : Int) (K : (Int × Value) → World → Prop) (w0 : World) : Prop :=
gd v0_s.isNone (
K ((0 : Int), .iface t_api_Errno (.int .i64 (5 : Int))) w0) (
C_intern_Store_known v0_s v1_id (fun x1 w1 =>
gd (!x1) (
K ((0 : Int), .iface t_api_Errno (.int .i64 (1 : Int))) w1) (
C_intern_Store_at v0_s v1_id (fun x2 w2 =>
K (x2.2.2.1, .nilIface) w2) w1)) w0)
theorem S_intern_Store_Depth (v0_s : Option Addr) (v1_id : Int) (K : (Int × Value) → World → Prop) (w0 : World) (h : F_intern_Store_Depth v0_s v1_id K w0) : C_intern_Store_Depth v0_s v1_id K w0 := by
  have e : denFn P [] Try.f33 #[.pointer v0_s, .int .i64 v1_id] (.tup (.pair (.int .i64) .iface)) K w0 = F_intern_Store_Depth v0_s v1_id K w0 := by kernel_rfl
  exact fn_sound mixed (f := 33) Try.func33 (by kernel_rfl) (e.mpr h)

def F_intern_Store_Find (v0_s : Option Addr) (v1_r : yapi_Rule.T) (K : (Int × Bool) → World → Prop) (w0 : World) : Prop :=
allocK (.cells (cells yapi_Rule v1_r).toArray t_api_Rule) w0 fun a1 w1 =>
gd v0_s.isNone (
K ((0 : Int), false) w1) (
drawK w1 fun w2 =>
nonNil v0_s fun p2 =>
∃ x3 : Option Nat, At w2 (p2.add 2) (cells .map x3) ∧
∃ x4 : yapi_Rule.T, At w2 a1 (cells yapi_Rule x4) ∧
∃ (x5 : Int) (b6 : Bool), Lk2 P t_map_api_Rule_api_ID (.int .i64) (.map x3) (val yapi_Rule x4) x5 b6 w2 ∧
K (x5, b6) w2)
theorem S_intern_Store_Find (v0_s : Option Addr) (v1_r : yapi_Rule.T) (K : (Int × Bool) → World → Prop) (w0 : World) (h : F_intern_Store_Find v0_s v1_r K w0) : C_intern_Store_Find v0_s v1_r K w0 := by
  have e : denFn P [] Try.f34 #[.pointer v0_s, val yapi_Rule v1_r] (.tup (.pair (.int .i64) .bool)) K w0 = F_intern_Store_Find v0_s v1_r K w0 := by kernel_rfl
  exact fn_sound mixed (f := 34) Try.func34 (by kernel_rfl) (e.mpr h)

def F_ref10_Find (v0_s : yevergreenref10_S.T) (v1_r : yapi_Rule.T) (K : Int → World → Prop) (w0 : World) : Prop :=
allocK (.cells (cells yevergreenref10_S v0_s).toArray t_evergreenref10_S) w0 fun a1 w1 =>
allocK (.cells (cells yapi_Rule v1_r).toArray t_api_Rule) w1 fun a2 w2 =>
∃ x3 : Sl, At w2 (a1.add 1) (cells .slice x3) ∧
LoopP (X := Int × Unit) ((0 : Int), ()) w2 fun next5 x4 w3 => ∀ _ : Env,
gd (decide (x4.1 < (x3.len : Int))) (
drawK w3 fun w4 =>
∃ x6 : Sl, At w4 (a1.add 1) (cells .slice x6) ∧
idxK x6.a x6.len x4.1 5 fun p7 =>
∃ x8 : yapi_Rule.T, At w4 p7 (cells yapi_Rule x8) ∧
∃ x9 : yapi_Rule.T, At w4 a2 (cells yapi_Rule x9) ∧
testK P (do eqGuard .eql t_api_Rule (.tmp 16) (.tmp 17) (val yapi_Rule x8) (val yapi_Rule x9); binOp .eql t_api_Rule (val yapi_Rule x8) (val yapi_Rule x9)) fun b10 =>
gd b10 (
arith .i64 (x4.1 + (1 : Int)) fun n11 =>
K n11 w4) (
arith .i64 (x4.1 + (1 : Int)) fun n12 =>
next5 (n12, ()) w4)) (
K (0 : Int) w3)
theorem S_ref10_Find (v0_s : yevergreenref10_S.T) (v1_r : yapi_Rule.T) (K : Int → World → Prop) (w0 : World) (h : F_ref10_Find v0_s v1_r K w0) : C_ref10_Find v0_s v1_r K w0 := by
  have e : denFn P [(1002, [(9, .int .i64)])] Try.f35 #[val yevergreenref10_S v0_s, val yapi_Rule v1_r] (.int .i64) K w0 = F_ref10_Find v0_s v1_r K w0 := by kernel_rfl
  exact fn_sound mixed (f := 35) Try.func35 (by kernel_rfl) (e.mpr h)

end Go.Proofs.Ytddhndabnbckmaa

/- The typed texts of the functions, printed by a program; each proved to imply the call. -/
set_option linter.unusedVariables false
set_option maxRecDepth 100000
set_option maxHeartbeats 4000000
namespace Go.Proofs.Ytddhndabnbckmaa
open Go.Den

def F_ref10_Unknown (v0_s : yevergreenref10_S.T) (v1_id : Int) (K : Bool → World → Prop) (w0 : World) : Prop :=
allocK (.cells (cells yevergreenref10_S v0_s).toArray t_evergreenref10_S) w0 fun a1 w1 =>
gd (decide (v1_id < (0 : Int))) (
K true w1) (
∃ x2 : Sl, At w1 (a1.add 1) (cells .slice x2) ∧
K (decide ((x2.len : Int) < v1_id)) w1)
theorem S_ref10_Unknown (v0_s : yevergreenref10_S.T) (v1_id : Int) (K : Bool → World → Prop) (w0 : World) (h : F_ref10_Unknown v0_s v1_id K w0) : C_ref10_Unknown v0_s v1_id K w0 := by
  have e : denFn P [] Try.f36 #[val yevergreenref10_S v0_s, .int .i64 v1_id] .bool K w0 = F_ref10_Unknown v0_s v1_id K w0 := by kernel_rfl
  exact fn_sound mixed (f := 36) Try.func36 (by kernel_rfl) (e.mpr h)

def F_intern_Store_Import (v0_s : Option Addr) (v1_list : Sl) (K : (Int × Value) → World → Prop) (w0 : World) : Prop :=
gd v0_s.isNone (
K ((0 : Int), .iface t_api_Errno (.int .i64 (5 : Int))) w0) (
LoopP (X := Int × Unit) ((0 : Int), ()) w0 fun next2 x1 w1 => ∀ _ : Env,
gd (decide (x1.1 < (v1_list.len : Int))) (
idxK v1_list.a v1_list.len x1.1 5 fun p3 =>
∃ x4 : yapi_Rule.T, At w1 p3 (cells yapi_Rule x4) ∧
allocK (.cells #[.int .i64 (0 : Int), .int .u8 (0 : Int), .int .i64 (0 : Int), .int .i64 (0 : Int), .int .i64 (0 : Int)] t_api_Rule) w1 fun a5 w2 =>
stK w2 a5 (cells yapi_Rule x4) fun w3 =>
∃ x6 : yapi_Rule.T, At w3 a5 (cells yapi_Rule x6) ∧
arith .i64 (x1.1 + (1 : Int)) fun n7 =>
C_rule_Check x6 n7 (fun x8 w4 =>
nilIfcK x8 fun b9 =>
gd (!b9) (
K ((0 : Int), x8) w4) (
arith .i64 (x1.1 + (1 : Int)) fun n10 =>
next2 (n10, ()) w4)) w3) (
arith .i64 ((v1_list.len : Int) + (1 : Int)) fun n11 =>
0 ≤ n11 ∧ n11 ≤ n11 ∧ n11 ≤ 9223372036854775807 ∧ 8 * n11 ≤ 281474976710656 ∧
allocK (.cells (zrow #[.int .i64 (0 : Int)] (n11.toNat * 1)) t_api_ID) w1 fun a12 w5 =>
LoopP (X := Int × Unit) ((0 : Int), ()) w5 fun next14 x13 w6 => ∀ _ : Env,
gd (decide (x13.1 < (v1_list.len : Int))) (
idxK v1_list.a v1_list.len x13.1 5 fun p15 =>
∃ x16 : yapi_Rule.T, At w6 p15 (cells yapi_Rule x16) ∧
allocK (.cells #[.int .i64 (0 : Int), .int .u8 (0 : Int), .int .i64 (0 : Int), .int .i64 (0 : Int), .int .i64 (0 : Int)] t_api_Rule) w6 fun a17 w7 =>
stK w7 a17 (cells yapi_Rule x16) fun w8 =>
∃ x18 : yapi_Rule.T, At w8 a17 (cells yapi_Rule x18) ∧
C_intern_Store_put v0_s x18 (⟨some a12, n11.toNat, n11.toNat⟩) (fun x19 w9 =>
nilIfcK x19.2 fun b20 =>
gd (!b20) (
K ((0 : Int), x19.2) w9) (
arith .i64 (x13.1 + (1 : Int)) fun n21 =>
idxK (some a12) n11.toNat n21 1 fun p22 =>
stK w9 p22 ([.int .i64 x19.1]) fun w10 =>
arith .i64 (x13.1 + (1 : Int)) fun n23 =>
next14 (n23, ()) w10)) w8) (
idxK (some a12) n11.toNat (v1_list.len : Int) 1 fun p24 =>
∃ x25 : Int, At w6 p24 (cells (.int .i64) x25) ∧
K (x25, .nilIface) w6)))
theorem S_intern_Store_Import (v0_s : Option Addr) (v1_list : Sl) (K : (Int × Value) → World → Prop) (w0 : World) (h : F_intern_Store_Import v0_s v1_list K w0) : C_intern_Store_Import v0_s v1_list K w0 := by
  have e : denFn P [(1004, [(19, .int .i64)]), (1012, [(38, .int .i64)])] Try.f37 #[.pointer v0_s, .slice v1_list.a v1_list.len v1_list.cap] (.tup (.pair (.int .i64) .iface)) K w0 = F_intern_Store_Import v0_s v1_list K w0 := by kernel_rfl
  exact fn_sound mixed (f := 37) Try.func37 (by kernel_rfl) (e.mpr h)

def F_ref10_Import (v0_s : yevergreenref10_S.T) (v1_list : Sl) (K : (yevergreenref10_S.T × Int × Int) → World → Prop) (w0 : World) : Prop :=
allocK (.cells (cells yevergreenref10_S v0_s).toArray t_evergreenref10_S) w0 fun a1 w1 =>
allocK (.cells #[.int .i64 (0 : Int), .slice none 0 0, .slice none 0 0, .slice none 0 0] t_evergreenref10_S) w1 fun a2 w2 =>
LoopP (X := Int × Unit) ((0 : Int), ()) w2 fun next4 x3 w3 => ∀ _ : Env,
gd (decide (x3.1 < (v1_list.len : Int))) (
idxK v1_list.a v1_list.len x3.1 5 fun p5 =>
∃ x6 : yapi_Rule.T, At w3 p5 (cells yapi_Rule x6) ∧
arith .i64 (x3.1 + (1 : Int)) fun n7 =>
C_ref10_Check x6 n7 (fun x8 w4 =>
gd (x8 != (0 : Int)) (
∃ x9 : yevergreenref10_S.T, At w4 a1 (cells yevergreenref10_S x9) ∧
stK w4 a2 (cells yevergreenref10_S x9) fun w5 =>
∃ x10 : yevergreenref10_S.T, At w5 a2 (cells yevergreenref10_S x10) ∧
K (x10, (0 : Int), x8) w5) (
arith .i64 (x3.1 + (1 : Int)) fun n11 =>
next4 (n11, ()) w4)) w3) (
allocK (.cells #[.int .i64 (0 : Int)] t_api_ID) w3 fun a12 w6 =>
LoopP (X := Sl × Int × Unit) (⟨some a12, 1, 1⟩, (0 : Int), ()) w6 fun next14 x13 w7 => ∀ _ : Env,
gd (decide (x13.2.1 < (v1_list.len : Int))) (
idxK v1_list.a v1_list.len x13.2.1 5 fun p15 =>
∃ x16 : yapi_Rule.T, At w7 p15 (cells yapi_Rule x16) ∧
allocK (.cells #[.int .i64 (0 : Int), .int .u8 (0 : Int), .int .i64 (0 : Int), .int .i64 (0 : Int), .int .i64 (0 : Int)] t_api_Rule) w7 fun a17 w8 =>
stK w8 a17 (cells yapi_Rule x16) fun w9 =>
JoinP (X := Int × Int × Unit) (fun R19 =>
∃ x20 : Int, At w9 (a17.add 0) (cells (.int .i64) x20) ∧
gd (x20 == (1 : Int)) (
∃ x21 : yevergreenref10_S.T, At w9 a1 (cells yevergreenref10_S x21) ∧
∃ x22 : Int, At w9 (a17.add 1) (cells (.int .u8) x22) ∧
C_ref10_Letter x21 x22 (fun x23 w11 =>
stK w11 a1 (cells yevergreenref10_S x23.1) fun w12 =>
R19 (x23.2.1, x23.2.2, ()) w12) w9) (
gd (x20 == (2 : Int)) (
drawK w9 fun w13 =>
∃ x24 : yevergreenref10_S.T, At w13 a1 (cells yevergreenref10_S x24) ∧
∃ x25 : Int, At w13 (a17.add 2) (cells (.int .i64) x25) ∧
idxK x13.1.a x13.1.len x25 1 fun p26 =>
∃ x27 : Int, At w13 p26 (cells (.int .i64) x27) ∧
∃ x28 : Int, At w13 (a17.add 3) (cells (.int .i64) x28) ∧
idxK x13.1.a x13.1.len x28 1 fun p29 =>
∃ x30 : Int, At w13 p29 (cells (.int .i64) x30) ∧
C_ref10_Pair x24 x27 x30 (fun x31 w14 =>
stK w14 a1 (cells yevergreenref10_S x31.1) fun w15 =>
R19 (x31.2.1, x31.2.2, ()) w15) w13) (
drawK w9 fun w16 =>
∃ x32 : yevergreenref10_S.T, At w16 a1 (cells yevergreenref10_S x32) ∧
∃ x33 : Int, At w16 (a17.add 2) (cells (.int .i64) x33) ∧
idxK x13.1.a x13.1.len x33 1 fun p34 =>
∃ x35 : Int, At w16 p34 (cells (.int .i64) x35) ∧
∃ x36 : Int, At w16 (a17.add 4) (cells (.int .i64) x36) ∧
C_ref10_Power x32 x35 x36 (fun x37 w17 =>
stK w17 a1 (cells yevergreenref10_S x37.1) fun w18 =>
R19 (x37.2.1, x37.2.2, ()) w18) w16))) (fun x18 w10 => ∀ _ : Env,
gd (x18.2.1 != (0 : Int)) (
∃ x38 : yevergreenref10_S.T, At w10 a1 (cells yevergreenref10_S x38) ∧
stK w10 a2 (cells yevergreenref10_S x38) fun w19 =>
∃ x39 : yevergreenref10_S.T, At w19 a2 (cells yevergreenref10_S x39) ∧
K (x39, (0 : Int), x18.2.1) w19) (
allocK (.cells #[.int .i64 x18.1] t_api_ID) w10 fun a40 w20 =>
appK t_api_ID 1 8 #[.int .i64 (0 : Int)] x13.1.a x13.1.len x13.1.cap (.slice (some a40) 1 1) 1 w20 fun s41 w21 =>
arith .i64 (x13.2.1 + (1 : Int)) fun n42 =>
next14 (s41, n42, ()) w21))) (
drawK w7 fun w22 =>
∃ x43 : yevergreenref10_S.T, At w22 a1 (cells yevergreenref10_S x43) ∧
arith .i64 ((x13.1.len : Int) - (1 : Int)) fun n44 =>
idxK x13.1.a x13.1.len n44 1 fun p45 =>
∃ x46 : Int, At w22 p45 (cells (.int .i64) x46) ∧
stK w22 a2 (cells yevergreenref10_S x43) fun w23 =>
At w23 p45 (cells (.int .i64) x46) ∧
∃ x47 : yevergreenref10_S.T, At w23 a2 (cells yevergreenref10_S x47) ∧
K (x47, x46, (0 : Int)) w23))
theorem S_ref10_Import (v0_s : yevergreenref10_S.T) (v1_list : Sl) (K : (yevergreenref10_S.T × Int × Int) → World → Prop) (w0 : World) (h : F_ref10_Import v0_s v1_list K w0) : C_ref10_Import v0_s v1_list K w0 := by
  have e : denFn P [(1002, [(16, .int .i64)]), (1010, [(9, .slice), (34, .int .i64)]), (20, [(12, .int .i64), (13, .int .i64)])] Try.f38 #[val yevergreenref10_S v0_s, .slice v1_list.a v1_list.len v1_list.cap] (.tup (.pair yevergreenref10_S (.pair (.int .i64) (.int .i64)))) K w0 = F_ref10_Import v0_s v1_list K w0 := by kernel_rfl
  exact fn_sound mixed (f := 38) Try.func38 (by kernel_rfl) (e.mpr h)

def F_ref10_Same (v0_a : Sl) (v1_b : Sl) (K : Bool → World → Prop) (w0 : World) : Prop :=
gd ((v0_a.len : Int) != (v1_b.len : Int)) (
K false w0) (
LoopP (X := Int × Unit) ((0 : Int), ()) w0 fun next2 x1 w1 => ∀ _ : Env,
gd (decide (x1.1 < (v0_a.len : Int))) (
drawK w1 fun w2 =>
idxK v0_a.a v0_a.len x1.1 5 fun p3 =>
∃ x4 : yapi_Rule.T, At w2 p3 (cells yapi_Rule x4) ∧
idxK v1_b.a v1_b.len x1.1 5 fun p5 =>
∃ x6 : yapi_Rule.T, At w2 p5 (cells yapi_Rule x6) ∧
testK P (do eqGuard .neq t_api_Rule (.tmp 19) (.tmp 23) (val yapi_Rule x4) (val yapi_Rule x6); binOp .neq t_api_Rule (val yapi_Rule x4) (val yapi_Rule x6)) fun b7 =>
gd b7 (
K false w2) (
arith .i64 (x1.1 + (1 : Int)) fun n8 =>
next2 (n8, ()) w2)) (
K true w1))
theorem S_ref10_Same (v0_a : Sl) (v1_b : Sl) (K : Bool → World → Prop) (w0 : World) (h : F_ref10_Same v0_a v1_b K w0) : C_ref10_Same v0_a v1_b K w0 := by
  have e : denFn P [(1004, [(13, .int .i64)])] Try.f39 #[.slice v0_a.a v0_a.len v0_a.cap, .slice v1_b.a v1_b.len v1_b.cap] .bool K w0 = F_ref10_Same v0_a v1_b K w0 := by kernel_rfl
  exact fn_sound mixed (f := 39) Try.func39 (by kernel_rfl) (e.mpr h)

def F_intern_Store_Export (v0_s : Option Addr) (v1_id : Int) (K : (Sl × Value) → World → Prop) (w0 : World) : Prop :=
gd v0_s.isNone (
K (⟨none, 0, 0⟩, .iface t_api_Errno (.int .i64 (5 : Int))) w0) (
C_intern_Store_known v0_s v1_id (fun x1 w1 =>
gd (!x1) (
K (⟨none, 0, 0⟩, .iface t_api_Errno (.int .i64 (1 : Int))) w1) (
C_intern_Store_reach v0_s v1_id (fun x2 w2 =>
allocK (.map #[] 0) w2 fun a3 w3 =>
0 ≤ (0 : Int) ∧ (0 : Int) ≤ (x2.len : Int) ∧ (x2.len : Int) ≤ 9223372036854775807 ∧ 40 * (x2.len : Int) ≤ 281474976710656 ∧
allocK (.cells (zrow #[.int .i64 (0 : Int), .int .u8 (0 : Int), .int .i64 (0 : Int), .int .i64 (0 : Int), .int .i64 (0 : Int)] ((x2.len : Int).toNat * 5)) t_api_Rule) w3 fun a4 w4 =>
LoopP (X := Sl × Int × Unit) (⟨some a4, (0 : Int).toNat, (x2.len : Int).toNat⟩, (0 : Int), ()) w4 fun next6 x5 w5 => ∀ _ : Env,
gd (decide (x5.2.1 < (x2.len : Int))) (
idxK x2.a x2.len x5.2.1 1 fun p7 =>
∃ x8 : Int, At w5 p7 (cells (.int .i64) x8) ∧
arith .i64 (x5.2.1 + (1 : Int)) fun n9 =>
runU P (Instr.mapUpdate t_map_api_ID_api_ID (.map (some a3.block)) (.int .i64 x8) (.int .i64 n9)) w5 fun w6 =>
nonNil v0_s fun p10 =>
∃ x11 : Sl, At w6 (p10.add 1) (cells .slice x11) ∧
arith .i64 (x8 - (1 : Int)) fun n12 =>
idxK x11.a x11.len n12 13 fun p13 =>
∃ x14 : yapi_Rule.T, At w6 (p13.add 0) (cells yapi_Rule x14) ∧
allocK (.cells #[.int .i64 (0 : Int), .int .u8 (0 : Int), .int .i64 (0 : Int), .int .i64 (0 : Int), .int .i64 (0 : Int)] t_api_Rule) w6 fun a15 w7 =>
stK w7 a15 (cells yapi_Rule x14) fun w8 =>
drawK w8 fun w9 =>
∃ x16 : Int, At w9 (a15.add 2) (cells (.int .i64) x16) ∧
∃ x17 : Int, Lk1 P t_map_api_ID_api_ID (.int .i64) (.map (some a3.block)) (.int .i64 x16) x17 w9 ∧
∃ x18 : Int, At w9 (a15.add 3) (cells (.int .i64) x18) ∧
∃ x19 : Int, Lk1 P t_map_api_ID_api_ID (.int .i64) (.map (some a3.block)) (.int .i64 x18) x19 w9 ∧
stK w9 (a15.add 2) ([.int .i64 x17]) fun w10 =>
Lk1 P t_map_api_ID_api_ID (.int .i64) (.map (some a3.block)) (.int .i64 x18) x19 w10 ∧
stK w10 (a15.add 3) ([.int .i64 x19]) fun w11 =>
∃ x20 : yapi_Rule.T, At w11 a15 (cells yapi_Rule x20) ∧
allocK (.cells (cells yapi_Rule x20).toArray t_api_Rule) w11 fun a21 w12 =>
appK t_api_Rule 5 40 #[.int .i64 (0 : Int), .int .u8 (0 : Int), .int .i64 (0 : Int), .int .i64 (0 : Int), .int .i64 (0 : Int)] x5.1.a x5.1.len x5.1.cap (.slice (some a21) 1 1) 1 w12 fun s22 w13 =>
arith .i64 (x5.2.1 + (1 : Int)) fun n23 =>
next6 (s22, n23, ()) w13) (
K (x5.1, .nilIface) w5)) w1)) w0)
theorem S_intern_Store_Export (v0_s : Option Addr) (v1_id : Int) (K : (Sl × Value) → World → Prop) (w0 : World) (h : F_intern_Store_Export v0_s v1_id K w0) : C_intern_Store_Export v0_s v1_id K w0 := by
  have e : denFn P [(1009, [(8, .slice), (31, .int .i64)])] Try.f40 #[.pointer v0_s, .int .i64 v1_id] (.tup (.pair .slice .iface)) K w0 = F_intern_Store_Export v0_s v1_id K w0 := by kernel_rfl
  exact fn_sound mixed (f := 40) Try.func40 (by kernel_rfl) (e.mpr h)

def F_ref10_Export (v0_s : yevergreenref10_S.T) (v1_id : Int) (K : Sl → World → Prop) (w0 : World) : Prop :=
allocK (.cells (cells yevergreenref10_S v0_s).toArray t_evergreenref10_S) w0 fun a1 w1 =>
∃ x2 : yevergreenref10_S.T, At w1 a1 (cells yevergreenref10_S x2) ∧
C_ref10_Reached x2 v1_id (fun x3 w2 =>
∃ x4 : Sl, At w2 (a1.add 1) (cells .slice x4) ∧
arith .i64 ((x4.len : Int) + (1 : Int)) fun n5 =>
0 ≤ n5 ∧ n5 ≤ n5 ∧ n5 ≤ 9223372036854775807 ∧ 8 * n5 ≤ 281474976710656 ∧
allocK (.cells (zrow #[.int .i64 (0 : Int)] (n5.toNat * 1)) t_api_ID) w2 fun a6 w3 =>
LoopP (X := Sl × Int × Unit) (⟨none, 0, 0⟩, (1 : Int), ()) w3 fun next8 x7 w4 => ∀ _ : Env,
gd (decide (x7.2.1 < (x3.len : Int))) (
JoinP (X := Sl × Unit) (fun R10 =>
idxK x3.a x3.len x7.2.1 1 fun p11 =>
∃ x12 : Bool, At w4 p11 (cells .bool x12) ∧
gd (!x12) (
R10 (x7.1, ()) w4) (
∃ x13 : Sl, At w4 (a1.add 1) (cells .slice x13) ∧
arith .i64 (x7.2.1 - (1 : Int)) fun n14 =>
idxK x13.a x13.len n14 5 fun p15 =>
∃ x16 : yapi_Rule.T, At w4 p15 (cells yapi_Rule x16) ∧
allocK (.cells #[.int .i64 (0 : Int), .int .u8 (0 : Int), .int .i64 (0 : Int), .int .i64 (0 : Int), .int .i64 (0 : Int)] t_api_Rule) w4 fun a17 w6 =>
stK w6 a17 (cells yapi_Rule x16) fun w7 =>
∃ x18 : Int, At w7 (a17.add 2) (cells (.int .i64) x18) ∧
idxK (some a6) n5.toNat x18 1 fun p19 =>
∃ x20 : Int, At w7 p19 (cells (.int .i64) x20) ∧
stK w7 (a17.add 2) ([.int .i64 x20]) fun w8 =>
∃ x21 : Int, At w8 (a17.add 3) (cells (.int .i64) x21) ∧
idxK (some a6) n5.toNat x21 1 fun p22 =>
∃ x23 : Int, At w8 p22 (cells (.int .i64) x23) ∧
stK w8 (a17.add 3) ([.int .i64 x23]) fun w9 =>
∃ x24 : yapi_Rule.T, At w9 a17 (cells yapi_Rule x24) ∧
allocK (.cells (cells yapi_Rule x24).toArray t_api_Rule) w9 fun a25 w10 =>
appK t_api_Rule 5 40 #[.int .i64 (0 : Int), .int .u8 (0 : Int), .int .i64 (0 : Int), .int .i64 (0 : Int), .int .i64 (0 : Int)] x7.1.a x7.1.len x7.1.cap (.slice (some a25) 1 1) 1 w10 fun s26 w11 =>
idxK (some a6) n5.toNat x7.2.1 1 fun p27 =>
stK w11 p27 ([.int .i64 (s26.len : Int)]) fun w12 =>
R10 (s26, ()) w12)) (fun x9 w5 => ∀ _ : Env,
arith .i64 (x7.2.1 + (1 : Int)) fun n28 =>
next8 (x9.1, n28, ()) w5)) (
K x7.1 w4)) w1
theorem S_ref10_Export (v0_s : yevergreenref10_S.T) (v1_id : Int) (K : Sl → World → Prop) (w0 : World) (h : F_ref10_Export v0_s v1_id K w0) : C_ref10_Export v0_s v1_id K w0 := by
  have e : denFn P [(1005, [(7, .slice), (8, .int .i64)]), (6, [(7, .slice)])] Try.f41 #[val yevergreenref10_S v0_s, .int .i64 v1_id] .slice K w0 = F_ref10_Export v0_s v1_id K w0 := by kernel_rfl
  exact fn_sound mixed (f := 41) Try.func41 (by kernel_rfl) (e.mpr h)

def F_ref10_New (v0_most : Int) (K : yevergreenref10_S.T → World → Prop) (w0 : World) : Prop :=
allocK (.cells #[.int .i64 (0 : Int), .slice none 0 0, .slice none 0 0, .slice none 0 0] t_evergreenref10_S) w0 fun a1 w1 =>
stK w1 a1 ([.int .i64 (if (0 : Int) < (if (1048576 : Int) < v0_most then (1048576 : Int) else v0_most) then (if (1048576 : Int) < v0_most then (1048576 : Int) else v0_most) else (0 : Int)), .slice none 0 0, .slice none 0 0, .slice none 0 0]) fun w2 =>
∃ x2 : yevergreenref10_S.T, At w2 a1 (cells yevergreenref10_S x2) ∧
K x2 w2
theorem S_ref10_New (v0_most : Int) (K : yevergreenref10_S.T → World → Prop) (w0 : World) (h : F_ref10_New v0_most K w0) : C_ref10_New v0_most K w0 := by
  have e : denFn P [] Try.f42 #[.int .i64 v0_most] yevergreenref10_S K w0 = F_ref10_New v0_most K w0 := by kernel_rfl
  exact fn_sound mixed (f := 42) Try.func42 (by kernel_rfl) (e.mpr h)

def F_length_Clip (v0_n : Int) (v1_low : Int) (v2_high : Int) (K : Int → World → Prop) (w0 : World) : Prop :=
gd (decide (v0_n < v1_low)) (
K v1_low w0) (
gd (decide (v2_high < v0_n)) (
K v2_high w0) (
K v0_n w0))
theorem S_length_Clip (v0_n : Int) (v1_low : Int) (v2_high : Int) (K : Int → World → Prop) (w0 : World) (h : F_length_Clip v0_n v1_low v2_high K w0) : C_length_Clip v0_n v1_low v2_high K w0 := by
  have e : denFn P [] Try.f43 #[.int .i64 v0_n, .int .i64 v1_low, .int .i64 v2_high] (.int .i64) K w0 = F_length_Clip v0_n v1_low v2_high K w0 := by kernel_rfl
  exact fn_sound mixed (f := 43) Try.func43 (by kernel_rfl) (e.mpr h)

def F_intern_Store_find (v0_s : Option Addr) (v1_r : yapi_Rule.T) (K : (Int × Value) → World → Prop) (w0 : World) : Prop :=
allocK (.cells (cells yapi_Rule v1_r).toArray t_api_Rule) w0 fun a1 w1 =>
drawK w1 fun w2 =>
nonNil v0_s fun p2 =>
∃ x3 : Option Nat, At w2 (p2.add 2) (cells .map x3) ∧
∃ x4 : yapi_Rule.T, At w2 a1 (cells yapi_Rule x4) ∧
∃ (x5 : Int) (b6 : Bool), Lk2 P t_map_api_Rule_api_ID (.int .i64) (.map x3) (val yapi_Rule x4) x5 b6 w2 ∧
gd b6 (
K (x5, .nilIface) w2) (
drawK w2 fun w3 =>
nonNil v0_s fun p7 =>
∃ x8 : Sl, At w3 (p7.add 1) (cells .slice x8) ∧
nonNil v0_s fun p9 =>
∃ x10 : Int, At w3 (p9.add 0) (cells (.int .i64) x10) ∧
gd (decide (x10 ≤ (x8.len : Int))) (
K ((0 : Int), .iface t_api_Errno (.int .i64 (3 : Int))) w3) (
K ((0 : Int), .nilIface) w3))
theorem S_intern_Store_find (v0_s : Option Addr) (v1_r : yapi_Rule.T) (K : (Int × Value) → World → Prop) (w0 : World) (h : F_intern_Store_find v0_s v1_r K w0) : C_intern_Store_find v0_s v1_r K w0 := by
  have e : denFn P [] Try.f44 #[.pointer v0_s, val yapi_Rule v1_r] (.tup (.pair (.int .i64) .iface)) K w0 = F_intern_Store_find v0_s v1_r K w0 := by kernel_rfl
  exact fn_sound mixed (f := 44) Try.func44 (by kernel_rfl) (e.mpr h)

def F_intern_Store_add (v0_s : Option Addr) (v1_e : yintern_entry.T) (K : Int → World → Prop) (w0 : World) : Prop :=
allocK (.cells (cells yintern_entry v1_e).toArray t_intern_entry) w0 fun a1 w1 =>
drawK w1 fun w2 =>
nonNil v0_s fun p2 =>
∃ x3 : Sl, At w2 (p2.add 1) (cells .slice x3) ∧
∃ x4 : yintern_entry.T, At w2 a1 (cells yintern_entry x4) ∧
allocK (.cells (cells yintern_entry x4).toArray t_intern_entry) w2 fun a5 w3 =>
At w3 (p2.add 1) (cells .slice x3) ∧
appK t_intern_entry 13 104 #[.int .i64 (0 : Int), .int .u8 (0 : Int), .int .i64 (0 : Int), .int .i64 (0 : Int), .int .i64 (0 : Int), .int .i64 (0 : Int), .int .i64 (0 : Int), .int .i64 (0 : Int), .int .i64 (0 : Int), .int .u64 (0 : Int), .int .u64 (0 : Int), .int .i64 (0 : Int), .bool false] x3.a x3.len x3.cap (.slice (some a5) 1 1) 1 w3 fun s6 w4 =>
nonNil v0_s fun p7 =>
stK w4 (p7.add 1) ([.slice s6.a s6.len s6.cap]) fun w5 =>
nonNil v0_s fun p8 =>
∃ x9 : Sl, At w5 (p8.add 1) (cells .slice x9) ∧
drawK w5 fun w6 =>
nonNil v0_s fun p10 =>
∃ x11 : Option Nat, At w6 (p10.add 2) (cells .map x11) ∧
∃ x12 : yapi_Rule.T, At w6 (a1.add 0) (cells yapi_Rule x12) ∧
runU P (Instr.mapUpdate t_map_api_Rule_api_ID (.map x11) (val yapi_Rule x12) (.int .i64 (x9.len : Int))) w6 fun w7 =>
K (x9.len : Int) w7
theorem S_intern_Store_add (v0_s : Option Addr) (v1_e : yintern_entry.T) (K : Int → World → Prop) (w0 : World) (h : F_intern_Store_add v0_s v1_e K w0) : C_intern_Store_add v0_s v1_e K w0 := by
  have e : denFn P [] Try.f45 #[.pointer v0_s, val yintern_entry v1_e] (.int .i64) K w0 = F_intern_Store_add v0_s v1_e K w0 := by kernel_rfl
  exact fn_sound mixed (f := 45) Try.func45 (by kernel_rfl) (e.mpr h)

def F_intern_Store_known (v0_s : Option Addr) (v1_id : Int) (K : Bool → World → Prop) (w0 : World) : Prop :=
gd (decide ((0 : Int) ≤ v1_id)) (
nonNil v0_s fun p1 =>
∃ x2 : Sl, At w0 (p1.add 1) (cells .slice x2) ∧
K (decide (v1_id ≤ (x2.len : Int))) w0) (
K false w0)
theorem S_intern_Store_known (v0_s : Option Addr) (v1_id : Int) (K : Bool → World → Prop) (w0 : World) (h : F_intern_Store_known v0_s v1_id K w0) : C_intern_Store_known v0_s v1_id K w0 := by
  have e : denFn P [] Try.f46 #[.pointer v0_s, .int .i64 v1_id] .bool K w0 = F_intern_Store_known v0_s v1_id K w0 := by kernel_rfl
  exact fn_sound mixed (f := 46) Try.func46 (by kernel_rfl) (e.mpr h)

def F_intern_Store_at (v0_s : Option Addr) (v1_id : Int) (K : yintern_entry.T → World → Prop) (w0 : World) : Prop :=
allocK (.cells #[.int .i64 (0 : Int), .int .u8 (0 : Int), .int .i64 (0 : Int), .int .i64 (0 : Int), .int .i64 (0 : Int), .int .i64 (0 : Int), .int .i64 (0 : Int), .int .i64 (0 : Int), .int .i64 (0 : Int), .int .u64 (0 : Int), .int .u64 (0 : Int), .int .i64 (0 : Int), .bool false] t_intern_entry) w0 fun a1 w1 =>
gd (v1_id == (0 : Int)) (
C_weight_Unit  (fun x2 w2 =>
stK w2 a1 ([.int .i64 (0 : Int), .int .u8 (0 : Int), .int .i64 (0 : Int), .int .i64 (0 : Int), .int .i64 (0 : Int), .int .i64 x2.1, .int .i64 x2.2.1, .int .i64 x2.2.2.1, .int .i64 x2.2.2.2.1, .int .u64 x2.2.2.2.2.1, .int .u64 x2.2.2.2.2.2, .int .i64 (0 : Int), .bool true]) fun w3 =>
∃ x3 : yintern_entry.T, At w3 a1 (cells yintern_entry x3) ∧
K x3 w3) w1) (
nonNil v0_s fun p4 =>
∃ x5 : Sl, At w1 (p4.add 1) (cells .slice x5) ∧
arith .i64 (v1_id - (1 : Int)) fun n6 =>
idxK x5.a x5.len n6 13 fun p7 =>
∃ x8 : yintern_entry.T, At w1 p7 (cells yintern_entry x8) ∧
stK w1 a1 (cells yintern_entry x8) fun w4 =>
∃ x9 : yintern_entry.T, At w4 a1 (cells yintern_entry x9) ∧
K x9 w4)
theorem S_intern_Store_at (v0_s : Option Addr) (v1_id : Int) (K : yintern_entry.T → World → Prop) (w0 : World) (h : F_intern_Store_at v0_s v1_id K w0) : C_intern_Store_at v0_s v1_id K w0 := by
  have e : denFn P [] Try.f47 #[.pointer v0_s, .int .i64 v1_id] yintern_entry K w0 = F_intern_Store_at v0_s v1_id K w0 := by kernel_rfl
  exact fn_sound mixed (f := 47) Try.func47 (by kernel_rfl) (e.mpr h)

def F_length_Add (v0_a : Int) (v1_b : Int) (K : (Int × Value) → World → Prop) (w0 : World) : Prop :=
JoinP (X := Bool × Unit) (fun R2 =>
C_length_Valid v0_a (fun x3 w2 =>
gd (!x3) (
R2 (true, ()) w2) (
C_length_Valid v1_b (fun x4 w3 =>
R2 (!x4, ()) w3) w2)) w0) (fun x1 w1 => ∀ _ : Env,
gd x1.1 (
K ((0 : Int), .iface t_api_Errno (.int .i64 (1 : Int))) w1) (
arith .i64 ((1152921504606846976 : Int) - v1_b) fun n5 =>
gd (decide (n5 < v0_a)) (
K ((0 : Int), .iface t_api_Errno (.int .i64 (2 : Int))) w1) (
arith .i64 (v0_a + v1_b) fun n6 =>
K (n6, .nilIface) w1)))
theorem S_length_Add (v0_a : Int) (v1_b : Int) (K : (Int × Value) → World → Prop) (w0 : World) (h : F_length_Add v0_a v1_b K w0) : C_length_Add v0_a v1_b K w0 := by
  have e : denFn P [(2, [(13, .bool)])] Try.f48 #[.int .i64 v0_a, .int .i64 v1_b] (.tup (.pair (.int .i64) .iface)) K w0 = F_length_Add v0_a v1_b K w0 := by kernel_rfl
  exact fn_sound mixed (f := 48) Try.func48 (by kernel_rfl) (e.mpr h)

def F_length_Mul (v0_a : Int) (v1_k : Int) (K : (Int × Value) → World → Prop) (w0 : World) : Prop :=
JoinP (X := Bool × Unit) (fun R2 =>
C_length_Valid v0_a (fun x3 w2 =>
gd (!x3) (
R2 (true, ()) w2) (
R2 (decide (v1_k < (0 : Int)), ()) w2)) w0) (fun x1 w1 => ∀ _ : Env,
gd x1.1 (
K ((0 : Int), .iface t_api_Errno (.int .i64 (1 : Int))) w1) (
gd (v0_a == (0 : Int)) (
K ((0 : Int), .nilIface) w1) (
v0_a ≠ 0 ∧
arith .i64 (Int.tdiv (1152921504606846976 : Int) v0_a) fun n4 =>
gd (decide (n4 < v1_k)) (
K ((0 : Int), .iface t_api_Errno (.int .i64 (2 : Int))) w1) (
arith .i64 (v0_a * v1_k) fun n5 =>
K (n5, .nilIface) w1))))
theorem S_length_Mul (v0_a : Int) (v1_k : Int) (K : (Int × Value) → World → Prop) (w0 : World) (h : F_length_Mul v0_a v1_k K w0) : C_length_Mul v0_a v1_k K w0 := by
  have e : denFn P [(2, [(12, .bool)])] Try.f49 #[.int .i64 v0_a, .int .i64 v1_k] (.tup (.pair (.int .i64) .iface)) K w0 = F_length_Mul v0_a v1_k K w0 := by kernel_rfl
  exact fn_sound mixed (f := 49) Try.func49 (by kernel_rfl) (e.mpr h)

def F_ref10_Length (v0_s : yevergreenref10_S.T) (v1_id : Int) (K : Int → World → Prop) (w0 : World) : Prop :=
allocK (.cells (cells yevergreenref10_S v0_s).toArray t_evergreenref10_S) w0 fun a1 w1 =>
gd (v1_id == (0 : Int)) (
K (0 : Int) w1) (
∃ x2 : Sl, At w1 (a1.add 2) (cells .slice x2) ∧
arith .i64 (v1_id - (1 : Int)) fun n3 =>
idxK x2.a x2.len n3 1 fun p4 =>
∃ x5 : Int, At w1 p4 (cells (.int .i64) x5) ∧
K x5 w1)
theorem S_ref10_Length (v0_s : yevergreenref10_S.T) (v1_id : Int) (K : Int → World → Prop) (w0 : World) (h : F_ref10_Length v0_s v1_id K w0) : C_ref10_Length v0_s v1_id K w0 := by
  have e : denFn P [] Try.f50 #[val yevergreenref10_S v0_s, .int .i64 v1_id] (.int .i64) K w0 = F_ref10_Length v0_s v1_id K w0 := by kernel_rfl
  exact fn_sound mixed (f := 50) Try.func50 (by kernel_rfl) (e.mpr h)

def F_ref05_Add (v0_a : Int) (v1_b : Int) (K : Int → World → Prop) (w0 : World) : Prop :=
arith .u64 (v0_a + v1_b) fun n1 =>
(2305843009213693951 : Int) ≠ 0 ∧
letZ (Int.tmod n1 (2305843009213693951 : Int)) fun n2 =>
K n2 w0
theorem S_ref05_Add (v0_a : Int) (v1_b : Int) (K : Int → World → Prop) (w0 : World) (h : F_ref05_Add v0_a v1_b K w0) : C_ref05_Add v0_a v1_b K w0 := by
  have e : denFn P [] Try.f51 #[.int .u64 v0_a, .int .u64 v1_b] (.int .u64) K w0 = F_ref05_Add v0_a v1_b K w0 := by kernel_rfl
  exact fn_sound mixed (f := 51) Try.func51 (by kernel_rfl) (e.mpr h)

def F_ref05_Mul (v0_a : Int) (v1_b : Int) (K : Int → World → Prop) (w0 : World) : Prop :=
(2305843009213693951 : Int) ≠ 0 ∧
letZ (Int.tmod v0_a (2305843009213693951 : Int)) fun n1 =>
(2305843009213693951 : Int) ≠ 0 ∧
letZ (Int.tmod v1_b (2305843009213693951 : Int)) fun n2 =>
LoopP (X := Int × Int × Int × Unit) (n1, n2, (0 : Int), ()) w0 fun next4 x3 w1 => ∀ _ : Env,
gd (decide ((0 : Int) < x3.2.1)) (
JoinP (X := Int × Unit) (fun R6 =>
(2 : Int) ≠ 0 ∧
letZ (Int.tmod x3.2.1 (2 : Int)) fun n7 =>
gd (n7 == (1 : Int)) (
C_ref05_Add x3.2.2.1 x3.1 (fun x8 w3 =>
R6 (x8, ()) w3) w1) (
R6 (x3.2.2.1, ()) w1)) (fun x5 w2 => ∀ _ : Env,
C_ref05_Add x3.1 x3.1 (fun x9 w4 =>
(2 : Int) ≠ 0 ∧
arith .u64 (Int.tdiv x3.2.1 (2 : Int)) fun n10 =>
next4 (x9, n10, x5.1, ()) w4) w2)) (
K x3.2.2.1 w1)
theorem S_ref05_Mul (v0_a : Int) (v1_b : Int) (K : Int → World → Prop) (w0 : World) (h : F_ref05_Mul v0_a v1_b K w0) : C_ref05_Mul v0_a v1_b K w0 := by
  have e : denFn P [(1003, [(0, .int .u64), (1, .int .u64), (5, .int .u64)]), (6, [(5, .int .u64)])] Try.f52 #[.int .u64 v0_a, .int .u64 v1_b] (.int .u64) K w0 = F_ref05_Mul v0_a v1_b K w0 := by kernel_rfl
  exact fn_sound mixed (f := 52) Try.func52 (by kernel_rfl) (e.mpr h)

def F_ref10_Letter (v0_s : yevergreenref10_S.T) (v1_b : Int) (K : (yevergreenref10_S.T × Int × Int) → World → Prop) (w0 : World) : Prop :=
allocK (.cells (cells yevergreenref10_S v0_s).toArray t_evergreenref10_S) w0 fun a1 w1 =>
allocK (.cells #[.int .i64 (0 : Int), .slice none 0 0, .slice none 0 0, .slice none 0 0] t_evergreenref10_S) w1 fun a2 w2 =>
∃ x3 : yevergreenref10_S.T, At w2 a1 (cells yevergreenref10_S x3) ∧
C_ref10_intern x3 ((1 : Int), (v1_b, ((0 : Int), ((0 : Int), (0 : Int))))) (1 : Int) (0 : Int) (fun x4 w3 =>
stK w3 a2 (cells yevergreenref10_S x4.1) fun w4 =>
∃ x5 : yevergreenref10_S.T, At w4 a2 (cells yevergreenref10_S x5) ∧
K (x5, x4.2.1, x4.2.2) w4) w2
theorem S_ref10_Letter (v0_s : yevergreenref10_S.T) (v1_b : Int) (K : (yevergreenref10_S.T × Int × Int) → World → Prop) (w0 : World) (h : F_ref10_Letter v0_s v1_b K w0) : C_ref10_Letter v0_s v1_b K w0 := by
  have e : denFn P [] Try.f53 #[val yevergreenref10_S v0_s, .int .u8 v1_b] (.tup (.pair yevergreenref10_S (.pair (.int .i64) (.int .i64)))) K w0 = F_ref10_Letter v0_s v1_b K w0 := by kernel_rfl
  exact fn_sound mixed (f := 53) Try.func53 (by kernel_rfl) (e.mpr h)

def F_ref10_Pair (v0_s : yevergreenref10_S.T) (v1_l : Int) (v2_r : Int) (K : (yevergreenref10_S.T × Int × Int) → World → Prop) (w0 : World) : Prop :=
allocK (.cells (cells yevergreenref10_S v0_s).toArray t_evergreenref10_S) w0 fun a1 w1 =>
allocK (.cells #[.int .i64 (0 : Int), .slice none 0 0, .slice none 0 0, .slice none 0 0] t_evergreenref10_S) w1 fun a2 w2 =>
JoinP (X := Bool × Unit) (fun R4 =>
∃ x5 : yevergreenref10_S.T, At w2 a1 (cells yevergreenref10_S x5) ∧
C_ref10_Unknown x5 v1_l (fun x6 w4 =>
gd x6 (
R4 (true, ()) w4) (
∃ x7 : yevergreenref10_S.T, At w4 a1 (cells yevergreenref10_S x7) ∧
C_ref10_Unknown x7 v2_r (fun x8 w5 =>
R4 (x8, ()) w5) w4)) w2) (fun x3 w3 => ∀ _ : Env,
gd x3.1 (
∃ x9 : yevergreenref10_S.T, At w3 a1 (cells yevergreenref10_S x9) ∧
stK w3 a2 (cells yevergreenref10_S x9) fun w6 =>
∃ x10 : yevergreenref10_S.T, At w6 a2 (cells yevergreenref10_S x10) ∧
K (x10, (0 : Int), (1 : Int)) w6) (
gd (v1_l == (0 : Int)) (
∃ x11 : yevergreenref10_S.T, At w3 a1 (cells yevergreenref10_S x11) ∧
stK w3 a2 (cells yevergreenref10_S x11) fun w7 =>
∃ x12 : yevergreenref10_S.T, At w7 a2 (cells yevergreenref10_S x12) ∧
K (x12, v2_r, (0 : Int)) w7) (
gd (v2_r == (0 : Int)) (
∃ x13 : yevergreenref10_S.T, At w3 a1 (cells yevergreenref10_S x13) ∧
stK w3 a2 (cells yevergreenref10_S x13) fun w8 =>
∃ x14 : yevergreenref10_S.T, At w8 a2 (cells yevergreenref10_S x14) ∧
K (x14, v1_l, (0 : Int)) w8) (
drawK w3 fun w9 =>
∃ x15 : yevergreenref10_S.T, At w9 a1 (cells yevergreenref10_S x15) ∧
∃ x16 : yevergreenref10_S.T, At w9 a1 (cells yevergreenref10_S x16) ∧
C_ref10_Length x15 v1_l (fun x17 w10 =>
At w10 a1 (cells yevergreenref10_S x16) ∧
C_ref10_Length x16 v2_r (fun x18 w11 =>
arith .i64 (x17 + x18) fun n19 =>
gd (decide ((1152921504606846976 : Int) < n19)) (
∃ x20 : yevergreenref10_S.T, At w11 a1 (cells yevergreenref10_S x20) ∧
stK w11 a2 (cells yevergreenref10_S x20) fun w12 =>
∃ x21 : yevergreenref10_S.T, At w12 a2 (cells yevergreenref10_S x21) ∧
K (x21, (0 : Int), (2 : Int)) w12) (
drawK w11 fun w13 =>
∃ x22 : yevergreenref10_S.T, At w13 a1 (cells yevergreenref10_S x22) ∧
∃ x23 : yevergreenref10_S.T, At w13 a1 (cells yevergreenref10_S x23) ∧
∃ x24 : yevergreenref10_S.T, At w13 a1 (cells yevergreenref10_S x24) ∧
C_ref10_Depth x23 v1_l (fun x25 w14 =>
At w14 a1 (cells yevergreenref10_S x24) ∧
At w14 a1 (cells yevergreenref10_S x22) ∧
C_ref10_Depth x24 v2_r (fun x26 w15 =>
At w15 a1 (cells yevergreenref10_S x22) ∧
arith .i64 ((1 : Int) + (if x25 < x26 then x26 else x25)) fun n27 =>
C_ref10_intern x22 ((2 : Int), ((0 : Int), (v1_l, (v2_r, (0 : Int))))) n19 n27 (fun x28 w16 =>
stK w16 a2 (cells yevergreenref10_S x28.1) fun w17 =>
∃ x29 : yevergreenref10_S.T, At w17 a2 (cells yevergreenref10_S x29) ∧
K (x29, x28.2.1, x28.2.2) w17) w15) w14) w13)) w10) w9))))
theorem S_ref10_Pair (v0_s : yevergreenref10_S.T) (v1_l : Int) (v2_r : Int) (K : (yevergreenref10_S.T × Int × Int) → World → Prop) (w0 : World) (h : F_ref10_Pair v0_s v1_l v2_r K w0) : C_ref10_Pair v0_s v1_l v2_r K w0 := by
  have e : denFn P [(2, [(17, .bool)])] Try.f54 #[val yevergreenref10_S v0_s, .int .i64 v1_l, .int .i64 v2_r] (.tup (.pair yevergreenref10_S (.pair (.int .i64) (.int .i64)))) K w0 = F_ref10_Pair v0_s v1_l v2_r K w0 := by kernel_rfl
  exact fn_sound mixed (f := 54) Try.func54 (by kernel_rfl) (e.mpr h)

def F_ref10_Power (v0_s : yevergreenref10_S.T) (v1_x : Int) (v2_k : Int) (K : (yevergreenref10_S.T × Int × Int) → World → Prop) (w0 : World) : Prop :=
allocK (.cells (cells yevergreenref10_S v0_s).toArray t_evergreenref10_S) w0 fun a1 w1 =>
allocK (.cells #[.int .i64 (0 : Int), .slice none 0 0, .slice none 0 0, .slice none 0 0] t_evergreenref10_S) w1 fun a2 w2 =>
JoinP (X := Bool × Unit) (fun R4 =>
∃ x5 : yevergreenref10_S.T, At w2 a1 (cells yevergreenref10_S x5) ∧
C_ref10_Unknown x5 v1_x (fun x6 w4 =>
gd x6 (
R4 (true, ()) w4) (
R4 (decide (v2_k < (0 : Int)), ()) w4)) w2) (fun x3 w3 => ∀ _ : Env,
gd x3.1 (
∃ x7 : yevergreenref10_S.T, At w3 a1 (cells yevergreenref10_S x7) ∧
stK w3 a2 (cells yevergreenref10_S x7) fun w5 =>
∃ x8 : yevergreenref10_S.T, At w5 a2 (cells yevergreenref10_S x8) ∧
K (x8, (0 : Int), (1 : Int)) w5) (
JoinP (X := Bool × Unit) (fun R10 =>
gd (v2_k == (0 : Int)) (
R10 (true, ()) w3) (
R10 (v1_x == (0 : Int), ()) w3)) (fun x9 w6 => ∀ _ : Env,
gd x9.1 (
∃ x11 : yevergreenref10_S.T, At w6 a1 (cells yevergreenref10_S x11) ∧
stK w6 a2 (cells yevergreenref10_S x11) fun w7 =>
∃ x12 : yevergreenref10_S.T, At w7 a2 (cells yevergreenref10_S x12) ∧
K (x12, (0 : Int), (0 : Int)) w7) (
gd (v2_k == (1 : Int)) (
∃ x13 : yevergreenref10_S.T, At w6 a1 (cells yevergreenref10_S x13) ∧
stK w6 a2 (cells yevergreenref10_S x13) fun w8 =>
∃ x14 : yevergreenref10_S.T, At w8 a2 (cells yevergreenref10_S x14) ∧
K (x14, v1_x, (0 : Int)) w8) (
∃ x15 : yevergreenref10_S.T, At w6 a1 (cells yevergreenref10_S x15) ∧
C_ref10_Length x15 v1_x (fun x16 w9 =>
x16 ≠ 0 ∧
arith .i64 (Int.tdiv (1152921504606846976 : Int) x16) fun n17 =>
gd (decide (n17 < v2_k)) (
∃ x18 : yevergreenref10_S.T, At w9 a1 (cells yevergreenref10_S x18) ∧
stK w9 a2 (cells yevergreenref10_S x18) fun w10 =>
∃ x19 : yevergreenref10_S.T, At w10 a2 (cells yevergreenref10_S x19) ∧
K (x19, (0 : Int), (2 : Int)) w10) (
drawK w9 fun w11 =>
∃ x20 : yevergreenref10_S.T, At w11 a1 (cells yevergreenref10_S x20) ∧
∃ x21 : yevergreenref10_S.T, At w11 a1 (cells yevergreenref10_S x21) ∧
∃ x22 : yevergreenref10_S.T, At w11 a1 (cells yevergreenref10_S x22) ∧
C_ref10_Length x21 v1_x (fun x23 w12 =>
At w12 a1 (cells yevergreenref10_S x22) ∧
At w12 a1 (cells yevergreenref10_S x20) ∧
arith .i64 (v2_k * x23) fun n24 =>
C_ref10_Depth x22 v1_x (fun x25 w13 =>
At w13 a1 (cells yevergreenref10_S x20) ∧
arith .i64 ((1 : Int) + x25) fun n26 =>
C_ref10_intern x20 ((3 : Int), ((0 : Int), (v1_x, ((0 : Int), v2_k)))) n24 n26 (fun x27 w14 =>
stK w14 a2 (cells yevergreenref10_S x27.1) fun w15 =>
∃ x28 : yevergreenref10_S.T, At w15 a2 (cells yevergreenref10_S x28) ∧
K (x28, x27.2.1, x27.2.2) w15) w13) w12) w11)) w6)))))
theorem S_ref10_Power (v0_s : yevergreenref10_S.T) (v1_x : Int) (v2_k : Int) (K : (yevergreenref10_S.T × Int × Int) → World → Prop) (w0 : World) (h : F_ref10_Power v0_s v1_x v2_k K w0) : C_ref10_Power v0_s v1_x v2_k K w0 := by
  have e : denFn P [(2, [(15, .bool)]), (4, [(22, .bool)])] Try.f55 #[val yevergreenref10_S v0_s, .int .i64 v1_x, .int .i64 v2_k] (.tup (.pair yevergreenref10_S (.pair (.int .i64) (.int .i64)))) K w0 = F_ref10_Power v0_s v1_x v2_k K w0 := by kernel_rfl
  exact fn_sound mixed (f := 55) Try.func55 (by kernel_rfl) (e.mpr h)

def F_digest_Letter (v0_b : Int) (K : yapi_Digest.T → World → Prop) (w0 : World) : Prop :=
allocK (.cells #[.int .u64 (0 : Int), .int .u64 (0 : Int)] t_api_Digest) w0 fun a1 w1 =>
arith .u64 (v0_b) fun n2 =>
arith .u64 (n2 + (1 : Int)) fun n3 =>
stK w1 a1 ([.int .u64 n3, .int .u64 (1103515245 : Int)]) fun w2 =>
∃ x4 : yapi_Digest.T, At w2 a1 (cells yapi_Digest x4) ∧
K x4 w2
theorem S_digest_Letter (v0_b : Int) (K : yapi_Digest.T → World → Prop) (w0 : World) (h : F_digest_Letter v0_b K w0) : C_digest_Letter v0_b K w0 := by
  have e : denFn P [] Try.f56 #[.int .u8 v0_b] yapi_Digest K w0 = F_digest_Letter v0_b K w0 := by kernel_rfl
  exact fn_sound mixed (f := 56) Try.func56 (by kernel_rfl) (e.mpr h)

def F_weight_Valid (v0_w : yapi_Weight.T) (K : Bool → World → Prop) (w0 : World) : Prop :=
allocK (.cells (cells yapi_Weight v0_w).toArray t_api_Weight) w0 fun a1 w1 =>
JoinP (X := Bool × Unit) (fun R3 =>
∃ x4 : Int, At w1 (a1.add 0) (cells (.int .i64) x4) ∧
C_length_Valid x4 (fun x5 w3 =>
gd (!x5) (
R3 (true, ()) w3) (
∃ x6 : Int, At w3 (a1.add 1) (cells (.int .i64) x6) ∧
R3 (decide (x6 < (0 : Int)), ()) w3)) w1) (fun x2 w2 => ∀ _ : Env,
gd x2.1 (
K false w2) (
JoinP (X := Unit) (fun R8 =>
∃ x9 : Int, At w2 (a1.add 1) (cells (.int .i64) x9) ∧
gd (x9 == (0 : Int)) (
JoinP (X := Bool × Unit) (fun R11 =>
∃ x12 : Int, At w2 (a1.add 2) (cells (.int .i64) x12) ∧
∃ x13 : Int, At w2 (a1.add 0) (cells (.int .i64) x13) ∧
gd (x12 != x13) (
R11 (true, ()) w2) (
∃ x14 : Int, At w2 (a1.add 3) (cells (.int .i64) x14) ∧
∃ x15 : Int, At w2 (a1.add 0) (cells (.int .i64) x15) ∧
R11 (x14 != x15, ()) w2)) (fun x10 w5 => ∀ _ : Env,
gd x10.1 (
K false w5) (
R8 () w5))) (
JoinP (X := Bool × Unit) (fun R17 =>
∃ x18 : Int, At w2 (a1.add 2) (cells (.int .i64) x18) ∧
gd (decide (x18 < (0 : Int))) (
R17 (true, ()) w2) (
∃ x19 : Int, At w2 (a1.add 2) (cells (.int .i64) x19) ∧
∃ x20 : Int, At w2 (a1.add 0) (cells (.int .i64) x20) ∧
gd (decide (x20 < x19)) (
R17 (true, ()) w2) (
∃ x21 : Int, At w2 (a1.add 3) (cells (.int .i64) x21) ∧
gd (decide (x21 < (0 : Int))) (
R17 (true, ()) w2) (
∃ x22 : Int, At w2 (a1.add 3) (cells (.int .i64) x22) ∧
∃ x23 : Int, At w2 (a1.add 0) (cells (.int .i64) x23) ∧
∃ x24 : Int, At w2 (a1.add 2) (cells (.int .i64) x24) ∧
arith .i64 (x23 - x24) fun n25 =>
R17 (decide (n25 < x22), ()) w2)))) (fun x16 w6 => ∀ _ : Env,
gd x16.1 (
K false w6) (
∃ x26 : Int, At w6 (a1.add 0) (cells (.int .i64) x26) ∧
∃ x27 : Int, At w6 (a1.add 2) (cells (.int .i64) x27) ∧
arith .i64 (x26 - x27) fun n28 =>
∃ x29 : Int, At w6 (a1.add 3) (cells (.int .i64) x29) ∧
arith .i64 (n28 - x29) fun n30 =>
JoinP (X := Bool × Unit) (fun R32 =>
∃ x33 : Int, At w6 (a1.add 1) (cells (.int .i64) x33) ∧
gd (decide (n30 < x33)) (
R32 (true, ()) w6) (
∃ x34 : Int, At w6 (a1.add 1) (cells (.int .i64) x34) ∧
gd (x34 == (1 : Int)) (
R32 (n30 != (1 : Int), ()) w6) (
R32 (false, ()) w6))) (fun x31 w7 => ∀ _ : Env,
gd x31.1 (
K false w7) (
R8 () w7)))))) (fun x7 w4 => ∀ _ : Env,
JoinP (X := Bool × Unit) (fun R36 =>
∃ x37 : Int, At w4 ((a1.add 4).add 0) (cells (.int .u64) x37) ∧
gd (decide ((2305843009213693951 : Int) ≤ x37)) (
R36 (true, ()) w4) (
∃ x38 : Int, At w4 (a1.add 0) (cells (.int .i64) x38) ∧
gd (x38 == (0 : Int)) (
∃ x39 : Int, At w4 ((a1.add 4).add 0) (cells (.int .u64) x39) ∧
R36 (x39 != (0 : Int), ()) w4) (
R36 (false, ()) w4))) (fun x35 w8 => ∀ _ : Env,
gd x35.1 (
K false w8) (
drawK w8 fun w9 =>
∃ x40 : Int, At w9 ((a1.add 4).add 1) (cells (.int .u64) x40) ∧
∃ x41 : Int, At w9 (a1.add 0) (cells (.int .i64) x41) ∧
arith .u64 (x41) fun n42 =>
C_modular_Pow (1103515245 : Int) n42 (fun x43 w10 =>
At w10 ((a1.add 4).add 1) (cells (.int .u64) x40) ∧
K (x40 == x43) w10) w9)))))
theorem S_weight_Valid (v0_w : yapi_Weight.T) (K : Bool → World → Prop) (w0 : World) (h : F_weight_Valid v0_w K w0) : C_weight_Valid v0_w K w0 := by
  have e : denFn P [(2, [(12, .bool)]), (11, []), (5, [(27, .bool)]), (7, [(52, .bool)]), (10, [(73, .bool)]), (12, [(88, .bool)])] Try.f57 #[val yapi_Weight v0_w] .bool K w0 = F_weight_Valid v0_w K w0 := by kernel_rfl
  exact fn_sound mixed (f := 57) Try.func57 (by kernel_rfl) (e.mpr h)

end Go.Proofs.Ytddhndabnbckmaa

/- The typed texts of the functions, printed by a program; each proved to imply the call. -/
set_option linter.unusedVariables false
set_option maxRecDepth 100000
set_option maxHeartbeats 4000000
namespace Go.Proofs.Ytddhndabnbckmaa
open Go.Den

def F_digest_Join (v0_a : yapi_Digest.T) (v1_b : yapi_Digest.T) (K : yapi_Digest.T → World → Prop) (w0 : World) : Prop :=
allocK (.cells (cells yapi_Digest v0_a).toArray t_api_Digest) w0 fun a1 w1 =>
allocK (.cells (cells yapi_Digest v1_b).toArray t_api_Digest) w1 fun a2 w2 =>
allocK (.cells #[.int .u64 (0 : Int), .int .u64 (0 : Int)] t_api_Digest) w2 fun a3 w3 =>
drawK w3 fun w4 =>
∃ x4 : Int, At w4 (a1.add 0) (cells (.int .u64) x4) ∧
∃ x5 : Int, At w4 (a2.add 1) (cells (.int .u64) x5) ∧
∃ x6 : Int, At w4 (a2.add 0) (cells (.int .u64) x6) ∧
∃ x7 : Int, At w4 (a1.add 1) (cells (.int .u64) x7) ∧
∃ x8 : Int, At w4 (a2.add 1) (cells (.int .u64) x8) ∧
C_modular_Mul x4 x5 (fun x9 w5 =>
At w5 (a2.add 1) (cells (.int .u64) x8) ∧
At w5 (a1.add 1) (cells (.int .u64) x7) ∧
At w5 (a2.add 0) (cells (.int .u64) x6) ∧
C_modular_Add x9 x6 (fun x10 w6 =>
At w6 (a2.add 1) (cells (.int .u64) x8) ∧
At w6 (a1.add 1) (cells (.int .u64) x7) ∧
C_modular_Mul x7 x8 (fun x11 w7 =>
stK w7 a3 ([.int .u64 x10, .int .u64 x11]) fun w8 =>
∃ x12 : yapi_Digest.T, At w8 a3 (cells yapi_Digest x12) ∧
K x12 w8) w6) w5) w4
theorem S_digest_Join (v0_a : yapi_Digest.T) (v1_b : yapi_Digest.T) (K : yapi_Digest.T → World → Prop) (w0 : World) (h : F_digest_Join v0_a v1_b K w0) : C_digest_Join v0_a v1_b K w0 := by
  have e : denFn P [] Try.f58 #[val yapi_Digest v0_a, val yapi_Digest v1_b] yapi_Digest K w0 = F_digest_Join v0_a v1_b K w0 := by kernel_rfl
  exact fn_sound mixed (f := 58) Try.func58 (by kernel_rfl) (e.mpr h)

def F_weight_Unit  (K : yapi_Weight.T → World → Prop) (w0 : World) : Prop :=
allocK (.cells #[.int .i64 (0 : Int), .int .i64 (0 : Int), .int .i64 (0 : Int), .int .i64 (0 : Int), .int .u64 (0 : Int), .int .u64 (0 : Int)] t_api_Weight) w0 fun a1 w1 =>
C_digest_Unit  (fun x2 w2 =>
stK w2 a1 ([.int .i64 (0 : Int), .int .i64 (0 : Int), .int .i64 (0 : Int), .int .i64 (0 : Int), .int .u64 x2.1, .int .u64 x2.2]) fun w3 =>
∃ x3 : yapi_Weight.T, At w3 a1 (cells yapi_Weight x3) ∧
K x3 w3) w1
theorem S_weight_Unit  (K : yapi_Weight.T → World → Prop) (w0 : World) (h : F_weight_Unit  K w0) : C_weight_Unit  K w0 := by
  have e : denFn P [] Try.f59 #[] yapi_Weight K w0 = F_weight_Unit  K w0 := by kernel_rfl
  exact fn_sound mixed (f := 59) Try.func59 (by kernel_rfl) (e.mpr h)

def F_digest_Repeat (v0_d : yapi_Digest.T) (v1_k : Int) (K : yapi_Digest.T → World → Prop) (w0 : World) : Prop :=
allocK (.cells (cells yapi_Digest v0_d).toArray t_api_Digest) w0 fun a1 w1 =>
allocK (.cells #[.int .u64 (0 : Int), .int .u64 (0 : Int)] t_api_Digest) w1 fun a2 w2 =>
C_digest_Unit  (fun x3 w3 =>
allocK (.cells #[.int .u64 (0 : Int), .int .u64 (0 : Int)] t_api_Digest) w3 fun a4 w4 =>
stK w4 a4 (cells yapi_Digest x3) fun w5 =>
LoopP (X := Int × Unit) (v1_k, ()) w5 fun next6 x5 w6 => ∀ _ : Env,
gd (decide ((0 : Int) < x5.1)) (
JoinP (X := Unit) (fun R8 =>
(2 : Int) ≠ 0 ∧
letZ (Int.tmod x5.1 (2 : Int)) fun n9 =>
gd (n9 == (1 : Int)) (
∃ x10 : yapi_Digest.T, At w6 a4 (cells yapi_Digest x10) ∧
∃ x11 : yapi_Digest.T, At w6 a1 (cells yapi_Digest x11) ∧
C_digest_Join x10 x11 (fun x12 w8 =>
stK w8 a4 (cells yapi_Digest x12) fun w9 =>
R8 () w9) w6) (
R8 () w6)) (fun x7 w7 => ∀ _ : Env,
∃ x13 : yapi_Digest.T, At w7 a1 (cells yapi_Digest x13) ∧
∃ x14 : yapi_Digest.T, At w7 a1 (cells yapi_Digest x14) ∧
C_digest_Join x13 x14 (fun x15 w10 =>
stK w10 a1 (cells yapi_Digest x15) fun w11 =>
(2 : Int) ≠ 0 ∧
arith .i64 (Int.tdiv x5.1 (2 : Int)) fun n16 =>
next6 (n16, ()) w11) w7)) (
∃ x17 : yapi_Digest.T, At w6 a4 (cells yapi_Digest x17) ∧
stK w6 a2 (cells yapi_Digest x17) fun w12 =>
∃ x18 : yapi_Digest.T, At w12 a2 (cells yapi_Digest x18) ∧
K x18 w12)) w2
theorem S_digest_Repeat (v0_d : yapi_Digest.T) (v1_k : Int) (K : yapi_Digest.T → World → Prop) (w0 : World) (h : F_digest_Repeat v0_d v1_k K w0) : C_digest_Repeat v0_d v1_k K w0 := by
  have e : denFn P [(1002, [(1, .int .i64)]), (6, [])] Try.f60 #[val yapi_Digest v0_d, .int .i64 v1_k] yapi_Digest K w0 = F_digest_Repeat v0_d v1_k K w0 := by kernel_rfl
  exact fn_sound mixed (f := 60) Try.func60 (by kernel_rfl) (e.mpr h)

def F_rule_Check (v0_r : yapi_Rule.T) (v1_n : Int) (K : Value → World → Prop) (w0 : World) : Prop :=
allocK (.cells (cells yapi_Rule v0_r).toArray t_api_Rule) w0 fun a1 w1 =>
JoinP (X := Bool × Unit) (fun R3 =>
∃ x4 : Int, At w1 (a1.add 0) (cells (.int .i64) x4) ∧
gd (x4 == (1 : Int)) (
∃ x5 : Int, At w1 (a1.add 2) (cells (.int .i64) x5) ∧
gd (x5 == (0 : Int)) (
∃ x6 : Int, At w1 (a1.add 3) (cells (.int .i64) x6) ∧
gd (x6 == (0 : Int)) (
∃ x7 : Int, At w1 (a1.add 4) (cells (.int .i64) x7) ∧
R3 (x7 == (0 : Int), ()) w1) (
R3 (false, ()) w1)) (
R3 (false, ()) w1)) (
gd (x4 == (2 : Int)) (
∃ x8 : Int, At w1 (a1.add 1) (cells (.int .u8) x8) ∧
gd (x8 == (0 : Int)) (
∃ x9 : Int, At w1 (a1.add 4) (cells (.int .i64) x9) ∧
R3 (x9 == (0 : Int), ()) w1) (
R3 (false, ()) w1)) (
gd (x4 == (3 : Int)) (
∃ x10 : Int, At w1 (a1.add 1) (cells (.int .u8) x10) ∧
gd (x10 == (0 : Int)) (
∃ x11 : Int, At w1 (a1.add 3) (cells (.int .i64) x11) ∧
gd (x11 == (0 : Int)) (
∃ x12 : Int, At w1 (a1.add 4) (cells (.int .i64) x12) ∧
R3 (decide ((2 : Int) ≤ x12), ()) w1) (
R3 (false, ()) w1)) (
R3 (false, ()) w1)) (
R3 (false, ()) w1)))) (fun x2 w2 => ∀ _ : Env,
gd (!x2.1) (
K (.iface t_api_Errno (.int .i64 (4 : Int))) w2) (
∃ x13 : yapi_Rule.T, At w2 a1 (cells yapi_Rule x13) ∧
C_rule_place x13 v1_n (fun x14 w3 =>
K x14 w3) w2))
theorem S_rule_Check (v0_r : yapi_Rule.T) (v1_n : Int) (K : Value → World → Prop) (w0 : World) (h : F_rule_Check v0_r v1_n K w0) : C_rule_Check v0_r v1_n K w0 := by
  have e : denFn P [(9, [(5, .bool)])] Try.f61 #[val yapi_Rule v0_r, .int .i64 v1_n] .iface K w0 = F_rule_Check v0_r v1_n K w0 := by kernel_rfl
  exact fn_sound mixed (f := 61) Try.func61 (by kernel_rfl) (e.mpr h)

def F_intern_Store_put (v0_s : Option Addr) (v1_r : yapi_Rule.T) (v2_to : Sl) (K : (Int × Value) → World → Prop) (w0 : World) : Prop :=
allocK (.cells (cells yapi_Rule v1_r).toArray t_api_Rule) w0 fun a1 w1 =>
∃ x2 : Int, At w1 (a1.add 0) (cells (.int .i64) x2) ∧
gd (x2 == (1 : Int)) (
∃ x3 : Int, At w1 (a1.add 1) (cells (.int .u8) x3) ∧
C_intern_Store_Letter v0_s x3 (fun x4 w2 =>
K (x4.1, x4.2) w2) w1) (
gd (x2 == (2 : Int)) (
drawK w1 fun w3 =>
∃ x5 : Int, At w3 (a1.add 2) (cells (.int .i64) x5) ∧
idxK v2_to.a v2_to.len x5 1 fun p6 =>
∃ x7 : Int, At w3 p6 (cells (.int .i64) x7) ∧
∃ x8 : Int, At w3 (a1.add 3) (cells (.int .i64) x8) ∧
idxK v2_to.a v2_to.len x8 1 fun p9 =>
∃ x10 : Int, At w3 p9 (cells (.int .i64) x10) ∧
C_intern_Store_Pair v0_s x7 x10 (fun x11 w4 =>
K (x11.1, x11.2) w4) w3) (
drawK w1 fun w5 =>
∃ x12 : Int, At w5 (a1.add 2) (cells (.int .i64) x12) ∧
idxK v2_to.a v2_to.len x12 1 fun p13 =>
∃ x14 : Int, At w5 p13 (cells (.int .i64) x14) ∧
∃ x15 : Int, At w5 (a1.add 4) (cells (.int .i64) x15) ∧
C_intern_Store_Power v0_s x14 x15 (fun x16 w6 =>
K (x16.1, x16.2) w6) w5))
theorem S_intern_Store_put (v0_s : Option Addr) (v1_r : yapi_Rule.T) (v2_to : Sl) (K : (Int × Value) → World → Prop) (w0 : World) (h : F_intern_Store_put v0_s v1_r v2_to K w0) : C_intern_Store_put v0_s v1_r v2_to K w0 := by
  have e : denFn P [] Try.f62 #[.pointer v0_s, val yapi_Rule v1_r, .slice v2_to.a v2_to.len v2_to.cap] (.tup (.pair (.int .i64) .iface)) K w0 = F_intern_Store_put v0_s v1_r v2_to K w0 := by kernel_rfl
  exact fn_sound mixed (f := 62) Try.func62 (by kernel_rfl) (e.mpr h)

def F_ref10_Check (v0_r : yapi_Rule.T) (v1_n : Int) (K : Int → World → Prop) (w0 : World) : Prop :=
allocK (.cells (cells yapi_Rule v0_r).toArray t_api_Rule) w0 fun a1 w1 =>
JoinP (X := Bool × Unit) (fun R3 =>
∃ x4 : Int, At w1 (a1.add 0) (cells (.int .i64) x4) ∧
gd (x4 == (1 : Int)) (
∃ x5 : Int, At w1 (a1.add 2) (cells (.int .i64) x5) ∧
gd (x5 == (0 : Int)) (
∃ x6 : Int, At w1 (a1.add 3) (cells (.int .i64) x6) ∧
gd (x6 == (0 : Int)) (
∃ x7 : Int, At w1 (a1.add 4) (cells (.int .i64) x7) ∧
R3 (x7 == (0 : Int), ()) w1) (
R3 (false, ()) w1)) (
R3 (false, ()) w1)) (
gd (x4 == (2 : Int)) (
∃ x8 : Int, At w1 (a1.add 1) (cells (.int .u8) x8) ∧
gd (x8 == (0 : Int)) (
∃ x9 : Int, At w1 (a1.add 4) (cells (.int .i64) x9) ∧
R3 (x9 == (0 : Int), ()) w1) (
R3 (false, ()) w1)) (
gd (x4 == (3 : Int)) (
∃ x10 : Int, At w1 (a1.add 1) (cells (.int .u8) x10) ∧
gd (x10 == (0 : Int)) (
∃ x11 : Int, At w1 (a1.add 3) (cells (.int .i64) x11) ∧
gd (x11 == (0 : Int)) (
∃ x12 : Int, At w1 (a1.add 4) (cells (.int .i64) x12) ∧
R3 (decide ((2 : Int) ≤ x12), ()) w1) (
R3 (false, ()) w1)) (
R3 (false, ()) w1)) (
R3 (false, ()) w1)))) (fun x2 w2 => ∀ _ : Env,
gd (!x2.1) (
K (4 : Int) w2) (
JoinP (X := Bool × Unit) (fun R14 =>
gd (decide (v1_n < (1 : Int))) (
R14 (true, ()) w2) (
∃ x15 : Int, At w2 (a1.add 0) (cells (.int .i64) x15) ∧
gd (x15 != (1 : Int)) (
∃ x16 : Int, At w2 (a1.add 2) (cells (.int .i64) x16) ∧
gd (decide (x16 < (1 : Int))) (
R14 (true, ()) w2) (
∃ x17 : Int, At w2 (a1.add 2) (cells (.int .i64) x17) ∧
gd (decide (v1_n ≤ x17)) (
R14 (true, ()) w2) (
∃ x18 : Int, At w2 (a1.add 0) (cells (.int .i64) x18) ∧
gd (x18 == (2 : Int)) (
∃ x19 : Int, At w2 (a1.add 3) (cells (.int .i64) x19) ∧
gd (decide (x19 < (1 : Int))) (
R14 (true, ()) w2) (
∃ x20 : Int, At w2 (a1.add 3) (cells (.int .i64) x20) ∧
R14 (decide (v1_n ≤ x20), ()) w2)) (
R14 (false, ()) w2)))) (
∃ x21 : Int, At w2 (a1.add 0) (cells (.int .i64) x21) ∧
gd (x21 == (2 : Int)) (
∃ x22 : Int, At w2 (a1.add 3) (cells (.int .i64) x22) ∧
gd (decide (x22 < (1 : Int))) (
R14 (true, ()) w2) (
∃ x23 : Int, At w2 (a1.add 3) (cells (.int .i64) x23) ∧
R14 (decide (v1_n ≤ x23), ()) w2)) (
R14 (false, ()) w2)))) (fun x13 w3 => ∀ _ : Env,
gd x13.1 (
K (1 : Int) w3) (
K (0 : Int) w3))))
theorem S_ref10_Check (v0_r : yapi_Rule.T) (v1_n : Int) (K : Int → World → Prop) (w0 : World) (h : F_ref10_Check v0_r v1_n K w0) : C_ref10_Check v0_r v1_n K w0 := by
  have e : denFn P [(9, [(5, .bool)]), (12, [(83, .bool)])] Try.f63 #[val yapi_Rule v0_r, .int .i64 v1_n] (.int .i64) K w0 = F_ref10_Check v0_r v1_n K w0 := by kernel_rfl
  exact fn_sound mixed (f := 63) Try.func63 (by kernel_rfl) (e.mpr h)

def F_intern_Store_reach (v0_s : Option Addr) (v1_id : Int) (K : Sl → World → Prop) (w0 : World) : Prop :=
gd (v1_id == (0 : Int)) (
K (⟨none, 0, 0⟩) w0) (
allocK (.cells #[.int .i64 v1_id] t_api_ID) w0 fun a1 w1 =>
allocK (.map #[] 0) w1 fun a2 w2 =>
runU P (Instr.mapUpdate t_map_api_ID_bool (.map (some a2.block)) (.int .i64 v1_id) (.bool true)) w2 fun w3 =>
LoopP (X := Sl × Int × Unit) (⟨some a1, 1, 1⟩, (0 : Int), ()) w3 fun next4 x3 w4 => ∀ _ : Env,
gd (decide (x3.2.1 < (x3.1.len : Int))) (
drawK w4 fun w5 =>
nonNil v0_s fun p5 =>
∃ x6 : Sl, At w5 (p5.add 1) (cells .slice x6) ∧
idxK x3.1.a x3.1.len x3.2.1 1 fun p7 =>
∃ x8 : Int, At w5 p7 (cells (.int .i64) x8) ∧
arith .i64 (x8 - (1 : Int)) fun n9 =>
idxK x6.a x6.len n9 13 fun p10 =>
∃ x11 : yapi_Rule.T, At w5 (p10.add 0) (cells yapi_Rule x11) ∧
C_rule_Refs x11 (fun x12 w6 =>
LoopP (X := Sl × Int × Unit) (x3.1, (0 : Int), ()) w6 fun next14 x13 w7 => ∀ _ : Env,
gd (decide (x13.2.1 < (x12.len : Int))) (
JoinP (X := Sl × Unit) (fun R16 =>
idxK x12.a x12.len x13.2.1 1 fun p17 =>
∃ x18 : Int, At w7 p17 (cells (.int .i64) x18) ∧
∃ x19 : Bool, Lk1 P t_map_api_ID_bool .bool (.map (some a2.block)) (.int .i64 x18) x19 w7 ∧
gd (!x19) (
runU P (Instr.mapUpdate t_map_api_ID_bool (.map (some a2.block)) (.int .i64 x18) (.bool true)) w7 fun w9 =>
allocK (.cells #[.int .i64 x18] t_api_ID) w9 fun a20 w10 =>
appK t_api_ID 1 8 #[.int .i64 (0 : Int)] x13.1.a x13.1.len x13.1.cap (.slice (some a20) 1 1) 1 w10 fun s21 w11 =>
R16 (s21, ()) w11) (
R16 (x13.1, ()) w7)) (fun x15 w8 => ∀ _ : Env,
arith .i64 (x13.2.1 + (1 : Int)) fun n22 =>
next14 (x15.1, n22, ()) w8)) (
arith .i64 (x3.2.1 + (1 : Int)) fun n23 =>
next4 (x13.1, n23, ()) w7)) w5) (
C_slices_Sort x3.1 (fun x24 w12 =>
K x3.1 w12) w4))
theorem S_intern_Store_reach (v0_s : Option Addr) (v1_id : Int) (K : Sl → World → Prop) (w0 : World) (h : F_intern_Store_reach v0_s v1_id K w0) : C_intern_Store_reach v0_s v1_id K w0 := by
  have e : denFn P [(1006, [(5, .slice), (7, .int .i64)]), (1009, [(5, .slice), (37, .int .i64)]), (14, [(5, .slice)])] Try.f64 #[.pointer v0_s, .int .i64 v1_id] .slice K w0 = F_intern_Store_reach v0_s v1_id K w0 := by kernel_rfl
  exact fn_sound mixed (f := 64) Try.func64 (by kernel_rfl) (e.mpr h)

def F_ref10_Reached (v0_s : yevergreenref10_S.T) (v1_id : Int) (K : Sl → World → Prop) (w0 : World) : Prop :=
allocK (.cells (cells yevergreenref10_S v0_s).toArray t_evergreenref10_S) w0 fun a1 w1 =>
∃ x2 : Sl, At w1 (a1.add 1) (cells .slice x2) ∧
arith .i64 ((x2.len : Int) + (1 : Int)) fun n3 =>
0 ≤ n3 ∧ n3 ≤ n3 ∧ n3 ≤ 9223372036854775807 ∧ 1 * n3 ≤ 281474976710656 ∧
allocK (.cells (zrow #[.bool false] (n3.toNat * 1)) t_bool) w1 fun a4 w2 =>
JoinP (X := Unit) (fun R6 =>
gd (decide ((0 : Int) < v1_id)) (
idxK (some a4) n3.toNat v1_id 1 fun p7 =>
stK w2 p7 ([.bool true]) fun w4 =>
R6 () w4) (
R6 () w2)) (fun x5 w3 => ∀ _ : Env,
∃ x8 : Sl, At w3 (a1.add 1) (cells .slice x8) ∧
LoopP (X := Int × Unit) ((x8.len : Int), ()) w3 fun next10 x9 w5 => ∀ _ : Env,
gd (decide ((0 : Int) < x9.1)) (
JoinP (X := Unit) (fun R12 =>
idxK (some a4) n3.toNat x9.1 1 fun p13 =>
∃ x14 : Bool, At w5 p13 (cells .bool x14) ∧
gd x14 (
∃ x15 : Sl, At w5 (a1.add 1) (cells .slice x15) ∧
arith .i64 (x9.1 - (1 : Int)) fun n16 =>
idxK x15.a x15.len n16 5 fun p17 =>
∃ x18 : yapi_Rule.T, At w5 p17 (cells yapi_Rule x18) ∧
allocK (.cells #[.int .i64 (0 : Int), .int .u8 (0 : Int), .int .i64 (0 : Int), .int .i64 (0 : Int), .int .i64 (0 : Int)] t_api_Rule) w5 fun a19 w7 =>
stK w7 a19 (cells yapi_Rule x18) fun w8 =>
∃ x20 : Int, At w8 (a19.add 2) (cells (.int .i64) x20) ∧
idxK (some a4) n3.toNat x20 1 fun p21 =>
stK w8 p21 ([.bool true]) fun w9 =>
∃ x22 : Int, At w9 (a19.add 3) (cells (.int .i64) x22) ∧
idxK (some a4) n3.toNat x22 1 fun p23 =>
stK w9 p23 ([.bool true]) fun w10 =>
R12 () w10) (
R12 () w5)) (fun x11 w6 => ∀ _ : Env,
arith .i64 (x9.1 - (1 : Int)) fun n24 =>
next10 (n24, ()) w6)) (
idxK (some a4) n3.toNat (0 : Int) 1 fun p25 =>
stK w5 p25 ([.bool false]) fun w11 =>
K (⟨some a4, n3.toNat, n3.toNat⟩) w11))
theorem S_ref10_Reached (v0_s : yevergreenref10_S.T) (v1_id : Int) (K : Sl → World → Prop) (w0 : World) (h : F_ref10_Reached v0_s v1_id K w0) : C_ref10_Reached v0_s v1_id K w0 := by
  have e : denFn P [(4, []), (1005, [(6, .int .i64)]), (6, [])] Try.f65 #[val yevergreenref10_S v0_s, .int .i64 v1_id] .slice K w0 = F_ref10_Reached v0_s v1_id K w0 := by kernel_rfl
  exact fn_sound mixed (f := 65) Try.func65 (by kernel_rfl) (e.mpr h)

def F_length_Valid (v0_n : Int) (K : Bool → World → Prop) (w0 : World) : Prop :=
gd (decide ((0 : Int) ≤ v0_n)) (
K (decide (v0_n ≤ (1152921504606846976 : Int))) w0) (
K false w0)
theorem S_length_Valid (v0_n : Int) (K : Bool → World → Prop) (w0 : World) (h : F_length_Valid v0_n K w0) : C_length_Valid v0_n K w0 := by
  have e : denFn P [] Try.f66 #[.int .i64 v0_n] .bool K w0 = F_length_Valid v0_n K w0 := by kernel_rfl
  exact fn_sound mixed (f := 66) Try.func66 (by kernel_rfl) (e.mpr h)

def F_ref10_intern (v0_s : yevergreenref10_S.T) (v1_r : yapi_Rule.T) (v2_length : Int) (v3_depth : Int) (K : (yevergreenref10_S.T × Int × Int) → World → Prop) (w0 : World) : Prop :=
allocK (.cells (cells yevergreenref10_S v0_s).toArray t_evergreenref10_S) w0 fun a1 w1 =>
allocK (.cells (cells yapi_Rule v1_r).toArray t_api_Rule) w1 fun a2 w2 =>
allocK (.cells #[.int .i64 (0 : Int), .slice none 0 0, .slice none 0 0, .slice none 0 0] t_evergreenref10_S) w2 fun a3 w3 =>
∃ x4 : yevergreenref10_S.T, At w3 a1 (cells yevergreenref10_S x4) ∧
∃ x5 : yapi_Rule.T, At w3 a2 (cells yapi_Rule x5) ∧
C_ref10_Find x4 x5 (fun x6 w4 =>
gd (x6 != (0 : Int)) (
∃ x7 : yevergreenref10_S.T, At w4 a1 (cells yevergreenref10_S x7) ∧
stK w4 a3 (cells yevergreenref10_S x7) fun w5 =>
∃ x8 : yevergreenref10_S.T, At w5 a3 (cells yevergreenref10_S x8) ∧
K (x8, x6, (0 : Int)) w5) (
∃ x9 : Sl, At w4 (a1.add 1) (cells .slice x9) ∧
∃ x10 : Int, At w4 (a1.add 0) (cells (.int .i64) x10) ∧
gd (decide (x10 ≤ (x9.len : Int))) (
∃ x11 : yevergreenref10_S.T, At w4 a1 (cells yevergreenref10_S x11) ∧
stK w4 a3 (cells yevergreenref10_S x11) fun w6 =>
∃ x12 : yevergreenref10_S.T, At w6 a3 (cells yevergreenref10_S x12) ∧
K (x12, (0 : Int), (3 : Int)) w6) (
JoinP (X := Unit) (fun R14 =>
drawK w4 fun w8 =>
∃ x15 : Sl, At w8 (a1.add 1) (cells .slice x15) ∧
∃ x16 : yapi_Rule.T, At w8 a2 (cells yapi_Rule x16) ∧
(allocK (.cells #[] t_api_Rule) w8 fun a17 w9 =>
At w9 a2 (cells yapi_Rule x16) ∧
At w9 (a1.add 1) (cells .slice x15) ∧
(appK t_api_Rule 5 40 #[.int .i64 (0 : Int), .int .u8 (0 : Int), .int .i64 (0 : Int), .int .i64 (0 : Int), .int .i64 (0 : Int)] (some a17) 0 0 (.slice x15.a x15.len x15.cap) x15.len w9 fun s18 w10 =>
At w10 a2 (cells yapi_Rule x16) ∧
allocK (.cells (cells yapi_Rule x16).toArray t_api_Rule) w10 fun a19 w11 =>
appK t_api_Rule 5 40 #[.int .i64 (0 : Int), .int .u8 (0 : Int), .int .i64 (0 : Int), .int .i64 (0 : Int), .int .i64 (0 : Int)] s18.a s18.len s18.cap (.slice (some a19) 1 1) 1 w11 fun s20 w12 =>
stK w12 (a1.add 1) ([.slice s20.a s20.len s20.cap]) fun w13 =>
R14 () w13) ∧
(allocK (.cells (cells yapi_Rule x16).toArray t_api_Rule) w9 fun a21 w14 =>
At w14 (a1.add 1) (cells .slice x15) ∧
appK t_api_Rule 5 40 #[.int .i64 (0 : Int), .int .u8 (0 : Int), .int .i64 (0 : Int), .int .i64 (0 : Int), .int .i64 (0 : Int)] (some a17) 0 0 (.slice x15.a x15.len x15.cap) x15.len w14 fun s22 w15 =>
appK t_api_Rule 5 40 #[.int .i64 (0 : Int), .int .u8 (0 : Int), .int .i64 (0 : Int), .int .i64 (0 : Int), .int .i64 (0 : Int)] s22.a s22.len s22.cap (.slice (some a21) 1 1) 1 w15 fun s23 w16 =>
stK w16 (a1.add 1) ([.slice s23.a s23.len s23.cap]) fun w17 =>
R14 () w17)) ∧
(allocK (.cells (cells yapi_Rule x16).toArray t_api_Rule) w8 fun a24 w18 =>
At w18 (a1.add 1) (cells .slice x15) ∧
allocK (.cells #[] t_api_Rule) w18 fun a25 w19 =>
At w19 (a1.add 1) (cells .slice x15) ∧
appK t_api_Rule 5 40 #[.int .i64 (0 : Int), .int .u8 (0 : Int), .int .i64 (0 : Int), .int .i64 (0 : Int), .int .i64 (0 : Int)] (some a25) 0 0 (.slice x15.a x15.len x15.cap) x15.len w19 fun s26 w20 =>
appK t_api_Rule 5 40 #[.int .i64 (0 : Int), .int .u8 (0 : Int), .int .i64 (0 : Int), .int .i64 (0 : Int), .int .i64 (0 : Int)] s26.a s26.len s26.cap (.slice (some a24) 1 1) 1 w20 fun s27 w21 =>
stK w21 (a1.add 1) ([.slice s27.a s27.len s27.cap]) fun w22 =>
R14 () w22)) (fun x13 w7 => ∀ _ : Env,
allocK (.cells #[] t_int) w7 fun a28 w23 =>
∃ x29 : Sl, At w23 (a1.add 2) (cells .slice x29) ∧
appK t_int 1 8 #[.int .i64 (0 : Int)] (some a28) 0 0 (.slice x29.a x29.len x29.cap) x29.len w23 fun s30 w24 =>
allocK (.cells #[.int .i64 v2_length] t_int) w24 fun a31 w25 =>
appK t_int 1 8 #[.int .i64 (0 : Int)] s30.a s30.len s30.cap (.slice (some a31) 1 1) 1 w25 fun s32 w26 =>
stK w26 (a1.add 2) ([.slice s32.a s32.len s32.cap]) fun w27 =>
allocK (.cells #[] t_int) w27 fun a33 w28 =>
∃ x34 : Sl, At w28 (a1.add 3) (cells .slice x34) ∧
appK t_int 1 8 #[.int .i64 (0 : Int)] (some a33) 0 0 (.slice x34.a x34.len x34.cap) x34.len w28 fun s35 w29 =>
allocK (.cells #[.int .i64 v3_depth] t_int) w29 fun a36 w30 =>
appK t_int 1 8 #[.int .i64 (0 : Int)] s35.a s35.len s35.cap (.slice (some a36) 1 1) 1 w30 fun s37 w31 =>
stK w31 (a1.add 3) ([.slice s37.a s37.len s37.cap]) fun w32 =>
drawK w32 fun w33 =>
∃ x38 : yevergreenref10_S.T, At w33 a1 (cells yevergreenref10_S x38) ∧
∃ x39 : Sl, At w33 (a1.add 1) (cells .slice x39) ∧
stK w33 a3 (cells yevergreenref10_S x38) fun w34 =>
At w34 (a1.add 1) (cells .slice x39) ∧
∃ x40 : yevergreenref10_S.T, At w34 a3 (cells yevergreenref10_S x40) ∧
K (x40, (x39.len : Int), (0 : Int)) w34)))) w3
theorem S_ref10_intern (v0_s : yevergreenref10_S.T) (v1_r : yapi_Rule.T) (v2_length : Int) (v3_depth : Int) (K : (yevergreenref10_S.T × Int × Int) → World → Prop) (w0 : World) (h : F_ref10_intern v0_s v1_r v2_length v3_depth K w0) : C_ref10_intern v0_s v1_r v2_length v3_depth K w0 := by
  have e : denFn P [(7, [])] Try.f67 #[val yevergreenref10_S v0_s, val yapi_Rule v1_r, .int .i64 v2_length, .int .i64 v3_depth] (.tup (.pair yevergreenref10_S (.pair (.int .i64) (.int .i64)))) K w0 = F_ref10_intern v0_s v1_r v2_length v3_depth K w0 := by kernel_rfl
  exact fn_sound mixed (f := 67) Try.func67 (by kernel_rfl) (e.mpr h)

def F_ref10_Depth (v0_s : yevergreenref10_S.T) (v1_id : Int) (K : Int → World → Prop) (w0 : World) : Prop :=
allocK (.cells (cells yevergreenref10_S v0_s).toArray t_evergreenref10_S) w0 fun a1 w1 =>
gd (v1_id == (0 : Int)) (
K (0 : Int) w1) (
∃ x2 : Sl, At w1 (a1.add 3) (cells .slice x2) ∧
arith .i64 (v1_id - (1 : Int)) fun n3 =>
idxK x2.a x2.len n3 1 fun p4 =>
∃ x5 : Int, At w1 p4 (cells (.int .i64) x5) ∧
K x5 w1)
theorem S_ref10_Depth (v0_s : yevergreenref10_S.T) (v1_id : Int) (K : Int → World → Prop) (w0 : World) (h : F_ref10_Depth v0_s v1_id K w0) : C_ref10_Depth v0_s v1_id K w0 := by
  have e : denFn P [] Try.f68 #[val yevergreenref10_S v0_s, .int .i64 v1_id] (.int .i64) K w0 = F_ref10_Depth v0_s v1_id K w0 := by kernel_rfl
  exact fn_sound mixed (f := 68) Try.func68 (by kernel_rfl) (e.mpr h)

def F_modular_Pow (v0_a : Int) (v1_n : Int) (K : Int → World → Prop) (w0 : World) : Prop :=
C_modular_Reduce v0_a (fun x1 w1 =>
LoopP (X := Int × Int × Int × Unit) (x1, v1_n, (1 : Int), ()) w1 fun next3 x2 w2 => ∀ _ : Env,
gd (decide ((0 : Int) < x2.2.1)) (
JoinP (X := Int × Unit) (fun R5 =>
(2 : Int) ≠ 0 ∧
letZ (Int.tmod x2.2.1 (2 : Int)) fun n6 =>
gd (n6 == (1 : Int)) (
C_modular_Mul x2.2.2.1 x2.1 (fun x7 w4 =>
R5 (x7, ()) w4) w2) (
R5 (x2.2.2.1, ()) w2)) (fun x4 w3 => ∀ _ : Env,
C_modular_Mul x2.1 x2.1 (fun x8 w5 =>
(2 : Int) ≠ 0 ∧
arith .u64 (Int.tdiv x2.2.1 (2 : Int)) fun n9 =>
next3 (x8, n9, x4.1, ()) w5) w3)) (
K x2.2.2.1 w2)) w0
theorem S_modular_Pow (v0_a : Int) (v1_n : Int) (K : Int → World → Prop) (w0 : World) (h : F_modular_Pow v0_a v1_n K w0) : C_modular_Pow v0_a v1_n K w0 := by
  have e : denFn P [(1003, [(0, .int .u64), (1, .int .u64), (5, .int .u64)]), (7, [(5, .int .u64)])] Try.f69 #[.int .u64 v0_a, .int .u64 v1_n] (.int .u64) K w0 = F_modular_Pow v0_a v1_n K w0 := by kernel_rfl
  exact fn_sound mixed (f := 69) Try.func69 (by kernel_rfl) (e.mpr h)

def F_modular_Add (v0_a : Int) (v1_b : Int) (K : Int → World → Prop) (w0 : World) : Prop :=
C_modular_Reduce v0_a (fun x1 w1 =>
C_modular_Reduce v1_b (fun x2 w2 =>
arith .u64 (x1 + x2) fun n3 =>
C_modular_Reduce n3 (fun x4 w3 =>
K x4 w3) w2) w1) w0
theorem S_modular_Add (v0_a : Int) (v1_b : Int) (K : Int → World → Prop) (w0 : World) (h : F_modular_Add v0_a v1_b K w0) : C_modular_Add v0_a v1_b K w0 := by
  have e : denFn P [] Try.f70 #[.int .u64 v0_a, .int .u64 v1_b] (.int .u64) K w0 = F_modular_Add v0_a v1_b K w0 := by kernel_rfl
  exact fn_sound mixed (f := 70) Try.func70 (by kernel_rfl) (e.mpr h)

def F_modular_Mul (v0_a : Int) (v1_b : Int) (K : Int → World → Prop) (w0 : World) : Prop :=
C_modular_Reduce v0_a (fun x1 w1 =>
C_modular_Reduce v1_b (fun x2 w2 =>
C_bits_Mul64 x1 x2 (fun x3 w3 =>
0 ≤ (3 : Int) ∧
arith .u64 (x3.1 * 2 ^ min (Int.toNat (3 : Int)) (IntKind.bits .u64)) fun n4 =>
0 ≤ (61 : Int) ∧
letZ (Int.fdiv x3.2 (2 ^ min (Int.toNat (61 : Int)) (IntKind.bits .u64))) fun n5 =>
arith .u64 (n4 + n5) fun n6 =>
arith .u64 ((BitVec.ofInt (IntKind.bits .u64) x3.2 &&& BitVec.ofInt (IntKind.bits .u64) (2305843009213693951 : Int)).toNat) fun n7 =>
arith .u64 (n6 + n7) fun n8 =>
C_modular_Reduce n8 (fun x9 w4 =>
K x9 w4) w3) w2) w1) w0
theorem S_modular_Mul (v0_a : Int) (v1_b : Int) (K : Int → World → Prop) (w0 : World) (h : F_modular_Mul v0_a v1_b K w0) : C_modular_Mul v0_a v1_b K w0 := by
  have e : denFn P [] Try.f71 #[.int .u64 v0_a, .int .u64 v1_b] (.int .u64) K w0 = F_modular_Mul v0_a v1_b K w0 := by kernel_rfl
  exact fn_sound mixed (f := 71) Try.func71 (by kernel_rfl) (e.mpr h)

def F_digest_Unit  (K : yapi_Digest.T → World → Prop) (w0 : World) : Prop :=
allocK (.cells #[.int .u64 (0 : Int), .int .u64 (0 : Int)] t_api_Digest) w0 fun a1 w1 =>
stK w1 a1 ([.int .u64 (0 : Int), .int .u64 (1 : Int)]) fun w2 =>
∃ x2 : yapi_Digest.T, At w2 a1 (cells yapi_Digest x2) ∧
K x2 w2
theorem S_digest_Unit  (K : yapi_Digest.T → World → Prop) (w0 : World) (h : F_digest_Unit  K w0) : C_digest_Unit  K w0 := by
  have e : denFn P [] Try.f72 #[] yapi_Digest K w0 = F_digest_Unit  K w0 := by kernel_rfl
  exact fn_sound mixed (f := 72) Try.func72 (by kernel_rfl) (e.mpr h)

def F_rule_place (v0_r : yapi_Rule.T) (v1_n : Int) (K : Value → World → Prop) (w0 : World) : Prop :=
allocK (.cells (cells yapi_Rule v0_r).toArray t_api_Rule) w0 fun a1 w1 =>
gd (decide (v1_n < (1 : Int))) (
K (.iface t_api_Errno (.int .i64 (1 : Int))) w1) (
∃ x2 : yapi_Rule.T, At w1 a1 (cells yapi_Rule x2) ∧
C_rule_Refs x2 (fun x3 w2 =>
LoopP (X := Int × Unit) ((0 : Int), ()) w2 fun next5 x4 w3 => ∀ _ : Env,
gd (decide (x4.1 < (x3.len : Int))) (
idxK x3.a x3.len x4.1 1 fun p6 =>
∃ x7 : Int, At w3 p6 (cells (.int .i64) x7) ∧
JoinP (X := Bool × Unit) (fun R9 =>
gd (decide (x7 < (1 : Int))) (
R9 (true, ()) w3) (
arith .i64 (v1_n - (1 : Int)) fun n10 =>
R9 (decide (n10 < x7), ()) w3)) (fun x8 w4 => ∀ _ : Env,
gd x8.1 (
K (.iface t_api_Errno (.int .i64 (1 : Int))) w4) (
arith .i64 (x4.1 + (1 : Int)) fun n11 =>
next5 (n11, ()) w4))) (
K .nilIface w3)) w1)
theorem S_rule_place (v0_r : yapi_Rule.T) (v1_n : Int) (K : Value → World → Prop) (w0 : World) (h : F_rule_place v0_r v1_n K w0) : C_rule_place v0_r v1_n K w0 := by
  have e : denFn P [(1004, [(13, .int .i64)]), (7, [(24, .bool)])] Try.f73 #[val yapi_Rule v0_r, .int .i64 v1_n] .iface K w0 = F_rule_place v0_r v1_n K w0 := by kernel_rfl
  exact fn_sound mixed (f := 73) Try.func73 (by kernel_rfl) (e.mpr h)

def F_rule_Refs (v0_r : yapi_Rule.T) (K : Sl → World → Prop) (w0 : World) : Prop :=
allocK (.cells (cells yapi_Rule v0_r).toArray t_api_Rule) w0 fun a1 w1 =>
∃ x2 : Int, At w1 (a1.add 0) (cells (.int .i64) x2) ∧
gd (x2 == (2 : Int)) (
∃ x3 : Int, At w1 (a1.add 2) (cells (.int .i64) x3) ∧
∃ x4 : Int, At w1 (a1.add 3) (cells (.int .i64) x4) ∧
allocK (.cells #[.int .i64 x3, .int .i64 x4] t_api_ID) w1 fun a5 w2 =>
K (⟨some a5, 2, 2⟩) w2) (
gd (x2 == (3 : Int)) (
∃ x6 : Int, At w1 (a1.add 2) (cells (.int .i64) x6) ∧
allocK (.cells #[.int .i64 x6] t_api_ID) w1 fun a7 w3 =>
K (⟨some a7, 1, 1⟩) w3) (
K (⟨none, 0, 0⟩) w1))
theorem S_rule_Refs (v0_r : yapi_Rule.T) (K : Sl → World → Prop) (w0 : World) (h : F_rule_Refs v0_r K w0) : C_rule_Refs v0_r K w0 := by
  have e : denFn P [] Try.f74 #[val yapi_Rule v0_r] .slice K w0 = F_rule_Refs v0_r K w0 := by kernel_rfl
  exact fn_sound mixed (f := 74) Try.func74 (by kernel_rfl) (e.mpr h)

def F_modular_Reduce (v0_x : Int) (K : Int → World → Prop) (w0 : World) : Prop :=
arith .u64 ((BitVec.ofInt (IntKind.bits .u64) v0_x &&& BitVec.ofInt (IntKind.bits .u64) (2305843009213693951 : Int)).toNat) fun n1 =>
0 ≤ (61 : Int) ∧
letZ (Int.fdiv v0_x (2 ^ min (Int.toNat (61 : Int)) (IntKind.bits .u64))) fun n2 =>
arith .u64 (n1 + n2) fun n3 =>
JoinP (X := Int × Unit) (fun R5 =>
gd (decide ((2305843009213693951 : Int) ≤ n3)) (
arith .u64 (n3 - (2305843009213693951 : Int)) fun n6 =>
R5 (n6, ()) w0) (
R5 (n3, ()) w0)) (fun x4 w1 => ∀ _ : Env,
K x4.1 w1)
theorem S_modular_Reduce (v0_x : Int) (K : Int → World → Prop) (w0 : World) (h : F_modular_Reduce v0_x K w0) : C_modular_Reduce v0_x K w0 := by
  have e : denFn P [(4, [(0, .int .u64)])] Try.f76 #[.int .u64 v0_x] (.int .u64) K w0 = F_modular_Reduce v0_x K w0 := by kernel_rfl
  exact fn_sound mixed (f := 76) Try.func76 (by kernel_rfl) (e.mpr h)

def F_bits_Mul64 (v0_x : Int) (v1_y : Int) (K : (Int × Int) → World → Prop) (w0 : World) : Prop :=
arith .u64 ((BitVec.ofInt (IntKind.bits .u64) v0_x &&& BitVec.ofInt (IntKind.bits .u64) (4294967295 : Int)).toNat) fun n1 =>
0 ≤ (32 : Int) ∧
letZ (Int.fdiv v0_x (2 ^ min (Int.toNat (32 : Int)) (IntKind.bits .u64))) fun n2 =>
arith .u64 ((BitVec.ofInt (IntKind.bits .u64) v1_y &&& BitVec.ofInt (IntKind.bits .u64) (4294967295 : Int)).toNat) fun n3 =>
0 ≤ (32 : Int) ∧
letZ (Int.fdiv v1_y (2 ^ min (Int.toNat (32 : Int)) (IntKind.bits .u64))) fun n4 =>
arith .u64 (n1 * n3) fun n5 =>
arith .u64 (n2 * n3) fun n6 =>
0 ≤ (32 : Int) ∧
letZ (Int.fdiv n5 (2 ^ min (Int.toNat (32 : Int)) (IntKind.bits .u64))) fun n7 =>
arith .u64 (n6 + n7) fun n8 =>
arith .u64 ((BitVec.ofInt (IntKind.bits .u64) n8 &&& BitVec.ofInt (IntKind.bits .u64) (4294967295 : Int)).toNat) fun n9 =>
0 ≤ (32 : Int) ∧
letZ (Int.fdiv n8 (2 ^ min (Int.toNat (32 : Int)) (IntKind.bits .u64))) fun n10 =>
arith .u64 (n1 * n4) fun n11 =>
arith .u64 (n9 + n11) fun n12 =>
arith .u64 (n2 * n4) fun n13 =>
arith .u64 (n13 + n10) fun n14 =>
0 ≤ (32 : Int) ∧
letZ (Int.fdiv n12 (2 ^ min (Int.toNat (32 : Int)) (IntKind.bits .u64))) fun n15 =>
arith .u64 (n14 + n15) fun n16 =>
arith .u64 (v0_x * v1_y) fun n17 =>
K (n16, n17) w0
theorem S_bits_Mul64 (v0_x : Int) (v1_y : Int) (K : (Int × Int) → World → Prop) (w0 : World) (h : F_bits_Mul64 v0_x v1_y K w0) : C_bits_Mul64 v0_x v1_y K w0 := by
  have e : denFn P [] Try.f77 #[.int .u64 v0_x, .int .u64 v1_y] (.tup (.pair (.int .u64) (.int .u64))) K w0 = F_bits_Mul64 v0_x v1_y K w0 := by kernel_rfl
  exact fn_sound mixed (f := 77) Try.func77 (by kernel_rfl) (e.mpr h)

def F_bits_Len (v0_x : Int) (K : Int → World → Prop) (w0 : World) : Prop :=
C_bits_Len64 v0_x (fun x1 w1 =>
K x1 w1) w0
theorem S_bits_Len (v0_x : Int) (K : Int → World → Prop) (w0 : World) (h : F_bits_Len v0_x K w0) : C_bits_Len v0_x K w0 := by
  have e : denFn P [] Try.f79 #[.int .u64 v0_x] (.int .i64) K w0 = F_bits_Len v0_x K w0 := by kernel_rfl
  exact fn_sound mixed (f := 79) Try.func79 (by kernel_rfl) (e.mpr h)

def F_bits_Len32 (v0_x : Int) (K : Int → World → Prop) (w0 : World) : Prop :=
JoinP (X := Int × Int × Unit) (fun R2 =>
gd (decide ((65536 : Int) ≤ v0_x)) (
0 ≤ (16 : Int) ∧
letZ (Int.fdiv v0_x (2 ^ min (Int.toNat (16 : Int)) (IntKind.bits .u32))) fun n3 =>
R2 (n3, (16 : Int), ()) w0) (
R2 (v0_x, (0 : Int), ()) w0)) (fun x1 w1 => ∀ _ : Env,
JoinP (X := Int × Int × Unit) (fun R5 =>
gd (decide ((256 : Int) ≤ x1.1)) (
0 ≤ (8 : Int) ∧
letZ (Int.fdiv x1.1 (2 ^ min (Int.toNat (8 : Int)) (IntKind.bits .u32))) fun n6 =>
arith .i64 (x1.2.1 + (8 : Int)) fun n7 =>
R5 (n6, n7, ()) w1) (
R5 (x1.1, x1.2.1, ()) w1)) (fun x4 w2 => ∀ _ : Env,
arith .u8 (x4.1) fun n8 =>
0 ≤ n8 ∧ ∃ hx : n8.toNat < (⟨#[0, 1, 2, 2, 3, 3, 3, 3, 4, 4, 4, 4, 4, 4, 4, 4, 5, 5, 5, 5, 5, 5, 5, 5, 5, 5, 5, 5, 5, 5, 5, 5, 6, 6, 6, 6, 6, 6, 6, 6, 6, 6, 6, 6, 6, 6, 6, 6, 6, 6, 6, 6, 6, 6, 6, 6, 6, 6, 6, 6, 6, 6, 6, 6, 7, 7, 7, 7, 7, 7, 7, 7, 7, 7, 7, 7, 7, 7, 7, 7, 7, 7, 7, 7, 7, 7, 7, 7, 7, 7, 7, 7, 7, 7, 7, 7, 7, 7, 7, 7, 7, 7, 7, 7, 7, 7, 7, 7, 7, 7, 7, 7, 7, 7, 7, 7, 7, 7, 7, 7, 7, 7, 7, 7, 7, 7, 7, 7, 8, 8, 8, 8, 8, 8, 8, 8, 8, 8, 8, 8, 8, 8, 8, 8, 8, 8, 8, 8, 8, 8, 8, 8, 8, 8, 8, 8, 8, 8, 8, 8, 8, 8, 8, 8, 8, 8, 8, 8, 8, 8, 8, 8, 8, 8, 8, 8, 8, 8, 8, 8, 8, 8, 8, 8, 8, 8, 8, 8, 8, 8, 8, 8, 8, 8, 8, 8, 8, 8, 8, 8, 8, 8, 8, 8, 8, 8, 8, 8, 8, 8, 8, 8, 8, 8, 8, 8, 8, 8, 8, 8, 8, 8, 8, 8, 8, 8, 8, 8, 8, 8, 8, 8, 8, 8, 8, 8, 8, 8, 8, 8, 8, 8, 8, 8, 8, 8, 8, 8, 8, 8, 8, 8, 8, 8, 8, 8]⟩ : ByteArray).size,
arith .i64 ((((⟨#[0, 1, 2, 2, 3, 3, 3, 3, 4, 4, 4, 4, 4, 4, 4, 4, 5, 5, 5, 5, 5, 5, 5, 5, 5, 5, 5, 5, 5, 5, 5, 5, 6, 6, 6, 6, 6, 6, 6, 6, 6, 6, 6, 6, 6, 6, 6, 6, 6, 6, 6, 6, 6, 6, 6, 6, 6, 6, 6, 6, 6, 6, 6, 6, 7, 7, 7, 7, 7, 7, 7, 7, 7, 7, 7, 7, 7, 7, 7, 7, 7, 7, 7, 7, 7, 7, 7, 7, 7, 7, 7, 7, 7, 7, 7, 7, 7, 7, 7, 7, 7, 7, 7, 7, 7, 7, 7, 7, 7, 7, 7, 7, 7, 7, 7, 7, 7, 7, 7, 7, 7, 7, 7, 7, 7, 7, 7, 7, 8, 8, 8, 8, 8, 8, 8, 8, 8, 8, 8, 8, 8, 8, 8, 8, 8, 8, 8, 8, 8, 8, 8, 8, 8, 8, 8, 8, 8, 8, 8, 8, 8, 8, 8, 8, 8, 8, 8, 8, 8, 8, 8, 8, 8, 8, 8, 8, 8, 8, 8, 8, 8, 8, 8, 8, 8, 8, 8, 8, 8, 8, 8, 8, 8, 8, 8, 8, 8, 8, 8, 8, 8, 8, 8, 8, 8, 8, 8, 8, 8, 8, 8, 8, 8, 8, 8, 8, 8, 8, 8, 8, 8, 8, 8, 8, 8, 8, 8, 8, 8, 8, 8, 8, 8, 8, 8, 8, 8, 8, 8, 8, 8, 8, 8, 8, 8, 8, 8, 8, 8, 8, 8, 8, 8, 8, 8, 8]⟩ : ByteArray)[n8.toNat]).toNat : Int)) fun n9 =>
arith .i64 (x4.2.1 + n9) fun n10 =>
K n10 w2))
theorem S_bits_Len32 (v0_x : Int) (K : Int → World → Prop) (w0 : World) (h : F_bits_Len32 v0_x K w0) : C_bits_Len32 v0_x K w0 := by
  have e : denFn P [(4, [(0, .int .u32), (2, .int .i64)]), (7, [(0, .int .u32), (2, .int .i64)])] Try.f89 #[.int .u32 v0_x] (.int .i64) K w0 = F_bits_Len32 v0_x K w0 := by kernel_rfl
  exact fn_sound mixed (f := 89) Try.func89 (by kernel_rfl) (e.mpr h)

def F_bits_Len64 (v0_x : Int) (K : Int → World → Prop) (w0 : World) : Prop :=
JoinP (X := Int × Int × Unit) (fun R2 =>
gd (decide ((4294967296 : Int) ≤ v0_x)) (
0 ≤ (32 : Int) ∧
letZ (Int.fdiv v0_x (2 ^ min (Int.toNat (32 : Int)) (IntKind.bits .u64))) fun n3 =>
R2 (n3, (32 : Int), ()) w0) (
R2 (v0_x, (0 : Int), ()) w0)) (fun x1 w1 => ∀ _ : Env,
JoinP (X := Int × Int × Unit) (fun R5 =>
gd (decide ((65536 : Int) ≤ x1.1)) (
0 ≤ (16 : Int) ∧
letZ (Int.fdiv x1.1 (2 ^ min (Int.toNat (16 : Int)) (IntKind.bits .u64))) fun n6 =>
arith .i64 (x1.2.1 + (16 : Int)) fun n7 =>
R5 (n6, n7, ()) w1) (
R5 (x1.1, x1.2.1, ()) w1)) (fun x4 w2 => ∀ _ : Env,
JoinP (X := Int × Int × Unit) (fun R9 =>
gd (decide ((256 : Int) ≤ x4.1)) (
0 ≤ (8 : Int) ∧
letZ (Int.fdiv x4.1 (2 ^ min (Int.toNat (8 : Int)) (IntKind.bits .u64))) fun n10 =>
arith .i64 (x4.2.1 + (8 : Int)) fun n11 =>
R9 (n10, n11, ()) w2) (
R9 (x4.1, x4.2.1, ()) w2)) (fun x8 w3 => ∀ _ : Env,
arith .u8 (x8.1) fun n12 =>
0 ≤ n12 ∧ ∃ hx : n12.toNat < (⟨#[0, 1, 2, 2, 3, 3, 3, 3, 4, 4, 4, 4, 4, 4, 4, 4, 5, 5, 5, 5, 5, 5, 5, 5, 5, 5, 5, 5, 5, 5, 5, 5, 6, 6, 6, 6, 6, 6, 6, 6, 6, 6, 6, 6, 6, 6, 6, 6, 6, 6, 6, 6, 6, 6, 6, 6, 6, 6, 6, 6, 6, 6, 6, 6, 7, 7, 7, 7, 7, 7, 7, 7, 7, 7, 7, 7, 7, 7, 7, 7, 7, 7, 7, 7, 7, 7, 7, 7, 7, 7, 7, 7, 7, 7, 7, 7, 7, 7, 7, 7, 7, 7, 7, 7, 7, 7, 7, 7, 7, 7, 7, 7, 7, 7, 7, 7, 7, 7, 7, 7, 7, 7, 7, 7, 7, 7, 7, 7, 8, 8, 8, 8, 8, 8, 8, 8, 8, 8, 8, 8, 8, 8, 8, 8, 8, 8, 8, 8, 8, 8, 8, 8, 8, 8, 8, 8, 8, 8, 8, 8, 8, 8, 8, 8, 8, 8, 8, 8, 8, 8, 8, 8, 8, 8, 8, 8, 8, 8, 8, 8, 8, 8, 8, 8, 8, 8, 8, 8, 8, 8, 8, 8, 8, 8, 8, 8, 8, 8, 8, 8, 8, 8, 8, 8, 8, 8, 8, 8, 8, 8, 8, 8, 8, 8, 8, 8, 8, 8, 8, 8, 8, 8, 8, 8, 8, 8, 8, 8, 8, 8, 8, 8, 8, 8, 8, 8, 8, 8, 8, 8, 8, 8, 8, 8, 8, 8, 8, 8, 8, 8, 8, 8, 8, 8, 8, 8]⟩ : ByteArray).size,
arith .i64 ((((⟨#[0, 1, 2, 2, 3, 3, 3, 3, 4, 4, 4, 4, 4, 4, 4, 4, 5, 5, 5, 5, 5, 5, 5, 5, 5, 5, 5, 5, 5, 5, 5, 5, 6, 6, 6, 6, 6, 6, 6, 6, 6, 6, 6, 6, 6, 6, 6, 6, 6, 6, 6, 6, 6, 6, 6, 6, 6, 6, 6, 6, 6, 6, 6, 6, 7, 7, 7, 7, 7, 7, 7, 7, 7, 7, 7, 7, 7, 7, 7, 7, 7, 7, 7, 7, 7, 7, 7, 7, 7, 7, 7, 7, 7, 7, 7, 7, 7, 7, 7, 7, 7, 7, 7, 7, 7, 7, 7, 7, 7, 7, 7, 7, 7, 7, 7, 7, 7, 7, 7, 7, 7, 7, 7, 7, 7, 7, 7, 7, 8, 8, 8, 8, 8, 8, 8, 8, 8, 8, 8, 8, 8, 8, 8, 8, 8, 8, 8, 8, 8, 8, 8, 8, 8, 8, 8, 8, 8, 8, 8, 8, 8, 8, 8, 8, 8, 8, 8, 8, 8, 8, 8, 8, 8, 8, 8, 8, 8, 8, 8, 8, 8, 8, 8, 8, 8, 8, 8, 8, 8, 8, 8, 8, 8, 8, 8, 8, 8, 8, 8, 8, 8, 8, 8, 8, 8, 8, 8, 8, 8, 8, 8, 8, 8, 8, 8, 8, 8, 8, 8, 8, 8, 8, 8, 8, 8, 8, 8, 8, 8, 8, 8, 8, 8, 8, 8, 8, 8, 8, 8, 8, 8, 8, 8, 8, 8, 8, 8, 8, 8, 8, 8, 8, 8, 8, 8, 8]⟩ : ByteArray)[n12.toNat]).toNat : Int)) fun n13 =>
arith .i64 (x8.2.1 + n13) fun n14 =>
K n14 w3)))
theorem S_bits_Len64 (v0_x : Int) (K : Int → World → Prop) (w0 : World) (h : F_bits_Len64 v0_x K w0) : C_bits_Len64 v0_x K w0 := by
  have e : denFn P [(4, [(0, .int .u64), (2, .int .i64)]), (7, [(0, .int .u64), (2, .int .i64)]), (10, [(0, .int .u64), (2, .int .i64)])] Try.f90 #[.int .u64 v0_x] (.int .i64) K w0 = F_bits_Len64 v0_x K w0 := by kernel_rfl
  exact fn_sound mixed (f := 90) Try.func90 (by kernel_rfl) (e.mpr h)

end Go.Proofs.Ytddhndabnbckmaa
