/- Texts that belong together, joined: TextC. No conditions. -/
import Derived.Test.YtcmncfglcjcmhaaGreatProg
import Derived.Test.YtcmncfglcjcmhaaGreatDenC
/- The typed texts of the functions, printed by a program; each proved to imply the call. -/
set_option linter.unusedVariables false
set_option maxRecDepth 100000
namespace Go.Proofs.YtcmncfglcjcmhaaGreat
open Go.Den

noncomputable def P : Program := Tryz.prog
theorem mixed : P.follows .mixedOrders = true := by kernel_rfl

abbrev t_int : Nat := 3
abbrev t_bool : Nat := 4
abbrev t_uint8 : Nat := 5
abbrev t_string : Nat := 9
abbrev t_pt_intern_Store : Nat := 25
abbrev t_sl_api_ID : Nat := 26
abbrev t_api_ID : Nat := 30
abbrev t_sl_uint8 : Nat := 44
abbrev t_api_Digest : Nat := 56
abbrev t_api_Weight : Nat := 58
abbrev t_api_Letters : Nat := 68
abbrev t_api_Rule : Nat := 76
abbrev t_evergreentop_Make : Nat := 80
abbrev t_cursor_Cursor : Nat := 85
abbrev t_api_Errno : Nat := 87
abbrev t_sl_walk_copies : Nat := 91
abbrev t_walk_copies : Nat := 96
abbrev t_intern_entry : Nat := 104
abbrev t_map_api_Rule_api_ID : Nat := 122
abbrev t_intern_Store : Nat := 124
abbrev t_walk_node : Nat := 132
abbrev t_access_span : Nat := 135
abbrev t_access_copies : Nat := 139
abbrev t_map_api_ID_api_ID : Nat := 148
abbrev t_map_api_ID_bool : Nat := 159

abbrev yapi_Digest : Ty := .st (.pair (.int .u64) (.int .u64))
abbrev yapi_Weight : Ty := .st (.pair (.int .i64) (.pair (.int .i64) (.pair (.int .i64) (.pair (.int .i64) yapi_Digest))))
abbrev yapi_Letters : Ty := .st (.pair (.int .u64) (.pair (.int .u64) (.pair (.int .u64) (.int .u64))))
abbrev yapi_Rule : Ty := .st (.pair (.int .i64) (.pair (.int .u8) (.pair (.int .i64) (.pair (.int .i64) (.int .i64)))))
abbrev yevergreentop_Make : Ty := .st (.pair (.int .i64) (.pair (.int .i64) (.pair (.int .i64) (.pair (.int .i64) (.pair (.int .i64) .str)))))
abbrev ycursor_Cursor : Ty := .st (.pair .ptr (.pair (.int .i64) (.pair (.int .i64) (.int .i64))))
abbrev yintern_entry : Ty := .st (.pair yapi_Rule (.pair yapi_Weight (.pair (.int .i64) .bool)))
abbrev yintern_Store : Ty := .st (.pair (.int .i64) (.pair .slice .map))
abbrev ywalk_copies : Ty := .st (.pair (.int .i64) (.int .i64))
abbrev ywalk_node : Ty := .st (.pair (.int .i64) (.int .i64))
abbrev yaccess_span : Ty := .st (.pair (.int .i64) (.pair (.int .i64) (.pair (.int .i64) (.int .i64))))
abbrev yaccess_copies : Ty := .st (.pair (.int .i64) (.int .i64))

instance : EntTys := ⟨fun _ => none⟩

def C_top_WholeCursors (v0_list : Sl) (v1_moves : Sl) (K : Bool → World → Prop) (w0 : World) : Prop := callP P 3 #[.slice v0_list.a v0_list.len v0_list.cap, .slice v1_moves.a v1_moves.len v1_moves.cap] .bool w0 K
def C_top_WholeWalks (v0_list : Sl) (v1_from : Int) (v2_n : Int) (K : Bool → World → Prop) (w0 : World) : Prop := callP P 4 #[.slice v0_list.a v0_list.len v0_list.cap, .int .i64 v1_from, .int .i64 v2_n] .bool w0 K
def C_top_WholeAccess (v0_list : Sl) (v1_from : Int) (v2_n : Int) (K : Bool → World → Prop) (w0 : World) : Prop := callP P 5 #[.slice v0_list.a v0_list.len v0_list.cap, .int .i64 v1_from, .int .i64 v2_n] .bool w0 K
def C_top_stands  (K : Bool → World → Prop) (w0 : World) : Prop := callP P 6 #[] .bool w0 K
def C_top_begin (v0_list : Sl) (K : ((Option Addr) × Sl × Sl × Bool) → World → Prop) (w0 : World) : Prop := callP P 7 #[.slice v0_list.a v0_list.len v0_list.cap] (.tup (.pair .ptr (.pair .slice (.pair .slice .bool)))) w0 K
def C_cursor_New (v0_s : Option Addr) (v1_id : Int) (K : ((Option Addr) × Value) → World → Prop) (w0 : World) : Prop := callP P 8 #[.pointer v0_s, .int .i64 v1_id] (.tup (.pair .ptr .iface)) w0 K
def C_top_at (v0_k : Int) (v1_n : Int) (K : Int → World → Prop) (w0 : World) : Prop := callP P 9 #[.int .i64 v0_k, .int .i64 v1_n] (.int .i64) w0 K
def C_cursor_Cursor_Skip (v0_c : Option Addr) (v1_n : Int) (K : Int → World → Prop) (w0 : World) : Prop := callP P 10 #[.pointer v0_c, .int .i64 v1_n] (.int .i64) w0 K
def C_cursor_Cursor_Offset (v0_c : Option Addr) (K : Int → World → Prop) (w0 : World) : Prop := callP P 11 #[.pointer v0_c] (.int .i64) w0 K
def C_cursor_Cursor_Seek (v0_c : Option Addr) (v1_at : Int) (K : Value → World → Prop) (w0 : World) : Prop := callP P 12 #[.pointer v0_c, .int .i64 v1_at] .iface w0 K
def C_lines_Position (v0_s : Option Addr) (v1_id : Int) (v2_at : Int) (K : (Int × Int × Value) → World → Prop) (w0 : World) : Prop := callP P 13 #[.pointer v0_s, .int .i64 v1_id, .int .i64 v2_at] (.tup (.pair (.int .i64) (.pair (.int .i64) .iface))) w0 K
def C_cursor_Cursor_Line (v0_c : Option Addr) (K : (Int × Int) → World → Prop) (w0 : World) : Prop := callP P 14 #[.pointer v0_c] (.tup (.pair (.int .i64) (.int .i64))) w0 K
def C_cursor_Cursor_Left (v0_c : Option Addr) (K : Int → World → Prop) (w0 : World) : Prop := callP P 15 #[.pointer v0_c] (.int .i64) w0 K
def C_cursor_Cursor_Copy (v0_c : Option Addr) (K : (Option Addr) → World → Prop) (w0 : World) : Prop := callP P 16 #[.pointer v0_c] .ptr w0 K
def C_cursor_Cursor_Read (v0_c : Option Addr) (v1_n : Int) (K : Sl → World → Prop) (w0 : World) : Prop := callP P 17 #[.pointer v0_c, .int .i64 v1_n] .slice w0 K
def C_walk_Letters (v0_s : Option Addr) (v1_id : Int) (v2_from : Int) (K : Value → World → Prop) (w0 : World) : Prop := callP P 18 #[.pointer v0_s, .int .i64 v1_id, .int .i64 v2_from] .func w0 K
def C_walk_Back (v0_s : Option Addr) (v1_id : Int) (v2_from : Int) (K : Value → World → Prop) (w0 : World) : Prop := callP P 19 #[.pointer v0_s, .int .i64 v1_id, .int .i64 v2_from] .func w0 K
def C_walk_Pieces (v0_s : Option Addr) (v1_id : Int) (v2_from : Int) (v3_n : Int) (K : Value → World → Prop) (w0 : World) : Prop := callP P 20 #[.pointer v0_s, .int .i64 v1_id, .int .i64 v2_from, .int .i64 v3_n] .func w0 K
def C_intern_Store_Weight (v0_s : Option Addr) (v1_id : Int) (K : (yapi_Weight.T × Value) → World → Prop) (w0 : World) : Prop := callP P 21 #[.pointer v0_s, .int .i64 v1_id] (.tup (.pair yapi_Weight .iface)) w0 K
def C_access_Extract (v0_s : Option Addr) (v1_id : Int) (v2_from : Int) (v3_n : Int) (K : (Sl × Value) → World → Prop) (w0 : World) : Prop := callP P 22 #[.pointer v0_s, .int .i64 v1_id, .int .i64 v2_from, .int .i64 v3_n] (.tup (.pair .slice .iface)) w0 K
def C_access_Weight (v0_s : Option Addr) (v1_id : Int) (v2_from : Int) (v3_n : Int) (K : (yapi_Weight.T × Value) → World → Prop) (w0 : World) : Prop := callP P 23 #[.pointer v0_s, .int .i64 v1_id, .int .i64 v2_from, .int .i64 v3_n] (.tup (.pair yapi_Weight .iface)) w0 K
def C_access_Count (v0_s : Option Addr) (v1_id : Int) (v2_set : yapi_Letters.T) (v3_from : Int) (v4_n : Int) (K : (Int × Value) → World → Prop) (w0 : World) : Prop := callP P 24 #[.pointer v0_s, .int .i64 v1_id, val yapi_Letters v2_set, .int .i64 v3_from, .int .i64 v4_n] (.tup (.pair (.int .i64) .iface)) w0 K
def C_weight_Of (v0_text : Sl) (K : yapi_Weight.T → World → Prop) (w0 : World) : Prop := callP P 25 #[.slice v0_text.a v0_text.len v0_text.cap] yapi_Weight w0 K
def C_access_At (v0_s : Option Addr) (v1_id : Int) (v2_at : Int) (K : (Int × Value) → World → Prop) (w0 : World) : Prop := callP P 26 #[.pointer v0_s, .int .i64 v1_id, .int .i64 v2_at] (.tup (.pair (.int .u8) .iface)) w0 K
def C_access_Path (v0_s : Option Addr) (v1_id : Int) (v2_at : Int) (K : (Sl × Value) → World → Prop) (w0 : World) : Prop := callP P 27 #[.pointer v0_s, .int .i64 v1_id, .int .i64 v2_at] (.tup (.pair .slice .iface)) w0 K
def C_intern_Store_Depth (v0_s : Option Addr) (v1_id : Int) (K : (Int × Value) → World → Prop) (w0 : World) : Prop := callP P 28 #[.pointer v0_s, .int .i64 v1_id] (.tup (.pair (.int .i64) .iface)) w0 K
def C_intern_Store_Rule (v0_s : Option Addr) (v1_id : Int) (K : (yapi_Rule.T × Value) → World → Prop) (w0 : World) : Prop := callP P 29 #[.pointer v0_s, .int .i64 v1_id] (.tup (.pair yapi_Rule .iface)) w0 K
def C_intern_New (v0_most : Int) (K : (Option Addr) → World → Prop) (w0 : World) : Prop := callP P 30 #[.int .i64 v0_most] .ptr w0 K
def C_top_build (v0_s : Option Addr) (v1_list : Sl) (K : (Sl × Sl × Bool) → World → Prop) (w0 : World) : Prop := callP P 31 #[.pointer v0_s, .slice v1_list.a v1_list.len v1_list.cap] (.tup (.pair .slice (.pair .slice .bool))) w0 K
def C_length_Clip (v0_n : Int) (v1_low : Int) (v2_high : Int) (K : Int → World → Prop) (w0 : World) : Prop := callP P 32 #[.int .i64 v0_n, .int .i64 v1_low, .int .i64 v2_high] (.int .i64) w0 K
def C_walk_known (v0_s : Option Addr) (v1_id : Int) (K : (Int × Bool) → World → Prop) (w0 : World) : Prop := callP P 33 #[.pointer v0_s, .int .i64 v1_id] (.tup (.pair (.int .i64) .bool)) w0 K
def C_walk_Letters_1 (v0_yield : Value) (K : Unit → World → Prop) (w0 : World) : Prop := callP P 34 #[v0_yield] (.tup .unit) w0 K
def C_walk_Letters_2 (v0_yield : Value) (v1 : Addr) (v2 : Addr) (v3 : Addr) (K : Unit → World → Prop) (w0 : World) : Prop := callP P 35 #[v0_yield, .pointer (some v1), .pointer (some v2), .pointer (some v3)] (.tup .unit) w0 K
def C_walk_forward (v0_s : Option Addr) (v1_id : Int) (v2_from : Int) (K : Sl → World → Prop) (w0 : World) : Prop := callP P 36 #[.pointer v0_s, .int .i64 v1_id, .int .i64 v2_from] .slice w0 K
def C_walk_take (v0_s : Option Addr) (v1_todo : Option Addr) (K : yapi_Rule.T → World → Prop) (w0 : World) : Prop := callP P 37 #[.pointer v0_s, .pointer v1_todo] yapi_Rule w0 K
def C_walk_Back_1 (v0_yield : Value) (K : Unit → World → Prop) (w0 : World) : Prop := callP P 38 #[v0_yield] (.tup .unit) w0 K
def C_walk_Back_2 (v0_yield : Value) (v1 : Addr) (v2 : Addr) (v3 : Addr) (K : Unit → World → Prop) (w0 : World) : Prop := callP P 39 #[v0_yield, .pointer (some v1), .pointer (some v2), .pointer (some v3)] (.tup .unit) w0 K
def C_walk_backward (v0_s : Option Addr) (v1_id : Int) (v2_from : Int) (K : Sl → World → Prop) (w0 : World) : Prop := callP P 40 #[.pointer v0_s, .int .i64 v1_id, .int .i64 v2_from] .slice w0 K
def C_length_Range (v0_from : Int) (v1_n : Int) (v2_length : Int) (K : Value → World → Prop) (w0 : World) : Prop := callP P 41 #[.int .i64 v0_from, .int .i64 v1_n, .int .i64 v2_length] .iface w0 K
def C_walk_Pieces_1 (v0_yield : Value) (K : Unit → World → Prop) (w0 : World) : Prop := callP P 42 #[v0_yield] (.tup .unit) w0 K
def C_avl_Balanced (v0_s : Option Addr) (v1_id : Int) (K : (Bool × Value) → World → Prop) (w0 : World) : Prop := callP P 43 #[.pointer v0_s, .int .i64 v1_id] (.tup (.pair .bool .iface)) w0 K
def C_walk_Pieces_2 (v0_yield : Value) (K : Unit → World → Prop) (w0 : World) : Prop := callP P 44 #[v0_yield] (.tup .unit) w0 K
def C_walk_Pieces_3 (v0_yield : Value) (v1 : Addr) (v2 : Addr) (v3 : Addr) (v4 : Addr) (K : Unit → World → Prop) (w0 : World) : Prop := callP P 45 #[v0_yield, .pointer (some v1), .pointer (some v2), .pointer (some v3), .pointer (some v4)] (.tup .unit) w0 K
def C_walk_pieces (v0_s : Option Addr) (v1_id : Int) (v2_from : Int) (v3_to : Int) (v4_yield : Value) (K : Unit → World → Prop) (w0 : World) : Prop := callP P 46 #[.pointer v0_s, .int .i64 v1_id, .int .i64 v2_from, .int .i64 v3_to, v4_yield] (.tup .unit) w0 K
def C_intern_Store_known (v0_s : Option Addr) (v1_id : Int) (K : Bool → World → Prop) (w0 : World) : Prop := callP P 47 #[.pointer v0_s, .int .i64 v1_id] .bool w0 K
def C_intern_Store_at (v0_s : Option Addr) (v1_id : Int) (K : yintern_entry.T → World → Prop) (w0 : World) : Prop := callP P 48 #[.pointer v0_s, .int .i64 v1_id] yintern_entry w0 K
def C_access_parts (v0_s : Option Addr) (v1_id : Int) (v2_from : Int) (v3_n : Int) (v4_visit : Value) (K : Value → World → Prop) (w0 : World) : Prop := callP P 49 #[.pointer v0_s, .int .i64 v1_id, .int .i64 v2_from, .int .i64 v3_n, v4_visit] .iface w0 K
def C_access_Extract_1 (v0_x : Int) (v1_times : Int) (v2 : Addr) (v3 : Addr) (K : Value → World → Prop) (w0 : World) : Prop := callP P 50 #[.int .i64 v0_x, .int .i64 v1_times, .pointer (some v2), .pointer (some v3)] .iface w0 K
def C_access_spell (v0_s : Option Addr) (v1_id : Int) (v2_text : Option Addr) (K : Value → World → Prop) (w0 : World) : Prop := callP P 51 #[.pointer v0_s, .int .i64 v1_id, .pointer v2_text] .iface w0 K
def C_weight_Unit  (K : yapi_Weight.T → World → Prop) (w0 : World) : Prop := callP P 52 #[] yapi_Weight w0 K
def C_access_Weight_1 (v0_x : Int) (v1_times : Int) (v2 : Addr) (v3 : Addr) (K : Value → World → Prop) (w0 : World) : Prop := callP P 53 #[.int .i64 v0_x, .int .i64 v1_times, .pointer (some v2), .pointer (some v3)] .iface w0 K
def C_weight_Repeat (v0_w : yapi_Weight.T) (v1_k : Int) (K : (yapi_Weight.T × Value) → World → Prop) (w0 : World) : Prop := callP P 54 #[val yapi_Weight v0_w, .int .i64 v1_k] (.tup (.pair yapi_Weight .iface)) w0 K
def C_access_join (v0_a : yapi_Weight.T) (v1_b : yapi_Weight.T) (K : yapi_Weight.T → World → Prop) (w0 : World) : Prop := callP P 55 #[val yapi_Weight v0_a, val yapi_Weight v1_b] yapi_Weight w0 K
def C_intern_Store_Export (v0_s : Option Addr) (v1_id : Int) (K : (Sl × Value) → World → Prop) (w0 : World) : Prop := callP P 56 #[.pointer v0_s, .int .i64 v1_id] (.tup (.pair .slice .iface)) w0 K
def C_letterset_Has (v0_s : yapi_Letters.T) (v1_b : Int) (K : Bool → World → Prop) (w0 : World) : Prop := callP P 57 #[val yapi_Letters v0_s, .int .u8 v1_b] .bool w0 K
def C_access_before (v0_list : Sl) (v1_lengths : Sl) (v2_counts : Sl) (v3_at : Int) (K : Int → World → Prop) (w0 : World) : Prop := callP P 58 #[.slice v0_list.a v0_list.len v0_list.cap, .slice v1_lengths.a v1_lengths.len v1_lengths.cap, .slice v2_counts.a v2_counts.len v2_counts.cap, .int .i64 v3_at] (.int .i64) w0 K
def C_digest_Of (v0_text : Sl) (K : yapi_Digest.T → World → Prop) (w0 : World) : Prop := callP P 59 #[.slice v0_text.a v0_text.len v0_text.cap] yapi_Digest w0 K
def C_access_below (v0_r : yapi_Rule.T) (v1_left : Int) (v2_at : Int) (K : (Int × Int) → World → Prop) (w0 : World) : Prop := callP P 60 #[val yapi_Rule v0_r, .int .i64 v1_left, .int .i64 v2_at] (.tup (.pair (.int .i64) (.int .i64))) w0 K
def C_top_plain (v0_texts : Sl) (v1_m : yevergreentop_Make.T) (K : (ByteArray × Bool) → World → Prop) (w0 : World) : Prop := callP P 61 #[.slice v0_texts.a v0_texts.len v0_texts.cap, val yevergreentop_Make v1_m] (.tup (.pair .str .bool)) w0 K
def C_top_made (v0_s : Option Addr) (v1_ids : Sl) (v2_texts : Sl) (v3_m : yevergreentop_Make.T) (K : (Int × Value) → World → Prop) (w0 : World) : Prop := callP P 62 #[.pointer v0_s, .slice v1_ids.a v1_ids.len v1_ids.cap, .slice v2_texts.a v2_texts.len v2_texts.cap, val yevergreentop_Make v3_m] (.tup (.pair (.int .i64) .iface)) w0 K
def C_length_Valid (v0_n : Int) (K : Bool → World → Prop) (w0 : World) : Prop := callP P 63 #[.int .i64 v0_n] .bool w0 K
def C_intern_Store_Even (v0_s : Option Addr) (v1_id : Int) (K : Bool → World → Prop) (w0 : World) : Prop := callP P 64 #[.pointer v0_s, .int .i64 v1_id] .bool w0 K
def C_access_halve (v0_todo : Sl) (v1_r : yapi_Rule.T) (v2_left : Int) (v3_x : yaccess_span.T) (K : Sl → World → Prop) (w0 : World) : Prop := callP P 65 #[.slice v0_todo.a v0_todo.len v0_todo.cap, val yapi_Rule v1_r, .int .i64 v2_left, val yaccess_span v3_x] .slice w0 K
def C_access_divide (v0_todo : Sl) (v1_r : yapi_Rule.T) (v2_left : Int) (v3_x : yaccess_span.T) (K : Sl → World → Prop) (w0 : World) : Prop := callP P 66 #[.slice v0_todo.a v0_todo.len v0_todo.cap, val yapi_Rule v1_r, .int .i64 v2_left, val yaccess_span v3_x] .slice w0 K
def C_digest_Unit  (K : yapi_Digest.T → World → Prop) (w0 : World) : Prop := callP P 67 #[] yapi_Digest w0 K
def C_weight_Valid (v0_w : yapi_Weight.T) (K : Bool → World → Prop) (w0 : World) : Prop := callP P 68 #[val yapi_Weight v0_w] .bool w0 K
def C_length_Mul (v0_a : Int) (v1_k : Int) (K : (Int × Value) → World → Prop) (w0 : World) : Prop := callP P 69 #[.int .i64 v0_a, .int .i64 v1_k] (.tup (.pair (.int .i64) .iface)) w0 K
def C_digest_Repeat (v0_d : yapi_Digest.T) (v1_k : Int) (K : yapi_Digest.T → World → Prop) (w0 : World) : Prop := callP P 70 #[val yapi_Digest v0_d, .int .i64 v1_k] yapi_Digest w0 K
def C_digest_Join (v0_a : yapi_Digest.T) (v1_b : yapi_Digest.T) (K : yapi_Digest.T → World → Prop) (w0 : World) : Prop := callP P 71 #[val yapi_Digest v0_a, val yapi_Digest v1_b] yapi_Digest w0 K
def C_intern_Store_reach (v0_s : Option Addr) (v1_id : Int) (K : Sl → World → Prop) (w0 : World) : Prop := callP P 72 #[.pointer v0_s, .int .i64 v1_id] .slice w0 K
def C_digest_Letter (v0_b : Int) (K : yapi_Digest.T → World → Prop) (w0 : World) : Prop := callP P 73 #[.int .u8 v0_b] yapi_Digest w0 K
def C_balance_Text (v0_s : Option Addr) (v1_b : Sl) (K : (Int × Value) → World → Prop) (w0 : World) : Prop := callP P 74 #[.pointer v0_s, .slice v1_b.a v1_b.len v1_b.cap] (.tup (.pair (.int .i64) .iface)) w0 K
def C_avl_Join (v0_s : Option Addr) (v1_a : Int) (v2_b : Int) (K : (Int × Value) → World → Prop) (w0 : World) : Prop := callP P 75 #[.pointer v0_s, .int .i64 v1_a, .int .i64 v2_b] (.tup (.pair (.int .i64) .iface)) w0 K
def C_balance_Repeat (v0_s : Option Addr) (v1_id : Int) (v2_k : Int) (K : (Int × Value) → World → Prop) (w0 : World) : Prop := callP P 76 #[.pointer v0_s, .int .i64 v1_id, .int .i64 v2_k] (.tup (.pair (.int .i64) .iface)) w0 K
def C_split_Section (v0_s : Option Addr) (v1_id : Int) (v2_from : Int) (v3_n : Int) (K : (Int × Value) → World → Prop) (w0 : World) : Prop := callP P 77 #[.pointer v0_s, .int .i64 v1_id, .int .i64 v2_from, .int .i64 v3_n] (.tup (.pair (.int .i64) .iface)) w0 K
def C_split_Split (v0_s : Option Addr) (v1_id : Int) (v2_at : Int) (K : (Int × Int × Value) → World → Prop) (w0 : World) : Prop := callP P 78 #[.pointer v0_s, .int .i64 v1_id, .int .i64 v2_at] (.tup (.pair (.int .i64) (.pair (.int .i64) .iface))) w0 K
def C_intern_Store_Power (v0_s : Option Addr) (v1_x : Int) (v2_k : Int) (K : (Int × Value) → World → Prop) (w0 : World) : Prop := callP P 79 #[.pointer v0_s, .int .i64 v1_x, .int .i64 v2_k] (.tup (.pair (.int .i64) .iface)) w0 K
def C_balance_Of (v0_s : Option Addr) (v1_id : Int) (K : (Int × Value) → World → Prop) (w0 : World) : Prop := callP P 80 #[.pointer v0_s, .int .i64 v1_id] (.tup (.pair (.int .i64) .iface)) w0 K
def C_modular_Pow (v0_a : Int) (v1_n : Int) (K : Int → World → Prop) (w0 : World) : Prop := callP P 81 #[.int .u64 v0_a, .int .u64 v1_n] (.int .u64) w0 K
def C_modular_Add (v0_a : Int) (v1_b : Int) (K : Int → World → Prop) (w0 : World) : Prop := callP P 82 #[.int .u64 v0_a, .int .u64 v1_b] (.int .u64) w0 K
def C_modular_Mul (v0_a : Int) (v1_b : Int) (K : Int → World → Prop) (w0 : World) : Prop := callP P 83 #[.int .u64 v0_a, .int .u64 v1_b] (.int .u64) w0 K
def C_rule_Refs (v0_r : yapi_Rule.T) (K : Sl → World → Prop) (w0 : World) : Prop := callP P 84 #[val yapi_Rule v0_r] .slice w0 K
def C_slices_Sort (a0 : Sl) (K : Unit → World → Prop) (w0 : World) : Prop := callP P 85 #[.slice a0.a a0.len a0.cap] (.tup .unit) w0 K
def C_balance_text (v0_s : Option Addr) (v1_b : Sl) (K : (Int × Value) → World → Prop) (w0 : World) : Prop := callP P 86 #[.pointer v0_s, .slice v1_b.a v1_b.len v1_b.cap] (.tup (.pair (.int .i64) .iface)) w0 K
def C_length_Add (v0_a : Int) (v1_b : Int) (K : (Int × Value) → World → Prop) (w0 : World) : Prop := callP P 87 #[.int .i64 v0_a, .int .i64 v1_b] (.tup (.pair (.int .i64) .iface)) w0 K
def C_avl_join (v0_s : Option Addr) (v1_a : Int) (v2_b : Int) (K : (Int × Value) → World → Prop) (w0 : World) : Prop := callP P 88 #[.pointer v0_s, .int .i64 v1_a, .int .i64 v2_b] (.tup (.pair (.int .i64) .iface)) w0 K
def C_balance_repeat (v0_s : Option Addr) (v1_id : Int) (v2_k : Int) (K : (Int × Value) → World → Prop) (w0 : World) : Prop := callP P 89 #[.pointer v0_s, .int .i64 v1_id, .int .i64 v2_k] (.tup (.pair (.int .i64) .iface)) w0 K
def C_split_check (v0_s : Option Addr) (v1_id : Int) (K : (Int × Value) → World → Prop) (w0 : World) : Prop := callP P 90 #[.pointer v0_s, .int .i64 v1_id] (.tup (.pair (.int .i64) .iface)) w0 K
def C_split_section (v0_s : Option Addr) (v1_id : Int) (v2_from : Int) (v3_n : Int) (K : (Int × Value) → World → Prop) (w0 : World) : Prop := callP P 91 #[.pointer v0_s, .int .i64 v1_id, .int .i64 v2_from, .int .i64 v3_n] (.tup (.pair (.int .i64) .iface)) w0 K
def C_split_front (v0_s : Option Addr) (v1_id : Int) (v2_n : Int) (K : (Int × Value) → World → Prop) (w0 : World) : Prop := callP P 92 #[.pointer v0_s, .int .i64 v1_id, .int .i64 v2_n] (.tup (.pair (.int .i64) .iface)) w0 K
def C_split_rest (v0_s : Option Addr) (v1_id : Int) (v2_from : Int) (K : (Int × Value) → World → Prop) (w0 : World) : Prop := callP P 93 #[.pointer v0_s, .int .i64 v1_id, .int .i64 v2_from] (.tup (.pair (.int .i64) .iface)) w0 K
def C_intern_Store_find (v0_s : Option Addr) (v1_r : yapi_Rule.T) (K : (Int × Value) → World → Prop) (w0 : World) : Prop := callP P 94 #[.pointer v0_s, val yapi_Rule v1_r] (.tup (.pair (.int .i64) .iface)) w0 K
def C_intern_Store_add (v0_s : Option Addr) (v1_e : yintern_entry.T) (K : Int → World → Prop) (w0 : World) : Prop := callP P 95 #[.pointer v0_s, val yintern_entry v1_e] (.int .i64) w0 K
def C_collect_Reach (v0_s : Option Addr) (v1_roots : Sl) (K : (Sl × Value) → World → Prop) (w0 : World) : Prop := callP P 96 #[.pointer v0_s, .slice v1_roots.a v1_roots.len v1_roots.cap] (.tup (.pair .slice .iface)) w0 K
def C_balance_step (v0_s : Option Addr) (v1_id : Int) (v2_done : Option Nat) (K : (Int × Value) → World → Prop) (w0 : World) : Prop := callP P 97 #[.pointer v0_s, .int .i64 v1_id, .map v2_done] (.tup (.pair (.int .i64) .iface)) w0 K
def C_modular_Reduce (v0_x : Int) (K : Int → World → Prop) (w0 : World) : Prop := callP P 98 #[.int .u64 v0_x] (.int .u64) w0 K
def C_bits_Mul64 (v0_x : Int) (v1_y : Int) (K : (Int × Int) → World → Prop) (w0 : World) : Prop := callP P 99 #[.int .u64 v0_x, .int .u64 v1_y] (.tup (.pair (.int .u64) (.int .u64))) w0 K
def C_bits_Len (v0_x : Int) (K : Int → World → Prop) (w0 : World) : Prop := callP P 101 #[.int .u64 v0_x] (.int .i64) w0 K
def C_intern_Store_Letter (v0_s : Option Addr) (v1_b : Int) (K : (Int × Value) → World → Prop) (w0 : World) : Prop := callP P 102 #[.pointer v0_s, .int .u8 v1_b] (.tup (.pair (.int .i64) .iface)) w0 K
def C_intern_Store_Pair (v0_s : Option Addr) (v1_l : Int) (v2_r : Int) (K : (Int × Value) → World → Prop) (w0 : World) : Prop := callP P 103 #[.pointer v0_s, .int .i64 v1_l, .int .i64 v2_r] (.tup (.pair (.int .i64) .iface)) w0 K
def C_avl_parts (v0_s : Option Addr) (v1_id : Int) (K : (Int × Int × Int × Int × Value) → World → Prop) (w0 : World) : Prop := callP P 104 #[.pointer v0_s, .int .i64 v1_id] (.tup (.pair (.int .i64) (.pair (.int .i64) (.pair (.int .i64) (.pair (.int .i64) .iface))))) w0 K
def C_avl_level (v0_s : Option Addr) (v1_a : Int) (v2_b : Int) (K : (Int × Value) → World → Prop) (w0 : World) : Prop := callP P 105 #[.pointer v0_s, .int .i64 v1_a, .int .i64 v2_b] (.tup (.pair (.int .i64) .iface)) w0 K
def C_split_size (v0_s : Option Addr) (v1_id : Int) (K : (Int × Value) → World → Prop) (w0 : World) : Prop := callP P 106 #[.pointer v0_s, .int .i64 v1_id] (.tup (.pair (.int .i64) .iface)) w0 K
def C_collect_Reach_1 (v0_id : Int) (v1 : Addr) (v2 : Addr) (K : Unit → World → Prop) (w0 : World) : Prop := callP P 107 #[.int .i64 v0_id, .pointer (some v1), .pointer (some v2)] (.tup .unit) w0 K
def C_collect_known (v0_s : Option Addr) (v1_id : Int) (K : Bool → World → Prop) (w0 : World) : Prop := callP P 108 #[.pointer v0_s, .int .i64 v1_id] .bool w0 K
def C_bits_Len32 (v0_x : Int) (K : Int → World → Prop) (w0 : World) : Prop := callP P 118 #[.int .u32 v0_x] (.int .i64) w0 K
def C_bits_Len64 (v0_x : Int) (K : Int → World → Prop) (w0 : World) : Prop := callP P 119 #[.int .u64 v0_x] (.int .i64) w0 K
def C_weight_Letter (v0_b : Int) (K : yapi_Weight.T → World → Prop) (w0 : World) : Prop := callP P 120 #[.int .u8 v0_b] yapi_Weight w0 K
def C_weight_Join (v0_a : yapi_Weight.T) (v1_b : yapi_Weight.T) (K : (yapi_Weight.T × Value) → World → Prop) (w0 : World) : Prop := callP P 121 #[val yapi_Weight v0_a, val yapi_Weight v1_b] (.tup (.pair yapi_Weight .iface)) w0 K
def C_avl_two (v0_s : Option Addr) (v1_a : Int) (v2_b : Int) (v3_c : Int) (K : (Int × Value) → World → Prop) (w0 : World) : Prop := callP P 122 #[.pointer v0_s, .int .i64 v1_a, .int .i64 v2_b, .int .i64 v3_c] (.tup (.pair (.int .i64) .iface)) w0 K
def C_avl_four (v0_s : Option Addr) (v1_a : Int) (v2_b : Int) (v3_c : Int) (v4_d : Int) (K : (Int × Value) → World → Prop) (w0 : World) : Prop := callP P 123 #[.pointer v0_s, .int .i64 v1_a, .int .i64 v2_b, .int .i64 v3_c, .int .i64 v4_d] (.tup (.pair (.int .i64) .iface)) w0 K
def C_intern_Store_Len (v0_s : Option Addr) (K : Int → World → Prop) (w0 : World) : Prop := callP P 124 #[.pointer v0_s] (.int .i64) w0 K

end Go.Proofs.YtcmncfglcjcmhaaGreat
