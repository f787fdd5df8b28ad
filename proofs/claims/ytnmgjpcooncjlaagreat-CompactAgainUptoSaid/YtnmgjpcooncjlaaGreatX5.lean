/- Texts that belong together, joined: Text5. No conditions. -/
import Derived.Test.YtnmgjpcooncjlaaGreatX0
/- The typed texts of the functions, printed by a program; each proved to imply the call. -/
set_option linter.unusedVariables false
set_option maxRecDepth 100000
set_option maxHeartbeats 4000000
namespace Go.Proofs.YtnmgjpcooncjlaaGreat
open Go.Den

def F_base_Is (v0_e : Value) (v1_want : Int) (K : Bool → World → Prop) (w0 : World) : Prop :=
C_base_Num v0_e (fun x1 w1 =>
gd (x1 == v1_want) (
K (v1_want != (0 : Int)) w1) (
K false w1)) w0
theorem S_base_Is (v0_e : Value) (v1_want : Int) (K : Bool → World → Prop) (w0 : World) (h : F_base_Is v0_e v1_want K w0) : C_base_Is v0_e v1_want K w0 := by
  have e : denFn P [] Tryz.f25 #[v0_e, .int .i64 v1_want] .bool K w0 = F_base_Is v0_e v1_want K w0 := by kernel_rfl
  exact fn_sound mixed (f := 25) Tryz.func25 (by kernel_rfl) (e.mpr h)

def F_intern_Store_Room (v0_s : Option Addr) (K : Int → World → Prop) (w0 : World) : Prop :=
gd v0_s.isNone (
K (0 : Int) w0) (
drawK w0 fun w1 =>
nonNil v0_s fun p1 =>
∃ x2 : Int, At w1 (p1.add 0) (cells (.int .i64) x2) ∧
nonNil v0_s fun p3 =>
∃ x4 : Sl, At w1 (p3.add 1) (cells .slice x4) ∧
arith .i64 (x2 - (x4.len : Int)) fun n5 =>
K n5 w1)
theorem S_intern_Store_Room (v0_s : Option Addr) (K : Int → World → Prop) (w0 : World) (h : F_intern_Store_Room v0_s K w0) : C_intern_Store_Room v0_s K w0 := by
  have e : denFn P [] Tryz.f26 #[.pointer v0_s] (.int .i64) K w0 = F_intern_Store_Room v0_s K w0 := by kernel_rfl
  exact fn_sound mixed (f := 26) Tryz.func26 (by kernel_rfl) (e.mpr h)

def F_history_Graph_Add (v0_g : Option Addr) (v1_c : yapi_Commit.T) (K : (Int × Value) → World → Prop) (w0 : World) : Prop :=
allocK (.cells (cells yapi_Commit v1_c).toArray t_api_Commit) w0 fun a1 w1 =>
gd v0_g.isNone (
K ((0 : Int), .iface t_api_Errno (.int .i64 (5 : Int))) w1) (
JoinP (X := Bool × Unit) (fun R3 =>
∃ x4 : Sl, At w1 (a1.add 0) (cells .slice x4) ∧
gd (decide ((8 : Int) < (x4.len : Int))) (
R3 (true, ()) w1) (
∃ x5 : ByteArray, At w1 (a1.add 2) (cells .str x5) ∧
gd (decide ((200 : Int) < (x5.size : Int))) (
R3 (true, ()) w1) (
∃ x6 : Int, At w1 (a1.add 1) (cells (.int .i64) x6) ∧
R3 (decide (x6 < (0 : Int)), ()) w1))) (fun x2 w2 => ∀ _ : Env,
gd x2.1 (
K ((0 : Int), .iface t_api_Errno (.int .i64 (4 : Int))) w2) (
∃ x7 : Sl, At w2 (a1.add 0) (cells .slice x7) ∧
LoopP (X := Int × Unit) ((0 : Int), ()) w2 fun next9 x8 w3 => ∀ _ : Env,
gd (decide (x8.1 < (x7.len : Int))) (
idxK x7.a x7.len x8.1 1 fun p10 =>
∃ x11 : Int, At w3 p10 (cells (.int .i64) x11) ∧
C_history_Graph_has v0_g x11 (fun x12 w4 =>
gd (!x12) (
K ((0 : Int), .iface t_api_Errno (.int .i64 (1 : Int))) w4) (
arith .i64 (x8.1 + (1 : Int)) fun n13 =>
next9 (n13, ()) w4)) w3) (
∃ x14 : Sl, At w3 (a1.add 0) (cells .slice x14) ∧
LoopP (X := Int × Unit) ((0 : Int), ()) w3 fun next16 x15 w5 => ∀ _ : Env,
gd (decide (x15.1 < (x14.len : Int))) (
idxK x14.a x14.len x15.1 1 fun p17 =>
∃ x18 : Int, At w5 p17 (cells (.int .i64) x18) ∧
∃ x19 : Sl, At w5 (a1.add 0) (cells .slice x19) ∧
slK 1 x19.a x19.len x19.cap none (some x15.1) fun s20 =>
C_slices_Contains s20 x18 (fun x21 w6 =>
gd x21 (
K ((0 : Int), .iface t_api_Errno (.int .i64 (4 : Int))) w6) (
arith .i64 (x15.1 + (1 : Int)) fun n22 =>
next16 (n22, ()) w6)) w5) (
nonNil v0_g fun p23 =>
∃ x24 : Sl, At w5 (p23.add 0) (cells .slice x24) ∧
gd (decide ((65536 : Int) ≤ (x24.len : Int))) (
K ((0 : Int), .iface t_api_Errno (.int .i64 (3 : Int))) w5) (
∃ x25 : Sl, At w5 (a1.add 0) (cells .slice x25) ∧
C_slices_Clone x25 (fun x26 w7 =>
stK w7 (a1.add 0) ([.slice x26.a x26.len x26.cap]) fun w8 =>
drawK w8 fun w9 =>
nonNil v0_g fun p27 =>
∃ x28 : Sl, At w9 (p27.add 0) (cells .slice x28) ∧
∃ x29 : yapi_Commit.T, At w9 a1 (cells yapi_Commit x29) ∧
allocK (.cells (cells yapi_Commit x29).toArray t_api_Commit) w9 fun a30 w10 =>
At w10 (p27.add 0) (cells .slice x28) ∧
appK t_api_Commit 3 48 #[.slice none 0 0, .int .i64 (0 : Int), .string (⟨#[]⟩ : ByteArray)] x28.a x28.len x28.cap (.slice (some a30) 1 1) 1 w10 fun s31 w11 =>
nonNil v0_g fun p32 =>
stK w11 (p32.add 0) ([.slice s31.a s31.len s31.cap]) fun w12 =>
nonNil v0_g fun p33 =>
∃ x34 : Sl, At w12 (p33.add 0) (cells .slice x34) ∧
arith .i64 ((x34.len : Int) - (1 : Int)) fun n35 =>
K (n35, .nilIface) w12) w5))))))
theorem S_history_Graph_Add (v0_g : Option Addr) (v1_c : yapi_Commit.T) (K : (Int × Value) → World → Prop) (w0 : World) (h : F_history_Graph_Add v0_g v1_c K w0) : C_history_Graph_Add v0_g v1_c K w0 := by
  have e : denFn P [(4, [(27, .bool)]), (1006, [(32, .int .i64)]), (1012, [(45, .int .i64)])] Tryz.f27 #[.pointer v0_g, val yapi_Commit v1_c] (.tup (.pair (.int .i64) .iface)) K w0 = F_history_Graph_Add v0_g v1_c K w0 := by kernel_rfl
  exact fn_sound mixed (f := 27) Tryz.func27 (by kernel_rfl) (e.mpr h)

def F_refs_Table_Branch (v0_t : Option Addr) (v1_name : ByteArray) (v2_old : Int) (v3_n : Int) (K : Value → World → Prop) (w0 : World) : Prop :=
gd v0_t.isNone (
K (.iface t_api_Errno (.int .i64 (5 : Int))) w0) (
C_refs_Valid v1_name (fun x1 w1 =>
gd (!x1) (
K (.iface t_api_Errno (.int .i64 (13 : Int))) w1) (
JoinP (X := Bool × Unit) (fun R3 =>
gd (decide (v3_n < (0 : Int))) (
R3 (true, ()) w1) (
R3 (decide (v2_old < (-1 : Int)), ()) w1)) (fun x2 w2 => ∀ _ : Env,
gd x2.1 (
K (.iface t_api_Errno (.int .i64 (1 : Int))) w2) (
nonNil v0_t fun p4 =>
∃ x5 : Option Nat, At w2 (p4.add 0) (cells .map x5) ∧
∃ (x6 : yrefs_target.T) (b7 : Bool), Lk2 P t_map_string_refs_target yrefs_target (.map x5) (.string v1_name) x6 b7 w2 ∧
allocK (.cells #[.int .i64 (0 : Int), .bool false] t_refs_target) w2 fun a8 w3 =>
stK w3 a8 (cells yrefs_target x6) fun w4 =>
JoinP (X := Unit) (fun R10 =>
JoinP (X := Bool × Unit) (fun R12 =>
gd (v2_old == (-1 : Int)) (
R12 (b7, ()) w4) (
R12 (false, ()) w4)) (fun x11 w6 => ∀ _ : Env,
gd x11.1 (
K (.iface t_api_Errno (.int .i64 (6 : Int))) w6) (
gd (v2_old == (-1 : Int)) (
R10 () w6) (
gd (!b7) (
K (.iface t_api_Errno (.int .i64 (5 : Int))) w6) (
∃ x13 : Bool, At w6 (a8.add 1) (cells .bool x13) ∧
gd x13 (
K (.iface t_api_Errno (.int .i64 (7 : Int))) w6) (
∃ x14 : Int, At w6 (a8.add 0) (cells (.int .i64) x14) ∧
gd (x14 != v2_old) (
K (.iface t_api_Errno (.int .i64 (11 : Int))) w6) (
R10 () w6))))))) (fun x9 w5 => ∀ _ : Env,
C_refs_Table_set v0_t v1_name (v3_n, false) (fun x15 w7 =>
K .nilIface w7) w5))))) w0)
theorem S_refs_Table_Branch (v0_t : Option Addr) (v1_name : ByteArray) (v2_old : Int) (v3_n : Int) (K : Value → World → Prop) (w0 : World) (h : F_refs_Table_Branch v0_t v1_name v2_old v3_n K w0) : C_refs_Table_Branch v0_t v1_name v2_old v3_n K w0 := by
  have e : denFn P [(6, [(23, .bool)]), (17, []), (9, [(34, .bool)])] Tryz.f28 #[.pointer v0_t, .string v1_name, .int .i64 v2_old, .int .i64 v3_n] .iface K w0 = F_refs_Table_Branch v0_t v1_name v2_old v3_n K w0 := by kernel_rfl
  exact fn_sound mixed (f := 28) Tryz.func28 (by kernel_rfl) (e.mpr h)

def F_compact_Keep (v0_g : Option Addr) (v1_r : Option Addr) (K : (Sl × Value) → World → Prop) (w0 : World) : Prop :=
JoinP (X := Bool × Unit) (fun R2 =>
gd v0_g.isNone (
R2 (true, ()) w0) (
R2 (v1_r.isNone, ()) w0)) (fun x1 w1 => ∀ _ : Env,
gd x1.1 (
K (⟨none, 0, 0⟩, .iface t_api_Errno (.int .i64 (5 : Int))) w1) (
C_history_Graph_Len v0_g (fun x3 w2 =>
0 ≤ x3 ∧ x3 ≤ x3 ∧ x3 ≤ 9223372036854775807 ∧ 1 * x3 ≤ 281474976710656 ∧
allocK (.cells (zrow #[.bool false] (x3.toNat * 1)) t_bool) w2 fun a4 w3 =>
C_refs_Table_Targets v1_r (fun x5 w4 =>
LoopP (X := Int × Unit) ((0 : Int), ()) w4 fun next7 x6 w5 => ∀ _ : Env,
gd (decide (x6.1 < (x5.len : Int))) (
idxK x5.a x5.len x6.1 1 fun p8 =>
∃ x9 : Int, At w5 p8 (cells (.int .i64) x9) ∧
gd (decide ((x3.toNat : Int) ≤ x9)) (
K (⟨none, 0, 0⟩, .iface t_api_Errno (.int .i64 (1 : Int))) w5) (
idxK (some a4) x3.toNat x9 1 fun p10 =>
stK w5 p10 ([.bool true]) fun w6 =>
arith .i64 (x6.1 + (1 : Int)) fun n11 =>
next7 (n11, ()) w6)) (
arith .i64 ((x3.toNat : Int) - (1 : Int)) fun n12 =>
LoopP (X := Sl × Int × Unit) (⟨none, 0, 0⟩, n12, ()) w5 fun next14 x13 w7 => ∀ _ : Env,
gd (decide ((0 : Int) ≤ x13.2.1)) (
JoinP (X := Sl × Unit) (fun R16 =>
idxK (some a4) x3.toNat x13.2.1 1 fun p17 =>
∃ x18 : Bool, At w7 p17 (cells .bool x18) ∧
gd (!x18) (
R16 (x13.1, ()) w7) (
allocK (.cells #[.int .i64 x13.2.1] t_int) w7 fun a19 w9 =>
appK t_int 1 8 #[.int .i64 (0 : Int)] x13.1.a x13.1.len x13.1.cap (.slice (some a19) 1 1) 1 w9 fun s20 w10 =>
C_history_Graph_Get v0_g x13.2.1 (fun x21 w11 =>
allocK (.cells #[.slice none 0 0, .int .i64 (0 : Int), .string (⟨#[]⟩ : ByteArray)] t_api_Commit) w11 fun a22 w12 =>
stK w12 a22 (cells yapi_Commit x21.1) fun w13 =>
nilIfcK x21.2 fun b23 =>
gd (!b23) (
K (⟨none, 0, 0⟩, x21.2) w13) (
∃ x24 : Sl, At w13 (a22.add 0) (cells .slice x24) ∧
LoopP (X := Int × Unit) ((0 : Int), ()) w13 fun next26 x25 w14 => ∀ _ : Env,
gd (decide (x25.1 < (x24.len : Int))) (
idxK x24.a x24.len x25.1 1 fun p27 =>
∃ x28 : Int, At w14 p27 (cells (.int .i64) x28) ∧
idxK (some a4) x3.toNat x28 1 fun p29 =>
stK w14 p29 ([.bool true]) fun w15 =>
arith .i64 (x25.1 + (1 : Int)) fun n30 =>
next26 (n30, ()) w15) (
R16 (s20, ()) w14))) w10)) (fun x15 w8 => ∀ _ : Env,
arith .i64 (x13.2.1 - (1 : Int)) fun n31 =>
next14 (x15.1, n31, ()) w8)) (
C_slices_Reverse x13.1 (fun x32 w16 =>
K (x13.1, .nilIface) w16) w7))) w3) w1))
theorem S_compact_Keep (v0_g : Option Addr) (v1_r : Option Addr) (K : (Sl × Value) → World → Prop) (w0 : World) (h : F_compact_Keep v0_g v1_r K w0) : C_compact_Keep v0_g v1_r K w0 := by
  have e : denFn P [(2, [(20, .bool)]), (1005, [(28, .int .i64)]), (1013, [(9, .slice), (10, .int .i64)]), (14, [(9, .slice)]), (1021, [(69, .int .i64)])] Tryz.f29 #[.pointer v0_g, .pointer v1_r] (.tup (.pair .slice .iface)) K w0 = F_compact_Keep v0_g v1_r K w0 := by kernel_rfl
  exact fn_sound mixed (f := 29) Tryz.func29 (by kernel_rfl) (e.mpr h)

def F_base_Bytes (v0_a : Sl) (v1_b : Sl) (K : Bool → World → Prop) (w0 : World) : Prop :=
runK P .str (convert t_sl_uint8 t_string (.slice v0_a.a v0_a.len v0_a.cap)) w0 fun x1 w1 =>
runK P .str (convert t_sl_uint8 t_string (.slice v1_b.a v1_b.len v1_b.cap)) w1 fun x2 w2 =>
K (x1.toList == x2.toList) w2
theorem S_base_Bytes (v0_a : Sl) (v1_b : Sl) (K : Bool → World → Prop) (w0 : World) (h : F_base_Bytes v0_a v1_b K w0) : C_base_Bytes v0_a v1_b K w0 := by
  have e : denFn P [] Tryz.f30 #[.slice v0_a.a v0_a.len v0_a.cap, .slice v1_b.a v1_b.len v1_b.cap] .bool K w0 = F_base_Bytes v0_a v1_b K w0 := by kernel_rfl
  exact fn_sound mixed (f := 30) Tryz.func30 (by kernel_rfl) (e.mpr h)

def F_history_Graph_Put (v0_g : Option Addr) (K : Sl → World → Prop) (w0 : World) : Prop :=
gd v0_g.isNone (
K (⟨none, 0, 0⟩) w0) (
nonNil v0_g fun p1 =>
∃ x2 : Sl, At w0 (p1.add 0) (cells .slice x2) ∧
arith .u64 ((x2.len : Int)) fun n3 =>
C_varint_Put n3 (fun x4 w1 =>
nonNil v0_g fun p5 =>
∃ x6 : Sl, At w1 (p5.add 0) (cells .slice x6) ∧
LoopP (X := Sl × Int × Unit) (x4, (0 : Int), ()) w1 fun next8 x7 w2 => ∀ _ : Env,
gd (decide (x7.2.1 < (x6.len : Int))) (
idxK x6.a x6.len x7.2.1 3 fun p9 =>
∃ x10 : yapi_Commit.T, At w2 p9 (cells yapi_Commit x10) ∧
allocK (.cells #[.slice none 0 0, .int .i64 (0 : Int), .string (⟨#[]⟩ : ByteArray)] t_api_Commit) w2 fun a11 w3 =>
stK w3 a11 (cells yapi_Commit x10) fun w4 =>
∃ x12 : Sl, At w4 (a11.add 0) (cells .slice x12) ∧
arith .u64 ((x12.len : Int)) fun n13 =>
C_varint_Put n13 (fun x14 w5 =>
appK t_uint8 1 1 #[.int .u8 (0 : Int)] x7.1.a x7.1.len x7.1.cap (.slice x14.a x14.len x14.cap) x14.len w5 fun s15 w6 =>
∃ x16 : Sl, At w6 (a11.add 0) (cells .slice x16) ∧
LoopP (X := Sl × Int × Unit) (s15, (0 : Int), ()) w6 fun next18 x17 w7 => ∀ _ : Env,
gd (decide (x17.2.1 < (x16.len : Int))) (
idxK x16.a x16.len x17.2.1 1 fun p19 =>
∃ x20 : Int, At w7 p19 (cells (.int .i64) x20) ∧
arith .u64 (x20) fun n21 =>
C_varint_Put n21 (fun x22 w8 =>
appK t_uint8 1 1 #[.int .u8 (0 : Int)] x17.1.a x17.1.len x17.1.cap (.slice x22.a x22.len x22.cap) x22.len w8 fun s23 w9 =>
arith .i64 (x17.2.1 + (1 : Int)) fun n24 =>
next18 (s23, n24, ()) w9) w7) (
∃ x25 : Int, At w7 (a11.add 1) (cells (.int .i64) x25) ∧
arith .u64 (x25) fun n26 =>
C_varint_Put n26 (fun x27 w10 =>
appK t_uint8 1 1 #[.int .u8 (0 : Int)] x17.1.a x17.1.len x17.1.cap (.slice x27.a x27.len x27.cap) x27.len w10 fun s28 w11 =>
∃ x29 : ByteArray, At w11 (a11.add 2) (cells .str x29) ∧
runK P .slice (convert t_string t_sl_uint8 (.string x29)) w11 fun x30 w12 =>
C_varint_PutBytes x30 (fun x31 w13 =>
appK t_uint8 1 1 #[.int .u8 (0 : Int)] s28.a s28.len s28.cap (.slice x31.a x31.len x31.cap) x31.len w13 fun s32 w14 =>
arith .i64 (x7.2.1 + (1 : Int)) fun n33 =>
next8 (s32, n33, ()) w14) w12) w7)) w4) (
K x7.1 w2)) w0)
theorem S_history_Graph_Put (v0_g : Option Addr) (K : Sl → World → Prop) (w0 : World) (h : F_history_Graph_Put v0_g K w0) : C_history_Graph_Put v0_g K w0 := by
  have e : denFn P [(1005, [(3, .slice), (22, .int .i64)]), (1009, [(3, .slice), (36, .int .i64)])] Tryz.f31 #[.pointer v0_g] .slice K w0 = F_history_Graph_Put v0_g K w0 := by kernel_rfl
  exact fn_sound mixed (f := 31) Tryz.func31 (by kernel_rfl) (e.mpr h)

def F_refs_Table_Put (v0_t : Option Addr) (K : Sl → World → Prop) (w0 : World) : Prop :=
gd v0_t.isNone (
K (⟨none, 0, 0⟩) w0) (
nonNil v0_t fun p1 =>
∃ x2 : Option Nat, At w0 (p1.add 0) (cells .map x2) ∧
∃ n3 : Nat, mapLen w0 x2 n3 ∧
arith .u64 ((n3 : Int)) fun n4 =>
C_varint_Put n4 (fun x5 w1 =>
C_refs_Table_Names v0_t (fun x6 w2 =>
LoopP (X := Sl × Int × Unit) (x5, (0 : Int), ()) w2 fun next8 x7 w3 => ∀ _ : Env,
gd (decide (x7.2.1 < (x6.len : Int))) (
idxK x6.a x6.len x7.2.1 1 fun p9 =>
∃ x10 : ByteArray, At w3 p9 (cells .str x10) ∧
nonNil v0_t fun p11 =>
∃ x12 : Option Nat, At w3 (p11.add 0) (cells .map x12) ∧
∃ x13 : yrefs_target.T, Lk1 P t_map_string_refs_target yrefs_target (.map x12) (.string x10) x13 w3 ∧
allocK (.cells #[.int .i64 (0 : Int), .bool false] t_refs_target) w3 fun a14 w4 =>
stK w4 a14 (cells yrefs_target x13) fun w5 =>
runK P .slice (convert t_string t_sl_uint8 (.string x10)) w5 fun x15 w6 =>
C_varint_PutBytes x15 (fun x16 w7 =>
appK t_uint8 1 1 #[.int .u8 (0 : Int)] x7.1.a x7.1.len x7.1.cap (.slice x16.a x16.len x16.cap) x16.len w7 fun s17 w8 =>
JoinP (X := Sl × Unit) (fun R19 =>
∃ x20 : Bool, At w8 (a14.add 1) (cells .bool x20) ∧
gd x20 (
allocK (.cells #[.int .u8 (1 : Int)] t_uint8) w8 fun a21 w10 =>
appK t_uint8 1 1 #[.int .u8 (0 : Int)] s17.a s17.len s17.cap (.slice (some a21) 1 1) 1 w10 fun s22 w11 =>
R19 (s22, ()) w11) (
allocK (.cells #[.int .u8 (0 : Int)] t_uint8) w8 fun a23 w12 =>
appK t_uint8 1 1 #[.int .u8 (0 : Int)] s17.a s17.len s17.cap (.slice (some a23) 1 1) 1 w12 fun s24 w13 =>
R19 (s24, ()) w13)) (fun x18 w9 => ∀ _ : Env,
∃ x25 : Int, At w9 (a14.add 0) (cells (.int .i64) x25) ∧
arith .u64 (x25) fun n26 =>
C_varint_Put n26 (fun x27 w14 =>
appK t_uint8 1 1 #[.int .u8 (0 : Int)] x18.1.a x18.1.len x18.1.cap (.slice x27.a x27.len x27.cap) x27.len w14 fun s28 w15 =>
arith .i64 (x7.2.1 + (1 : Int)) fun n29 =>
next8 (s28, n29, ()) w15) w9)) w6) (
K x7.1 w3)) w1) w0)
theorem S_refs_Table_Put (v0_t : Option Addr) (K : Sl → World → Prop) (w0 : World) (h : F_refs_Table_Put v0_t K w0) : C_refs_Table_Put v0_t K w0 := by
  have e : denFn P [(1005, [(3, .slice), (19, .int .i64)]), (12, [(3, .slice)])] Tryz.f32 #[.pointer v0_t] .slice K w0 = F_refs_Table_Put v0_t K w0 := by kernel_rfl
  exact fn_sound mixed (f := 32) Tryz.func32 (by kernel_rfl) (e.mpr h)

end Go.Proofs.YtnmgjpcooncjlaaGreat
