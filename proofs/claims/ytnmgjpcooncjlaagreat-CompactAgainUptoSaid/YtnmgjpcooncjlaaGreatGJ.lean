/- Texts that belong together, joined: CpL, CpJ. No conditions. -/
import Derived.Lib.ConvBytes
import Derived.Test.YtnmgjpcooncjlaaGreatGF
import Derived.Test.YtnmgjpcooncjlaaGreatGG
/- law51: the bytes of a number, a graph and a table (varint.Put, history.Put, refs.Put). -/
set_option linter.unusedVariables false
set_option linter.unusedSimpArgs false
namespace Go.Proofs.YtnmgjpcooncjlaaGreat
open Go.Den

variable {w0 w : World} {Ω : List Ob} {a b c g t r : Nat} {csl : Sl} {cs : List CM} {C : List CT} {m : List (ByteArray × TG)}

/-! ### A string as bytes -/
def bytesOf (x : ByteArray) : List (Ty.int .u8).T := x.data.toList.map fun b => (b.toNat : Int)
theorem bytesOf_len (x : ByteArray) : (bytesOf x).length = x.size := by
  unfold bytesOf
  rw [List.length_map, Array.length_toList]; rfl
theorem toBytes (s : Sp w0 Ω w) (x : ByteArray) {K : Sl → World → Prop} (h : ∀ sl w', Sp w0 (vw (.int .u8) sl (bytesOf x) :: Ω) w' → K sl w') : runK P .slice (convert t_string t_sl_uint8 (.string x)) w K := by
  have hr := Lib.run_convert_string_bytes (P := P) w t_string t_sl_uint8 t_uint8 x underString underBytes underByte
  have hn := Lib.bytesWorld_at_new w t_uint8 x
  have hf : flat (.int .u8) (bytesOf x) = (bytesOf x).map (Value.int .u8) := by
    generalize bytesOf x = l
    induction l with
    | nil => rfl
    | cons x xs ih => simp only [flat, List.flatMap_cons, List.map_cons] at ih ⊢; rw [ih]; rfl
  refine ⟨⟨some ⟨w.heap.size, 0, none⟩, x.size, grownCap w x.size 0 t_uint8⟩, _, hr, h _ _ (s.push (B := fun b => b = w.heap.size) ⟨by rw [Lib.bytesWorld_size]; omega, fun b hb _ => Lib.bytesWorld_at_old w t_uint8 x b hb, rfl, rfl, rfl⟩ ⟨⟨(bytesOf_len x).symm, fun q hq => ?_, fun _ => ⟨_, rfl⟩⟩, ?_⟩ ?_)⟩
  · cases hq
    have hcs : Lib.bytesCells w t_uint8 x = (Lib.bytesCells w t_uint8 x).toList.toArray := by simp
    have ha := at_block (w := Lib.bytesWorld w t_uint8 x) (b := w.heap.size) (cs := (Lib.bytesCells w t_uint8 x).toList) (t := t_uint8) (by rw [Array.toArray_toList]; exact hn)
    have := ha.sub (ds := flat (.int .u8) (bytesOf x)) 0 ?_
    · rwa [Addr.add_zero'] at this
    · rw [List.drop_zero, hf]
      unfold Lib.bytesCells bytesOf
      rw [Array.toList_append, Array.toList_map, List.map_map]
      exact List.take_left' rfl
  · rintro b ⟨q, hq, rfl⟩
    cases hq
    rfl
  · rintro b rfl
    exact ⟨Nat.le_refl _, by rw [Lib.bytesWorld_size]; omega⟩

/-! ### Numbers -/
def bor (n : Nat) : Int := (BitVec.ofInt (IntKind.bits .u8) ((n : Int) % 256) ||| BitVec.ofInt (IntKind.bits .u8) (128 : Int)).toNat
theorem bor_lt (n : Nat) : 0 ≤ bor n ∧ bor n < 256 := by
  have h := (BitVec.ofInt (IntKind.bits .u8) ((n : Int) % 256) ||| BitVec.ofInt (IntKind.bits .u8) (128 : Int)).isLt
  have e : (2 : Nat) ^ IntKind.bits .u8 = 256 := by decide
  rw [e] at h
  unfold bor
  omega
def vi (n : Nat) : List (Ty.int .u8).T := if h : 128 ≤ n then bor n :: vi (n / 128) else [(n : Int)]
termination_by n
decreasing_by omega
theorem vi_big {n : Nat} (h : 128 ≤ n) : vi n = bor n :: vi (n / 128) := by rw [vi, dif_pos h]
theorem vi_small {n : Nat} (h : ¬ 128 ≤ n) : vi n = [(n : Int)] := by rw [vi, dif_neg h]
theorem vi_len : ∀ (k n : Nat), n < 128 ^ (k + 1) → (vi n).length ≤ k + 1
  | 0, n, h => by rw [vi_small (by simp at h; omega)]; simp
  | k + 1, n, h => by
    by_cases c : 128 ≤ n
    · rw [vi_big c, List.length_cons]
      have := vi_len k (n / 128) (by
        rw [Nat.pow_succ] at h
        exact Nat.div_lt_of_lt_mul (by rw [Nat.mul_comm]; exact h))
      omega
    · rw [vi_small c]; simp
theorem vi_len9 {n : Nat} (h : n < 9223372036854775808) : (vi n).length ≤ 9 := vi_len 8 n (by
  have : (128 : Nat) ^ (8 + 1) = 9223372036854775808 := by decide
  omega)
theorem varint_Put_spec {n : Nat} (s : Sp w0 Ω w) (hn : n < 9223372036854775808) {K : Sl → World → Prop} (h : ∀ sl w', Sp w0 (own (.int .u8) sl (vi n) :: Ω) w' → K sl w') : C_varint_Put (n : Int) K w := by
  apply S_varint_Put
  unfold F_varint_Put
  have hL := vi_len9 hn
  refine ⟨by decide, by decide, by decide, by decide, s.mkS (.int .u8) (0 : Int) 0 10 (Nat.zero_le _) (fun a1 w1 s => ?_) rfl rfl⟩
  refine ⟨fun x w => ∃ (m : Nat) (acc : List (Ty.int .u8).T), x.1 = (m : Int) ∧ m ≤ n ∧ acc ++ vi m = vi n ∧ Sp w0 (own (.int .u8) x.2.1 acc :: Ω) w, fun x _ => x.1.toNat, ⟨n, [], rfl, Nat.le_refl _, rfl, s⟩, ?_⟩
  clear s
  rintro ⟨v, sl, _⟩ w2 ⟨m, acc, hv, hm, ha, s⟩ _
  dsimp only at hv s ⊢
  subst hv
  have hal := congrArg List.length ha
  rw [List.length_append] at hal
  refine gd_dec (fun hge => ?_) (fun hlt => ?_)
  · have e1 : ((BitVec.ofInt (IntKind.bits .u8) ((m : Int) % 256) ||| BitVec.ofInt (IntKind.bits .u8) (128 : Int)).toNat : Int) % 256 = bor m := by
      have := bor_lt m
      have e : ((BitVec.ofInt (IntKind.bits .u8) ((m : Int) % 256) ||| BitVec.ofInt (IntKind.bits .u8) (128 : Int)).toNat : Int) = bor m := rfl
      rw [e]
      omega
    refine arith_u8' (arith_u8' ?_)
    rw [e1]
    rw [vi_big (by omega)] at ha hal
    simp only [List.length_cons] at hal
    have e2 : Int.fdiv (m : Int) (2 ^ min (Int.toNat (7 : Int)) (IntKind.bits .u64)) = ((m / 128 : Nat) : Int) := by
      show Int.fdiv (m : Int) 128 = _
      rw [Int.fdiv_eq_ediv_of_nonneg _ (by decide)]; omega
    refine s.allocK fun a6 w3 s => s.app 1 rfl ((s.lit (ty := .int .u8) 0 rfl [bor m] 1 rfl rfl).view 0 rfl) (by simp only [List.length_cons, List.length_nil]; omega) fun s7 w4 s => ⟨by decide, letZ_mk ?_⟩
    rw [e2]
    exact ⟨⟨m / 128, acc ++ [bor m], rfl, by omega, by rw [List.append_assoc]; exact ha, s.pop⟩, by show (((m / 128 : Nat) : Int)).toNat < ((m : Int)).toNat; omega⟩
  · have e1 : (m : Int) % 256 = (m : Int) := by omega
    rw [vi_small (by omega)] at ha
    refine arith_u8' ?_
    rw [e1]
    refine s.allocK fun a6 w3 s => s.app 1 rfl ((s.lit (ty := .int .u8) 0 rfl [(m : Int)] 1 rfl rfl).view 0 rfl) (by simp only [List.length_cons, List.length_nil]; omega) fun s7 w4 s => ?_
    have s2 : Sp w0 (own (.int .u8) s7 (acc ++ [(m : Int)]) :: Ω) w4 := s.pop
    rw [ha] at s2
    exact h _ _ s2
theorem varint_PutBytes_spec {bsl : Sl} {bs : List (Ty.int .u8).T} (s : Sp w0 Ω w) (hv : ∀ w', Sp w0 Ω w' → View (.int .u8) w' bsl bs) (hN : bs.length ≤ 1000000) {K : Sl → World → Prop} (h : ∀ sl w', Sp w0 (own (.int .u8) sl (vi bs.length ++ bs) :: Ω) w' → K sl w') : C_varint_PutBytes bsl K w := by
  apply S_varint_PutBytes
  unfold F_varint_PutBytes
  have hl := (hv _ s).len
  have hL := vi_len9 (n := bs.length) (by omega)
  rw [hl]
  refine arith_u64 (by omega) (by omega) (varint_Put_spec s (by omega) fun sl w1 s => ?_)
  have v := hv _ s.pop
  rw [← hl]
  exact s.app 0 rfl v (by omega) fun s3 w2 s => h _ _ s
theorem base_Bytes_same {x y : Sl} {xs : List (Ty.int .u8).T} (v1 : View (.int .u8) w x xs) (v2 : View (.int .u8) w y xs) {K : Bool → World → Prop} (h : K true w) : C_base_Bytes x y K w := by
  apply S_base_Bytes
  unfold F_base_Bytes
  refine toStr v1 (toStr v2 ?_)
  rw [beq_self_eq_true]
  exact h

/-! ### A graph -/
def putC (d : CT) : List (Ty.int .u8).T := ((vi d.1.length ++ d.1.flatMap fun p => vi p.toNat) ++ vi d.2.1.toNat) ++ (vi d.2.2.size ++ bytesOf d.2.2)
def putG (C : List CT) : List (Ty.int .u8).T := vi C.length ++ C.flatMap putC
theorem flat_vi_len {L : List Int} (h : ∀ p ∈ L, p < 9223372036854775808) : (L.flatMap fun p => vi p.toNat).length ≤ 9 * L.length := by
  induction L with
  | nil => simp
  | cons x L ih =>
    rw [List.flatMap_cons, List.length_append, List.length_cons]
    have h1 := ih fun p hp => h p (List.mem_cons_of_mem _ hp)
    have h2 := h x (by simp)
    have h3 := vi_len9 (n := x.toNat) (by omega)
    omega
theorem history_Put_spec (G : Gh Ω a b c g csl cs C) (s : Sp w0 Ω w) (hw : COK C) (hC : C.length ≤ 60000) (ht : ∀ d ∈ C, d.2.1 ≤ 1048576) {K : Sl → World → Prop} (h : ∀ sl w', Sp w0 (own (.int .u8) sl (putG C) :: Ω) w' → K sl w') : C_history_Graph_Put (some ⟨g, 0, none⟩) K w := by
  apply S_history_Graph_Put
  unfold F_history_Graph_Put
  have hlC := G.len
  have hcl := (s.view b G.com).len
  have e0 : ((csl.len : Nat) : Int) = ((C.length : Nat) : Int) := by omega
  refine gd_f rfl (nonNil_some (s.lds (x := csl) a 0 G.cell rfl (arith_u64 (by omega) (by omega) ?_)))
  rw [e0]
  refine varint_Put_spec s (by omega) fun s0 w1 s => nonNil_some (s.lds (x := csl) (a + 1) 0 G.cell rfl ?_)
  have hv0 := vi_len9 (n := C.length) (by omega)
  refine loop_by (fun x => x.2.1) C.length (fun n x w => (vi C.length ++ (C.take n).flatMap putC).length ≤ 10 + n * 400 ∧ Sp w0 (own (.int .u8) x.1 (vi C.length ++ (C.take n).flatMap putC) :: Ω) w) rfl ⟨by simp; omega, by rw [List.take_zero, List.flatMap_nil, List.append_nil]; exact s⟩ ?_
  clear s
  rintro n ⟨out, x, _⟩ w2 hn hx ⟨hb, s⟩ _
  dsimp only at hx s ⊢
  subst hx
  refine gd_dec (fun hlt => ?_) (fun hge => ?_)
  rotate_left
  · have en : n = C.length := by omega
    subst en
    rw [List.take_length] at s
    exact h _ _ s
  have hn' : n < C.length := by omega
  obtain ⟨d, hd⟩ : ∃ d, C[n]? = some d := ⟨_, List.getElem?_eq_getElem hn'⟩
  obtain ⟨x, hx, hx2⟩ := G.at_ hd
  have hdo := hw n d hd
  have hd8 := hdo.few
  have hdn := hdo.note
  have hd0 := hdo.text
  have hdt := ht d (List.mem_of_getElem? hd)
  have hpar := hdo.par
  have hts : (cs.map fun x => x.1)[n]? = some x.1 := by rw [List.getElem?_map, hx]; rfl
  have hcd : (C.map fun x => x.1)[n]? = some d.1 := by rw [List.getElem?_map, hd]; rfl
  have htk : (C.take (n + 1)).flatMap putC = (C.take n).flatMap putC ++ putC d := by rw [List.take_add_one, hd, Option.toList_some, List.flatMap_append]; simp
  have vu : ∀ {A B : Ob} {w : World}, Sp w0 (A :: B :: Ω) w → View (.int .i64) w x.1 d.1 := fun s => ((Sp.ivs_ s (c + 2) G.par).2 n x.1 d.1 hts hcd).1
  generalize hO : vi C.length ++ (C.take n).flatMap putC = O at *
  refine (s.view (b + 1) G.com).idx rfl hx rfl fun q hq => ⟨x, hq, s.allocK fun a11 w3 s => s.st0 0 rfl rfl rfl fun w4 s => s.lds (x := x.1) 0 0 rfl rfl ?_⟩
  have hul := (vu s).len
  have e1 : ((x.1.len : Nat) : Int) = ((d.1.length : Nat) : Int) := by omega
  refine arith_u64 (by omega) (by omega) ?_
  rw [e1]
  have l1 := vi_len9 (n := d.1.length) (by omega)
  refine varint_Put_spec s (by omega) fun s14 w5 s => s.app 2 rfl (s.view 0 rfl) (by omega) fun s15 w6 s => s.lds (x := x.1) 1 0 rfl rfl ?_
  have s : Sp w0 (cel a11 (cells yapi_Commit x) :: own (.int .u8) s15 (O ++ vi d.1.length) :: Ω) w6 := s.pop
  have l2 := flat_vi_len (L := d.1) fun p hp => by have := hpar p hp; omega
  refine loop_by (fun x => x.2.1) d.1.length (fun l z w => ((d.1.take l).flatMap fun p => vi p.toNat).length ≤ 9 * l ∧ Sp w0 (cel a11 (cells yapi_Commit x) :: own (.int .u8) z.1 ((O ++ vi d.1.length) ++ (d.1.take l).flatMap fun p => vi p.toNat) :: Ω) w) rfl ⟨by simp, by rw [List.take_zero, List.flatMap_nil, List.append_nil]; exact s⟩ ?_
  clear s
  rintro l ⟨out2, y, _⟩ w7 hl hy ⟨hb2, s⟩ _
  dsimp only at hy s ⊢
  subst hy
  refine gd_dec (fun hlt2 => ?_) (fun hge2 => ?_)
  · have hl' : l < d.1.length := by omega
    have hget := List.getElem?_eq_getElem hl'
    have hzb := hpar _ (List.getElem_mem hl')
    generalize d.1[l] = z at hget hzb
    have htk2 : ((d.1.take (l + 1)).flatMap fun p => vi p.toNat) = ((d.1.take l).flatMap fun p => vi p.toNat) ++ vi z.toNat := by rw [List.take_add_one, hget, Option.toList_some, List.flatMap_append]; simp
    have e2 : (z : Int) = ((z.toNat : Nat) : Int) := by omega
    have l3 := vi_len9 (n := z.toNat) (by omega)
    refine (vu s).idx rfl hget rfl fun q2 hq2 => ⟨z, hq2, arith_u64 (by omega) (by omega) ?_⟩
    rw [e2]
    refine varint_Put_spec s (by omega) fun s22 w8 s => s.app 2 rfl (s.view 0 rfl) (by simp only [List.length_append]; omega) fun s23 w9 s => arith_i64 (by omega) (by omega) (loop_nx hl' ⟨?_, ?_⟩)
    · rw [htk2, List.length_append]; omega
    · rw [htk2, ← List.append_assoc]
      exact s.pop
  have el : l = d.1.length := by omega
  subst el
  rw [List.take_length] at s
  have e3 : (d.2.1 : Int) = ((d.2.1.toNat : Nat) : Int) := by omega
  have l4 := vi_len9 (n := d.2.1.toNat) (by omega)
  have hx21 : x.2.1 = d.2.1 := by rw [hx2]
  have hx22 : x.2.2 = d.2.2 := by rw [hx2]
  refine s.ldi (x := d.2.1) 0 1 rfl (by rw [← hx21]; rfl) (arith_u64 (by omega) (by omega) ?_)
  rw [e3]
  refine varint_Put_spec s (by omega) fun s27 w10 s => s.app 2 rfl (s.view 0 rfl) (by simp only [List.length_append]; omega) fun s28 w11 s => ?_
  have s : Sp w0 (cel a11 (cells yapi_Commit x) :: own (.int .u8) s28 ((O ++ vi d.1.length) ++ (d.1.flatMap fun p => vi p.toNat) ++ vi d.2.1.toNat) :: Ω) w11 := s.pop
  refine ⟨d.2.2, s.still 0 2 rfl (by rw [← hx22]; rfl), toBytes s d.2.2 fun s30 w12 s => ?_⟩
  have l5 := bytesOf_len d.2.2
  have l6 := vi_len9 (n := (bytesOf d.2.2).length) (by omega)
  refine varint_PutBytes_spec s (fun w' s => s.vw_ 0 rfl) (by omega) fun s31 w13 s => s.app 3 rfl (s.view 0 rfl) (by simp only [List.length_append]; omega) fun s32 w14 s => arith_i64 (by omega) (by omega) (loop_nx hn' ⟨?_, ?_⟩)
  · rw [htk, ← List.append_assoc, hO]
    unfold putC
    rw [← l5]
    simp only [List.length_append] at l2 ⊢
    omega
  · rw [htk, ← List.append_assoc, hO]
    have e5 : O ++ putC d = ((O ++ vi d.1.length) ++ (d.1.flatMap fun p => vi p.toNat) ++ vi d.2.1.toNat) ++ (vi (bytesOf d.2.2).length ++ bytesOf d.2.2) := by
      unfold putC
      rw [l5]
      simp only [List.append_assoc]
    rw [e5]
    exact s.drop 3

/-! ### A table -/
def putE (m : List (ByteArray × TG)) (x : ByteArray) : List (Ty.int .u8).T := ((vi x.size ++ bytesOf x) ++ [if ((atS? m x).getD ((0 : Int), false)).2 then (1 : Int) else 0]) ++ vi ((atS? m x).getD ((0 : Int), false)).1.toNat
def putT (m : List (ByteArray × TG)) : List (Ty.int .u8).T := vi m.length ++ (srtS (m.map fun q => q.1)).flatMap (putE m)
theorem atS_some {α : Type} : ∀ {m : List (ByteArray × α)} {x : ByteArray} {v : α}, atS? m x = some v → (x, v) ∈ m
  | [], _, _, h => by cases h
  | q :: m, x, v, h => by
    simp only [atS?] at h
    split at h
    · rename_i e
      cases h
      subst e
      simp
    · exact List.mem_cons_of_mem _ (atS_some h)
theorem atS_mem2 {α : Type} : ∀ {m : List (ByteArray × α)} {x : ByteArray} {v : α}, (m.map (fun q => q.1)).Nodup → (x, v) ∈ m → atS? m x = some v
  | [], _, _, _, h => by cases h
  | q :: m, x, v, hn, h => by
    rw [List.map_cons, List.nodup_cons] at hn
    simp only [atS?]
    rcases List.mem_cons.1 h with e | h
    · subst e; rw [if_pos rfl]
    · rw [if_neg, atS_mem2 hn.2 h]
      intro e
      exact hn.1 (List.mem_map.2 ⟨_, h, e.symm⟩)
theorem atS_perm {m m' : List (ByteArray × TG)} (h : m.Perm m') (hn : (m.map (fun q => q.1)).Nodup) (x : ByteArray) : atS? m x = atS? m' x := by
  have hn' : (m'.map (fun q => q.1)).Nodup := (h.map _).nodup hn
  cases e : atS? m x with
  | some v => exact (atS_mem2 hn' (h.mem_iff.1 (atS_some e))).symm
  | none =>
    refine (atS_none.2 fun hm => ?_).symm
    exact atS_none.1 e ((h.map (fun q => q.1)).mem_iff.2 hm)
theorem putT_perm {m m' : List (ByteArray × TG)} (h : m.Perm m') (hn : (m.map (fun q => q.1)).Nodup) : putT m = putT m' := by
  unfold putT
  rw [h.length_eq, srtS_congr (h.map _)]
  congr 1
  have : putE m = putE m' := by
    funext x
    unfold putE
    rw [atS_perm h hn x]
  rw [this]
theorem Rt.get1 (R : Rt Ω a b t r m) (s : Sp w0 Ω w) (x : ByteArray) : Lk1 P t_map_string_refs_target yrefs_target (.map (some r)) (.string x) ((atS? m x).getD ((0 : Int), false)) w := by
  have := lk1_run (kt := .str) (vt := yrefs_target) (d := 1) (by decide) mapST eqSt (by simp) zeroST (s.ms_ b R.map).is x
  rwa [lkS_at] at this
theorem refs_Put_spec (R : Rt Ω a b t r m) (s : Sp w0 Ω w) (hN : m.length ≤ 2000) (hs : ∀ q ∈ m, q.1.size ≤ 200 ∧ 0 ≤ q.2.1 ∧ q.2.1 ≤ 1048576) {K : Sl → World → Prop} (h : ∀ sl w', Sp w0 (own (.int .u8) sl (putT m) :: Ω) w' → K sl w') : C_refs_Table_Put (some ⟨t, 0, none⟩) K w := by
  apply S_refs_Table_Put
  unfold F_refs_Table_Put
  refine gd_f rfl (nonNil_some (s.ldm (x := some r) a 0 R.cell rfl ⟨m.length, (s.ms_ b R.map).len, arith_u64 (by omega) (by omega) ?_⟩))
  refine varint_Put_spec s (by omega) fun s0 w1 s => refs_Names_spec R.cons s (by omega) fun nsl w2 s => ?_
  have hv0 := vi_len9 (n := m.length) (by omega)
  have hnl := srtS_len (m.map fun q => q.1)
  rw [List.length_map] at hnl
  have hnm : ∀ x ∈ srtS (m.map fun q => q.1), x.size ≤ 200 ∧ 0 ≤ ((atS? m x).getD ((0 : Int), false)).1 ∧ ((atS? m x).getD ((0 : Int), false)).1 ≤ 1048576 := fun x hx => by
    obtain ⟨q, hq, rfl⟩ := List.mem_map.1 ((srtS_perm _).mem_iff.1 hx)
    refine ⟨(hs q hq).1, ?_⟩
    cases e : atS? m q.1 with
    | none => exact ⟨Int.le_refl _, by show (0 : Int) ≤ 1048576; decide⟩
    | some v => exact (hs _ (atS_some e)).2
  have hsl := (s.view 0 rfl).len
  have s : Sp w0 (own (.int .u8) s0 (vi m.length) :: own .str nsl (srtS (m.map fun q => q.1)) :: Ω) w2 := s.pick [1, 0] 2 rfl (by decide)
  unfold putT at h
  generalize srtS (m.map fun q => q.1) = L at *
  refine loop_by (fun x => x.2.1) L.length (fun n x w => (vi m.length ++ (L.take n).flatMap (putE m)).length ≤ 10 + n * 400 ∧ Sp w0 (own (.int .u8) x.1 (vi m.length ++ (L.take n).flatMap (putE m)) :: own .str nsl L :: Ω) w) rfl ⟨by simp; omega, by rw [List.take_zero, List.flatMap_nil, List.append_nil]; exact s⟩ ?_
  clear s
  rintro n ⟨out, x, _⟩ w3 hn hx ⟨hb, s⟩ _
  dsimp only at hx s ⊢
  subst hx
  refine gd_dec (fun hlt => ?_) (fun hge => ?_)
  rotate_left
  · have en : n = L.length := by omega
    subst en
    rw [List.take_length] at s
    exact h _ _ (s.era 1)
  have hn' : n < L.length := by omega
  obtain ⟨x, hx⟩ : ∃ x, L[n]? = some x := ⟨_, List.getElem?_eq_getElem hn'⟩
  obtain ⟨g1, g2, g3⟩ := hnm x (List.mem_of_getElem? hx)
  have htk : (L.take (n + 1)).flatMap (putE m) = (L.take n).flatMap (putE m) ++ putE m x := by rw [List.take_add_one, hx, Option.toList_some, List.flatMap_append]; simp
  have hpe : putE m x = ((vi x.size ++ bytesOf x) ++ [if ((atS? m x).getD ((0 : Int), false)).2 then (1 : Int) else 0]) ++ vi ((atS? m x).getD ((0 : Int), false)).1.toNat := rfl
  generalize hO : vi m.length ++ (L.take n).flatMap (putE m) = O at *
  have hg1 := R.cons.cons.get1 s x
  refine (s.view 1 rfl).idx rfl hx rfl fun q hq => ⟨x, hq, nonNil_some (s.ldm (x := some r) (a + 2) 0 R.cell rfl ⟨_, hg1, ?_⟩)⟩
  clear hg1
  generalize (atS? m x).getD ((0 : Int), false) = v at *
  have g2 : (0 : Int) ≤ v.1 := g2
  have g3 : (1048576 : Int) ≥ v.1 := g3
  have g4 : ((v.1.toNat : Nat) : Int) = v.1 := Int.toNat_of_nonneg g2
  have g5 : v.1.toNat ≤ 1048576 := Int.toNat_le.2 g3
  have l5 := bytesOf_len x
  have l6 := vi_len9 (n := (bytesOf x).length) (by omega)
  have l7 := vi_len9 (n := v.1.toNat) (by omega)
  refine s.allocK fun a14 w4 s => s.st0 0 rfl rfl rfl fun w5 s => toBytes s x fun s15 w6 s => varint_PutBytes_spec s (fun w' s => s.vw_ 0 rfl) (by omega) fun s16 w7 s => s.app 3 rfl (s.view 0 rfl) (by simp only [List.length_append]; omega) fun s17 w8 s => ?_
  have s : Sp w0 (cel a14 (cells yrefs_target v) :: own (.int .u8) s17 (O ++ (vi (bytesOf x).length ++ bytesOf x)) :: own .str nsl L :: Ω) w8 := s.drop 2
  refine ⟨fun z w => Sp w0 (cel a14 (cells yrefs_target v) :: own (.int .u8) z.1 ((O ++ (vi (bytesOf x).length ++ bytesOf x)) ++ [if v.2 then (1 : Int) else 0]) :: own .str nsl L :: Ω) w, s.ldb (x := v.2) 0 1 rfl rfl ?_, ?_⟩
  · cases hv2 : v.2 with
    | true => exact gd_t rfl (s.allocK fun a21 w10 s => s.app 2 rfl ((s.lit (ty := .int .u8) 0 rfl [(1 : Int)] 1 rfl rfl).view 0 rfl) (by simp only [List.length_append, List.length_cons, List.length_nil]; omega) fun s22 w11 s => s.pop)
    | false => exact gd_f rfl (s.allocK fun a21 w10 s => s.app 2 rfl ((s.lit (ty := .int .u8) 0 rfl [(0 : Int)] 1 rfl rfl).view 0 rfl) (by simp only [List.length_append, List.length_cons, List.length_nil]; omega) fun s22 w11 s => s.pop)
  clear s
  rintro ⟨z, _⟩ w12 s _
  dsimp only at s ⊢
  have e3 : (v.1 : Int) = ((v.1.toNat : Nat) : Int) := g4.symm
  refine s.ldi (x := v.1) 0 0 rfl rfl (arith_u64 (by rw [e3]; omega) (by rw [e3]; omega) ?_)
  rw [e3]
  refine varint_Put_spec s (by omega) fun s27 w14 s => s.app 2 rfl (s.view 0 rfl) (by simp only [List.length_append, List.length_cons, List.length_nil]; omega) fun s28 w15 s => arith_i64 (by omega) (by omega) (loop_nx hn' ⟨?_, ?_⟩)
  · rw [htk, ← List.append_assoc, hO, hpe, ← l5]
    simp only [List.length_append, List.length_cons, List.length_nil]
    omega
  · rw [htk, ← List.append_assoc, hO, hpe, ← l5]
    have e5 : O ++ (((vi (bytesOf x).length ++ bytesOf x) ++ [if v.2 then (1 : Int) else 0]) ++ vi v.1.toNat) = ((O ++ (vi (bytesOf x).length ++ bytesOf x)) ++ [if v.2 then (1 : Int) else 0]) ++ vi v.1.toNat := by simp only [List.append_assoc]
    rw [e5]
    exact s.drop 2

end Go.Proofs.YtnmgjpcooncjlaaGreat

/- law51: the walk of CompactAgain. -/
set_option linter.unusedVariables false
set_option linter.unusedSimpArgs false
namespace Go.Proofs.YtnmgjpcooncjlaaGreat
open Go.Den

variable {w0 w : World} {Ω : List Ob} {T : List ET} {C : List CT} {S : List Int} {f : Int → Int}

/-! ### Where all are kept -/
theorem kl_all {N : Nat} (h : ∀ k, k < N → An C S k) : kl C S 0 N = (List.range N).map fun i : Nat => (i : Int) := by
  induction N with
  | zero => rw [kl_top]; rfl
  | succ n ih =>
    rw [(kl_grow n).1 (h n (by omega)), ih fun k hk => h k (by omega), List.range_succ, List.map_append]; rfl
theorem rk_all {N : Nat} (h : ∀ k, k < N → An C S k) : rk C S N = N := by
  unfold rk
  rw [kl_all h]; simp
theorem nu_all {N n : Nat} (h : ∀ k, k < N → An C S k) (hn : n < N) : nu C S n = n := by
  rw [nu_yes (h n hn), rk_all fun k hk => h k (by omega)]
theorem kC_all (hw : WFC C) (h : ∀ k, k < C.length → An C S k) (hf : ∀ d ∈ C, f d.2.1 = d.2.1) : kC f C S C.length = C := by
  refine List.ext_getElem? fun k => ?_
  by_cases hk : k < C.length
  · obtain ⟨d, hd⟩ : ∃ d, C[k]? = some d := ⟨_, List.getElem?_eq_getElem hk⟩
    have h1 := kC_get (f := f) hk (h k hk) hd
    have h2 : (kl C S 0 k).length = k := by rw [kl_all fun j hj => h j (by omega)]; simp
    rw [h2] at h1
    rw [h1, hd]
    congr 1
    have e1 : d.1.map (fun p : Int => nu C S p.toNat) = d.1 := by
      have : ∀ p ∈ d.1, nu C S p.toNat = p := fun p hp => by
        have := (hw k d hd).2 p hp
        rw [nu_all h (by omega)]; omega
      rw [List.map_congr_left this]; simp
    have e2 := hf d (List.mem_of_getElem? hd)
    obtain ⟨d1, d2, d3⟩ := d
    unfold rn
    dsimp only at e1 e2 ⊢
    rw [e1, e2]
  · have h1 : (kC f C S C.length).length = C.length := by rw [kC_len, kl_all h]; simp
    rw [List.getElem?_eq_none (by omega), List.getElem?_eq_none (by omega)]
theorem range_getD {α : Type} {L : List α} {z : α} : (List.range L.length).map (fun i => L.getD i z) = L := by
  refine List.ext_getElem? fun k => ?_
  by_cases hk : k < L.length
  · rw [List.getElem?_map, List.getElem?_range hk, Option.map_some, List.getD_eq_getElem?_getD, List.getElem?_eq_getElem hk]; rfl
  · rw [List.getElem?_eq_none (by simp; omega), List.getElem?_eq_none (by omega)]
theorem hL_all (h : ∀ k, k < C.length → An C S k) : hL C S C.length = C.map fun d => d.2.1 := by
  unfold hL
  rw [kl_all h, List.map_map]
  have : ((fun z : Int => (C.getD z.toNat cz).2.1) ∘ fun i : Nat => (i : Int)) = (fun d : CT => d.2.1) ∘ fun i : Nat => C.getD i cz := by
    funext i
    simp
  rw [this, ← List.map_map, range_getD]
theorem kC_text (N : Nat) : (kC f C S N).map (fun d => d.2.1) = (hL C S N).map f := by
  unfold kC hL
  rw [List.map_map, List.map_map]; rfl
theorem kept_all (hw : WFC C) (hSb : ∀ z ∈ S, z < (C.length : Int)) (hS0 : ∀ z ∈ S, 0 ≤ z) : ∀ k, k < (kC f C S C.length).length → An (kC f C S C.length) (S.map fun z => nu C S z.toNat) k := fun k hk => by
  obtain ⟨x, hx⟩ : ∃ x, (kC f C S C.length)[k]? = some x := ⟨_, List.getElem?_eq_getElem hk⟩
  obtain ⟨n, d, h1, h2, h3, h4, _⟩ := kC_of (Nat.le_refl _) hx
  have := (An_new (f := f) (S := S) (S' := S) hw rfl (fun x hx => ⟨.root hx, by have := hSb _ hx; omega⟩) h2).2 h1
  rwa [show (rk C S n).toNat = k by omega] at this
theorem mvr_upTo (g : Grow T) {id : Int} (h1 : 1 ≤ id) (h2 : id ≤ T.length) : mvr (upTo T.length) (eAt T id).1 = (eAt T id).1 := by
  have key : pos (upTo T.length) (eAt T id).1.2.2.1 = (eAt T id).1.2.2.1 ∧ pos (upTo T.length) (eAt T id).1.2.2.2.1 = (eAt T id).1.2.2.2.1 := by
    have h0 : (0 : Int) ≤ ((T.length : Nat) : Int) := Int.natCast_nonneg _
    cases g.shape h1 h2 with
    | letter b _ _ e => rw [e]; exact ⟨upTo_pos (Int.le_refl 0) h0, upTo_pos (Int.le_refl 0) h0⟩
    | pair l r _ _ _ _ _ e => rw [e]; exact ⟨upTo_pos (x := l) (by omega) (by omega), upTo_pos (x := r) (by omega) (by omega)⟩
    | power x k _ _ _ _ e => rw [e]; exact ⟨upTo_pos (x := x) (by omega) (by omega), upTo_pos (Int.le_refl 0) h0⟩
  unfold mvr
  rw [key.1, key.2]

set_option maxHeartbeats 2000000 in
theorem law51_CompactAgain_spec {x : yevergreenlaw51_Input.T} {ops : List MakeT} {cms : List yevergreenlaw51_Commit.T} {ic : List IC} {ns : List yevergreenlaw51_Name.T} (i : InOK w0 x ops cms ic ns) {K : Bool → World → Prop} (h : ∀ w', Ext w0 w' → K true w') : C_law51_CompactAgain x K w0 := by
  apply S_law51_CompactAgain
  unfold F_law51_CompactAgain
  refine (Sp.init w0).allocK fun a1 w1 s => s.ld0 (ty := yevergreenlaw51_Input) (x := x) 0 rfl rfl (law51_good_spec i s fun w2 s => gd_not (gd_dec (fun hsm => ?_) (fun _ => h _ s.ext)))
  have nn := sumI_nn ic
  refine s.ld0 (ty := yevergreenlaw51_Input) (x := x) 0 rfl rfl ?_
  refine law51_begun_spec (ic := ic) s i.vL i.ok (by omega) i.vC ⟨i.len, fun k c hc => ?_⟩ (by omega) i.vN (by omega) fun p g t r a5 b1 m T res rs csl parSl texSl namSl tgtSl pts cs w3 hb hcs s => ?_
  · obtain ⟨y, h1, h2, h3⟩ := i.at_ k c hc
    exact ⟨y, h1, h2, h3, by have := sumI_le h1; omega⟩
  obtain ⟨W, hF, hC, hk⟩ := beg_CW (p := p) (g := g) (t := t) (r := r) (a5 := a5) (a1 := b1) (x := x) (m := m) (rs := rs) (csl := csl) (parSl := parSl) (texSl := texSl) (namSl := namSl) (tgtSl := tgtSl) (pts := pts) (ns := ns) (Ω := [cel a1 (cells yevergreenlaw51_Input x)]) hb hcs (by omega) (by omega)
  have hTl := hb.len
  have hTc := hb.cnt
  have hg := hb.grow
  have hml := mN_len (CB res ic ic.length).length ns (if ic.length = 0 then 0 else ns.length)
  have hnm : ∀ q ∈ mN (CB res ic ic.length).length ns (if ic.length = 0 then 0 else ns.length), q.1.size = 3 := fun q hq => by
    unfold mN at hq
    obtain ⟨j, _, rfl⟩ := List.mem_map.1 hq
    exact bstr_size _
  have c6 : (begE p g t r a5 b1 x m T res rs csl parSl texSl namSl tgtSl (cs.map fun x => x.1) pts cs (CB res ic ic.length) ns (if ic.length = 0 then 0 else ns.length) [cel a1 (cells yevergreenlaw51_Input x)])[6]? = some (cel a5 (wld p g t m parSl texSl namSl tgtSl)) := rfl
  generalize begE p g t r a5 b1 x m T res rs csl parSl texSl namSl tgtSl (cs.map fun x => x.1) pts cs (CB res ic ic.length) ns (if ic.length = 0 then 0 else ns.length) [cel a1 (cells yevergreenlaw51_Input x)] = BE at *
  generalize mN (CB res ic ic.length).length ns (if ic.length = 0 then 0 else ns.length) = mm at *
  generalize tN (CB res ic ic.length).length ns (if ic.length = 0 then 0 else ns.length) = S at *
  generalize (if ic.length = 0 then 0 else ns.length) = kk at *
  generalize CB res ic ic.length = C at *
  refine gd_f rfl ⟨fun z w => ∃ b, z.1 = ⟨b, 0, none⟩ ∧ z.2.1 = .nilIface ∧ Sp w0 (cel b (cells ycompact_Report ((C.length : Int), (T.length : Int), ((kl C S 0 C.length).length : Int), ((rlist T (hL C S C.length)).length : Int))) :: BE) w, s.drawK fun w5 s => nonNil_some (s.ldp (x := some p) 6 0 c6 rfl (nonNil_some (s.ldp (x := some ⟨g, 0, none⟩) 6 1 c6 rfl (nonNil_some (s.ldp (x := some ⟨t, 0, none⟩) 6 2 c6 rfl ⟨?_, ?_⟩))))), ?_⟩
  · exact compact_Saved_sp W s (fun _ w6 s => s.allocK fun a15 w7 s => s.st0 0 rfl rfl rfl fun w8 s => ⟨a15, rfl, rfl, s⟩) (fun hn => absurd hF hn)
  · exact s.allocK fun a16 w9 s => ⟨s.still 7 2 c6 rfl, s.still 7 1 c6 rfl, s.still 7 0 c6 rfl, compact_Saved_sp W.cons s (fun _ w10 s => s.st0 0 rfl rfl rfl fun w11 s => ⟨a16, rfl, rfl, s⟩) (fun hn => absurd hF hn)⟩
  clear s
  rintro ⟨z1, z2, _⟩ w12 ⟨b, e1, e2, s⟩ _
  dsimp only at e1 e2 ⊢
  subst e1 e2
  have hkl := kl_len (C := C) (S := S) 0 C.length
  have hhl := hL_len (C := C) (S := S) C.length
  have hK := hL_known W.ok hF.2
  have hc := rlist_closed hg hK
  have hrl := rlist_len T (hL C S C.length)
  have hpb : ∀ x, 0 ≤ pos (rlist T (hL C S C.length)) x := fun x => (pos_bound hc x).1
  have hpb2 : ∀ x, pos (rlist T (hL C S C.length)) x ≤ (rlist T (hL C S C.length)).length := fun x => (pos_bound hc x).2
  have hok3 := kC_ok (S := S) (f := pos (rlist T (hL C S C.length))) (N := C.length) W.ok hpb (Nat.le_refl _)
  have hC3l := kC_len (f := pos (rlist T (hL C S C.length))) (C := C) (S := S) C.length
  have hall := kept_all (f := pos (rlist T (hL C S C.length))) W.ok.wf hF.1 W.hS0
  have htext := kC_text (f := pos (rlist T (hL C S C.length))) (C := C) (S := S) C.length
  have hL3 := hL_all hall
  rw [htext] at hL3
  have hrall := rlist_copy_all hg hK
  have gD := copy_grow hg hc
  have hDl := copy_len (T := T) (ids := rlist T (hL C S C.length))
  have htx : ∀ d ∈ kC (pos (rlist T (hL C S C.length))) C S C.length, 0 ≤ d.2.1 ∧ d.2.1 ≤ ((rlist T (hL C S C.length)).length : Int) := fun d hd => by
    have h1 : d.2.1 ∈ (kC (pos (rlist T (hL C S C.length))) C S C.length).map fun d => d.2.1 := List.mem_map.2 ⟨d, hd, rfl⟩
    rw [htext] at h1
    obtain ⟨y, _, e⟩ := List.mem_map.1 h1
    rw [← e]
    exact ⟨hpb y, hpb2 y⟩
  refine s.drawK fun w13 s => nonNil_some (s.ldp (x := some p) 7 0 c6 rfl (nonNil_some (s.ldp (x := some ⟨g, 0, none⟩) 7 1 c6 rfl (nonNil_some (s.ldp (x := some ⟨t, 0, none⟩) 7 2 c6 rfl (compact_Of_sp W.cons s (fun _ hle p2 g3 csl3 cs3 t2 r2 m2 w14 hcs3 hp2 s => ?_) (fun _ hgt => absurd (show (1000 : Int) < _ from hgt) (by omega)) (fun hn => absurd hF hn)))))))
  rw [← hL3] at hrall
  generalize rlist T (hL C S C.length) = ids at *
  generalize hD : YtnmgjpcooncjlaaGreat.copy T ids = D at *
  generalize hC3e : kC (pos ids) C S C.length = C3 at *
  have hp2l := hp2.length_eq
  rw [List.length_map] at hp2l
  have W2 : CW (sto p2 (clampM 1000) D :: cel g3 [.slice csl3.a csl3.len csl3.cap] :: own yapi_Commit csl3 cs3 :: ivs (cs3.map fun x => x.1) (C3.map fun x => x.1) :: cel t2 [.map (some r2)] :: ms yrefs_target r2 m2 :: cel b (cells ycompact_Report ((C.length : Int), (T.length : Int), ((kl C S 0 C.length).length : Int), (ids.length : Int))) :: BE) 0 1 2 3 4 5 p2 (clampM 1000) D g3 csl3 cs3 C3 t2 r2 m2 (S.map fun z => nu C S z.toNat) := by
    refine ⟨rfl, ⟨rfl, rfl, rfl, hcs3⟩, ⟨rfl, rfl⟩, hok3, by omega, by have := W.hm; omega, fun z => ?_, fun z hz => ?_⟩
    · constructor
      · intro hz
        obtain ⟨z0, hz0, e⟩ := List.mem_map.1 hz
        obtain ⟨q, hq, e2⟩ := (W.hS z0).1 hz0
        refine ⟨_, hp2.mem_iff.2 (List.mem_map.2 ⟨q, hq, rfl⟩), ?_⟩
        show nu C S q.2.1.toNat = z
        rw [e2]; exact e
      · rintro ⟨q, hq, e⟩
        obtain ⟨q0, hq0, e2⟩ := List.mem_map.1 (hp2.mem_iff.1 hq)
        subst e2
        exact List.mem_map.2 ⟨q0.2.1, (W.hS _).2 ⟨q0, hq0, rfl⟩, e⟩
    · obtain ⟨z0, hz0, e⟩ := List.mem_map.1 hz
      subst e
      have h0 := W.hS0 z0 hz0
      have ha : An C S z0.toNat := .root (by rw [show ((z0.toNat : Nat) : Int) = z0 by omega]; exact hz0)
      rw [nu_yes ha]; exact rk_nn _
  have hF2 : Fine D C3 (S.map fun z => nu C S z.toNat) := by
    refine ⟨fun z hz => ?_, fun n d _ hd => ?_⟩
    · obtain ⟨z0, hz0, e⟩ := List.mem_map.1 hz
      subst e
      have h0 := W.hS0 z0 hz0
      have h1 := hF.1 z0 hz0
      have ha : An C S z0.toNat := .root (by rw [show ((z0.toNat : Nat) : Int) = z0 by omega]; exact hz0)
      have := rk_lt (show z0.toNat < C.length by omega) ha
      have hr : rk C S C.length = ((kl C S 0 C.length).length : Int) := rfl
      rw [nu_yes ha]
      omega
    · have := htx d (List.mem_of_getElem? hd)
      omega
  have hm2n := (s.ms_ 5 rfl).nodup
  have hm2s : ∀ q ∈ m2, q.1.size = 3 := fun q hq => by
    obtain ⟨q0, hq0, e2⟩ := List.mem_map.1 (hp2.mem_iff.1 hq)
    subst e2
    exact hnm q0 hq0
  have W' := W.cons (o := cel b (cells ycompact_Report ((C.length : Int), (T.length : Int), ((kl C S 0 C.length).length : Int), (ids.length : Int)))) |>.cons (o := ms yrefs_target r2 m2) |>.cons (o := cel t2 [.map (some r2)]) |>.cons (o := ivs (cs3.map fun x => x.1) (C3.map fun x => x.1)) |>.cons (o := own yapi_Commit csl3 cs3) |>.cons (o := cel g3 [.slice csl3.a csl3.len csl3.cap]) |>.cons (o := sto p2 (clampM 1000) D)
  have cR : (sto p2 (clampM 1000) D :: cel g3 [.slice csl3.a csl3.len csl3.cap] :: own yapi_Commit csl3 cs3 :: ivs (cs3.map fun x => x.1) (C3.map fun x => x.1) :: cel t2 [.map (some r2)] :: ms yrefs_target r2 m2 :: cel b (cells ycompact_Report ((C.length : Int), (T.length : Int), ((kl C S 0 C.length).length : Int), (ids.length : Int))) :: BE)[6]? = some (cel b (cells ycompact_Report ((C.length : Int), (T.length : Int), ((kl C S 0 C.length).length : Int), (ids.length : Int)))) := rfl
  have c13 : (sto p2 (clampM 1000) D :: cel g3 [.slice csl3.a csl3.len csl3.cap] :: own yapi_Commit csl3 cs3 :: ivs (cs3.map fun x => x.1) (C3.map fun x => x.1) :: cel t2 [.map (some r2)] :: ms yrefs_target r2 m2 :: cel b (cells ycompact_Report ((C.length : Int), (T.length : Int), ((kl C S 0 C.length).length : Int), (ids.length : Int))) :: BE)[13]? = some (cel a5 (wld p g t m parSl texSl namSl tgtSl)) := c6
  generalize (sto p2 (clampM 1000) D :: cel g3 [.slice csl3.a csl3.len csl3.cap] :: own yapi_Commit csl3 cs3 :: ivs (cs3.map fun x => x.1) (C3.map fun x => x.1) :: cel t2 [.map (some r2)] :: ms yrefs_target r2 m2 :: cel b (cells ycompact_Report ((C.length : Int), (T.length : Int), ((kl C S 0 C.length).length : Int), (ids.length : Int))) :: BE) = Q at *
  generalize (S.map fun z : Int => nu C S z.toNat) = S3 at *
  have hk3 : (kl C3 S3 0 C3.length).length = C3.length := by rw [kl_all hall]; simp
  have hup : (upTo ids.length).length = ids.length := by simp [upTo]
  refine JoinP.inl (nilIfc_nil (gd_f rfl (nilIfc_nil (gd_f rfl ?_))))
  intro _
  refine gd_f rfl (compact_Saved_sp W2 s (fun _ w15 s => ?_) (fun hn => absurd hF2 hn))
  rw [hk3, hrall, hup]
  refine s.allocK fun a30 w16 s => s.st0 0 rfl rfl rfl fun w17 s => ?_
  have s : Sp w0 (cel a30 (cells ycompact_Report ((C3.length : Int), (D.length : Int), (C3.length : Int), (ids.length : Int))) :: Q) w17 := s
  refine JoinP.inl (s.drawK fun w19 s => nilIfc_nil (gd_f rfl (s.ldi (x := ((kl C S 0 C.length).length : Int)) 7 2 cR rfl (history_Len_spec W2.cons.G s ⟨s.still 7 2 cR rfl, gd_ne (fun c => absurd (by omega) c) (fun _ => s.ldi (x := (ids.length : Int)) 7 3 cR rfl (intern_Len_sp s 1 W2.cons.hi ⟨s.still 7 3 cR rfl, gd_ne (fun c => absurd (by omega) c) (fun _ => s.ldi (x := (C.length : Int)) 7 0 cR rfl (nonNil_some (s.ldp (x := some ⟨g, 0, none⟩) 14 1 c13 rfl (history_Len_spec W'.cons.G s ⟨s.still 7 0 cR rfl, gd_ne (fun c => absurd rfl c) (fun _ => s.ldi (x := (T.length : Int)) 7 1 cR rfl (nonNil_some (s.ldp (x := some p) 14 0 c13 rfl (intern_Len_sp s 19 W'.cons.hi ⟨s.still 7 1 cR rfl, ?_⟩))))⟩))))⟩))⟩))))
  intro _
  refine gd_f (by simp) ?_
  refine compact_Of_sp W2.cons s (fun _ hle4 p4 g5 csl5 cs5 t4 r4 m4 w24 hcs5 hp4 s => ?_) (fun _ hgt => absurd (show (1000 : Int) < _ from hgt) (by rw [hrall, hup]; omega)) (fun hn => absurd hF2 hn)
  rw [hrall] at hcs5 s
  have hC4 : kC (pos (upTo ids.length)) C3 S3 C3.length = C3 := kC_all W2.ok.wf hall fun d hd => by
    have := htx d hd
    exact upTo_pos this.1 this.2
  rw [hC4] at hcs5 s
  have hp5 : m4.Perm m2 := by
    refine hp4.trans ?_
    have : ∀ q ∈ m2, ((q.1, (nu C3 S3 q.2.1.toNat, q.2.2)) : ByteArray × TG) = q := fun q hq => by
      obtain ⟨q1, q2, q3⟩ := q
      have hz := (W2.hS q2).2 ⟨_, hq, rfl⟩
      have h0 := W2.hS0 q2 hz
      have h1 := hF2.1 q2 hz
      have e : nu C3 S3 q2.toNat = q2 := by
        rw [nu_all hall (by omega)]; omega
      show (q1, (nu C3 S3 q2.toNat, q3)) = (q1, (q2, q3))
      rw [e]
    rw [List.map_congr_left this]
    simp
  have hm4n := (s.ms_ 5 rfl).nodup
  have hput := putT_perm hp5 hm4n
  have hp5l := hp5.length_eq
  have hD2l := copy_len (T := D) (ids := upTo ids.length)
  have hrule : ∀ id : Int, 1 ≤ id → id ≤ (D.length : Int) → (eAt (YtnmgjpcooncjlaaGreat.copy D (upTo ids.length)) id).1 = (eAt D id).1 := fun id h1 h2 => by
    have hgt := upTo_get (n := ids.length) (k := (id - 1).toNat) (by omega)
    have e := eAt_copy (T := D) hgt
    rw [show (((id - 1).toNat : Nat) : Int) + 1 = id by omega] at e
    rw [e]
    show mvr (upTo ids.length) (eAt D id).1 = (eAt D id).1
    rw [← hDl]
    exact mvr_upTo gD h1 h2
  generalize YtnmgjpcooncjlaaGreat.copy D (upTo ids.length) = D2 at *
  have G5 : Gh (sto p4 (clampM 1000) D2 :: cel g5 [.slice csl5.a csl5.len csl5.cap] :: own yapi_Commit csl5 cs5 :: ivs (cs5.map fun x => x.1) (C3.map fun x => x.1) :: cel t4 [.map (some r4)] :: ms yrefs_target r4 m4 :: cel a30 (cells ycompact_Report ((C3.length : Int), (D.length : Int), (C3.length : Int), (ids.length : Int))) :: Q) 1 2 3 g5 csl5 cs5 C3 := ⟨rfl, rfl, rfl, hcs5⟩
  have R4 : Rt (sto p4 (clampM 1000) D2 :: cel g5 [.slice csl5.a csl5.len csl5.cap] :: own yapi_Commit csl5 cs5 :: ivs (cs5.map fun x => x.1) (C3.map fun x => x.1) :: cel t4 [.map (some r4)] :: ms yrefs_target r4 m4 :: cel a30 (cells ycompact_Report ((C3.length : Int), (D.length : Int), (C3.length : Int), (ids.length : Int))) :: Q) 4 5 t4 r4 m4 := ⟨rfl, rfl⟩
  have W3 := W2.cons (o := cel a30 (cells ycompact_Report ((C3.length : Int), (D.length : Int), (C3.length : Int), (ids.length : Int)))) |>.cons (o := ms yrefs_target r4 m4) |>.cons (o := cel t4 [.map (some r4)]) |>.cons (o := ivs (cs5.map fun x => x.1) (C3.map fun x => x.1)) |>.cons (o := own yapi_Commit csl5 cs5) |>.cons (o := cel g5 [.slice csl5.a csl5.len csl5.cap]) |>.cons (o := sto p4 (clampM 1000) D2)
  have ht3 : ∀ d ∈ C3, d.2.1 ≤ 1048576 := fun d hd => by have := htx d hd; omega
  have hq2 : ∀ q ∈ m2, q.1.size ≤ 200 ∧ 0 ≤ q.2.1 ∧ q.2.1 ≤ 1048576 := fun q hq => by
    have hz := (W2.hS q.2.1).2 ⟨q, hq, rfl⟩
    have h0 : (0 : Int) ≤ q.2.1 := W2.hS0 _ hz
    have h1 := hF2.1 _ hz
    have h3 : (1048576 : Int) ≥ q.2.1 := by
      have : (C3.length : Int) > q.2.1 := h1
      have h4 : (C3.length : Int) ≤ 1048576 := by omega
      exact Int.le_trans (Int.le_of_lt this) h4
    have := hm2s q hq
    exact ⟨by omega, h0, h3⟩
  have hq4 : ∀ q ∈ m4, q.1.size ≤ 200 ∧ 0 ≤ q.2.1 ∧ q.2.1 ≤ 1048576 := fun q hq => hq2 q (hp5.mem_iff.1 hq)
  refine JoinP.inl (s.drawK fun w26 s => nilIfc_nil (gd_f rfl (s.ld0 (ty := ycompact_Report) (x := ((C3.length : Int), (D.length : Int), (C3.length : Int), (ids.length : Int))) 6 rfl rfl (history_Len_spec W3.G s ⟨s.at_ 6 rfl, intern_Len_sp s 7 W3.hi ⟨s.at_ 6 rfl, history_Len_spec W3.G s ⟨s.at_ 6 rfl, intern_Len_sp s 7 W3.hi ⟨s.at_ 6 rfl, report_neq (y := ((C3.length : Int), (D.length : Int), (C3.length : Int), (D.length : Int))) ?_⟩⟩⟩⟩))))
  rw [hDl, decide_eq_true rfl]
  refine gd_f rfl (intern_Len_sp s 0 rfl (intern_Len_sp s 7 W3.hi (gd_ne (fun c => absurd (by omega) c) (fun _ => ?_))))
  refine history_Put_spec G5 s W2.ok (by have := W2.hC; omega) ht3 fun pl1 w33 s => history_Put_spec W3.cons.G s W2.ok (by have := W2.hC; omega) ht3 fun pl2 w34 s => base_Bytes_same (s.view 1 rfl) (s.view 0 rfl) (gd_f rfl ?_)
  have hm4l : m4.length ≤ 2000 := by omega
  refine refs_Put_spec R4.cons.cons s hm4l hq4 fun pl3 w36 s => refs_Put_spec W3.cons.cons.cons.R s (by omega) hq2 fun pl4 w37 s => ?_
  rw [hput] at s
  refine base_Bytes_same (s.view 1 rfl) (s.view 0 rfl) ?_
  intro _
  refine gd_f rfl ?_
  have s := s.drop 4
  have s : Sp w0 (sto p4 (clampM 1000) D2 :: cel g5 [.slice csl5.a csl5.len csl5.cap] :: own yapi_Commit csl5 cs5 :: ivs (cs5.map fun x => x.1) (C3.map fun x => x.1) :: cel t4 [.map (some r4)] :: ms yrefs_target r4 m4 :: cel a30 (cells ycompact_Report ((C3.length : Int), (ids.length : Int), (C3.length : Int), (ids.length : Int))) :: Q) w37 := by rw [hDl] at s; exact s
  refine loop_from 1 (fun x => x.1) D.length (fun n _ w => Sp w0 (sto p4 (clampM 1000) D2 :: cel g5 [.slice csl5.a csl5.len csl5.cap] :: own yapi_Commit csl5 cs5 :: ivs (cs5.map fun x => x.1) (C3.map fun x => x.1) :: cel t4 [.map (some r4)] :: ms yrefs_target r4 m4 :: cel a30 (cells ycompact_Report ((C3.length : Int), (ids.length : Int), (C3.length : Int), (ids.length : Int))) :: Q) w) rfl s ?_
  clear s
  rintro n ⟨x0, _⟩ w39 hn hx s _
  dsimp only at hx ⊢
  subst hx
  refine intern_Len_sp s 7 W3.hi (gd_dec (fun hlt => ?_) (fun hge => h _ s.ext))
  have hn' : n < D.length := by omega
  have hr := hrule (1 + (n : Int)) (by omega) (by omega)
  refine intern_Rule_k s 7 W3.hi ⟨by omega, by omega⟩ fun w41 s => s.allocK fun a68 w42 s => s.st0 0 rfl rfl rfl fun w43 s => intern_Rule_k s 1 rfl ⟨by omega, by omega⟩ fun w44 s => s.allocK fun a70 w45 s => s.st0 0 rfl rfl rfl fun w46 s => ?_
  rw [hr] at s
  refine JoinP.inl (nilIfc_nil (gd_f rfl (nilIfc_nil (gd_f rfl (s.ld0 (ty := yapi_Rule) (x := (eAt D (1 + (n : Int))).1) 1 rfl rfl (s.ld0 (ty := yapi_Rule) (x := (eAt D (1 + (n : Int))).1) 0 rfl rfl (rule_neq ?_)))))))
  rw [decide_eq_true rfl]
  intro _
  exact gd_f rfl (arith_i64 (by omega) (by omega) (loop_fx hn' (s.drop 2)))

end Go.Proofs.YtnmgjpcooncjlaaGreat
