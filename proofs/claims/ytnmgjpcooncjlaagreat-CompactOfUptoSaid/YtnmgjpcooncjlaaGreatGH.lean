/- Texts that belong together, joined: CpH, CpK. No conditions. -/
import Derived.Test.YtnmgjpcooncjlaaGreatGF
/- law51: the walk of CompactOf. -/
set_option linter.unusedVariables false
set_option linter.unusedSimpArgs false
namespace Go.Proofs.YtnmgjpcooncjlaaGreat
open Go.Den

variable {w0 w : World} {Ω : List Ob} {C : List CT} {S : List Int}

theorem ref51_Numbers_spec {ksl : Sl} {inl : List Ty.bool.T} {N : Nat} (s : Sp w0 Ω w) (hv : ∀ w', Sp w0 Ω w' → View .bool w' ksl inl) (mk : MK N inl (An C S)) (hN : N ≤ 60000) {K : Sl → World → Prop}
    (h : ∀ sl w', Sp w0 (own (.int .i64) sl (nuL C S N) :: Ω) w' → K sl w') : C_ref51_Numbers ksl K w := by
  apply S_ref51_Numbers
  unfold F_ref51_Numbers
  have hl := (hv _ s).len
  have hil := mk.1
  refine loop_by (fun x => x.2.2.1) N (fun n x w => x.2.1 = rk C S n ∧ Sp w0 (own (.int .i64) x.1 (nuL C S n) :: Ω) w) rfl ⟨by rw [rk_zero], s.nil _⟩ ?_
  clear s
  rintro n ⟨out, x, y, _⟩ w1 hn hy ⟨hx, s⟩ _
  dsimp only at hx hy s ⊢
  subst hx hy
  have hkn := kl_len (C := C) (S := S) 0 n
  have hnl := nuL_len (C := C) (S := S) n
  refine gd_dec (fun hlt => ?_) (fun hge => ?_)
  · have hn' : n < N := by omega
    obtain ⟨bb, hb1, hb2⟩ := mk.2 n hn'
    have hr : rk C S n = ((kl C S 0 n).length : Int) := rfl
    refine ⟨fun z w => z.2.1 = rk C S (n + 1) ∧ Sp w0 (own (.int .i64) z.1 (nuL C S (n + 1)) :: Ω) w, (hv _ s.pop).idx rfl hb1 rfl fun q hq => ⟨bb, hq, ?_⟩, fun z w hz _ => ?_⟩
    · cases bb with
      | false =>
        have hno : ¬ An C S n := fun h => by have := hb2.2 h; cases this
        rw [rk_no hno, nuL_succ, nu_no hno]
        refine gd_f rfl (s.allocK fun a10 w5 s => s.app 1 rfl ((s.lit (ty := .int .i64) 0 rfl [(-1 : Int)] 1 rfl rfl).view 0 rfl) (by simp only [List.length_cons, List.length_nil]; omega) fun s11 w6 s => ⟨rfl, s.pop⟩)
      | true =>
        have hyes : An C S n := hb2.1 rfl
        rw [rk_yes hyes, nuL_succ, nu_yes hyes]
        refine gd_t rfl (s.allocK fun a10 w5 s => s.app 1 rfl ((s.lit (ty := .int .i64) 0 rfl [rk C S n] 1 rfl rfl).view 0 rfl) (by simp only [List.length_cons, List.length_nil]; omega) fun s11 w6 s => arith_i64 (by omega) (by omega) ⟨rfl, s.pop⟩)
    · exact arith_i64 (by omega) (by omega) (loop_nx hn' hz)
  · have en : n = N := by omega
    subst en
    exact h _ _ s
theorem hL_yes {n : Nat} {d : CT} (h : An C S n) (hd : C[n]? = some d) : hL C S (n + 1) = hL C S n ++ [d.2.1] := by
  unfold hL
  rw [(kl_grow n).1 h, List.map_append, List.map_singleton, Int.toNat_natCast, List.getD_eq_getElem?_getD, hd]; rfl
theorem hL_no {n : Nat} (h : ¬ An C S n) : hL C S (n + 1) = hL C S n := by
  unfold hL
  rw [(kl_grow n).2 h]
theorem law51_world_held_spec {ksl : Sl} {inl : List Ty.bool.T} {a5 g t : Nat} {p : Addr} {m : yevergreenref12_Store.T} {parSl texSl namSl tgtSl : Sl} (s : Sp w0 Ω w) (j1 j2 : Nat) (h1 : Ω[j1]? = some (cel a5 (wld p g t m parSl texSl namSl tgtSl))) (h2 : Ω[j2]? = some (own (.int .i64) texSl (C.map fun x => x.2.1))) (hv : ∀ w', Sp w0 Ω w' → View .bool w' ksl inl) (mk : MK C.length inl (An C S)) (hN : C.length ≤ 60000) {K : Sl → World → Prop}
    (h : ∀ sl w', Sp w0 (own (.int .i64) sl (hL C S C.length) :: Ω) w' → K sl w') : C_law51_world_held (some ⟨a5, 0, none⟩) ksl K w := by
  apply S_law51_world_held
  unfold F_law51_world_held
  have hl := (hv _ s).len
  have hil := mk.1
  refine loop_by (fun x => x.2.1) C.length (fun n x w => Sp w0 (own (.int .i64) x.1 (hL C S n) :: Ω) w) rfl (by unfold hL; rw [kl_top]; exact s.nil _) ?_
  clear s
  rintro n ⟨out, y, _⟩ w1 hn hy s _
  dsimp only at hy s ⊢
  subst hy
  have hkn := kl_len (C := C) (S := S) 0 n
  have hhl := hL_len (C := C) (S := S) n
  refine gd_dec (fun hlt => ?_) (fun hge => ?_)
  · have hn' : n < C.length := by omega
    obtain ⟨bb, hb1, hb2⟩ := mk.2 n hn'
    obtain ⟨d, hd⟩ : ∃ d, C[n]? = some d := ⟨_, List.getElem?_eq_getElem hn'⟩
    have hdt : (C.map fun x => x.2.1)[n]? = some d.2.1 := by rw [List.getElem?_map, hd]; rfl
    refine ⟨fun z w => Sp w0 (own (.int .i64) z.1 (hL C S (n + 1)) :: Ω) w, (hv _ s.pop).idx rfl hb1 rfl fun q hq => ⟨bb, hq, ?_⟩, fun z w hz _ => ?_⟩
    · cases bb with
      | false =>
        have hno : ¬ An C S n := fun h => by have := hb2.2 h; cases this
        rw [hL_no hno]
        exact gd_f rfl s
      | true =>
        have hyes : An C S n := hb2.1 rfl
        rw [hL_yes hyes hd]
        exact gd_t rfl (nonNil_some (s.lds (x := texSl) (j1 + 1) 6 h1 rfl ((s.view (j2 + 1) h2).idx rfl hdt rfl fun q2 hq2 => ⟨_, hq2, s.allocK fun a10 w5 s => s.app 1 rfl ((s.lit (ty := .int .i64) 0 rfl [d.2.1] 1 rfl rfl).view 0 rfl) (by simp only [List.length_cons, List.length_nil]; omega) fun s11 w6 s => s.pop⟩)))
    · exact arith_i64 (by omega) (by omega) (loop_nx hn' hz)
  · have en : n = C.length := by omega
    subst en
    exact h _ _ s

/-! ### Names in order -/
theorem nameB_le {i j : Nat} (h : i ≤ j) (hj : j < 100) : toLS (nameB i) ≤ toLS (nameB j) := by
  have step : ((List.range 99).all fun i => decide (toLS (nameB i) ≤ toLS (nameB (i + 1)))) = true := by decide +kernel
  rw [List.all_eq_true] at step
  induction j with
  | zero => have : i = 0 := by omega
            subst this; exact List.le_refl _
  | succ j ih =>
    by_cases c : i = j + 1
    · subst c; exact List.le_refl _
    · exact List.le_trans (ih (by omega) (by omega)) (of_decide_eq_true (step j (List.mem_range.2 (by omega))))
theorem wN_sorted {k : Nat} (hk : k ≤ 100) : srtS (wN k) = wN k := by
  refine srtS_sorted ?_
  unfold wN
  rw [List.pairwise_map]
  have h : (List.range k).Pairwise (fun a b => a < b) := List.pairwise_lt_range
  refine List.Pairwise.imp_of_mem (fun {a b} ha hb hab => ?_) h
  have := List.mem_range.1 hb
  exact nameB_le (by omega) (by omega)
theorem mN_keys (N : Nat) (ns : List IN) (k : Nat) : (mN N ns k).map (fun q => q.1) = wN k := by
  unfold mN wN
  rw [List.map_map]; rfl
theorem atS_mem {α : Type} : ∀ {m : List (ByteArray × α)} {x : ByteArray} {v : α}, (m.map (fun q => q.1)).Nodup → (x, v) ∈ m → atS? m x = some v
  | [], _, _, _, h => by cases h
  | q :: m, x, v, hn, h => by
    rw [List.map_cons, List.nodup_cons] at hn
    simp only [atS?]
    rcases List.mem_cons.1 h with e | h
    · subst e; rw [if_pos rfl]
    · rw [if_neg, atS_mem hn.2 h]
      intro e
      exact hn.1 (List.mem_map.2 ⟨_, h, e.symm⟩)
theorem mN_at (N : Nat) (ns : List IN) {i k : Nat} (h : i < k) : ∃ tag, (nameB i, (toN N (ns.getD i (false, 0)), tag)) ∈ mN N ns k ∧ (tN N ns k)[i]? = some (toN N (ns.getD i (false, 0))) ∧ (wN k)[i]? = some (nameB i) := by
  refine ⟨(ns.getD i (false, 0)).1, List.mem_map.2 ⟨i, List.mem_range.2 h, rfl⟩, ?_, ?_⟩
  · unfold tN
    rw [List.getElem?_map, List.getElem?_range h]; rfl
  · unfold wN
    rw [List.getElem?_map, List.getElem?_range h]; rfl

end Go.Proofs.YtnmgjpcooncjlaaGreat

/- law51: the walk of CompactOf. -/
set_option linter.unusedVariables false
set_option linter.unusedSimpArgs false
namespace Go.Proofs.YtnmgjpcooncjlaaGreat
open Go.Den

variable {w0 w : World} {Ω : List Ob}

theorem CB_note {res : List Int} {ic : List IC} {n k : Nat} {d : CT} (h : (CB res ic n)[k]? = some d) : d.2.2 = nameB k := by
  have hl := (List.getElem?_eq_some_iff.1 h).1
  rw [CB_len] at hl
  rw [CB_get hl] at h
  cases h
  rfl
set_option maxHeartbeats 2000000 in
theorem law51_CompactOf_spec {x : yevergreenlaw51_Input.T} {ops : List MakeT} {cms : List yevergreenlaw51_Commit.T} {ic : List IC} {ns : List yevergreenlaw51_Name.T} (i : InOK w0 x ops cms ic ns) {K : Bool → World → Prop} (h : ∀ w', Ext w0 w' → K true w') : C_law51_CompactOf x K w0 := by
  apply S_law51_CompactOf
  unfold F_law51_CompactOf
  refine (Sp.init w0).allocK fun a1 w1 s => s.ld0 (ty := yevergreenlaw51_Input) (x := x) 0 rfl rfl (law51_good_spec i s fun w2 s => gd_not (gd_dec (fun hsm => ?_) (fun _ => h _ s.ext)))
  have nn := sumI_nn ic
  refine s.ld0 (ty := yevergreenlaw51_Input) (x := x) 0 rfl rfl ?_
  refine law51_begun_spec (ic := ic) s i.vL i.ok (by omega) i.vC ⟨i.len, fun k c hc => ?_⟩ (by omega) i.vN (by omega) fun p g t r a5 b1 m T res rs csl parSl texSl namSl tgtSl pts cs w3 hb hcs s => ?_
  · obtain ⟨y, h1, h2, h3⟩ := i.at_ k c hc
    exact ⟨y, h1, h2, h3, by have := sumI_le h1; omega⟩
  obtain ⟨W, hF, hC, hk⟩ := beg_CW (p := p) (g := g) (t := t) (r := r) (a5 := a5) (a1 := b1) (x := x) (m := m) (rs := rs) (csl := csl) (parSl := parSl) (texSl := texSl) (namSl := namSl) (tgtSl := tgtSl) (pts := pts) (ns := ns) (Ω := [cel a1 (cells yevergreenlaw51_Input x)]) hb hcs (by omega) (by omega)
  have hTl := hb.len
  have hTc := hb.cnt
  have hg := hb.grow
  have hnote : ∀ (k : Nat) (d : CT), (CB res ic ic.length)[k]? = some d → d.2.2 = nameB k := fun k d hd => CB_note hd
  have hkeys := mN_keys (CB res ic ic.length).length ns (if ic.length = 0 then 0 else ns.length)
  have hat : ∀ j : Nat, j < (if ic.length = 0 then 0 else ns.length) → ∃ (to : Int) (tag : Bool), (nameB j, (to, tag)) ∈ mN (CB res ic ic.length).length ns (if ic.length = 0 then 0 else ns.length) ∧ (tN (CB res ic ic.length).length ns (if ic.length = 0 then 0 else ns.length))[j]? = some to ∧ (wN (if ic.length = 0 then 0 else ns.length))[j]? = some (nameB j) := fun j hj => by
    obtain ⟨tag, h1, h2, h3⟩ := mN_at (CB res ic ic.length).length ns hj
    exact ⟨_, tag, h1, h2, h3⟩
  have hwl := wN_len (if ic.length = 0 then 0 else ns.length)
  have htl := tN_len (CB res ic ic.length).length ns (if ic.length = 0 then 0 else ns.length)
  have c3 : (begE p g t r a5 b1 x m T res rs csl parSl texSl namSl tgtSl (cs.map fun x => x.1) pts cs (CB res ic ic.length) ns (if ic.length = 0 then 0 else ns.length) [cel a1 (cells yevergreenlaw51_Input x)])[3]? = some (ivs pts ((CB res ic ic.length).map fun x => x.1)) := rfl
  have c4 : (begE p g t r a5 b1 x m T res rs csl parSl texSl namSl tgtSl (cs.map fun x => x.1) pts cs (CB res ic ic.length) ns (if ic.length = 0 then 0 else ns.length) [cel a1 (cells yevergreenlaw51_Input x)])[4]? = some (own .slice parSl pts) := rfl
  have c5 : (begE p g t r a5 b1 x m T res rs csl parSl texSl namSl tgtSl (cs.map fun x => x.1) pts cs (CB res ic ic.length) ns (if ic.length = 0 then 0 else ns.length) [cel a1 (cells yevergreenlaw51_Input x)])[5]? = some (own (.int .i64) texSl ((CB res ic ic.length).map fun x => x.2.1)) := rfl
  have c6 : (begE p g t r a5 b1 x m T res rs csl parSl texSl namSl tgtSl (cs.map fun x => x.1) pts cs (CB res ic ic.length) ns (if ic.length = 0 then 0 else ns.length) [cel a1 (cells yevergreenlaw51_Input x)])[6]? = some (cel a5 (wld p g t m parSl texSl namSl tgtSl)) := rfl
  have c12 : (begE p g t r a5 b1 x m T res rs csl parSl texSl namSl tgtSl (cs.map fun x => x.1) pts cs (CB res ic ic.length) ns (if ic.length = 0 then 0 else ns.length) [cel a1 (cells yevergreenlaw51_Input x)])[12]? = some (rf2 m T) := rfl
  have c13 : (begE p g t r a5 b1 x m T res rs csl parSl texSl namSl tgtSl (cs.map fun x => x.1) pts cs (CB res ic ic.length) ns (if ic.length = 0 then 0 else ns.length) [cel a1 (cells yevergreenlaw51_Input x)])[13]? = some (own .str namSl (wN (if ic.length = 0 then 0 else ns.length))) := rfl
  have c14 : (begE p g t r a5 b1 x m T res rs csl parSl texSl namSl tgtSl (cs.map fun x => x.1) pts cs (CB res ic ic.length) ns (if ic.length = 0 then 0 else ns.length) [cel a1 (cells yevergreenlaw51_Input x)])[14]? = some (own (.int .i64) tgtSl (tN (CB res ic ic.length).length ns (if ic.length = 0 then 0 else ns.length))) := rfl
  generalize begE p g t r a5 b1 x m T res rs csl parSl texSl namSl tgtSl (cs.map fun x => x.1) pts cs (CB res ic ic.length) ns (if ic.length = 0 then 0 else ns.length) [cel a1 (cells yevergreenlaw51_Input x)] = BE at *
  generalize mN (CB res ic ic.length).length ns (if ic.length = 0 then 0 else ns.length) = mm at *
  generalize tN (CB res ic ic.length).length ns (if ic.length = 0 then 0 else ns.length) = S at *
  generalize (if ic.length = 0 then 0 else ns.length) = kk at *
  generalize CB res ic ic.length = C at *
  have hmn : (mm.map (fun q => q.1)).Nodup := (s.ms_ 8 W.R.map).nodup
  have hparl := (s.view 4 c4).len
  have hptl : pts.length = C.length := by have := (Sp.ivs_ s 3 c3).1; rw [List.length_map] at this; exact this
  have hnaml := (s.view 13 c13).len
  have hml2 : m.1.len = T.length := by have := (Sp.rf2_ s 12 c12).1.len; rw [rulesOf_len] at this; exact this
  refine gd_f rfl (s.drawK fun w4 s => nonNil_some (s.lds (x := parSl) 6 5 c6 rfl (nonNil_some (s.lds (x := tgtSl) 6 8 c6 rfl ?_))))
  refine ref51_Keep_spec (C := C) s 4 3 c4 c3 (fun w' s => s.view 14 c14) W.ok.wf (by omega) (by omega) (fun z hz => ⟨W.hS0 z hz, hF.1 z hz⟩) fun ksl inl w5 mk s => ?_
  have hil := mk.1
  refine ref51_Numbers_spec (C := C) (S := S) s (fun w' s => s.view 0 rfl) mk (by omega) fun nsl w6 s => s.drawK fun w7 s => nonNil_some (s.ld (ty := yevergreenref12_Store) (x := m) 8 3 c6 rfl ?_)
  refine law51_world_held_spec (C := C) (S := S) s 8 7 c6 c5 (fun w' s => s.view 1 rfl) mk (by omega) fun hsl w8 s => ⟨s.still 9 3 c6 rfl, ?_⟩
  have hkl := kl_len (C := C) (S := S) 0 C.length
  have hhl := hL_len (C := C) (S := S) C.length
  have hK := hL_known W.ok hF.2
  have hc := rlist_closed hg hK
  refine ref12_Sweep_spec hg hK s 15 c12 (by omega) (fun w' s => s.view 0 rfl) (by omega) fun osl tsl w9 s => s.drawK fun w10 s => nonNil_some (s.ldp (x := some p) 11 0 c6 rfl (nonNil_some (s.ldp (x := some ⟨g, 0, none⟩) 11 1 c6 rfl (nonNil_some (s.ldp (x := some ⟨t, 0, none⟩) 11 2 c6 rfl ?_)))))
  have hrl := rlist_len T (hL C S C.length)
  have hpb : ∀ x, 0 ≤ pos (rlist T (hL C S C.length)) x := fun x => (pos_bound hc x).1
  have hok3 := kC_ok (S := S) (f := pos (rlist T (hL C S C.length))) (N := C.length) W.ok hpb (Nat.le_refl _)
  refine compact_Of_sp W.cons.cons.cons.cons.cons s (fun _ hle p2 g3 csl3 cs3 t2 r2 m2 w11 hcs3 hp2 s => ?_) (fun _ hgt => absurd (show (1000 : Int) < _ from hgt) (by omega)) (fun hn => absurd hF hn)
  have hel := exp_len T (rlist T (hL C S C.length))
  have hol : osl.len = (rlist T (hL C S C.length)).length := (s.view 6 rfl).len.trans hel
  have hcl := copy_len (T := T) (ids := rlist T (hL C S C.length))
  have hget : ∀ (n : Nat), n < (rlist T (hL C S C.length)).length → ∃ y, (eAt (YtnmgjpcooncjlaaGreat.copy T (rlist T (hL C S C.length))) ((n : Int) + 1)).1 = mvr (rlist T (hL C S C.length)) (eAt T y).1 ∧ (exp T (rlist T (hL C S C.length)))[n]? = some (mvr (rlist T (hL C S C.length)) (eAt T y).1) := fun n hn => by
    obtain ⟨y, hy⟩ : ∃ y, (rlist T (hL C S C.length))[n]? = some y := ⟨_, List.getElem?_eq_getElem hn⟩
    exact ⟨y, by rw [eAt_copy hy], exp_get hy⟩
  have hto : ∀ y : Int, 0 ≤ y → y ≤ (T.length : Int) → (toL T.length (rlist T (hL C S C.length)))[y.toNat]? = some (pos (rlist T (hL C S C.length)) y) := fun y h0 h1 => toL_get h0 h1
  have htsl : tsl.len = T.length + 1 := (s.view 7 rfl).len.trans (toL_len _ _)
  have hC3 : ∀ (n : Nat) (d : CT), An C S n → C[n]? = some d → (kC (pos (rlist T (hL C S C.length))) C S C.length)[(kl C S 0 n).length]? = some (rn (pos (rlist T (hL C S C.length))) C S d) := fun n d ha hd => kC_get (List.getElem?_eq_some_iff.1 hd).1 ha hd
  have hC3l := kC_len (f := pos (rlist T (hL C S C.length))) (C := C) (S := S) C.length
  generalize rlist T (hL C S C.length) = ids at *
  generalize hE : exp T ids = E at *
  generalize hD : YtnmgjpcooncjlaaGreat.copy T ids = D at *
  generalize hC3e : kC (pos ids) C S C.length = C3 at *
  refine JoinP.inl (nilIfc_nil (gd_f rfl (gd_f rfl (gd_f rfl (gd_f rfl (intern_Len_sp s 0 rfl ?_))))))
  intro _
  refine gd_f (by simp; omega) ?_
  refine loop_by (fun x => x.1) ids.length (fun n _ w => Sp w0 (sto p2 (clampM 1000) D :: cel g3 [.slice csl3.a csl3.len csl3.cap] :: own yapi_Commit csl3 cs3 :: ivs (cs3.map fun x => x.1) (C3.map fun x => x.1) :: cel t2 [.map (some r2)] :: ms yrefs_target r2 m2 :: own yapi_Rule osl E :: own (.int .i64) tsl (toL T.length ids) :: own (.int .i64) hsl (hL C S C.length) :: own (.int .i64) nsl (nuL C S C.length) :: own .bool ksl inl :: BE) w) rfl s ?_
  clear s
  rintro n ⟨x0, _⟩ w12 hn hx s _
  dsimp only at hx ⊢
  subst hx
  refine gd_dec (fun hlt => ?_) (fun hge => ?_)
  · have hn' : n < ids.length := by omega
    obtain ⟨y, h1, h2⟩ := hget n hn'
    refine (s.view 6 rfl).idx rfl h2 rfl fun q1 hq1 => ⟨_, hq1, s.allocK fun a31 w15 s => s.st0 0 rfl rfl rfl fun w16 s => arith_i64 (by omega) (by omega) (intern_Rule_k s 1 rfl ⟨by omega, by omega⟩ fun w17 s => s.allocK fun a34 w18 s => s.st0 0 rfl rfl rfl fun w19 s => ?_)⟩
    rw [h1] at s
    refine JoinP.inl (nilIfc_nil (gd_f rfl (s.ld0 (ty := yapi_Rule) (x := mvr ids (eAt T y).1) 0 rfl rfl (s.ld0 (ty := yapi_Rule) (x := mvr ids (eAt T y).1) 1 rfl rfl (rule_neq ?_)))))
    rw [decide_eq_true rfl]
    intro _
    exact gd_f rfl (arith_i64 (by omega) (by omega) (loop_nx hn' (s.drop 2)))
  refine loop_by (fun x => x.2.1) C.length (fun n x w => x.1 = rk C S n ∧ Sp w0 (sto p2 (clampM 1000) D :: cel g3 [.slice csl3.a csl3.len csl3.cap] :: own yapi_Commit csl3 cs3 :: ivs (cs3.map fun x => x.1) (C3.map fun x => x.1) :: cel t2 [.map (some r2)] :: ms yrefs_target r2 m2 :: own yapi_Rule osl E :: own (.int .i64) tsl (toL T.length ids) :: own (.int .i64) hsl (hL C S C.length) :: own (.int .i64) nsl (nuL C S C.length) :: own .bool ksl inl :: BE) w) rfl ⟨by rw [rk_zero], s⟩ ?_
  clear s
  rintro n2 ⟨many, x0, _⟩ w21 hn2 hx ⟨hmany, s⟩ _
  dsimp only at hx hmany ⊢
  subst hx hmany
  have hksl := (s.view 10 rfl).len
  refine gd_dec (fun hlt => ?_) (fun hge2 => ?_)
  · have hn' : n2 < C.length := by omega
    obtain ⟨bb, hb1, hb2⟩ := mk.2 n2 hn'
    obtain ⟨d, hd⟩ : ∃ d, C[n2]? = some d := ⟨_, List.getElem?_eq_getElem hn'⟩
    have hdo := W.ok n2 d hd
    have hd8 := hdo.few
    have hdt : (C.map fun x => x.2.1)[n2]? = some d.2.1 := by rw [List.getElem?_map, hd]; rfl
    have hcd : (C.map fun x => x.1)[n2]? = some d.1 := by rw [List.getElem?_map, hd]; rfl
    have hkn := kl_len (C := C) (S := S) 0 n2
    have hr : rk C S n2 = ((kl C S 0 n2).length : Int) := rfl
    obtain ⟨u, hu⟩ : ∃ u, pts[n2]? = some u := ⟨_, List.getElem?_eq_getElem (by omega)⟩
    refine ⟨fun z w => z.1 = rk C S (n2 + 1) ∧ Sp w0 (sto p2 (clampM 1000) D :: cel g3 [.slice csl3.a csl3.len csl3.cap] :: own yapi_Commit csl3 cs3 :: ivs (cs3.map fun x => x.1) (C3.map fun x => x.1) :: cel t2 [.map (some r2)] :: ms yrefs_target r2 m2 :: own yapi_Rule osl E :: own (.int .i64) tsl (toL T.length ids) :: own (.int .i64) hsl (hL C S C.length) :: own (.int .i64) nsl (nuL C S C.length) :: own .bool ksl inl :: BE) w, (s.view 10 rfl).idx rfl hb1 rfl fun q hq => ⟨bb, hq, ?_⟩, fun z w hz _ => arith_i64 (by omega) (by omega) (loop_nx hn' hz)⟩
    cases bb with
    | false =>
      have hno : ¬ An C S n2 := fun h => by have := hb2.2 h; cases this
      exact gd_t rfl ⟨(rk_no hno).symm, s⟩
    | true =>
    have hyes : An C S n2 := hb2.1 rfl
    have hnu := nuL_get (C := C) (S := S) hn'
    rw [nu_yes hyes] at hnu
    have hd3 := hC3 n2 d hyes hd
    have G3 : Gh (sto p2 (clampM 1000) D :: cel g3 [.slice csl3.a csl3.len csl3.cap] :: own yapi_Commit csl3 cs3 :: ivs (cs3.map fun x => x.1) (C3.map fun x => x.1) :: cel t2 [.map (some r2)] :: ms yrefs_target r2 m2 :: own yapi_Rule osl E :: own (.int .i64) tsl (toL T.length ids) :: own (.int .i64) hsl (hL C S C.length) :: own (.int .i64) nsl (nuL C S C.length) :: own .bool ksl inl :: BE) 1 2 3 g3 csl3 cs3 C3 := ⟨rfl, rfl, rfl, hcs3⟩
    have hrl8 : (rn (pos ids) C S d).1.length ≤ 8 := by show (d.1.map _).length ≤ 8; rw [List.length_map]; exact hd8
    refine gd_f rfl (arith_i64 (by omega) (by omega) ((s.view 9 rfl).idx rfl hnu rfl fun q2 hq2 => ⟨_, hq2, history_Get_spec G3 s hr hd3 (by omega) fun ps w23 s => s.allocK fun a52 w24 s => s.st0 0 rfl rfl rfl fun w25 s => nonNil_some (s.lds (x := parSl) 19 5 c6 rfl ((s.view 17 c4).idx rfl hu rfl fun q3 hq3 => ⟨u, hq3, ?_⟩))⟩))
    have vu : ∀ {A B E : Ob} {w : World}, Sp w0 (A :: B :: E :: sto p2 (clampM 1000) D :: cel g3 [.slice csl3.a csl3.len csl3.cap] :: own yapi_Commit csl3 cs3 :: ivs (cs3.map fun x => x.1) (C3.map fun x => x.1) :: cel t2 [.map (some r2)] :: ms yrefs_target r2 m2 :: own yapi_Rule osl (exp T ids) :: own (.int .i64) tsl (toL T.length ids) :: own (.int .i64) hsl (hL C S C.length) :: own (.int .i64) nsl (nuL C S C.length) :: own .bool ksl inl :: BE) w → View (.int .i64) w u d.1 := fun s => ((Sp.ivs_ s 17 c3).2 n2 u d.1 hu hcd).1
    rw [hE] at vu
    have s := s.nil (.int .i64)
    have hul := (vu s).len
    refine loop_by (fun x => x.2.1) d.1.length (fun j x w => Sp w0 (own (.int .i64) x.1 ((d.1.take j).map fun p : Int => nu C S p.toNat) :: cel a52 (cells yapi_Commit (ps, (rn (pos ids) C S d).2)) :: own (.int .i64) ps (rn (pos ids) C S d).1 :: sto p2 (clampM 1000) D :: cel g3 [.slice csl3.a csl3.len csl3.cap] :: own yapi_Commit csl3 cs3 :: ivs (cs3.map fun x => x.1) (C3.map fun x => x.1) :: cel t2 [.map (some r2)] :: ms yrefs_target r2 m2 :: own yapi_Rule osl E :: own (.int .i64) tsl (toL T.length ids) :: own (.int .i64) hsl (hL C S C.length) :: own (.int .i64) nsl (nuL C S C.length) :: own .bool ksl inl :: BE) w) rfl ?_ ?_
    · exact s
    clear s
    rintro j ⟨out, x0, _⟩ w26 hj hx s _
    dsimp only at hx s ⊢
    subst hx
    refine gd_dec (fun hlt2 => ?_) (fun hge3 => ?_)
    · have hj' : j < d.1.length := by omega
      have hgp := List.getElem?_eq_getElem hj'
      have hpm := List.getElem_mem hj'
      generalize d.1[j] = pp at hgp hpm
      obtain ⟨k1, k2, k3, k4, k5, k6⟩ := par_kept W.ok.wf hyes hd hpm
      have htk : (d.1.take (j + 1)).map (fun p : Int => nu C S p.toNat) = (d.1.take j).map (fun p : Int => nu C S p.toNat) ++ [nu C S pp.toNat] := by rw [List.take_add_one, hgp]; simp
      have hnp := nuL_get (C := C) (S := S) (show pp.toNat < C.length by omega)
      refine (vu s).idx rfl hgp rfl fun q4 hq4 => ⟨pp, hq4, (s.view 12 rfl).idx (n := pp.toNat) (by omega) hnp rfl fun q5 hq5 => ⟨_, hq5, s.allocK fun a63 w27 s => s.app 1 rfl ((s.lit (ty := .int .i64) 0 rfl [nu C S pp.toNat] 1 rfl rfl).view 0 rfl) (by simp only [List.length_cons, List.length_nil, List.length_map, List.length_take]; omega) fun s64 w28 s => arith_i64 (by omega) (by omega) (loop_nx hj' ?_)⟩⟩
      rw [htk]
      exact s.pop
    have ej : j = d.1.length := by omega
    subst ej
    rw [List.take_length] at s
    have hnn := hnote n2 d hd
    have hdt0 := hdo.text
    have hdt1 := hF.2 n2 d hyes hd
    refine JoinP.inl (s.drawK fun w30 s => nilIfc_nil (gd_f rfl (s.ldi (x := pos ids d.2.1) 1 1 rfl rfl (nonNil_some (s.lds (x := texSl) 20 6 c6 rfl ((s.view 19 c5).idx rfl hdt rfl fun q6 hq6 => ⟨_, hq6, (s.view 10 rfl).idx (n := d.2.1.toNat) (by omega) (hto _ hdt0 hdt1) rfl fun q7 hq7 => ⟨_, hq7, gd_ne (fun c => absurd rfl c) (fun _ => ⟨d.2.2, s.still 1 2 rfl rfl, law51_name_spec s (by omega) fun w31 s => ⟨s.still 1 2 rfl rfl, gd_f (by rw [hnn]; simp) (s.lds (x := ps) 1 0 rfl rfl (base_Ints_same s (fun w' s => s.view 2 rfl) (fun w' s => s.view 0 rfl) (by omega) fun w32 s => ?_))⟩⟩)⟩⟩))))))
    intro _
    exact gd_f rfl ⟨by rw [rk_yes hyes], s.drop 3⟩
  have en2 : n2 = C.length := by omega
  subst en2
  have R3 : Rt (sto p2 (clampM 1000) D :: cel g3 [.slice csl3.a csl3.len csl3.cap] :: own yapi_Commit csl3 cs3 :: ivs (cs3.map fun x => x.1) (C3.map fun x => x.1) :: cel t2 [.map (some r2)] :: ms yrefs_target r2 m2 :: own yapi_Rule osl E :: own (.int .i64) tsl (toL T.length ids) :: own (.int .i64) hsl (hL C S C.length) :: own (.int .i64) nsl (nuL C S C.length) :: own .bool ksl inl :: BE) 4 5 t2 r2 m2 := ⟨rfl, rfl⟩
  have hp2l := hp2.length_eq
  rw [List.length_map] at hp2l
  have hmml : mm.length = kk := by have := congrArg List.length hkeys; rw [List.length_map, hwl] at this; exact this
  have hp2k : (m2.map fun q => q.1).Perm (wN kk) := by
    have := hp2.map (fun q => q.1)
    rw [List.map_map] at this
    have e : ((fun q : ByteArray × TG => q.1) ∘ fun q : ByteArray × TG => ((q.1, (nu C S q.2.1.toNat, q.2.2)) : ByteArray × TG)) = fun q => q.1 := rfl
    rw [e, hkeys] at this
    exact this
  have hm2n : (m2.map fun q => q.1).Nodup := (s.ms_ 5 rfl).nodup
  refine refs_Names_spec R3 s (by omega) fun nmsl w33 s => ?_
  rw [srtS_congr hp2k, wN_sorted (by omega)] at s
  have hnml := (s.view 0 rfl).len
  have G3 : Gh (own .str nmsl (wN kk) :: sto p2 (clampM 1000) D :: cel g3 [.slice csl3.a csl3.len csl3.cap] :: own yapi_Commit csl3 cs3 :: ivs (cs3.map fun x => x.1) (C3.map fun x => x.1) :: cel t2 [.map (some r2)] :: ms yrefs_target r2 m2 :: own yapi_Rule osl E :: own (.int .i64) tsl (toL T.length ids) :: own (.int .i64) hsl (hL C S C.length) :: own (.int .i64) nsl (nuL C S C.length) :: own .bool ksl inl :: BE) 2 3 4 g3 csl3 cs3 C3 := ⟨rfl, rfl, rfl, hcs3⟩
  refine JoinP.inl (history_Len_spec G3 s (gd_ne (fun c => absurd (by rw [hC3l]; rfl) c) (fun _ => nonNil_some (s.lds (x := namSl) 18 7 c6 rfl ?_))))
  intro _
  refine gd_f (by simp; omega) (nonNil_some (s.lds (x := namSl) 18 7 c6 rfl ?_))
  refine loop_by (fun x => x.1) kk (fun n x w => Sp w0 (own .str nmsl (wN kk) :: sto p2 (clampM 1000) D :: cel g3 [.slice csl3.a csl3.len csl3.cap] :: own yapi_Commit csl3 cs3 :: ivs (cs3.map fun x => x.1) (C3.map fun x => x.1) :: cel t2 [.map (some r2)] :: ms yrefs_target r2 m2 :: own yapi_Rule osl E :: own (.int .i64) tsl (toL T.length ids) :: own (.int .i64) hsl (hL C S C.length) :: own (.int .i64) nsl (nuL C S C.length) :: own .bool ksl inl :: BE) w) rfl s ?_
  clear s
  rintro n4 ⟨x0, _⟩ w36 hn4 hx s _
  dsimp only at hx ⊢
  subst hx
  refine gd_dec (fun hlt => ?_) (fun hge5 => ?_)
  · have hn' : n4 < kk := by omega
    obtain ⟨to, tag, g1, g2, g4⟩ := hat n4 hn'
    have hold := atS_mem hmn g1
    have hnew : atS? m2 (nameB n4) = some (nu C S to.toNat, tag) := by
      refine atS_mem hm2n (hp2.mem_iff.2 (List.mem_map.2 ⟨_, g1, rfl⟩))
    have hz0 := W.hS0 to (List.mem_of_getElem? g2)
    have hz1 := hF.1 to (List.mem_of_getElem? g2)
    have hnt := nuL_get (C := C) (S := S) (show to.toNat < C.length by omega)
    refine (s.view 25 c13).idx rfl g4 rfl fun q1 hq1 => ⟨_, hq1, refs_Get_spec R3.cons s (nameB_ok n4) hnew fun w37 s => nonNil_some (s.ldp (x := some ⟨t, 0, none⟩) 18 2 c6 rfl (refs_Get_spec W.cons.cons.cons.cons.cons.cons.cons.cons.cons.cons.cons.cons.R s (nameB_ok n4) hold fun w38 s => ?_))⟩
    refine JoinP.inl ((s.view 0 rfl).idx rfl g4 rfl fun q2 hq2 => ⟨_, hq2, gd_f (by simp) (nilIfc_nil (gd_f rfl (nilIfc_nil (gd_f rfl (nonNil_some (s.lds (x := tgtSl) 18 8 c6 rfl ((s.view 26 c14).idx rfl g2 rfl fun q3 hq3 => ⟨_, hq3, (s.view 10 rfl).idx (n := to.toNat) (by omega) hnt rfl fun q4 hq4 => ⟨_, hq4, gd_ne (fun c => absurd rfl c) (fun _ => ?_)⟩⟩)))))))⟩)
    intro _
    exact gd_f (by simp) (arith_i64 (by omega) (by omega) (loop_nx hn' s))
  refine s.drawK fun w40 s => nonNil_some (s.ldp (x := some ⟨g, 0, none⟩) 18 1 c6 rfl (nonNil_some (s.lds (x := parSl) 18 5 c6 rfl (history_Len_spec W.cons.cons.cons.cons.cons.cons.cons.cons.cons.cons.cons.cons.G s ⟨s.still 18 5 c6 rfl, gd_t (by simp; omega) (nonNil_some (s.ldp (x := some p) 18 0 c6 rfl (nonNil_some (s.lds (x := m.1) 18 3 c6 rfl (intern_Len_sp s 23 W.hi ⟨s.still 18 3 c6 rfl, ?_⟩)))))⟩))))
  have : ((T.length : Int) == (m.1.len : Int)) = true := by rw [beq_iff_eq, hml2]
  rw [this]
  exact h _ s.ext

end Go.Proofs.YtnmgjpcooncjlaaGreat
