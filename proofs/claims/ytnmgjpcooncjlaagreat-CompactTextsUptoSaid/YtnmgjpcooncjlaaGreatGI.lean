/- Texts that belong together, joined: CpI. No conditions. -/
import Derived.Test.YtnmgjpcooncjlaaGreatGF
/- law51: the walk of CompactTexts. -/
set_option linter.unusedVariables false
set_option linter.unusedSimpArgs false
namespace Go.Proofs.YtnmgjpcooncjlaaGreat
open Go.Den

variable {w0 w : World} {Ω : List Ob} {i a b c a' b' g t r : Nat} {p p2 : Addr} {most : Int} {T : List ET} {ids : List Int} {csl : Sl} {cs : List CM} {C : List CT} {m : List (ByteArray × TG)} {S : List Int}

/-! ### Ancestors of one commit -/
theorem An.le (hw : WFC C) {k x : Nat} (h : An C [(k : Int)] x) : x ≤ k := by
  induction h with
  | root h1 => simp at h1; omega
  | @ref y x d h1 h2 h3 ih => have := (hw y d h2).2 _ h3; omega
theorem history_ancestors_spec {k : Nat} (G : Gh Ω a b c g csl cs C) (s : Sp w0 Ω w) (hw : WFC C) (hC : C.length ≤ 60000) (hk : k < C.length) {K : Sl → World → Prop}
    (h : ∀ sl inl w', MK (k + 1) inl (An C [(k : Int)]) → Sp w0 (own .bool sl inl :: Ω) w' → K sl w') : C_history_Graph_ancestors (some ⟨g, 0, none⟩) (k : Int) K w := by
  apply S_history_Graph_ancestors
  unfold F_history_Graph_ancestors
  have hlC := G.len
  have hcl := (s.view b G.com).len
  have hNt : ((k : Int) + 1).toNat = k + 1 := by omega
  refine arith_i64 (by omega) (by omega) ⟨by omega, by omega, by omega, by omega, s.mkS .bool false (k + 1) (k + 1) (Nat.le_refl _) (fun a2 w1 s => ?_) rfl (by rw [hNt]; rfl)⟩
  rw [hNt]
  refine s.setI 0 rfl (n := k) (y := true) rfl (by rw [List.length_replicate]; omega) fun w2 s => ?_
  have mk : MK (k + 1) ((List.replicate (k + 1) false).set k true) (MarkQ C [(k : Int)] (k + 1)) := ((MK.none (k + 1)).put (show k < k + 1 by omega)).iff fun x hx => by
    unfold MarkQ
    constructor
    · rintro (h | h)
      · exact h.elim
      · subst h; exact Or.inl (by simp)
    · rintro (h | ⟨y, d, h1, h2, _⟩)
      · simp at h; exact Or.inr (by omega)
      · have := An.le hw h2; omega
  have s : Sp w0 (own .bool ⟨some ⟨a2, 0, none⟩, k + 1, k + 1⟩ ((List.replicate (k + 1) false).set k true) :: Ω) w2 := s
  refine ⟨fun x w => ∃ (j : Nat) (inl : List Ty.bool.T), x.1 = (j : Int) - 1 ∧ j ≤ k + 1 ∧ MK (k + 1) inl (MarkQ C [(k : Int)] j) ∧ Sp w0 (own .bool ⟨some ⟨a2, 0, none⟩, k + 1, k + 1⟩ inl :: Ω) w, fun x _ => (x.1 + 1).toNat, ⟨k + 1, _, by dsimp only; omega, Nat.le_refl _, mk, s⟩, ?_⟩
  clear s mk
  rintro ⟨x, _⟩ w3 ⟨j, inl, hx, hj, mk, s⟩ _
  dsimp only at hx ⊢
  subst hx
  have hil := mk.1
  refine gd_dec (fun hp => ?_) (fun hp => ?_)
  rotate_left
  · have : j = 0 := by omega
    subst this
    exact h _ inl _ (mk.iff fun x hx => MarkQ.zero) s
  obtain ⟨n, rfl⟩ : ∃ n, j = n + 1 := ⟨j - 1, by omega⟩
  have e1 : ((n + 1 : Nat) : Int) - 1 = (n : Int) := by omega
  rw [e1]
  have hnC : n < C.length := by omega
  obtain ⟨d, hd⟩ : ∃ d, C[n]? = some d := ⟨_, List.getElem?_eq_getElem hnC⟩
  obtain ⟨hd8, hdp⟩ := hw n d hd
  obtain ⟨x, hx, hx2⟩ := G.at_ hd
  have hts : (cs.map fun x => x.1)[n]? = some x.1 := by rw [List.getElem?_map, hx]; rfl
  have hcd : (C.map fun x => x.1)[n]? = some d.1 := by rw [List.getElem?_map, hd]; rfl
  have vu : ∀ inl' w', Sp w0 (own .bool ⟨some ⟨a2, 0, none⟩, k + 1, k + 1⟩ inl' :: Ω) w' → View (.int .i64) w' x.1 d.1 := fun inl' w' s => ((Sp.ivs_ s (c + 1) G.par).2 n x.1 d.1 hts hcd).1
  have hul := (vu _ _ s).len
  refine ⟨fun _ w => ∃ inl' : List Ty.bool.T, MK (k + 1) inl' (MarkQ C [(k : Int)] n) ∧ Sp w0 (own .bool ⟨some ⟨a2, 0, none⟩, k + 1, k + 1⟩ inl' :: Ω) w, ?_, ?_⟩
  · obtain ⟨bb, hb1, hb2⟩ := mk.2 n (by omega)
    rw [MarkQ.at_ hw] at hb2
    refine (s.view 0 rfl).idx (n := n) rfl hb1 rfl fun q hq => ⟨bb, hq, ?_⟩
    cases bb with
    | false =>
      have hno : ¬ An C [(k : Int)] n := fun h => by have := hb2.2 h; cases this
      refine gd_f rfl ⟨inl, mk.iff fun x hx => ?_, s⟩
      rw [MarkQ.step hd]
      exact ⟨Or.inl, fun h => h.elim id fun h => absurd h.1 hno⟩
    | true =>
      have hyes : An C [(k : Int)] n := hb2.1 rfl
      refine gd_t rfl (nonNil_some (s.lds (x := csl) (a + 1) 0 G.cell rfl ((s.view (b + 1) G.com).idx rfl hx rfl fun q hq => ⟨x.1, hq.sub 0 rfl, ?_⟩)))
      refine loop_by (fun x => x.1) d.1.length (fun l _ w => ∃ inl' : List Ty.bool.T, MK (k + 1) inl' (fun x => MarkQ C [(k : Int)] (n + 1) x ∨ (x : Int) ∈ d.1.take l) ∧ Sp w0 (own .bool ⟨some ⟨a2, 0, none⟩, k + 1, k + 1⟩ inl' :: Ω) w) rfl ⟨inl, mk.iff fun x hx => by simp, s⟩ ?_
      clear s
      rintro l ⟨y, _⟩ w10 hl hy ⟨inl', mk', s⟩ _
      dsimp only at hy ⊢
      subst hy
      have hil' := mk'.1
      refine gd_dec (fun hlt => ?_) (fun hge => ?_)
      · have hl' : l < d.1.length := by omega
        have hget := List.getElem?_eq_getElem hl'
        have hzb := hdp _ (List.getElem_mem hl')
        generalize d.1[l] = z at hget hzb
        have htk : d.1.take (l + 1) = d.1.take l ++ [z] := by rw [List.take_add_one, hget]; rfl
        refine (vu _ _ s).idx rfl hget rfl fun q hq => ⟨z, hq, s.setI 0 rfl (n := z.toNat) (y := true) (by omega) (by omega) fun w11 s => arith_i64 (by omega) (by omega) (loop_nx hl' ⟨_, (mk'.put (show z.toNat < k + 1 by omega)).iff fun x hx => ?_, s⟩)⟩
        rw [htk, List.mem_append, List.mem_singleton]
        constructor
        · rintro ((h | h) | h)
          · exact Or.inl h
          · exact Or.inr (Or.inl h)
          · right; right; omega
        · rintro (h | h | h)
          · exact Or.inl (Or.inl h)
          · exact Or.inl (Or.inr h)
          · right; omega
      · have e : l = d.1.length := by omega
        subst e
        rw [List.take_length] at mk'
        refine ⟨inl', mk'.iff fun x hx => ?_, s⟩
        rw [MarkQ.step hd]
        exact ⟨fun h => h.elim Or.inl fun h => Or.inr ⟨hyes, h⟩, fun h => h.elim Or.inl fun h => Or.inr h.2⟩
  · rintro _ w11 ⟨inl', mk', s⟩ _
    exact arith_i64 (by omega) (by omega) ⟨⟨n, inl', rfl, by omega, mk', s⟩, by omega⟩
theorem history_Before_spec {x y : Nat} (G : Gh Ω a b c g csl cs C) (s : Sp w0 Ω w) (hw : WFC C) (hC : C.length ≤ 60000) (hx : x < C.length) (hy : y < C.length) {K : Bool × Value → World → Prop}
    (h : ∀ (bb : Bool) w', (bb = true ↔ An C [(y : Int)] x) → Sp w0 Ω w' → K (bb, .nilIface) w') : C_history_Graph_Before (some ⟨g, 0, none⟩) (x : Int) (y : Int) K w := by
  apply S_history_Graph_Before
  unfold F_history_Graph_Before
  refine gd_f rfl (JoinP.inl (history_has_spec G s ?_))
  rw [decide_eq_true (by omega)]
  refine gd_f rfl (history_has_spec G s ?_)
  rw [decide_eq_true (by omega)]
  intro _
  refine gd_f rfl (gd_dec (fun hle => h _ _ ?_ s) (fun hgt => history_ancestors_spec G s hw hC hy fun sl inl w' mk s => ?_))
  · rw [beq_iff_eq]
    constructor
    · intro e
      refine .root ?_
      simp; omega
    · intro ha
      have := An.le hw ha
      omega
  · obtain ⟨bb, hb1, hb2⟩ := mk.2 x (by omega)
    exact (s.view 0 rfl).idx rfl hb1 rfl fun q hq => ⟨bb, hq, h bb _ hb2 s.pop⟩

/-! ### The same text -/
theorem rlist_none : rlist T [] = [] := by
  apply List.eq_nil_iff_forall_not_mem.2
  intro x hx
  have h := (mem_rlist.1 hx).2
  have key : ∀ y, Rch T [] y → False := fun y hy => by
    induction hy with
    | root h1 _ => cases h1
    | ref _ _ ih => exact ih
  exact key x h
theorem law51_alike_spec {a m1 m2 : Int} (g : Grow T) (hc : Closed T ids) (hT : T.length ≤ 1048576) (ha : a = 0 ∨ a ∈ ids) (s : Sp w0 Ω w) (i i2 : Nat) (hi : Ω[i]? = some (sto p m1 T)) (hi2 : Ω[i2]? = some (sto p2 m2 (YtnmgjpcooncjlaaGreat.copy T ids))) {K : Bool → World → Prop} (h : ∀ w', Sp w0 Ω w' → K true w') : C_law51_alike (some p) a (some p2) (pos ids a) K w := by
  apply S_law51_alike
  unfold F_law51_alike
  have hcl := copy_len (T := T) (ids := ids)
  have hpb := pos_bound hc a
  have hz : (0 : Int) ∉ ids := fun h0 => by have := hc.bound 0 h0; omega
  have hab : 0 ≤ a ∧ a ≤ (T.length : Int) := by
    rcases ha with rfl | ha
    · omega
    · have := hc.bound a ha; omega
  have he : (eAt (YtnmgjpcooncjlaaGreat.copy T ids) (pos ids a)).2.1 = (eAt T a).2.1 := by
    rcases ha with rfl | ha
    · rw [pos_none hz]; rfl
    · obtain ⟨k, hk, ek⟩ := pos_pos hc ha
      rw [ek, eAt_copy hk]
  have hx : exp (YtnmgjpcooncjlaaGreat.copy T ids) (rlist (YtnmgjpcooncjlaaGreat.copy T ids) [pos ids a]) = exp T (rlist T [a]) := by
    rcases ha with rfl | ha
    · have e : ∀ T : List ET, rlist T [(0 : Int)] = [] := fun T => (rlist_congr (T := T) (S := [0]) (S' := []) fun x h0 => by simp [h0]).trans rlist_none
      rw [pos_none hz, e, e]; rfl
    · exact exp_copy_one g hc ha
  have hrl := rlist_len T [a]
  have hel := exp_len T (rlist T [a])
  refine intern_Weight_k s i hi hab fun w1 s => s.allocK fun a2 w2 s => s.st0 0 rfl rfl rfl fun w3 s => intern_Weight_k s (i2 + 1) hi2 ⟨by omega, by omega⟩ fun w4 s => s.allocK fun a4 w5 s => s.st0 0 rfl rfl rfl fun w6 s => ?_
  rw [he] at s ⊢
  refine intern_Export_sp s (i + 2) hi (fun _ l1 w9 s => ?_) (fun hn => absurd hab hn)
  refine intern_Export_sp s (i2 + 3) hi2 (fun _ l2 w10 s => ?_) (fun hn => absurd ⟨by omega, by omega⟩ hn)
  rw [hx] at s
  have e1 := (s.view 1 rfl).len.trans hel
  have e2 := (s.view 0 rfl).len.trans hel
  refine JoinP.inl (nilIfc_nil (gd_f rfl (nilIfc_nil (gd_f rfl (nilIfc_nil (gd_f rfl (nilIfc_nil (gd_f rfl (s.ld0 (ty := yapi_Weight) (x := (eAt T a).2.1) 3 rfl rfl (s.ld0 (ty := yapi_Weight) (x := (eAt T a).2.1) 2 rfl rfl (weight_neq ?_)))))))))))
  rw [decide_eq_true rfl]
  refine gd_f rfl ?_
  intro _
  refine gd_f (by simp; omega) ?_
  have s' : Sp w0 (own yapi_Rule l2 (exp T (rlist T [a])) :: own yapi_Rule l1 (exp T (rlist T [a])) :: Ω) w10 := s.pick [0, 1] 4 rfl (by decide)
  clear s
  generalize exp T (rlist T [a]) = L at *
  refine loop_by (fun x => x.1) L.length (fun n _ w => Sp w0 (own yapi_Rule l2 L :: own yapi_Rule l1 L :: Ω) w) rfl s' ?_
  clear s'
  rintro n ⟨x, _⟩ w11 hn hx' s _
  dsimp only at hx' ⊢
  subst hx'
  refine gd_dec (fun hlt => ?_) (fun hge => h _ (s.drop 2))
  have hn' : n < L.length := by omega
  obtain ⟨z, hz⟩ : ∃ z, L[n]? = some z := ⟨_, List.getElem?_eq_getElem hn'⟩
  refine s.drawK fun w12 s => (s.view 1 rfl).idx rfl hz rfl fun q1 hq1 => ⟨_, hq1, (s.view 0 rfl).idx rfl hz rfl fun q2 hq2 => ⟨_, hq2, rule_neq ?_⟩⟩
  rw [decide_eq_true rfl]
  exact gd_f rfl (arith_i64 (by omega) (by omega) (loop_nx hn' s))

set_option maxHeartbeats 1000000 in
theorem law51_CompactTexts_spec {x : yevergreenlaw51_Input.T} {ops : List MakeT} {cms : List yevergreenlaw51_Commit.T} {ic : List IC} {ns : List yevergreenlaw51_Name.T} (i : InOK w0 x ops cms ic ns) {K : Bool → World → Prop} (h : ∀ w', Ext w0 w' → K true w') : C_law51_CompactTexts x K w0 := by
  apply S_law51_CompactTexts
  unfold F_law51_CompactTexts
  refine (Sp.init w0).allocK fun a1 w1 s => s.ld0 (ty := yevergreenlaw51_Input) (x := x) 0 rfl rfl (law51_good_spec i s fun w2 s => gd_not (gd_dec (fun hsm => ?_) (fun _ => h _ s.ext)))
  have nn := sumI_nn ic
  refine s.ld0 (ty := yevergreenlaw51_Input) (x := x) 0 rfl rfl ?_
  refine law51_begun_spec (ic := ic) s i.vL i.ok (by omega) i.vC ⟨i.len, fun k c hc => ?_⟩ (by omega) i.vN (by omega) fun p g t r a5 b1 m T res rs csl parSl texSl namSl tgtSl pts cs w3 hb hcs s => ?_
  · obtain ⟨y, h1, h2, h3⟩ := i.at_ k c hc
    exact ⟨y, h1, h2, h3, by have := sumI_le h1; omega⟩
  obtain ⟨W, hF, hC, hk⟩ := beg_CW (p := p) (g := g) (t := t) (r := r) (a5 := a5) (a1 := b1) (x := x) (m := m) (rs := rs) (csl := csl) (parSl := parSl) (texSl := texSl) (namSl := namSl) (tgtSl := tgtSl) (pts := pts) (ns := ns) (Ω := [cel a1 (cells yevergreenlaw51_Input x)]) hb hcs (by omega) (by omega)
  have hTl := hb.len
  have hTc := hb.cnt
  have hg := hb.grow
  have c6 : (begE p g t r a5 b1 x m T res rs csl parSl texSl namSl tgtSl (cs.map fun x => x.1) pts cs (CB res ic ic.length) ns (if ic.length = 0 then 0 else ns.length) [cel a1 (cells yevergreenlaw51_Input x)])[6]? = some (cel a5 (wld p g t m parSl texSl namSl tgtSl)) := rfl
  generalize begE p g t r a5 b1 x m T res rs csl parSl texSl namSl tgtSl (cs.map fun x => x.1) pts cs (CB res ic ic.length) ns (if ic.length = 0 then 0 else ns.length) [cel a1 (cells yevergreenlaw51_Input x)] = BE at *
  generalize mN (CB res ic ic.length).length ns (if ic.length = 0 then 0 else ns.length) = mm at *
  generalize tN (CB res ic ic.length).length ns (if ic.length = 0 then 0 else ns.length) = S at *
  generalize CB res ic ic.length = C at *
  have hkl := kl_len (C := C) (S := S) 0 C.length
  have hhl := hL_len (C := C) (S := S) C.length
  refine gd_f rfl (s.drawK fun w4 s => nonNil_some (s.ldp (x := some ⟨g, 0, none⟩) 6 1 c6 rfl (nonNil_some (s.ldp (x := some ⟨t, 0, none⟩) 6 2 c6 rfl ?_))))
  refine compact_Keep_spec (S := S) W.G W.R s W.ok.wf (by omega) W.hm W.hS (fun z hz => ⟨W.hS0 z hz, hF.1 z hz⟩) fun lsl w5 s => ?_
  have hK := hL_known W.ok hF.2
  have hc := rlist_closed hg hK
  have hrl := rlist_len T (hL C S C.length)
  have hpb : ∀ x, 0 ≤ pos (rlist T (hL C S C.length)) x := fun x => (pos_bound hc x).1
  have hok3 := kC_ok (S := S) (f := pos (rlist T (hL C S C.length))) (N := C.length) W.ok hpb (Nat.le_refl _)
  have hC3 : ∀ (n : Nat) (d : CT), An C S n → C[n]? = some d → (kC (pos (rlist T (hL C S C.length))) C S C.length)[(kl C S 0 n).length]? = some (rn (pos (rlist T (hL C S C.length))) C S d) := fun n d ha hd => kC_get (List.getElem?_eq_some_iff.1 hd).1 ha hd
  have hC3l := kC_len (f := pos (rlist T (hL C S C.length))) (C := C) (S := S) C.length
  have hAn : ∀ k1 k2 : Nat, An C S k1 → An C S k2 → (An C [(k2 : Int)] k1 ↔ An (kC (pos (rlist T (hL C S C.length))) C S C.length) [rk C S k2] (rk C S k1).toNat) := fun k1 k2 h1 h2 => by
    have e : ([(k2 : Int)].map fun z : Int => nu C S z.toNat) = [rk C S k2] := by
      rw [List.map_singleton, Int.toNat_natCast, nu_yes h2]
    have hr := rk_nn (C := C) (S := S) k1
    constructor
    · intro hx
      have := (An_new (f := pos (rlist T (hL C S C.length))) (S := S) W.ok.wf (S' := [(k2 : Int)]) rfl (fun x hx => by
        simp at hx
        have : x = k2 := by omega
        subst this
        exact ⟨h2, An.lt W.ok.wf hF.1 h2⟩) hx).2 (An.lt W.ok.wf hF.1 h1)
      rw [e] at this
      exact this
    · intro hx
      rw [← e] at hx
      exact An_old (f := pos (rlist T (hL C S C.length))) (S := S) W.ok.wf rfl (fun z hz => by
        simp at hz
        subst hz
        exact ⟨by omega, by rw [Int.toNat_natCast]; exact h2⟩) hx k1 h1 (by omega)
  have htin : ∀ (n : Nat) (d : CT), An C S n → C[n]? = some d → d.2.1 = 0 ∨ d.2.1 ∈ rlist T (hL C S C.length) := fun n d ha hd => by
    by_cases h0 : d.2.1 = 0
    · exact Or.inl h0
    · exact Or.inr ((rlist_mem hg hK).2 (.root ((hL_mem C.length (Nat.le_refl _)).2 ⟨n, d, (List.getElem?_eq_some_iff.1 hd).1, ha, hd, rfl⟩) h0))
  refine s.drawK fun w6 s => nonNil_some (s.ldp (x := some p) 7 0 c6 rfl (nonNil_some (s.ldp (x := some ⟨g, 0, none⟩) 7 1 c6 rfl (nonNil_some (s.ldp (x := some ⟨t, 0, none⟩) 7 2 c6 rfl ?_)))))
  refine compact_Of_sp W.cons s (fun _ hle p2 g3 csl3 cs3 t2 r2 m2 w7 hcs3 hp2 s => ?_) (fun _ hgt => absurd (show (1000 : Int) < _ from hgt) (by omega)) (fun hn => absurd hF hn)
  generalize rlist T (hL C S C.length) = ids at *
  generalize hC3e : kC (pos ids) C S C.length = C3 at *
  have hlsl := (s.view 6 rfl).len
  have G3 : Gh (sto p2 (clampM 1000) (YtnmgjpcooncjlaaGreat.copy T ids) :: cel g3 [.slice csl3.a csl3.len csl3.cap] :: own yapi_Commit csl3 cs3 :: ivs (cs3.map fun x => x.1) (C3.map fun x => x.1) :: cel t2 [.map (some r2)] :: ms yrefs_target r2 m2 :: own (.int .i64) lsl (kl C S 0 C.length) :: BE) 1 2 3 g3 csl3 cs3 C3 := ⟨rfl, rfl, rfl, hcs3⟩
  have W3 := W.cons (o := own (.int .i64) lsl (kl C S 0 C.length)) |>.cons (o := ms yrefs_target r2 m2) |>.cons (o := cel t2 [.map (some r2)]) |>.cons (o := ivs (cs3.map fun x => x.1) (C3.map fun x => x.1)) |>.cons (o := own yapi_Commit csl3 cs3) |>.cons (o := cel g3 [.slice csl3.a csl3.len csl3.cap]) |>.cons (o := sto p2 (clampM 1000) (YtnmgjpcooncjlaaGreat.copy T ids))
  refine JoinP.inl (nilIfc_nil (gd_f rfl (nilIfc_nil (gd_f rfl (gd_f rfl (gd_f rfl (history_Len_spec G3 s ?_)))))))
  intro _
  refine gd_f (by simp; omega) ?_
  refine loop_by (fun x => x.1) (kl C S 0 C.length).length (fun n _ w => Sp w0 (sto p2 (clampM 1000) (YtnmgjpcooncjlaaGreat.copy T ids) :: cel g3 [.slice csl3.a csl3.len csl3.cap] :: own yapi_Commit csl3 cs3 :: ivs (cs3.map fun x => x.1) (C3.map fun x => x.1) :: cel t2 [.map (some r2)] :: ms yrefs_target r2 m2 :: own (.int .i64) lsl (kl C S 0 C.length) :: BE) w) rfl s ?_
  clear s
  rintro n ⟨x0, _⟩ w10 hn hx s _
  dsimp only at hx ⊢
  subst hx
  refine gd_dec (fun hlt => ?_) (fun hge => h _ s.ext)
  have hn' : n < (kl C S 0 C.length).length := by omega
  have hget := List.getElem?_eq_getElem hn'
  generalize (kl C S 0 C.length)[n] = z at hget
  obtain ⟨k1, rfl, e1, e2, e3⟩ := rk_of hget
  obtain ⟨d, hd⟩ : ∃ d, C[k1]? = some d := ⟨_, List.getElem?_eq_getElem e1⟩
  have hd8 := (W.ok k1 d hd).few
  have hd3 := hC3 k1 d e2 hd
  have hrn : (kl C S 0 k1).length = n := by have : rk C S k1 = ((kl C S 0 k1).length : Int) := rfl; omega
  rw [hrn] at hd3
  have hrl8 : (rn (pos ids) C S d).1.length ≤ 8 := by show (d.1.map _).length ≤ 8; rw [List.length_map]; exact hd8
  refine (s.view 6 rfl).idx rfl hget rfl fun q1 hq1 => ⟨_, hq1, nonNil_some (s.ldp (x := some ⟨g, 0, none⟩) 13 1 c6 rfl (history_Get_spec W3.G s rfl hd (by omega) fun ps w11 s => s.allocK fun a30 w12 s => s.st0 0 rfl rfl rfl fun w13 s => history_Get_spec G3.cons.cons s rfl hd3 (by omega) fun ps2 w14 s => s.allocK fun a32 w15 s => s.st0 0 rfl rfl rfl fun w16 s => ?_))⟩
  refine JoinP.inl (s.drawK fun w18 s => nilIfc_nil (gd_f rfl (nilIfc_nil (gd_f rfl (nonNil_some (s.ldp (x := some p) 17 0 c6 rfl (s.ldi (x := d.2.1) 2 1 rfl rfl (s.ldi (x := pos ids d.2.1) 0 1 rfl rfl (law51_alike_spec hg hc (by omega) (htin k1 d e2 hd) s 22 4 W3.hi rfl fun w19 s => ?_)))))))))
  intro _
  refine gd_f rfl ?_
  have s : Sp w0 (sto p2 (clampM 1000) (YtnmgjpcooncjlaaGreat.copy T ids) :: cel g3 [.slice csl3.a csl3.len csl3.cap] :: own yapi_Commit csl3 cs3 :: ivs (cs3.map fun x => x.1) (C3.map fun x => x.1) :: cel t2 [.map (some r2)] :: ms yrefs_target r2 m2 :: own (.int .i64) lsl (kl C S 0 C.length) :: BE) w19 := s.drop 4
  refine loop_by (fun x => x.1) (kl C S 0 C.length).length (fun n _ w => Sp w0 (sto p2 (clampM 1000) (YtnmgjpcooncjlaaGreat.copy T ids) :: cel g3 [.slice csl3.a csl3.len csl3.cap] :: own yapi_Commit csl3 cs3 :: ivs (cs3.map fun x => x.1) (C3.map fun x => x.1) :: cel t2 [.map (some r2)] :: ms yrefs_target r2 m2 :: own (.int .i64) lsl (kl C S 0 C.length) :: BE) w) rfl s ?_
  clear s
  rintro n2 ⟨x0, _⟩ w20 hn2 hx s _
  dsimp only at hx ⊢
  subst hx
  refine gd_dec (fun hlt2 => ?_) (fun hge2 => arith_i64 (by omega) (by omega) (loop_nx hn' s))
  have hn2' : n2 < (kl C S 0 C.length).length := by omega
  have hget2 := List.getElem?_eq_getElem hn2'
  generalize (kl C S 0 C.length)[n2] = z2 at hget2
  obtain ⟨k2, rfl, f1, f2, f3⟩ := rk_of hget2
  have hl3 : C3.length = (kl C S 0 C.length).length := hC3l
  refine (s.view 6 rfl).idx rfl hget2 rfl fun q2 hq2 => ⟨_, hq2, nonNil_some (s.ldp (x := some ⟨g, 0, none⟩) 13 1 c6 rfl (history_Before_spec W3.G s W.ok.wf (by omega) e1 f1 fun b2 w21 hb2 s => history_Before_spec G3 s hok3.wf (by omega) (by omega) (by omega) fun b3 w22 hb3 s => ?_))⟩
  have hbb : b2 = b3 := by
    have h1 := hAn k1 k2 e2 f2
    rw [e3, f3, Int.toNat_natCast] at h1
    rw [Bool.eq_iff_iff, hb2, hb3]
    exact h1
  subst hbb
  refine JoinP.inl (nilIfc_nil (gd_f rfl (nilIfc_nil (gd_f rfl ?_))))
  intro _
  exact gd_f (by simp) (arith_i64 (by omega) (by omega) (loop_nx hn2' s))

end Go.Proofs.YtnmgjpcooncjlaaGreat
