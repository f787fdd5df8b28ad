/- Texts that belong together, joined: CpG. No conditions. -/
import Derived.Test.YtnmgjpcooncjlaaGreatGF
/- law51: the walk of CompactErrors. -/
set_option linter.unusedVariables false
set_option linter.unusedSimpArgs false
namespace Go.Proofs.YtnmgjpcooncjlaaGreat
open Go.Den

variable {w0 w : World} {Ω : List Ob} {i a b c a' b' g t r : Nat} {p : Addr} {most : Int} {T : List ET} {csl : Sl} {cs : List CM} {C : List CT} {m : List (ByteArray × TG)} {S : List Int}

theorem eqReport : eqOK P 2 t_compact_Report ycompact_Report = true := by kernel_rfl
theorem guardReport : P.eqGuardType P.depth t_compact_Report = false := by kernel_rfl
theorem report_neq {xo yo : Operand} {x y : ycompact_Report.T} {K : Bool → Prop} (h : K (!decide (x = y))) : testK P (do eqGuard .neq t_compact_Report xo yo (val ycompact_Report x) (val ycompact_Report y); binOp .neq t_compact_Report (val ycompact_Report x) (val ycompact_Report y)) K :=
  test_neq (d := 2) (by decide) eqReport guardReport ((fun e : beqT ycompact_Report x y = decide (x = y) => e ▸ h) (beqT_dec (t := ycompact_Report) rfl))
theorem An_more {C' : List CT} (hw : WFC C) (hSb : ∀ z ∈ S, z < (C.length : Int)) {n : Nat} (h : An (C ++ C') S n) : An C S n := by
  induction h with
  | root h1 => exact .root h1
  | @ref y x d h1 h2 h3 ih =>
    have := An.lt hw hSb ih
    rw [List.getElem?_append_left this] at h2
    exact .ref ih h2 h3
theorem compact_Keep_both (W : CW Ω i a b c a' b' p most T g csl cs C t r m S) (s : Sp w0 Ω w) {K : Sl × Value → World → Prop}
    (h : ∀ (x : Sl × Value) (L : List (Ty.int .i64).T) w', ((∀ z ∈ S, z < (C.length : Int)) ∧ x.2 = .nilIface ∧ L = kl C S 0 C.length) ∨ ((∃ z ∈ S, (C.length : Int) ≤ z) ∧ x.2 = errV 1 ∧ L = []) → Sp w0 (own (.int .i64) x.1 L :: Ω) w' → K x w') : C_compact_Keep (some ⟨g, 0, none⟩) (some ⟨t, 0, none⟩) K w := by
  have hC := W.hC
  by_cases hSb : ∀ z ∈ S, z < (C.length : Int)
  · exact compact_Keep_spec W.G W.R s W.ok.wf (by omega) W.hm W.hS (fun z hz => ⟨W.hS0 z hz, hSb z hz⟩) fun lsl w1 s => h _ _ _ (Or.inl ⟨hSb, rfl, rfl⟩) s
  · have hbad : ∃ z ∈ S, (C.length : Int) ≤ z := by
      apply Classical.byContradiction
      intro hno
      exact hSb fun z hz => by
        apply Classical.byContradiction
        intro hlt
        exact hno ⟨z, hz, by omega⟩
    exact compact_Keep_bad W s hbad fun w1 s => h _ _ _ (Or.inr ⟨hbad, rfl, rfl⟩) (s.nil _)
def badB : ByteArray := ⟨#[98, 97, 100]⟩
theorem badB_ok : NameOK badB := by
  refine ⟨by decide, by decide, fun k hk => ?_⟩
  have hk3 : k < 3 := hk
  match k, hk3 with
  | 0, _ => exact Or.inl (by show 97 ≤ 98 ∧ 98 ≤ 122; decide)
  | 1, _ => exact Or.inl (by show 97 ≤ 97 ∧ 97 ≤ 122; decide)
  | 2, _ => exact Or.inl (by show 97 ≤ 100 ∧ 100 ≤ 122; decide)
theorem badB_new (N : Nat) (ns : List IN) (k : Nat) : atS? (mN N ns k) badB = none := by
  rw [atS_none]
  intro hm
  obtain ⟨q, hq, e⟩ := List.mem_map.1 hm
  unfold mN at hq
  obtain ⟨i, _, rfl⟩ := List.mem_map.1 hq
  have e : nameB i = badB := e
  have h1 := congrArg (fun x : ByteArray => x.data[0]?) e
  unfold nameB at h1
  rw [bstr_data] at h1
  have h2 : (some (UInt8.ofNat (110 : Int).toNat) : Option UInt8) = some 98 := by simp [badB] at h1
  cases h2

theorem law51_CompactErrors_spec {x : yevergreenlaw51_Input.T} {bad : Int} {ops : List MakeT} {cms : List yevergreenlaw51_Commit.T} {ic : List IC} {ns : List yevergreenlaw51_Name.T} (i : InOK w0 x ops cms ic ns) {K : Bool → World → Prop} (h : ∀ w', Ext w0 w' → K true w') : C_law51_CompactErrors x bad K w0 := by
  apply S_law51_CompactErrors
  unfold F_law51_CompactErrors
  refine (Sp.init w0).allocK fun a1 w1 s => s.ld0 (ty := yevergreenlaw51_Input) (x := x) 0 rfl rfl (law51_good_spec i s fun w2 s => gd_not (gd_dec (fun hsm => ?_) (fun _ => h _ s.ext)))
  have nn := sumI_nn ic
  refine s.ld0 (ty := yevergreenlaw51_Input) (x := x) 0 rfl rfl ?_
  refine law51_begun_spec (ic := ic) s i.vL i.ok (by omega) i.vC ⟨i.len, fun k c hc => ?_⟩ (by omega) i.vN (by omega) fun p g t r a5 b1 m T res rs csl parSl texSl namSl tgtSl pts cs w3 hb hcs s => ?_
  · obtain ⟨y, h1, h2, h3⟩ := i.at_ k c hc
    exact ⟨y, h1, h2, h3, by have := sumI_le h1; omega⟩
  obtain ⟨W, hF, hC, hk⟩ := beg_CW (p := p) (g := g) (t := t) (r := r) (a5 := a5) (a1 := b1) (x := x) (m := m) (rs := rs) (csl := csl) (parSl := parSl) (texSl := texSl) (namSl := namSl) (tgtSl := tgtSl) (pts := pts) (ns := ns) (Ω := [cel a1 (cells yevergreenlaw51_Input x)]) hb hcs (by omega) (by omega)
  have hTl := hb.len
  have hTc := hb.cnt
  have hnew := badB_new (CB res ic ic.length).length ns (if ic.length = 0 then 0 else ns.length)
  have hml := mN_len (CB res ic ic.length).length ns (if ic.length = 0 then 0 else ns.length)
  have c6 : (begE p g t r a5 b1 x m T res rs csl parSl texSl namSl tgtSl (cs.map fun x => x.1) pts cs (CB res ic ic.length) ns (if ic.length = 0 then 0 else ns.length) [cel a1 (cells yevergreenlaw51_Input x)])[6]? = some (cel a5 (wld p g t m parSl texSl namSl tgtSl)) := rfl
  generalize begE p g t r a5 b1 x m T res rs csl parSl texSl namSl tgtSl (cs.map fun x => x.1) pts cs (CB res ic ic.length) ns (if ic.length = 0 then 0 else ns.length) [cel a1 (cells yevergreenlaw51_Input x)] = BE at *
  generalize mN (CB res ic ic.length).length ns (if ic.length = 0 then 0 else ns.length) = mm at *
  generalize tN (CB res ic ic.length).length ns (if ic.length = 0 then 0 else ns.length) = S at *
  generalize (if ic.length = 0 then 0 else ns.length) = kk at *
  generalize CB res ic ic.length = C at *
  refine gd_f rfl (s.drawK fun w4 s => nonNil_some (s.ldp (x := some ⟨g, 0, none⟩) 6 1 c6 rfl (nonNil_some (s.ldp (x := some p) 6 0 c6 rfl (intern_Len_sp s 11 W.hi ⟨s.still 6 1 c6 rfl, arith_i64 (by omega) (by omega) ?_⟩)))))
  refine history_Add_spec (psl := ⟨none, 0, 0⟩) (d := ([], ((T.length : Int) + 1, (⟨#[]⟩ : ByteArray)))) W.G s (by decide) (by decide) (by decide) ⟨by simp, by show (0 : Nat) ≤ 200; omega, by show 0 ≤ (T.length : Int) + 1; omega, by simp, List.nodup_nil⟩ (by omega) (fun w' s => .nil) (Nat.le_refl _) fun csl' cs' ts w5 s hts hcs' => nilIfc_nil (gd_f rfl ?_)
  subst hts
  have hD : ∀ n : Nat, n ≤ 8 → n ≠ 1 → n ≠ 2 → True := fun _ _ _ _ => trivial
  have W1 : CW (ivs (cs'.map fun x => x.1) (C.map (fun x => x.1) ++ [[]]) :: (BE.set 2 (own yapi_Commit csl' cs')).set 1 (cel g [.slice csl'.a csl'.len csl'.cap])) 12 2 3 0 8 9 p 1000 T g csl' cs' (C ++ [([], ((T.length : Int) + 1, (⟨#[]⟩ : ByteArray)))]) t r mm S := by
    refine ⟨setNe (setNe W.hi (by decide)) (by decide), ⟨setGet (setNe W.G.cell (by decide)), setNe (setGet W.G.com) (by decide), ?_, ?_⟩, ⟨setNe (setNe W.R.cell (by decide)) (by decide), setNe (setNe W.R.map (by decide)) (by decide)⟩, fun k d hd => ?_, by rw [List.length_append]; simp only [List.length_cons, List.length_nil]; omega, W.hm, W.hS, W.hS0⟩
    · rw [List.map_append]; rfl
    · rw [hcs', List.map_append]; rfl
    · by_cases hkl : k < C.length
      · rw [List.getElem?_append_left hkl] at hd
        exact W.ok k d hd
      · rw [List.getElem?_append_right (by omega)] at hd
        have hk0 : k - C.length = 0 := by
          have := (List.getElem?_eq_some_iff.1 hd).1
          simp at this; omega
        rw [hk0] at hd
        cases hd
        exact ⟨by simp, by show (0 : Nat) ≤ 200; omega, by show 0 ≤ (T.length : Int) + 1; omega, by simp, List.nodup_nil⟩
  have c7 : (ivs (cs'.map fun x => x.1) (C.map (fun x => x.1) ++ [[]]) :: (BE.set 2 (own yapi_Commit csl' cs')).set 1 (cel g [.slice csl'.a csl'.len csl'.cap]))[7]? = some (cel a5 (wld p g t m parSl texSl namSl tgtSl)) := setNe (setNe c6 (by decide)) (by decide)
  have hCl : (C ++ [([], ((T.length : Int) + 1, (⟨#[]⟩ : ByteArray)))]).length = C.length + 1 := by rw [List.length_append]; rfl
  have hF1 : Fine T (C ++ [([], ((T.length : Int) + 1, (⟨#[]⟩ : ByteArray)))]) S := by
    refine ⟨fun z hz => by have := hF.1 z hz; omega, fun n d hn hd => ?_⟩
    have hn' := An_more W.ok.wf hF.1 hn
    have := An.lt W.ok.wf hF.1 hn'
    rw [List.getElem?_append_left this] at hd
    exact hF.2 n d hn' hd
  have hd0 : (C ++ [([], ((T.length : Int) + 1, (⟨#[]⟩ : ByteArray)))])[C.length]? = some ([], ((T.length : Int) + 1, (⟨#[]⟩ : ByteArray))) := by rw [List.getElem?_append_right (Nat.le_refl _), Nat.sub_self]; rfl
  have W1C := W1.hC
  generalize (ivs (cs'.map fun x => x.1) (C.map (fun x => x.1) ++ [[]]) :: (BE.set 2 (own yapi_Commit csl' cs')).set 1 (cel g [.slice csl'.a csl'.len csl'.cap])) = B1 at *
  generalize hC1 : (C ++ [([], ((T.length : Int) + 1, (⟨#[]⟩ : ByteArray)))]) = C1 at *
  refine ⟨fun z w => z.1 = .nilIface ∧ Sp w0 B1 w, s.drawK fun w5 s => nonNil_some (s.ldp (x := some p) 7 0 c7 rfl (nonNil_some (s.ldp (x := some ⟨g, 0, none⟩) 7 1 c7 rfl (nonNil_some (s.ldp (x := some ⟨t, 0, none⟩) 7 2 c7 rfl ⟨?_, ?_⟩))))), ?_⟩
  · exact compact_Saved_sp W1 s (fun _ w6 s => s.allocK fun a15 w7 s => s.st0 0 rfl rfl rfl fun w8 s => ⟨rfl, s.pop⟩) (fun hn => absurd hF1 hn)
  · exact s.allocK fun a16 w9 s => ⟨s.still 8 2 c7 rfl, s.still 8 1 c7 rfl, s.still 8 0 c7 rfl, compact_Saved_sp W1.cons s (fun _ w10 s => s.st0 0 rfl rfl rfl fun w11 s => ⟨rfl, s.pop⟩) (fun hn => absurd hF1 hn)⟩
  clear s
  rintro ⟨z1, _⟩ w12 ⟨e1, s⟩ _
  dsimp only at e1
  subst e1
  refine nilIfc_nil (gd_f rfl ?_)
  refine ⟨fun z w => ((bad ≤ 0 ∧ z.1 = (C.length : Int)) ∨ (0 < bad ∧ (C.length : Int) < z.1)) ∧ Sp w0 B1 w, gd_dec (fun hb0 => ⟨by decide, letZ_mk ?_⟩) (fun hb0 => ⟨Or.inl ⟨by omega, rfl⟩, s⟩), ?_⟩
  · have h0 : 0 ≤ Int.tmod bad 1000 := Int.tmod_nonneg _ (by omega)
    have h1 : Int.tmod bad 1000 < 1000 := Int.tmod_lt_of_pos _ (by decide)
    exact arith_i64 (by omega) (by omega) (arith_i64 (by omega) (by omega) ⟨Or.inr ⟨hb0, by dsimp only; omega⟩, s⟩)
  clear s
  rintro ⟨to, _⟩ w13 ⟨hto, s⟩ _
  dsimp only at hto ⊢
  have hto0 : 0 ≤ to := by rcases hto with h | h <;> omega
  refine nonNil_some (s.ldp (x := some ⟨t, 0, none⟩) 7 2 c7 rfl ?_)
  refine refs_Branch_spec (x := badB) W1.R s badB_ok hto0 hnew fun w14 s => nilIfc_nil (gd_f rfl ?_)
  rw [mupdS_new hnew] at s
  have W2 : CW (B1.set 9 (ms yrefs_target r (mm ++ [(badB, (to, false))]))) 12 2 3 0 8 9 p 1000 T g csl' cs' C1 t r (mm ++ [(badB, (to, false))]) (S ++ [to]) := by
    refine ⟨setNe W1.hi (by decide), ⟨setNe W1.G.cell (by decide), setNe W1.G.com (by decide), setNe W1.G.par (by decide), W1.G.eq⟩, ⟨setNe W1.R.cell (by decide), setGet W1.R.map⟩, W1.ok, W1.hC, by rw [List.length_append, hml]; simp only [List.length_cons, List.length_nil]; omega, fun z => ?_, fun z hz => ?_⟩
    · rw [List.mem_append, W1.hS z]
      constructor
      · rintro (⟨q, hq, e⟩ | hz)
        · exact ⟨q, List.mem_append_left _ hq, e⟩
        · rw [List.mem_singleton] at hz
          exact ⟨_, List.mem_append_right _ (List.mem_singleton.2 rfl), hz.symm⟩
      · rintro ⟨q, hq, e⟩
        rcases List.mem_append.1 hq with hq | hq
        · exact Or.inl ⟨q, hq, e⟩
        · rw [List.mem_singleton] at hq
          subst hq
          exact Or.inr (List.mem_singleton.2 e.symm)
    · rcases List.mem_append.1 hz with hz | hz
      · exact W1.hS0 z hz
      · rw [List.mem_singleton] at hz
        subst hz; exact hto0
  have c8 : (B1.set 9 (ms yrefs_target r (mm ++ [(badB, (to, false))])))[7]? = some (cel a5 (wld p g t m parSl texSl namSl tgtSl)) := setNe c7 (by decide)
  have hno : ¬ Fine T C1 (S ++ [to]) := fun hf => by
    rcases hto with ⟨_, e⟩ | ⟨_, e⟩
    · have := hf.2 C.length _ (.root (List.mem_append_right _ (by rw [e]; simp))) hd0
      dsimp only at this
      omega
    · have := hf.1 to (List.mem_append_right _ (by simp))
      omega
  generalize (B1.set 9 (ms yrefs_target r (mm ++ [(badB, (to, false))]))) = B2 at *
  refine s.drawK fun w15 s => nonNil_some (s.ldp (x := some ⟨g, 0, none⟩) 7 1 c8 rfl (nonNil_some (s.ldp (x := some ⟨t, 0, none⟩) 7 2 c8 rfl (compact_Keep_both W2 s fun xk L w16 hx s => ?_))))
  refine s.drawK fun w17 s => nonNil_some (s.ldp (x := some p) 8 0 c8 rfl (nonNil_some (s.ldp (x := some ⟨g, 0, none⟩) 8 1 c8 rfl (nonNil_some (s.ldp (x := some ⟨t, 0, none⟩) 8 2 c8 rfl (compact_Of_sp W2.cons s (fun hf => absurd hf hno) (fun hf => absurd hf hno) (fun _ w18 s => ?_)))))))
  refine ⟨fun z w => ∃ b, z.1 = ⟨b, 0, none⟩ ∧ z.2.1 = errV 1 ∧ Sp w0 (cel b (cells ycompact_Report ((0 : Int), (0 : Int), (0 : Int), (0 : Int))) :: own (.int .i64) xk.1 L :: B2) w, s.drawK fun w5 s => nonNil_some (s.ldp (x := some p) 8 0 c8 rfl (nonNil_some (s.ldp (x := some ⟨g, 0, none⟩) 8 1 c8 rfl (nonNil_some (s.ldp (x := some ⟨t, 0, none⟩) 8 2 c8 rfl ⟨?_, ?_⟩))))), ?_⟩
  · exact compact_Saved_sp W2.cons s (fun hf => absurd hf hno) (fun _ w6 s => s.allocK fun a15 w7 s => s.st0 0 rfl rfl rfl fun w8 s => ⟨a15, rfl, rfl, s⟩)
  · exact s.allocK fun a16 w9 s => ⟨s.still 9 2 c8 rfl, s.still 9 1 c8 rfl, s.still 9 0 c8 rfl, compact_Saved_sp W2.cons.cons s (fun hf => absurd hf hno) (fun _ w10 s => s.st0 0 rfl rfl rfl fun w11 s => ⟨a16, rfl, rfl, s⟩)⟩
  clear s
  rintro ⟨z1, z2, _⟩ w19 ⟨b, e1, e2, s⟩ _
  dsimp only at e1 e2 ⊢
  subst e1 e2
  refine JoinP.inl (gd_f rfl (gd_f rfl (gd_f rfl (s.ld0 (ty := ycompact_Report) (x := ((0 : Int), (0 : Int), (0 : Int), (0 : Int))) 0 rfl rfl (report_neq (y := ((0 : Int), (0 : Int), (0 : Int), (0 : Int))) (gd_f rfl (is_err (by decide) (gd_f rfl (is_err (by decide) ?_)))))))))
  intro _
  refine gd_f rfl ?_
  have hxl := (s.view 1 rfl).len
  rcases hto with ⟨_, e⟩ | ⟨_, e⟩
  · rcases hx with ⟨hSb, e2, rfl⟩ | ⟨⟨z, hz, hz2⟩, _⟩
    · refine gd_f (decide_eq_false (by omega)) ?_
      rw [e2]
      have hg := (kl_grow (C := C1) (S := S ++ [to]) C.length).1 (.root (List.mem_append_right _ (by rw [e]; simp)))
      rw [hCl, hg] at s hxl
      rw [List.length_append] at hxl
      simp only [List.length_cons, List.length_nil] at hxl
      have hkl := kl_len (C := C1) (S := S ++ [to]) 0 C.length
      refine nilIfc_nil (gd_t rfl (gd_t (decide_eq_true (by omega)) (arith_i64 (by omega) (by omega) ((s.view 1 rfl).idx (n := (kl C1 (S ++ [to]) 0 C.length).length) (by omega) (by rw [List.getElem?_append_right (Nat.le_refl _), Nat.sub_self]; rfl) rfl fun q hq => ⟨_, hq, ?_⟩))))
      rw [beq_self_eq_true]
      exact h _ s.ext
    · rcases List.mem_append.1 hz with hz | hz
      · have := hF1.1 z hz; omega
      · rw [List.mem_singleton] at hz
        omega
  · rcases hx with ⟨hSb, _⟩ | ⟨_, e2, rfl⟩
    · have := hSb to (List.mem_append_right _ (by simp))
      omega
    · rw [e2]
      have hl0 : xk.1.len = 0 := hxl
      exact gd_t (decide_eq_true (by omega)) (gd_t (by rw [hl0]; rfl) (is_err (by decide) (h _ s.ext)))

end Go.Proofs.YtnmgjpcooncjlaaGreat
