/- Texts that belong together, joined: ImpB, Copy, LawDE, GarF, GarG, GarH, GarI. No conditions. -/
import Derived.Test.YtbghccafigmnjaaGD
import Derived.Test.YtbghccafigmnjaaGF
import Derived.Test.YtbghccafigmnjaaGB
/- The import of a list of rules, by the store and by the specification. -/
set_option linter.unusedVariables false
set_option linter.unusedSimpArgs false
namespace Go.Proofs.Ytbghccafigmnjaa
open Go.Den

variable {w0 w : World} {Ω : List Ob} {most : Int} {T : List ET} {i j : Nat}  {p : Addr}

def atI (ids : List (Ty.int .i64).T) (x : Int) : Int := ids.getD x.toNat (0 : Int)
def pPut (T : List ET) (most : Int) (ids : List (Ty.int .i64).T) (r : RT) : List ET × (Int × Value) :=
  if r.1 = 1 then pLetter T most r.2.1 else
  if r.1 = 2 then pPair T most (atI ids r.2.2.1) (atI ids r.2.2.2.1) else pPower T most (atI ids r.2.2.1) r.2.2.2.2
def pImps (T : List ET) (most : Int) : List RT → List (Ty.int .i64).T → List ET × (Int × Value)
  | [], ids => (T, (ids.getLastD (0 : Int), .nilIface))
  | r :: rs, ids => if isNilI (pPut T most ids r).2.2 then pImps (pPut T most ids r).1 most rs (ids ++ [(pPut T most ids r).2.1]) else ((pPut T most ids r).1, (0, (pPut T most ids r).2.2))
def bad : List RT → Int → Int
  | [], _ => 0
  | r :: rs, n => if chk r n = 0 then bad rs (n + 1) else chk r n
def pImport (T : List ET) (most : Int) (l : List RT) : List ET × (Int × Value) := if bad l 1 = 0 then pImps T most l [(0 : Int)] else (T, (0, errV (bad l 1)))

theorem bad_cons (r : RT) (rs : List RT) (n : Int) : bad (r :: rs) n = if chk r n = 0 then bad rs (n + 1) else chk r n := rfl
theorem pImps_cons (r : RT) (rs : List RT) (ids : List (Ty.int .i64).T) : pImps T most (r :: rs) ids = if isNilI (pPut T most ids r).2.2 then pImps (pPut T most ids r).1 most rs (ids ++ [(pPut T most ids r).2.1]) else ((pPut T most ids r).1, (0, (pPut T most ids r).2.2)) := rfl
theorem bad_zero : ∀ (l : List RT) (n : Int), bad l n = 0 → ∀ (i : Nat) (r : RT), l[i]? = some r → chk r (n + i) = 0
  | [], _, _, _, _, h => by simp at h
  | x :: l, n, h, 0, r, hr => by
    simp only [List.getElem?_cons_zero, Option.some.injEq] at hr
    subst hr
    rw [bad_cons] at h
    split at h
    · rename_i e; simpa using e
    · contradiction
  | x :: l, n, h, i + 1, r, hr => by
    rw [bad_cons] at h
    split at h
    · have := bad_zero l (n + 1) h i r (by simpa using hr)
      rw [← this]; congr 1; omega
    · contradiction
theorem chk_form {r : RT} {n : Int} (h : chk r n = 0) : formB r = true ∧ placeB r n = true := by
  unfold chk at h
  split at h
  · split at h
    · exact ⟨‹_›, ‹_›⟩
    · cases h
  · cases h
theorem form_kind {r : RT} (h : formB r = true) : r.1 = 1 ∨ r.1 = 2 ∨ r.1 = 3 := by
  unfold formB at h
  split at h
  · exact Or.inl ‹_›
  split at h
  · exact Or.inr (Or.inl ‹_›)
  split at h
  · exact Or.inr (Or.inr ‹_›)
  · cases h
theorem pPut_err {ids : List (Ty.int .i64).T} {r : RT} : IsErr (pPut T most ids r).2.2 := by
  unfold pPut
  split
  · exact pLetter_err
  split
  · exact pPair_err
  · exact pPower_err
theorem pPut_grow {ids : List (Ty.int .i64).T} {r : RT} (g : Grow T) (hl : (T.length : Int) ≤ most) (hb : 0 ≤ r.2.1 ∧ r.2.1 < 256) : Grow (pPut T most ids r).1 ∧ ((pPut T most ids r).1.length : Int) ≤ most := by
  unfold pPut
  split
  · exact pLetter_grow g hl hb
  split
  · exact pPair_grow g hl
  · exact pPower_grow g hl
theorem atI_get {ids : List (Ty.int .i64).T} {x : Int} (h0 : 0 ≤ x) (h : x < ids.length) : ids[x.toNat]? = some (atI ids x) := by
  unfold atI
  rw [List.getD_eq_getElem?_getD, List.getElem?_eq_getElem (by omega)]
  rfl
theorem atI_append {ids zs : List (Ty.int .i64).T} {x : Int} (h0 : 0 ≤ x) (h : x < ids.length) : atI (ids ++ zs) x = atI ids x := by
  unfold atI
  rw [List.getD_eq_getElem?_getD, List.getD_eq_getElem?_getD, List.getElem?_append_left (by omega)]
theorem pPut_append {ids zs : List (Ty.int .i64).T} {r : RT} {n : Int} (hp : placeB r n = true) (hn : n ≤ ids.length) (hk : r.1 = 1 ∨ r.1 = 2 ∨ r.1 = 3) : pPut T most (ids ++ zs) r = pPut T most ids r := by
  unfold pPut
  rcases hk with h | h | h
  · simp [h]
  · rw [placeB_2 h, decide_eq_true_eq] at hp
    rw [atI_append (by omega) (by omega), atI_append (by omega) (by omega)]
  · rw [placeB_3 h, decide_eq_true_eq] at hp
    simp only [h]
    rw [if_neg (by decide), if_neg (by decide), if_neg (by decide), if_neg (by decide), atI_append (by omega) (by omega)]

theorem intern_put_sp {r : RT} {to : Sl} {ids : List (Ty.int .i64).T} {n : Int} (hr : 0 ≤ r.2.1 ∧ r.2.1 < 256) (ht : r.2.2.2.2 ≤ 9223372036854775807) (hk : r.1 = 1 ∨ r.1 = 2 ∨ r.1 = 3) (hp : placeB r n = true) (hn : n ≤ ids.length)
    (s : Sp w0 Ω w) (i : Nat) (hi : Ω[i]? = some (sto p most T)) (j : Nat) (hj : Ω[j]? = some (own (.int .i64) to ids)) {K : Int × Value → World → Prop}
    (h : ∀ w', Sp w0 (Ω.set i (sto p most (pPut T most ids r).1)) w' → K (pPut T most ids r).2 w') : C_intern_Store_put (some p) r to K w := by
  apply S_intern_Store_put
  unfold F_intern_Store_put
  unfold pPut at h
  refine s.allocK fun a1 w1 s => s.ldi (x := r.1) 0 0 rfl rfl (gd_eq (fun c1 => ?_) (fun c1 => gd_eq (fun c2 => ?_) (fun c2 => ?_)))
  · simp only [if_pos c1] at h
    exact s.ldi (x := r.2.1) 0 1 rfl rfl (intern_Letter_sp s (i + 1) hi hr fun w2 s => h _ s.pop)
  · simp only [if_neg c1, if_pos c2] at h
    rw [placeB_2 c2, decide_eq_true_eq] at hp
    refine s.drawK fun w2 s => s.ldi (x := r.2.2.1) 0 2 rfl rfl ((s.view (j + 1) hj).idx (n := r.2.2.1.toNat) (by omega) (atI_get (by omega) (by omega)) rfl fun q hq => ⟨_, hq, s.ldi (x := r.2.2.2.1) 0 3 rfl rfl ?_⟩)
    exact (s.view (j + 1) hj).idx (n := r.2.2.2.1.toNat) (by omega) (atI_get (by omega) (by omega)) rfl fun q hq => ⟨_, hq, intern_Pair_sp s (i + 1) hi fun w3 s => h _ s.pop⟩
  · simp only [if_neg c1, if_neg c2] at h
    have c3 : r.1 = 3 := by omega
    rw [placeB_3 c3, decide_eq_true_eq] at hp
    exact s.drawK fun w2 s => s.ldi (x := r.2.2.1) 0 2 rfl rfl ((s.view (j + 1) hj).idx (n := r.2.2.1.toNat) (by omega) (atI_get (by omega) (by omega)) rfl fun q hq => ⟨_, hq, s.ldi (x := r.2.2.2.2) 0 4 rfl rfl (intern_Power_sp s (i + 1) hi ht fun w3 s => h _ s.pop)⟩)

structure RuleOK (r : RT) : Prop where
  b : 0 ≤ r.2.1 ∧ r.2.1 < 256
  k : r.2.2.2.2 ≤ 9223372036854775807
theorem chkV_zero {r : RT} {n : Int} (h : chk r n = 0) : chkV r n = .nilIface := by unfold chkV; rw [if_pos h]
theorem chkV_bad {r : RT} {n : Int} (h : ¬ chk r n = 0) : chkV r n = errV (chk r n) := by unfold chkV; rw [if_neg h]

theorem intern_Import_sp {sl : Sl} {l : List yapi_Rule.T} (hr : ∀ r ∈ l, RuleOK r) (hll : l.length ≤ 2000000) (s : Sp w0 Ω w) (i : Nat) (hi : Ω[i]? = some (sto p most T)) (hv : ∀ w' Ω', Sp w0 (Ω' ++ Ω) w' → View yapi_Rule w' sl l) (hv2 : ∀ w' Ω' T', Sp w0 (Ω' ++ Ω.set i (sto p most T')) w' → View yapi_Rule w' sl l)
    {K : Int × Value → World → Prop} (h : ∀ w', Sp w0 (Ω.set i (sto p most (pImport T most l).1)) w' → K (pImport T most l).2 w') : C_intern_Store_Import (some p) sl K w := by
  apply S_intern_Store_Import
  unfold F_intern_Store_Import
  have hlen := (hv w [] s).len
  have hset : Ω.set i (sto p most T) = Ω := setSame hi
  refine gd_f rfl (loop_by (fun x => x.1) l.length (fun n _ w => bad l 1 = bad (l.drop n) ((n : Int) + 1) ∧ Sp w0 Ω w) rfl ⟨by simp, s⟩ ?_)
  rintro n ⟨x, _⟩ w1 hn hx ⟨hb, s⟩ _
  dsimp only at hx ⊢
  subst hx
  refine gd_dec (fun hlt => ?_) (fun hge => ?_)
  · have hn' : n < l.length := by omega
    have hd : l.drop n = l[n] :: l.drop (n + 1) := List.drop_eq_getElem_cons hn'
    refine (hv w1 [] s).idx rfl (List.getElem?_eq_getElem hn') rfl fun q hq => ⟨_, hq, s.allocK fun a5 w2 s => s.st0 0 rfl rfl rfl fun w3 s => s.ld0 0 rfl rfl (arith_i64 (by omega) (by omega) (rule_Check_spec (by omega) s fun w4 s => ?_))⟩
    rw [hd, bad_cons] at hb
    by_cases c : chk l[n] ((n : Int) + 1) = 0
    · rw [chkV_zero c]
      rw [if_pos c] at hb
      exact nilIfc_nil (gd_f rfl (arith_i64 (by omega) (by omega) (loop_nx hn' ⟨by rw [hb]; congr 1, s.pop⟩)))
    · rw [chkV_bad c]
      rw [if_neg c] at hb
      have hne : ¬ bad l 1 = 0 := by rw [hb]; exact c
      have hp : pImport T most l = (T, (0, errV (chk l[n] ((n : Int) + 1)))) := by unfold pImport; rw [if_neg hne, hb]
      rw [hp, hset] at h
      exact nilIfc_err (gd_t rfl (h _ s.pop))
  · have hn' : n = l.length := by omega
    subst hn'
    rw [List.drop_length] at hb
    have hb0 : bad l 1 = 0 := hb
    have hp : pImport T most l = pImps T most l [(0 : Int)] := by unfold pImport; rw [if_pos hb0]
    rw [hp] at h
    have hN : ((sl.len : Int) + 1).toNat = l.length + 1 := by omega
    refine arith_i64 (by omega) (by omega) ⟨by omega, by omega, by omega, by omega, s.mkS (.int .i64) (0 : Int) (l.length + 1) (l.length + 1) (Nat.le_refl _) (fun a12 w5 s => ?_) rfl (by rw [hN]; rfl)⟩
    rw [hN]
    obtain ⟨_, _, _, hm0, hm1, hm2, hg⟩ := Sp.entry s (i + 1) hi
    refine loop_by (fun x => x.1) l.length (fun n _ w => ∃ (T' : List ET) (ids : List (Ty.int .i64).T), pImps T most l [(0 : Int)] = pImps T' most (l.drop n) ids ∧ ids.length = n + 1 ∧
      Sp w0 (own (.int .i64) ⟨some ⟨a12, 0, none⟩, l.length + 1, l.length + 1⟩ (ids ++ List.replicate (l.length - n) (0 : Int)) :: Ω.set i (sto p most T')) w) rfl ⟨T, [(0 : Int)], by simp, rfl, by
        have e : [(0 : Int)] ++ List.replicate (l.length - 0) (0 : Int) = List.replicate (l.length + 1) (0 : Int) := by simp [List.replicate_succ]
        rw [hset]; exact e ▸ s⟩ ?_
    rintro n ⟨x, _⟩ w6 hn hx ⟨T', ids, hI, hil, s⟩ _
    dsimp only at hx ⊢
    subst hx
    have hi' : ∀ X, (Ω.set i X)[i]? = some X := fun X => setGet hi
    obtain ⟨_, _, _, hm0, hm1, hm2, hg⟩ := Sp.entry s (i + 1) (hi' _)
    refine gd_dec (fun hlt => ?_) (fun hge => ?_)
    · have hn' : n < l.length := by omega
      have hd : l.drop n = l[n] :: l.drop (n + 1) := List.drop_eq_getElem_cons hn'
      have hok := hr _ (List.getElem_mem hn')
      have hc : chk l[n] ((n : Int) + 1) = 0 := by
        have := bad_zero l 1 hb0 n l[n] (List.getElem?_eq_getElem hn')
        rw [← this]; congr 1; omega
      obtain ⟨hf, hpl⟩ := chk_form hc
      have hkind := form_kind hf
      refine (hv2 w6 [_] _ s).idx rfl (List.getElem?_eq_getElem hn') rfl fun q hq => ⟨_, hq, s.allocK fun a5 w2 s => s.st0 0 rfl rfl rfl fun w3 s => s.ld0 0 rfl rfl ?_⟩
      refine intern_put_sp hok.b hok.k hkind hpl (by simp; omega) s (i + 2) (hi' _) 1 rfl fun w7 s => ?_
      rw [pPut_append hpl (by omega) hkind] at s ⊢
      rw [hd, pImps_cons] at hI
      rcases isNilI_err (pPut_err (T := T') (most := most) (ids := ids) (r := l[n])) with ⟨e1, _, e2⟩ | ⟨e1, _, c, e2⟩
      · rw [e1, if_pos rfl] at hI
        rw [e2]
        refine nilIfc_nil (gd_f rfl (arith_i64 (by omega) (by omega) (s.setI 1 rfl (n := n + 1) rfl (by simp; omega) fun w8 s => arith_i64 (by omega) (by omega) (loop_nx hn' ⟨_, _, hI, by simp [hil], ?_⟩))))
        have e : (ids ++ List.replicate (l.length - n) (0 : Int)).set (n + 1) (pPut T' most ids l[n]).2.1 = (ids ++ [(pPut T' most ids l[n]).2.1]) ++ List.replicate (l.length - (n + 1)) (0 : Int) := by
          rw [List.set_append_right _ _ (by omega), hil, Nat.sub_self]
          rw [show l.length - n = (l.length - (n + 1)) + 1 by omega, List.replicate_succ]
          simp
        have s' : Sp w0 (own (.int .i64) ⟨some ⟨a12, 0, none⟩, l.length + 1, l.length + 1⟩ _ :: (Ω.set i (sto p most T')).set i (sto p most (pPut T' most ids l[n]).1)) w8 := s.pop
        rw [List.set_set] at s'
        exact e ▸ s'
      · rw [e1, if_neg (by decide)] at hI
        rw [e2]
        rw [hI] at h
        have s' : Sp w0 ((Ω.set i (sto p most T')).set i (sto p most (pPut T' most ids l[n]).1)) w7 := s.drop 2
        rw [List.set_set] at s'
        have := h _ s'
        dsimp only at this
        rw [e2] at this
        exact nilIfc_err (gd_t rfl this)
    · have hn' : n = l.length := by omega
      subst hn'
      rw [List.drop_length] at hI
      rw [hI] at h
      rw [Nat.sub_self, List.replicate_zero, List.append_nil] at s
      have hlast : ids[l.length]? = some (ids.getLastD (0 : Int)) := by
        rw [List.getLastD_eq_getLast?, List.getLast?_eq_getElem?, hil]
        simp only [Nat.add_sub_cancel]
        rw [List.getElem?_eq_getElem (by omega)]
        rfl
      refine (s.view 0 rfl).idx (n := l.length) (by omega) hlast rfl fun q hq => ⟨_, hq, h _ s.pop⟩

end Go.Proofs.Ytbghccafigmnjaa

/- What is exported and imported again: into the same store nothing is added; into an empty one a copy. -/
set_option linter.unusedVariables false
set_option linter.unusedSimpArgs false
namespace Go.Proofs.Ytbghccafigmnjaa
open Go.Den

variable {T : List ET} {ids : List Int} {most : Int}

theorem Closed.nz (hc : Closed T ids) : (0 : Int) ∉ ids := fun h => by have := (hc.bound 0 h).1; omega
theorem pos_zero (hc : Closed T ids) : pos ids 0 = 0 := pos_none hc.nz
/-- the references of a rule of the list, and their places -/
theorem Closed.ref (hc : Closed T ids) (g : Grow T) {k : Nat} {y x : Int} (hk : ids[k]? = some y) (hx : x ∈ Ytbghccafigmnjaa.refs (eAt T y).1) : ∃ j, j < k ∧ ids[j]? = some x ∧ pos ids x = (j : Int) + 1 := by
  have hyb := hc.bound y (List.mem_of_getElem? hk)
  have hxm := hc.refs y (List.mem_of_getElem? hk) x hx
  obtain ⟨j, hj⟩ := List.getElem?_of_mem hxm
  have hlt := (refs_in g hyb.1 hyb.2 hx).2
  exact ⟨j, (sorted_lt hc.sorted hj hk).1 hlt, hj, pos_some hc.nodup hj⟩
theorem exp_get {k : Nat} {y : Int} (hk : ids[k]? = some y) : (exp T ids)[k]? = some (mvr ids (eAt T y).1) := by
  unfold exp; rw [List.getElem?_map, hk]; rfl
theorem chk_exp (g : Grow T) (hc : Closed T ids) {k : Nat} {y : Int} (hk : ids[k]? = some y) : chk (mvr ids (eAt T y).1) ((k : Int) + 1) = 0 := by
  have hyb := hc.bound y (List.mem_of_getElem? hk)
  have p0 := pos_zero hc
  have hf : formB (mvr ids (eAt T y).1) = true ∧ placeB (mvr ids (eAt T y).1) ((k : Int) + 1) = true := by
    cases g.shape hyb.1 hyb.2 with
    | letter b _ _ e =>
      rw [e]
      refine ⟨by simp [formB, mvr, mkLetter, p0], ?_⟩
      rw [placeB_1 (by rfl)]; simp; omega
    | pair l r _ _ _ _ _ e =>
      obtain ⟨j1, h1, _, e1⟩ := hc.ref g hk (x := l) (by rw [e]; simp [refs, mkPair])
      obtain ⟨j2, h2, _, e2⟩ := hc.ref g hk (x := r) (by rw [e]; simp [refs, mkPair])
      rw [e]
      refine ⟨by simp [formB, mvr, mkPair], ?_⟩
      rw [placeB_2 (by rfl)]
      simp only [mvr, mkPair, decide_eq_true_eq, e1, e2]; omega
    | power x n _ _ hn _ e =>
      obtain ⟨j1, h1, _, e1⟩ := hc.ref g hk (x := x) (by rw [e]; simp [refs, mkPower])
      rw [e]
      refine ⟨by simp [formB, mvr, mkPower, p0, hn], ?_⟩
      rw [placeB_3 (by rfl)]
      simp only [mvr, mkPower, decide_eq_true_eq, e1]; omega
  unfold chk
  rw [hf.1, if_pos rfl, hf.2, if_pos rfl]
theorem bad_of : ∀ (l : List RT) (n : Int), (∀ (i : Nat) (r : RT), l[i]? = some r → chk r (n + i) = 0) → bad l n = 0
  | [], _, _ => rfl
  | r :: l, n, h => by
    rw [bad_cons, if_pos (by have := h 0 r rfl; simpa using this)]
    refine bad_of l (n + 1) fun i x hi => ?_
    have := h (i + 1) x (by simpa using hi)
    rw [← this]; congr 1; omega
theorem bad_exp (g : Grow T) (hc : Closed T ids) : bad (exp T ids) 1 = 0 := by
  refine bad_of _ _ fun i r hi => ?_
  obtain ⟨y, hy⟩ : ∃ y, ids[i]? = some y := by
    have := (List.getElem?_eq_some_iff.1 hi).1
    rw [exp_len] at this
    exact ⟨_, List.getElem?_eq_getElem this⟩
  rw [exp_get hy] at hi
  cases hi
  have := chk_exp g hc hy
  rw [← this]; congr 1; omega

/-! ### Into the same store -/
theorem pPut_same (g : Grow T) (hc : Closed T ids) {k : Nat} {y : Int} (hk : ids[k]? = some y) : pPut T most ((0 : Int) :: ids.take k) (mvr ids (eAt T y).1) = (T, (y, .nilIface)) := by
  have hyb := hc.bound y (List.mem_of_getElem? hk)
  have hfind := g.find hyb.1 hyb.2
  have hat : ∀ {x : Int} {j : Nat}, j < k → ids[j]? = some x → atI ((0 : Int) :: ids.take k) ((j : Int) + 1) = x := by
    intro x j hj hx
    unfold atI
    rw [show ((j : Int) + 1).toNat = j + 1 by omega, List.getD_eq_getElem?_getD, List.getElem?_cons_succ, List.getElem?_take_of_lt hj, hx]; rfl
  unfold pPut
  cases g.shape hyb.1 hyb.2 with
  | letter b _ _ e =>
    rw [e] at hfind ⊢
    rw [if_pos (by rfl)]
    exact (pAdd_some (most := most) (e := mkLetter b) hfind).2.1
  | pair l r a1 a2 a3 a4 a5 e =>
    obtain ⟨j1, h1, g1, e1⟩ := hc.ref g hk (x := l) (by rw [e]; simp [refs, mkPair])
    obtain ⟨j2, h2, g2, e2⟩ := hc.ref g hk (x := r) (by rw [e]; simp [refs, mkPair])
    rw [e] at hfind ⊢
    rw [if_neg (by simp [mvr, mkPair]), if_pos (by rfl)]
    have q1 : atI ((0 : Int) :: ids.take k) (mvr ids (mkPair T l r).1).2.2.1 = l := by
      show atI _ (pos ids l) = l
      rw [e1]; exact hat h1 g1
    have q2 : atI ((0 : Int) :: ids.take k) (mvr ids (mkPair T l r).1).2.2.2.1 = r := by
      show atI _ (pos ids r) = r
      rw [e2]; exact hat h2 g2
    rw [q1, q2]
    unfold pPair
    have kl : known T l = true := decide_eq_true (by omega)
    have kr : known T r = true := decide_eq_true (by omega)
    rw [kl, kr, if_neg (by simp), if_neg (by omega), if_neg (by omega), if_neg (by omega)]
    exact (pAdd_some (most := most) (e := mkPair T l r) hfind).2.1
  | power x n a1 a2 a3 a4 e =>
    obtain ⟨j1, h1, g1, e1⟩ := hc.ref g hk (x := x) (by rw [e]; simp [refs, mkPower])
    rw [e] at hfind ⊢
    rw [if_neg (by simp [mvr, mkPower]), if_neg (by simp [mvr, mkPower])]
    have q1 : atI ((0 : Int) :: ids.take k) (mvr ids (mkPower T x n).1).2.2.1 = x := by
      show atI _ (pos ids x) = x
      rw [e1]; exact hat h1 g1
    rw [q1]
    show pPower T most x n = _
    unfold pPower
    have kx : known T x = true := decide_eq_true (by omega)
    rw [kx, if_neg (by simp; omega), if_neg (by omega), if_neg (by omega), if_neg (by omega)]
    exact (pAdd_some (most := most) (e := mkPower T x n) hfind).2.1
theorem pImps_same (g : Grow T) (hc : Closed T ids) : ∀ (d k : Nat), k + d = ids.length → pImps T most ((exp T ids).drop k) ((0 : Int) :: ids.take k) = (T, (((0 : Int) :: ids).getLastD 0, .nilIface))
  | 0, k, hk => by
    have : k = ids.length := by omega
    subst this
    rw [show (exp T ids).drop ids.length = [] by rw [← exp_len T ids, List.drop_length], List.take_length]
    rfl
  | d + 1, k, hk => by
    have hkl : k < ids.length := by omega
    obtain ⟨y, hy⟩ : ∃ y, ids[k]? = some y := ⟨_, List.getElem?_eq_getElem hkl⟩
    have hd : (exp T ids).drop k = mvr ids (eAt T y).1 :: (exp T ids).drop (k + 1) := by
      have h := exp_get (T := T) hy
      have hl := (List.getElem?_eq_some_iff.1 h).1
      rw [List.drop_eq_getElem_cons hl, (List.getElem?_eq_some_iff.1 h).2]
    rw [hd, pImps_cons, pPut_same g hc hy, if_pos (by rfl)]
    have ht : (0 : Int) :: ids.take k ++ [y] = (0 : Int) :: ids.take (k + 1) := by rw [List.take_add_one, hy]; rfl
    show pImps T most _ ((0 : Int) :: ids.take k ++ [y]) = _
    rw [ht]
    exact pImps_same g hc d (k + 1) (by omega)
theorem pImport_same (g : Grow T) (hc : Closed T ids) : pImport T most (exp T ids) = (T, (((0 : Int) :: ids).getLastD 0, .nilIface)) := by
  unfold pImport
  rw [if_pos (bad_exp g hc)]
  have := pImps_same (most := most) g hc ids.length 0 (by omega)
  simpa using this

/-! ### Into an empty store -/
def copy (T : List ET) (ids : List Int) : List ET := ids.map fun x => (mvr ids (eAt T x).1, (eAt T x).2)
theorem copy_len : (copy T ids).length = ids.length := List.length_map _
theorem copy_get {k : Nat} {y : Int} (hk : ids[k]? = some y) : (copy T ids)[k]? = some (mvr ids (eAt T y).1, (eAt T y).2) := by
  unfold copy; rw [List.getElem?_map, hk]; rfl
theorem copy_at {k m : Nat} {y : Int} (hk : ids[k]? = some y) (hm : k < m) : eAt ((copy T ids).take m) ((k : Int) + 1) = (mvr ids (eAt T y).1, (eAt T y).2) := by
  have hkl := (List.getElem?_eq_some_iff.1 hk).1
  have h := eAt_get (L := (copy T ids).take m) (id := (k : Int) + 1) (by omega) (by rw [List.length_take, copy_len]; omega)
  rw [show ((k : Int) + 1 - 1).toNat = k by omega, List.getElem?_take_of_lt hm, copy_get hk] at h
  exact (Option.some.inj h).symm
theorem pos_inj (hc : Closed T ids) {x y : Int} (hx : x = 0 ∨ x ∈ ids) (hy : y = 0 ∨ y ∈ ids) (h : pos ids x = pos ids y) : x = y := by
  have key : ∀ {x : Int}, x ∈ ids → ∃ j : Nat, ids[j]? = some x ∧ pos ids x = (j : Int) + 1 := fun hx => by
    obtain ⟨j, hj⟩ := List.getElem?_of_mem hx
    exact ⟨j, hj, pos_some hc.nodup hj⟩
  have p0 := pos_zero hc
  rcases hx with rfl | hx
  · rcases hy with rfl | hy
    · rfl
    · obtain ⟨j, _, e⟩ := key hy
      rw [p0, e] at h; omega
  · obtain ⟨i, hi, ei⟩ := key hx
    rcases hy with rfl | hy
    · rw [p0, ei] at h; omega
    · obtain ⟨j, hj, e⟩ := key hy
      rw [ei, e] at h
      have : i = j := by omega
      subst this
      rw [hi] at hj
      exact Option.some.inj hj
theorem refs_mem (g : Grow T) (hc : Closed T ids) {y : Int} (hy : y ∈ ids) : ((eAt T y).1.2.2.1 = 0 ∨ (eAt T y).1.2.2.1 ∈ ids) ∧ ((eAt T y).1.2.2.2.1 = 0 ∨ (eAt T y).1.2.2.2.1 ∈ ids) := by
  have hyb := hc.bound y hy
  have hr := hc.refs y hy
  cases g.shape hyb.1 hyb.2 with
  | letter b _ _ e => rw [e]; exact ⟨Or.inl rfl, Or.inl rfl⟩
  | pair l r _ _ _ _ _ e =>
    rw [e] at hr ⊢
    exact ⟨Or.inr (hr l (by simp [refs, mkPair])), Or.inr (hr r (by simp [refs, mkPair]))⟩
  | power x k _ _ _ _ e =>
    rw [e] at hr ⊢
    exact ⟨Or.inr (hr x (by simp [refs, mkPower])), Or.inl rfl⟩
theorem mvr_inj (g : Grow T) (hc : Closed T ids) {x y : Int} (hx : x ∈ ids) (hy : y ∈ ids) (h : mvr ids (eAt T x).1 = mvr ids (eAt T y).1) : x = y := by
  have hxb := hc.bound x hx
  have hyb := hc.bound y hy
  have rx := refs_mem g hc hx
  have ry := refs_mem g hc hy
  have f1 := g.find hxb.1 hxb.2
  have f2 := g.find hyb.1 hyb.2
  have e : (eAt T x).1 = (eAt T y).1 := by
    generalize (eAt T x).1 = a at h rx
    generalize (eAt T y).1 = b at h ry
    simp only [mvr, Prod.mk.injEq] at h
    obtain ⟨h1, h2, h3, h4, h5⟩ := h
    exact Prod.ext h1 (Prod.ext h2 (Prod.ext (pos_inj hc rx.1 ry.1 h3) (Prod.ext (pos_inj hc rx.2 ry.2 h4) h5)))
  rw [e, f2] at f1
  exact (Option.some.inj f1).symm
theorem copy_fresh (g : Grow T) (hc : Closed T ids) {k : Nat} {y : Int} (hk : ids[k]? = some y) : lkR ((copy T ids).take k) (mvr ids (eAt T y).1) = none := by
  refine lkR_none fun e he h => ?_
  obtain ⟨j, hj⟩ := List.getElem?_of_mem he
  have hjk : j < k := by
    have := (List.getElem?_eq_some_iff.1 hj).1
    rw [List.length_take] at this; omega
  have hkl := (List.getElem?_eq_some_iff.1 hk).1
  rw [List.getElem?_take_of_lt hjk] at hj
  obtain ⟨x, hx⟩ : ∃ x, ids[j]? = some x := ⟨_, List.getElem?_eq_getElem (by omega)⟩
  rw [copy_get hx] at hj
  cases hj
  have := mvr_inj g hc (List.mem_of_getElem? hx) (List.mem_of_getElem? hk) h
  have := (sorted_lt hc.sorted hx hk).2 hjk
  omega
def ups (k : Nat) : List Int := (List.range (k + 1)).map fun i : Nat => (i : Int)
theorem ups_succ (k : Nat) : ups (k + 1) = ups k ++ [((k : Int) + 1)] := by
  unfold ups
  rw [List.range_succ, List.map_append]; rfl
theorem ups_at {k j : Nat} (h : j ≤ k) : atI (ups k) (j : Int) = j := by
  unfold atI ups
  rw [List.getD_eq_getElem?_getD, List.getElem?_map, List.getElem?_range (by omega)]; simp
theorem pPut_copy (g : Grow T) (hc : Closed T ids) {k : Nat} {y : Int} (hk : ids[k]? = some y) (hm : (k : Int) < most) : pPut ((copy T ids).take k) most (ups k) (mvr ids (eAt T y).1) = ((copy T ids).take (k + 1), ((k : Int) + 1, .nilIface)) := by
  have hyb := hc.bound y (List.mem_of_getElem? hk)
  have hkl := (List.getElem?_eq_some_iff.1 hk).1
  have hfr := copy_fresh g hc hk
  have hlen : ((copy T ids).take k).length = k := by rw [List.length_take, copy_len]; omega
  have hstep : (copy T ids).take (k + 1) = (copy T ids).take k ++ [(mvr ids (eAt T y).1, (eAt T y).2)] := by rw [List.take_add_one, copy_get hk]; rfl
  have p0 := pos_zero hc
  have fin : ∀ e : ET, e = (mvr ids (eAt T y).1, (eAt T y).2) → pAdd ((copy T ids).take k) most e = ((copy T ids).take (k + 1), ((k : Int) + 1, .nilIface)) := by
    rintro e rfl
    rw [(pAdd_new (most := most) (e := (mvr ids (eAt T y).1, (eAt T y).2)) hfr (by rw [hlen]; omega)).2, ← hstep, hlen]
  unfold pPut
  cases g.shape hyb.1 hyb.2 with
  | letter b _ _ e =>
    rw [e] at fin ⊢
    rw [if_pos (by rfl)]
    refine fin (mkLetter b) ?_
    simp [mvr, mkLetter, p0]
  | pair l r a1 a2 a3 a4 a5 e =>
    obtain ⟨j1, h1, g1, e1⟩ := hc.ref g hk (x := l) (by rw [e]; simp [refs, mkPair])
    obtain ⟨j2, h2, g2, e2⟩ := hc.ref g hk (x := r) (by rw [e]; simp [refs, mkPair])
    rw [e] at fin ⊢
    rw [if_neg (by simp [mvr, mkPair]), if_pos (by rfl)]
    have q1 : atI (ups k) (mvr ids (mkPair T l r).1).2.2.1 = (j1 : Int) + 1 := by
      show atI _ (pos ids l) = _
      rw [e1]; exact ups_at (j := j1 + 1) (by omega)
    have q2 : atI (ups k) (mvr ids (mkPair T l r).1).2.2.2.1 = (j2 : Int) + 1 := by
      show atI _ (pos ids r) = _
      rw [e2]; exact ups_at (j := j2 + 1) (by omega)
    have w1 := copy_at (T := T) g1 h1
    have w2 := copy_at (T := T) g2 h2
    rw [q1, q2]
    unfold pPair
    have kl : known ((copy T ids).take k) ((j1 : Int) + 1) = true := decide_eq_true (by rw [hlen]; omega)
    have kr : known ((copy T ids).take k) ((j2 : Int) + 1) = true := decide_eq_true (by rw [hlen]; omega)
    rw [kl, kr, if_neg (by simp), if_neg (by omega), if_neg (by omega), w1, w2, if_neg (by simp only; omega)]
    refine fin _ ?_
    unfold mkPair
    rw [w1, w2]
    simp only [mvr, e1, e2]
  | power x n a1 a2 a3 a4 e =>
    obtain ⟨j1, h1, g1, e1⟩ := hc.ref g hk (x := x) (by rw [e]; simp [refs, mkPower])
    rw [e] at fin ⊢
    rw [if_neg (by simp [mvr, mkPower]), if_neg (by simp [mvr, mkPower])]
    have q1 : atI (ups k) (mvr ids (mkPower T x n).1).2.2.1 = (j1 : Int) + 1 := by
      show atI _ (pos ids x) = _
      rw [e1]; exact ups_at (j := j1 + 1) (by omega)
    have w1 := copy_at (T := T) g1 h1
    rw [q1]
    show pPower _ most _ n = _
    unfold pPower
    have kx : known ((copy T ids).take k) ((j1 : Int) + 1) = true := decide_eq_true (by rw [hlen]; omega)
    rw [kx, if_neg (by simp; omega), if_neg (by omega), if_neg (by omega), w1, if_neg (by simp only; omega)]
    refine fin _ ?_
    unfold mkPower
    rw [w1]
    simp only [mvr, e1, p0]
theorem pImps_copy (g : Grow T) (hc : Closed T ids) (hm : (ids.length : Int) ≤ most) : ∀ (d k : Nat), k + d = ids.length → pImps ((copy T ids).take k) most ((exp T ids).drop k) (ups k) = (copy T ids, ((ids.length : Int), .nilIface))
  | 0, k, hk => by
    have : k = ids.length := by omega
    subst this
    rw [show (exp T ids).drop ids.length = [] by rw [← exp_len T ids, List.drop_length]]
    have : (copy T ids).take ids.length = copy T ids := by rw [← copy_len (T := T), List.take_length]
    rw [this]
    unfold pImps
    congr 2
    unfold ups
    rw [List.range_succ, List.map_append]
    simp
  | d + 1, k, hk => by
    have hkl : k < ids.length := by omega
    obtain ⟨y, hy⟩ : ∃ y, ids[k]? = some y := ⟨_, List.getElem?_eq_getElem hkl⟩
    have hd : (exp T ids).drop k = mvr ids (eAt T y).1 :: (exp T ids).drop (k + 1) := by
      have h := exp_get (T := T) hy
      have hl := (List.getElem?_eq_some_iff.1 h).1
      rw [List.drop_eq_getElem_cons hl, (List.getElem?_eq_some_iff.1 h).2]
    rw [hd, pImps_cons, pPut_copy g hc hy (by omega), if_pos (by rfl)]
    show pImps _ most _ (ups k ++ [((k : Int) + 1)]) = _
    rw [← ups_succ]
    exact pImps_copy g hc hm d (k + 1) (by omega)
theorem pImport_copy (g : Grow T) (hc : Closed T ids) (hm : (ids.length : Int) ≤ most) : pImport [] most (exp T ids) = (copy T ids, ((ids.length : Int), .nilIface)) := by
  unfold pImport
  rw [if_pos (bad_exp g hc)]
  have := pImps_copy (most := most) g hc hm ids.length 0 (by omega)
  simpa [ups] using this

end Go.Proofs.Ytbghccafigmnjaa

/- A copy exports the same; the walk of InternMoves. -/
set_option linter.unusedVariables false
set_option linter.unusedSimpArgs false
namespace Go.Proofs.Ytbghccafigmnjaa
open Go.Den

variable {w0 w : World} {T : List ET} {ids : List Int} {most : Int}

theorem mvr_byte (g : Grow T) {y : Int} (h1 : 1 ≤ y) (h2 : y ≤ T.length) : 0 ≤ (mvr ids (eAt T y).1).2.1 ∧ (mvr ids (eAt T y).1).2.1 < 256 := by
  cases g.shape h1 h2 with
  | letter b h3 h4 e => rw [e]; exact ⟨h3, h4⟩
  | pair l r _ _ _ _ _ e => rw [e]; simp [mvr, mkPair]
  | power x k _ _ _ _ e => rw [e]; simp [mvr, mkPower]
theorem copy_grow (g : Grow T) (hc : Closed T ids) : Grow (copy T ids) := by
  have key : ∀ k : Nat, k ≤ ids.length → Grow ((copy T ids).take k) := by
    intro k
    induction k with
    | zero => intro _; exact .nil
    | succ k ih =>
      intro hk
      obtain ⟨y, hy⟩ : ∃ y, ids[k]? = some y := ⟨_, List.getElem?_eq_getElem hk⟩
      have hyb := hc.bound y (List.mem_of_getElem? hy)
      have hlen : ((copy T ids).take k).length = k := by rw [List.length_take, copy_len]; omega
      have := (pPut_grow (most := (k : Int) + 1) (ids := ups k) (r := mvr ids (eAt T y).1) (ih (by omega)) (by rw [hlen]; omega) (mvr_byte g hyb.1 hyb.2)).1
      rw [pPut_copy g hc hy (by omega)] at this
      exact this
  have := key ids.length (Nat.le_refl _)
  rwa [← copy_len (T := T), List.take_length] at this
theorem eAt_copy {k : Nat} {y : Int} (hk : ids[k]? = some y) : eAt (copy T ids) ((k : Int) + 1) = (mvr ids (eAt T y).1, (eAt T y).2) := by
  have h := copy_at (T := T) hk (m := ids.length) (List.getElem?_eq_some_iff.1 hk).1
  rwa [← copy_len (T := T), List.take_length] at h
theorem refs_mvr (g : Grow T) (hc : Closed T ids) {y x : Int} (hy : y ∈ ids) (hx : x ∈ refs (eAt T y).1) : pos ids x ∈ refs (mvr ids (eAt T y).1) := by
  have hyb := hc.bound y hy
  cases g.shape hyb.1 hyb.2 with
  | letter b _ _ e => rw [e] at hx; simp [refs, mkLetter] at hx
  | pair l r _ _ _ _ _ e =>
    rw [e] at hx ⊢
    have : x = l ∨ x = r := by simpa [refs, mkPair] using hx
    rcases this with rfl | rfl <;> simp [refs, mvr, mkPair]
  | power a k _ _ _ _ e =>
    rw [e] at hx ⊢
    have : x = a := by simpa [refs, mkPower] using hx
    subst this; simp [refs, mvr, mkPower]
def upTo (n : Nat) : List Int := (List.range n).map fun i : Nat => (i : Int) + 1
theorem upTo_get {n k : Nat} (h : k < n) : (upTo n)[k]? = some ((k : Int) + 1) := by
  unfold upTo
  rw [List.getElem?_map, List.getElem?_range h]; rfl
theorem upTo_mem {n : Nat} {x : Int} : x ∈ upTo n ↔ 1 ≤ x ∧ x ≤ n := by
  unfold upTo
  rw [List.mem_map]
  constructor
  · rintro ⟨i, hi, rfl⟩
    have := List.mem_range.1 hi; omega
  · intro h
    exact ⟨(x - 1).toNat, List.mem_range.2 (by omega), by omega⟩
theorem upTo_sorted (n : Nat) : (upTo n).Pairwise (fun x y => x < y) := by
  unfold upTo
  rw [List.pairwise_map]
  exact List.pairwise_lt_range.imp fun h => by omega
theorem upTo_pos {n : Nat} {x : Int} (h0 : 0 ≤ x) (h : x ≤ n) : pos (upTo n) x = x := by
  by_cases c : x = 0
  · subst c
    exact pos_none fun hm => by have := (upTo_mem.1 hm).1; omega
  · have := pos_some ((upTo_sorted n).imp fun h => by omega) (upTo_get (n := n) (k := (x - 1).toNat) (by omega))
    rw [show (((x - 1).toNat : Nat) : Int) + 1 = x by omega] at this
    exact this
theorem pos_bound (hc : Closed T ids) (x : Int) : 0 ≤ pos ids x ∧ pos ids x ≤ ids.length := by
  by_cases h : x ∈ ids
  · obtain ⟨j, hj⟩ := List.getElem?_of_mem h
    have := (List.getElem?_eq_some_iff.1 hj).1
    rw [pos_some hc.nodup hj]; omega
  · rw [pos_none h]; omega
/-- the copy of what one rule reaches, exported from its last rule -/
theorem exp_copy (g : Grow T) {id : Int} (h0 : 0 ≤ id) (h1 : id ≤ T.length) : exp (copy T (rlist T [id])) (rlist (copy T (rlist T [id])) [((rlist T [id]).length : Int)]) = exp T (rlist T [id]) ∧ ((0 : Int) :: rlist T [id]).getLastD 0 = id := by
  have hS : ∀ x ∈ [id], 0 ≤ x ∧ x ≤ (T.length : Int) := fun x hx => by simp at hx; subst hx; exact ⟨h0, h1⟩
  have hc := rlist_closed g hS
  have hmem : ∀ x : Int, x ∈ rlist T [id] ↔ Rch T [id] x := fun x => rlist_mem g hS
  generalize rlist T [id] = ids at *
  have hle : ∀ x, Rch T [id] x → x ≤ id := fun x h => by
    induction h with
    | root h _ => simp at h; omega
    | ref h1 h2 ih =>
      have b := h1.bound g hS
      have := (refs_in g b.1 b.2 h2).2
      omega
  by_cases hz : id = 0
  · subst hz
    have he : ids = [] := by
      apply List.eq_nil_iff_forall_not_mem.2
      intro x hx
      have b := hc.bound x hx
      have := hle x ((hmem x).1 hx)
      omega
    subst he
    refine ⟨?_, rfl⟩
    have : rlist (copy T []) [(([] : List Int).length : Int)] = [] := rlist_zero
    rw [this]; rfl
  have hidm : id ∈ ids := (hmem id).2 (.root (by simp) hz)
  obtain ⟨k, hk⟩ := List.getElem?_of_mem hidm
  have hkl := (List.getElem?_eq_some_iff.1 hk).1
  have hlast : k + 1 = ids.length := by
    by_cases h : k + 1 < ids.length
    · have hg : ids[k + 1]? = some ids[k + 1] := List.getElem?_eq_getElem h
      have h2 := (sorted_lt hc.sorted hk hg).2 (by omega)
      have h3 := hle _ ((hmem _).1 (List.getElem_mem h))
      omega
    · omega
  have hlen := copy_len (T := T) (ids := ids)
  have gc := copy_grow g hc
  have hS' : ∀ x ∈ [(ids.length : Int)], 0 ≤ x ∧ x ≤ ((copy T ids).length : Int) := fun x hx => by simp at hx; subst hx; omega
  have hreach : ∀ x : Int, Rch T [id] x → ∀ j : Nat, ids[j]? = some x → Rch (copy T ids) [(ids.length : Int)] ((j : Int) + 1) := by
    intro x hx
    induction hx with
    | root h1 _ =>
      intro j hj
      simp at h1
      subst h1
      have : j = k := (List.getElem_inj hc.nodup (h₀ := (List.getElem?_eq_some_iff.1 hj).1) (h₁ := hkl)).1 (by rw [(List.getElem?_eq_some_iff.1 hj).2, (List.getElem?_eq_some_iff.1 hk).2])
      subst this
      exact .root (by simp; omega) (by omega)
    | @ref y x h1 h2 ih =>
      intro j hj
      have hym := (hmem y).2 h1
      obtain ⟨i, hi⟩ := List.getElem?_of_mem hym
      have := ih i hi
      refine .ref this ?_
      rw [eAt_copy hi]
      have := refs_mvr g hc hym h2
      rwa [pos_some hc.nodup hj] at this
  have hr : rlist (copy T ids) [(ids.length : Int)] = upTo ids.length := by
    refine sorted_unique rlist_sorted (upTo_sorted _) fun x => ?_
    rw [rlist_mem gc hS', upTo_mem]
    constructor
    · intro h
      have := h.bound gc hS'
      omega
    · intro h
      have hg : ids[(x - 1).toNat]? = some ids[(x - 1).toNat] := List.getElem?_eq_getElem (by omega)
      have := hreach _ ((hmem _).1 (List.getElem_mem (by omega))) _ hg
      rwa [show (((x - 1).toNat : Nat) : Int) + 1 = x by omega] at this
  constructor
  · rw [hr]
    apply List.ext_getElem?
    intro i
    by_cases hi : i < ids.length
    · have hg : ids[i]? = some ids[i] := List.getElem?_eq_getElem hi
      rw [exp_get (upTo_get hi), exp_get hg, eAt_copy hg]
      have b1 := pos_bound hc (eAt T ids[i]).1.2.2.1
      have b2 := pos_bound hc (eAt T ids[i]).1.2.2.2.1
      simp only [mvr]
      rw [upTo_pos b1.1 b1.2, upTo_pos b2.1 b2.2]
    · rw [List.getElem?_eq_none (by rw [exp_len]; simp [upTo]; omega), List.getElem?_eq_none (by rw [exp_len]; omega)]
  · rw [List.getLastD_cons, List.getLastD_eq_getLast?, List.getLast?_eq_getElem?, show ids.length - 1 = k by omega, hk]; rfl

theorem ruleOK_exp (g : Grow T) (hc : Closed T ids) : ∀ r ∈ exp T ids, RuleOK r := by
  intro r hr
  obtain ⟨y, hy, rfl⟩ := List.mem_map.1 hr
  have hyb := hc.bound y hy
  refine ⟨mvr_byte g hyb.1 hyb.2, ?_⟩
  show (eAt T y).1.2.2.2.2 ≤ _
  cases g.shape hyb.1 hyb.2 with
  | letter b _ _ e => rw [e]; simp [mkLetter]
  | pair l r _ _ _ _ _ e => rw [e]; simp [mkPair]
  | power x k h1 h2 h3 h4 e =>
    rw [e]
    have hpos := (g.at_ (id := x) (by omega) (by omega)).2.2.2 h1
    have : 1 * k ≤ (eAt T x).2.1.1 * k := Int.mul_le_mul_of_nonneg_right hpos (by omega)
    simp only [mkPower]; omega

end Go.Proofs.Ytbghccafigmnjaa

/- law12: a table after a script; Sweep. -/
set_option linter.unusedVariables false
set_option linter.unusedSimpArgs false
namespace Go.Proofs.Ytbghccafigmnjaa
open Go.Den

variable {w0 w : World} {Ω : List Ob} {most : Int} {T : List ET} {i j a b q r : Nat} {p : Addr} {m : yevergreenref12_Store.T} {mm : List (Int × (Ty.int .i64).T)}

theorem collect_New_sp (s : Sp w0 Ω w) {K : Option Addr → World → Prop} (h : ∀ q r w', Sp w0 (cel q [.pointer (some p), .map (some r)] :: mc (.int .i64) r [] :: Ω) w' → K (some ⟨q, 0, none⟩) w') : C_collect_New (some p) K w := by
  apply S_collect_New
  unfold F_collect_New
  exact gd_f rfl (s.allocC (.int .i64) fun r w1 s => s.allocK fun q w2 s => h q r _ s)
theorem TH.nil : TH T [] [] := ⟨fun y => rfl, by simp, by simp⟩
theorem ctN_cut {held : List Int} {n : Nat} {x : Int} (h : held[n]? = some x) (y : Int) : ctN y (held.take n ++ held.drop (n + 1)) = ctN y held - (if y = x then 1 else 0) := by
  have hn := (List.getElem?_eq_some_iff.1 h).1
  have e : held = held.take n ++ x :: held.drop (n + 1) := by
    have h1 := List.take_append_drop n held
    rw [List.drop_eq_getElem_cons hn] at h1
    rw [(List.getElem?_eq_some_iff.1 h).2] at h1
    exact h1.symm
  unfold ctN
  conv => rhs; rw [e]
  rw [List.count_append, List.count_append, List.count_cons]
  by_cases c : y = x
  · rw [if_pos c]; simp [c]; omega
  · rw [if_neg c]; simp [Ne.symm c]

abbrev ActT := Int × Int
theorem law12_play_spec {rs ssl : Sl} {res : List (Ty.int .i64).T} {script : List ActT} (s : Sp w0 Ω w) (i : Nat) (hi : Ω[i]? = some (sto p most T)) (k : Nat) (hk : Ω[k]? = some (own (.int .i64) rs res)) (hr : 1 ≤ res.length) (hrN : res.length ≤ 1000000) (hv : View yevergreenlaw12_Act w0 ssl script) (hN : script.length ≤ 200) {K : Option Addr × Sl × Bool → World → Prop}
    (h : ∀ q r hsl mm (held : List (Ty.int .i64).T) w', TH T mm held → held.length ≤ script.length → Sp w0 (own (.int .i64) hsl held :: cel q [.pointer (some p), .map (some r)] :: mc (.int .i64) r mm :: Ω) w' → K (some ⟨q, 0, none⟩, hsl, true) w') : C_law12_play (some p) rs ssl K w := by
  apply S_law12_play
  unfold F_law12_play
  have hl := hv.len
  refine collect_New_sp s fun q r w1 s => gd_f rfl ?_
  refine loop_by (fun x => x.2.1) script.length (fun n x w => ∃ mm held, TH T mm held ∧ held.length ≤ n ∧ Sp w0 (own (.int .i64) x.1 held :: cel q [.pointer (some p), .map (some r)] :: mc (.int .i64) r mm :: Ω) w) rfl ⟨[], [], TH.nil, Nat.le_refl _, s.nil (.int .i64)⟩ ?_
  clear s
  rintro n ⟨hsl, x, _⟩ w2 hn hx ⟨mm, held, th, hhl, s⟩ _
  dsimp only at hx s ⊢
  subst hx
  refine gd_dec (fun hlt => ?_) (fun hge => ?_)
  rotate_left
  · have en : n = script.length := by omega
    subst en
    exact h q r hsl mm held _ th hhl s
  have hn' : n < script.length := by omega
  have hget := List.getElem?_eq_getElem hn'
  generalize script[n] = o at hget
  have hhsl := (s.view 0 rfl).len
  refine ⟨fun x w => ∃ mm held, TH T mm held ∧ held.length ≤ n + 1 ∧ Sp w0 (own (.int .i64) x.1 held :: cel q [.pointer (some p), .map (some r)] :: mc (.int .i64) r mm :: Ω) w, ?_, fun x w hxs _ => arith_i64 (by omega) (by omega) (loop_nx hn' hxs)⟩
  refine (hv.ext s.ext).idx rfl hget rfl fun q1 hq1 => ⟨o, hq1, s.allocK fun a8 w4 s => s.st0 0 rfl rfl rfl fun w5 s => s.ldi (x := o.2) 0 1 rfl rfl (s.allocK fun a10 w6 s => ?_)⟩
  refine law12_roots_spec (picks := [o.2]) s (i + 5) hi (k + 5) hk hr hrN (fun w' s => (s.lit (ty := .int .i64) 0 rfl [o.2] 1 rfl rfl).view 0 rfl) (by simp) fun x11 w7 s => ?_
  have e1 : rootL T res [o.2] = [rootP T res o.2] := rfl
  rw [e1] at s
  generalize rootP T res o.2 = id at s
  refine (s.view 0 rfl).idx (n := 0) rfl rfl rfl fun q2 hq2 => ⟨id, hq2, ?_⟩
  have s : Sp w0 (cel a8 (cells yevergreenlaw12_Act o) :: own (.int .i64) hsl held :: cel q [.pointer (some p), .map (some r)] :: mc (.int .i64) r mm :: Ω) w7 := s.drop 2
  refine loop_by (fun x => x.2.1) held.length (fun d x w => ((x.1 = -1 ∧ ∀ j, j < d → held[j]? ≠ some id) ∨ ∃ j : Nat, x.1 = (j : Int) ∧ j < d ∧ held[j]? = some id) ∧ Sp w0 (cel a8 (cells yevergreenlaw12_Act o) :: own (.int .i64) hsl held :: cel q [.pointer (some p), .map (some r)] :: mc (.int .i64) r mm :: Ω) w) rfl ⟨Or.inl ⟨rfl, fun j hj => by omega⟩, s⟩ ?_
  clear s
  rintro d ⟨at_, x, _⟩ w8 hd hx ⟨hat, s⟩ _
  dsimp only at hx hat ⊢
  subst hx
  refine gd_dec (fun hlt2 => ?_) (fun hge2 => ?_)
  · have hd' : d < held.length := by omega
    obtain ⟨z, hz⟩ : ∃ z : Int, held[d]? = some z := ⟨_, List.getElem?_eq_getElem hd'⟩
    refine ⟨fun x w => ((x.1 = -1 ∧ ∀ j, j < d + 1 → held[j]? ≠ some id) ∨ ∃ j : Nat, x.1 = (j : Int) ∧ j < d + 1 ∧ held[j]? = some id) ∧ w = w8, (s.view 1 rfl).idx rfl hz rfl fun q3 hq3 => ⟨z, hq3, gd_eq (fun c => ⟨Or.inr ⟨d, rfl, Nat.lt_succ_self _, c ▸ hz⟩, rfl⟩) (fun c => ⟨?_, rfl⟩)⟩, ?_⟩
    · rcases hat with ⟨h1, h2⟩ | ⟨j, h1, h2, h3⟩
      · refine Or.inl ⟨h1, fun j hj => ?_⟩
        by_cases hjd : j < d
        · exact h2 j hjd
        · have : j = d := by omega
          subst this
          rw [hz]
          exact fun e => c (Option.some.inj e)
      · exact Or.inr ⟨j, h1, by omega, h3⟩
    · rintro ⟨at2, _⟩ w9 ⟨h2, rfl⟩ _
      exact arith_i64 (by omega) (by omega) (loop_nx hd' ⟨h2, s⟩)
  have ed : d = held.length := by omega
  subst ed
  have hcb : ∀ y, 0 ≤ ctN y held ∧ ctN y held ≤ 1000000000 := fun y => by have := ctN_le y held; omega
  have tb : Tb (cel a8 (cells yevergreenlaw12_Act o) :: own (.int .i64) hsl held :: cel q [.pointer (some p), .map (some r)] :: mc (.int .i64) r mm :: Ω) 2 3 (i + 4) q r p most T mm := ⟨rfl, rfl, hi⟩
  refine ⟨fun x w => x.1 = known T id ∧ w = w8, ?_, ?_⟩
  · refine gd_dec (fun h1 => intern_Len_sp s (i + 4) hi ⟨?_, rfl⟩) (fun h1 => ⟨?_, rfl⟩)
    · rw [known]; exact decide_eq_decide.2 (by omega)
    · simp [known]; omega
  rintro ⟨kn, _⟩ w10 ⟨hkn, rfl⟩ _
  dsimp only at hkn ⊢
  subst hkn
  refine s.ldi (x := o.1) 0 0 rfl rfl (ref12_Pick_eq (by decide) (by decide) (gd_dec (fun hold => ?_) (fun hrel => ?_)))
  · -- Hold
    refine Table_Hold_sp tb s th.f hcb (fun hid mm' w13 hf s => ?_) (fun hid w13 s => ?_)
    · rw [show known T id = true from decide_eq_true hid]
      refine JoinP.inl (nilIfc_nil (gd_f rfl (gd_f rfl ?_)))
      intro _
      refine gd_f rfl (JoinP.inl (gd_t rfl ?_))
      intro _
      have s : Sp w0 (cel a8 (cells yevergreenlaw12_Act o) :: own (.int .i64) hsl held :: cel q [.pointer (some p), .map (some r)] :: mc (.int .i64) r mm' :: Ω) w13 := s
      refine gd_ne (fun c0 => ?_) (fun c0 => ?_)
      · refine s.allocK fun a33 w17 s => s.app 2 rfl ((s.lit (ty := .int .i64) 0 rfl [id] 1 rfl rfl).view 0 rfl) (by simp only [List.length_cons, List.length_nil]; omega) fun s34 w18 s => ⟨mm', held ++ [id], ⟨fun y => ?_, fun y hy => ?_, by simp; omega⟩, by simp; omega, s.drop 2⟩
        · rw [hf y]
          dsimp only
          have e : ctN y held + (if id ≠ 0 ∧ y = id then 1 else 0) = ctN y (held ++ [id]) := by
            rw [ctN_snoc]
            by_cases c : id = y
            · rw [if_pos ⟨c0, c.symm⟩, if_pos c]
            · rw [if_neg (fun h => c h.2.symm), if_neg c]
          rw [e]
        · rcases List.mem_append.1 hy with hy | hy
          · exact th.nz y hy
          · simp at hy; subst hy; omega
      · refine ⟨mm', held, ⟨fun y => ?_, th.nz, th.len⟩, by omega, s.pop⟩
        rw [hf y]
        dsimp only
        rw [if_neg (show ¬ (id ≠ 0 ∧ y = id) from fun h => h.1 c0), Int.add_zero]
    · rw [show known T id = false from decide_eq_false hid]
      refine JoinP.inl (nilIfc_err (gd_f rfl (gd_t rfl (is_err (by decide) ?_))))
      intro _
      refine gd_f rfl (JoinP.inl (gd_f rfl ?_))
      intro _
      exact gd_f rfl ⟨mm, held, th, by omega, s.pop⟩
  · -- Release
    refine Table_Release_sp tb s th.f hcb (fun hid hc mm' w13 hf s => ?_) (fun hid hc w13 s => ?_) (fun hid w13 s => ?_)
    · rw [show known T id = true from decide_eq_true hid]
      have hm : id ∈ held := by
        have : 0 < held.count id := by unfold ctN at hc; omega
        exact List.count_pos_iff.1 this
      obtain ⟨j0, hj0⟩ := List.getElem?_of_mem hm
      obtain ⟨j, rfl, hjl, hj⟩ : ∃ j : Nat, at_ = (j : Int) ∧ j < held.length ∧ held[j]? = some id := by
        rcases hat with ⟨_, h2⟩ | h
        · exact absurd hj0 (h2 j0 (List.getElem?_eq_some_iff.1 hj0).1)
        · exact h
      have s : Sp w0 (cel a8 (cells yevergreenlaw12_Act o) :: own (.int .i64) hsl held :: cel q [.pointer (some p), .map (some r)] :: mc (.int .i64) r mm' :: Ω) w13 := s
      have hcap := (s.own_ 1 rfl).cap
      refine gd_f rfl (gd_f (decide_eq_false (by omega)) (nilIfc_nil (gd_f rfl (s.drawK fun w22 s => ?_))))
      refine View.part (ty := .int .i64) (xs := held) (l := 0) (h := j) hhsl (Or.inl ⟨rfl, rfl⟩) (Or.inr rfl) (by omega) (by omega) hcap fun s39 v39 _ => arith_i64 (by omega) (by omega) ?_
      refine View.part (ty := .int .i64) (xs := held) (l := j + 1) (h := held.length) hhsl (Or.inr rfl) (Or.inl ⟨rfl, rfl⟩) (by omega) (by omega) hcap fun s41 v41 _ => ?_
      have v39' : ∀ w', View (.int .i64) w' hsl held → View (.int .i64) w' s39 (held.take j) := v39
      have v41' : ∀ w', View (.int .i64) w' hsl held → View (.int .i64) w' s41 (held.drop (j + 1)) := fun w' v => by have := v41 w' v; rwa [List.take_length] at this
      refine s.allocK fun a42 w23 s => (s.lit (ty := .int .i64) 0 rfl [] 0 rfl rfl).app 0 rfl (v39' _ (s.view 2 rfl)) (by simp only [List.length_nil, List.length_take]; omega) fun s43 w24 s => s.app 0 rfl (v41' _ (s.view 2 rfl)) (by simp only [List.nil_append, List.length_take, List.length_drop]; omega) fun s44 w25 s => ?_
      refine ⟨mm', held.take j ++ held.drop (j + 1), ⟨fun y => ?_, fun y hy => ?_, by simp only [List.length_append, List.length_take, List.length_drop]; omega⟩, by simp only [List.length_append, List.length_take, List.length_drop]; omega, s.pick [0, 3, 4] 5 rfl (by decide)⟩
      · rw [hf y]
        dsimp only
        rw [ctN_cut hj]
      · rcases List.mem_append.1 hy with hy | hy
        · exact th.nz y (List.mem_of_mem_take hy)
        · exact th.nz y (List.mem_of_mem_drop hy)
    · rw [show known T id = true from decide_eq_true hid]
      have hneg : at_ = -1 := by
        rcases hat with ⟨h1, _⟩ | ⟨j, _, _, hj⟩
        · exact h1
        · exfalso
          have : 0 < held.count id := List.count_pos_iff.2 (List.mem_of_getElem? hj)
          unfold ctN at hc; omega
      subst hneg
      exact gd_f rfl (gd_t rfl (is_err (by decide) (gd_f rfl ⟨mm, held, th, by omega, s.pop⟩)))
    · rw [show known T id = false from decide_eq_false hid]
      exact gd_t rfl (is_err (by decide) (gd_f rfl ⟨mm, held, th, by omega, s.pop⟩))

/-! ### Moved rules -/
def toL (N : Nat) (ids : List Int) : List (Ty.int .i64).T := (List.range (N + 1)).map fun y : Nat => pos ids (y : Int)
theorem toL_len (N : Nat) (ids : List Int) : (toL N ids).length = N + 1 := by simp [toL]
theorem toL_get {N : Nat} {ids : List Int} {y : Int} (h0 : 0 ≤ y) (h : y ≤ N) : (toL N ids)[y.toNat]? = some (pos ids y) := by
  unfold toL
  rw [List.getElem?_map, List.getElem?_range (by omega), Option.map_some, show ((y.toNat : Nat) : Int) = y by omega]
theorem toL_nil (N : Nat) : toL N [] = List.replicate (N + 1) (0 : Int) := by
  apply List.ext_getElem?
  intro k
  by_cases h : k < N + 1
  · rw [List.getElem?_replicate, if_pos h]
    have := toL_get (N := N) (ids := []) (y := (k : Int)) (by omega) (by omega)
    rw [show ((k : Int)).toNat = k by omega] at this
    rw [this, pos_none (by simp)]
  · rw [List.getElem?_eq_none (by rw [toL_len]; omega), List.getElem?_eq_none (by simp; omega)]
theorem pos_snoc {ids : List Int} {x : Int} (hx : x ∉ ids) (y : Int) : pos (ids ++ [x]) y = if y = x then (ids.length : Int) + 1 else pos ids y := by
  unfold pos
  rw [ent_append, lk_append, lk_one (kt := .int .i64) (vt := .int .i64) rfl]
  by_cases h : y = x
  · subst h
    rw [if_pos rfl, if_pos rfl, lk_ent_none hx]; rfl
  · rw [if_neg h, if_neg h]
    cases lk (ent ids) y <;> rfl
theorem toL_snoc {N : Nat} {ids : List Int} {x : Int} (hx : x ∉ ids) (h0 : 0 ≤ x) (h : x ≤ N) : (toL N ids).set x.toNat ((ids.length : Int) + 1) = toL N (ids ++ [x]) := by
  apply List.ext_getElem?
  intro k
  by_cases hk : k < N + 1
  · have g1 := toL_get (N := N) (ids := ids) (y := (k : Int)) (by omega) (by omega)
    have g2 := toL_get (N := N) (ids := ids ++ [x]) (y := (k : Int)) (by omega) (by omega)
    rw [show ((k : Int)).toNat = k by omega] at g1 g2
    rw [g2, pos_snoc hx, List.getElem?_set]
    by_cases c : x.toNat = k
    · rw [if_pos c, if_pos (by rw [toL_len]; omega), if_pos (by omega)]
    · rw [if_neg c, if_neg (by omega), g1]
  · rw [List.getElem?_eq_none (by rw [List.length_set, toL_len]; omega), List.getElem?_eq_none (by rw [toL_len]; omega)]
theorem pos_take {ids : List Int} (hn : ids.Nodup) {n j : Nat} {z : Int} (hj : ids[j]? = some z) (h : j < n) : pos (ids.take n) z = pos ids z := by
  rw [pos_some hn hj, pos_some (hn.sublist (List.take_sublist n ids)) (by rw [List.getElem?_take_of_lt h]; exact hj)]
/-- where a rule of a closed list goes -/
theorem mv_take (g : Grow T) {ids : List Int} (hc : Closed T ids) {k : Nat} {y : Int} (hk : ids[k]? = some y) : mvr (ids.take k) (eAt T y).1 = mvr ids (eAt T y).1 := by
  have p0 := pos_zero hc
  have p0' : pos (ids.take k) 0 = 0 := pos_none fun h => hc.nz (List.mem_of_mem_take h)
  have hyb := hc.bound y (List.mem_of_getElem? hk)
  have key : ∀ z, z ∈ Ytbghccafigmnjaa.refs (eAt T y).1 → pos (ids.take k) z = pos ids z := fun z hz => by
    obtain ⟨j, h1, h2, _⟩ := hc.ref g hk hz
    exact pos_take hc.nodup h2 h1
  cases g.shape hyb.1 hyb.2 with
  | letter b _ _ e => rw [e]; simp [mvr, mkLetter, p0, p0']
  | pair l r' _ _ _ _ _ e =>
    have k1 := key l (by rw [e]; simp [refs, mkPair])
    have k2 := key r' (by rw [e]; simp [refs, mkPair])
    rw [e]; simp [mvr, mkPair, k1, k2]
  | power x m _ _ _ _ e =>
    have k1 := key x (by rw [e]; simp [refs, mkPower])
    rw [e]; simp [mvr, mkPower, k1, p0, p0']
theorem rule_Move_sp {tsl : Sl} {ids : List Int} {y : Int} (g : Grow T) (hy : 1 ≤ y ∧ y ≤ (T.length : Int)) (hz : (0 : Int) ∉ ids) (s : Sp w0 Ω w) (hv : ∀ w', Sp w0 Ω w' → View (.int .i64) w' tsl (toL T.length ids)) (hN : T.length ≤ 1048576) {K : RT × Value → World → Prop} (h : ∀ w', Sp w0 Ω w' → K (mvr ids (eAt T y).1, .nilIface) w') : C_rule_Move (eAt T y).1 tsl K w := by
  apply S_rule_Move
  unfold F_rule_Move
  have hl := (hv _ s).len
  rw [toL_len] at hl
  have p0 : pos ids 0 = 0 := pos_none hz
  refine s.allocK fun a1 w1 s => s.allocK fun a2 w2 s => s.ld0 (ty := yapi_Rule) (x := (eAt T y).1) 1 rfl rfl (rule_Refs_spec s fun rl w3 s => ?_)
  have hr2 := refs_len (eAt T y).1
  refine loop_by (fun x => x.1) (refs (eAt T y).1).length (fun n _ w => Sp w0 (own (.int .i64) rl (refs (eAt T y).1) :: cel a2 [.int .i64 0, .int .u8 0, .int .i64 0, .int .i64 0, .int .i64 0] :: cel a1 (cells yapi_Rule (eAt T y).1) :: Ω) w) rfl s ?_
  clear s
  rintro n ⟨x, _⟩ w4 hn hx s _
  dsimp only at hx ⊢
  subst hx
  have hrl := (s.view 0 rfl).len
  refine gd_dec (fun hlt => ?_) (fun hge => ?_)
  · have hn' : n < (refs (eAt T y).1).length := by omega
    obtain ⟨z, hz⟩ : ∃ z : Int, (refs (eAt T y).1)[n]? = some z := ⟨_, List.getElem?_eq_getElem hn'⟩
    have hzb := refs_in g hy.1 hy.2 (List.mem_of_getElem? hz)
    refine (s.view 0 rfl).idx rfl hz rfl fun q hq => ⟨z, hq, JoinP.inl (gd_f (decide_eq_false (by omega)) ?_)⟩
    intro _
    exact gd_f (decide_eq_false (by omega)) (arith_i64 (by omega) (by omega) (loop_nx hn' s))
  have s := s.pop
  refine ⟨fun _ w => Sp w0 (cel a2 [.int .i64 0, .int .u8 0, .int .i64 0, .int .i64 0, .int .i64 0] :: cel a1 (cells yapi_Rule (mvr ids (eAt T y).1)) :: Ω) w, ?_, fun _ w7 s _ => s.ld0 (ty := yapi_Rule) (x := mvr ids (eAt T y).1) 1 rfl rfl (s.st0 0 rfl rfl rfl fun w12 s => s.ld0 (ty := yapi_Rule) (x := mvr ids (eAt T y).1) 0 rfl rfl (h _ (s.drop 2)))⟩
  cases g.shape hy.1 hy.2 with
  | letter b h1 h2 e =>
    have em : mvr ids (eAt T y).1 = (eAt T y).1 := by rw [e]; simp [mvr, mkLetter, p0]
    refine s.ldi (x := 1) 1 0 rfl (by rw [e]; rfl) (gd_f rfl (gd_f rfl ?_))
    rw [em]; exact s
  | pair l r' h1 h2 h3 h4 _ e =>
    have g1 := toL_get (N := T.length) (ids := ids) (y := l) (by omega) (by omega)
    have g2 := toL_get (N := T.length) (ids := ids) (y := r') (by omega) (by omega)
    refine s.ldi (x := 2) 1 0 rfl (by rw [e]; rfl) (gd_t rfl (s.drawK fun w8 s => s.ldi (x := l) 1 2 rfl (by rw [e]; rfl) ((hv _ (s.drop 2)).idx (n := l.toNat) (by omega) g1 rfl fun q1 hq1 => ⟨_, hq1, s.ldi (x := r') 1 3 rfl (by rw [e]; rfl) ((hv _ (s.drop 2)).idx2 (n := r'.toNat) (by omega) g2 rfl fun q2 hq2 => ⟨_, hq2 _ (hv _ (s.drop 2)), ?_⟩)⟩)))
    rw [e] at s ⊢
    exact s.st 1 2 rfl rfl rfl fun w9 s => ⟨hq2 _ (hv _ (s.drop 2)), s.st 1 3 rfl rfl rfl fun w10 s => s⟩
  | power x m h1 h2 _ _ e =>
    have g1 := toL_get (N := T.length) (ids := ids) (y := x) (by omega) (by omega)
    refine s.ldi (x := 3) 1 0 rfl (by rw [e]; rfl) (gd_f rfl (gd_t rfl (s.ldi (x := x) 1 2 rfl (by rw [e]; rfl) ((hv _ (s.drop 2)).idx (n := x.toNat) (by omega) g1 rfl fun q1 hq1 => ⟨_, hq1, ?_⟩))))
    rw [e] at s ⊢
    refine s.st 1 2 rfl rfl rfl fun w9 s => ?_
    have em : cells yapi_Rule (mvr ids (mkPower T x m).1) = [.int .i64 3, .int .u8 0, .int .i64 (pos ids x), .int .i64 0, .int .i64 m] := by simp [mvr, mkPower, p0, cells]
    rw [em]
    exact s

/-! ### Sweep -/
def clampM (most : Int) : Int := if most < 0 then 0 else if 1048576 < most then 1048576 else most
theorem Table_Sweep_sp {held : List Int} {top : Int} (t : Tb Ω a b i q r p most T mm) (th : TH T mm held) (s : Sp w0 Ω w) {K : Option Addr × Sl × Value → World → Prop}
    (h1 : ((rlist T held).length : Int) ≤ clampM top → ∀ p2 tosl w', Sp w0 (sto p2 (clampM top) (Ytbghccafigmnjaa.copy T (rlist T held)) :: own (.int .i64) tosl (toL T.length (rlist T held)) :: Ω) w' → K (some p2, tosl, .nilIface) w')
    (h2 : clampM top < ((rlist T held).length : Int) → ∀ w', Sp w0 Ω w' → K (none, ⟨none, 0, 0⟩, errV 3) w') : C_collect_Table_Sweep (some ⟨q, 0, none⟩) top K w := by
  apply S_collect_Table_Sweep
  unfold F_collect_Table_Sweep
  obtain ⟨_, _, _, hb0, hb1, hb2, hg⟩ := Sp.entry s i t.hi
  have hN : ((T.length : Int) + 1).toNat = T.length + 1 := by omega
  refine Table_none_sp t s (gd_f rfl (nonNil_some (s.ldp (x := some p) a 0 t.ha rfl (intern_Len_sp s i t.hi (arith_i64 (by omega) (by omega) ⟨by omega, by omega, by omega, by omega, s.mkS (.int .i64) (0 : Int) (T.length + 1) (T.length + 1) (Nat.le_refl _) (fun a6 w3 s => ?_) rfl (by rw [hN]; rfl)⟩)))))
  rw [hN]
  refine Table_Live_sp (t.cons _) th s fun lsl w4 s => ?_
  have hc := rlist_closed hg th.known
  have hrl := rlist_len T held
  generalize rlist T held = ids at *
  have hil := (s.view 0 rfl).len
  have hel := exp_len T ids
  have s : Sp w0 (own yapi_Rule ⟨none, 0, 0⟩ ((exp T ids).take 0) :: own (.int .i64) lsl ids :: own (.int .i64) ⟨some ⟨a6, 0, none⟩, T.length + 1, T.length + 1⟩ (toL T.length (ids.take 0)) :: Ω) w4 := by
    rw [List.take_zero, List.take_zero, toL_nil]
    exact s.nil yapi_Rule
  refine loop_by (fun x => x.2.1) ids.length (fun n x w => Sp w0 (own yapi_Rule x.1 ((exp T ids).take n) :: own (.int .i64) lsl ids :: own (.int .i64) ⟨some ⟨a6, 0, none⟩, T.length + 1, T.length + 1⟩ (toL T.length (ids.take n)) :: Ω) w) rfl s ?_
  clear s
  rintro n ⟨out, x, _⟩ w5 hn hx s _
  dsimp only at hx s ⊢
  subst hx
  refine gd_dec (fun hlt => ?_) (fun hge => ?_)
  · have hn' : n < ids.length := by omega
    obtain ⟨y, hy⟩ : ∃ y, ids[n]? = some y := ⟨_, List.getElem?_eq_getElem hn'⟩
    have hyb := hc.bound y (List.mem_of_getElem? hy)
    have hmv := mv_take hg hc hy
    have hz0 : (0 : Int) ∉ ids.take n := fun h => hc.nz (List.mem_of_mem_take h)
    have hyn : y ∉ ids.take n := fun h => by
      obtain ⟨j, hj⟩ := List.getElem?_of_mem h
      have hjl := (List.getElem?_eq_some_iff.1 hj).1
      rw [List.length_take] at hjl
      rw [List.getElem?_take_of_lt (by omega)] at hj
      have := nodup_at hc.nodup hj hy
      omega
    have htk : ids.take (n + 1) = ids.take n ++ [y] := by rw [List.take_add_one, hy]; rfl
    have hetk : (exp T ids).take (n + 1) = (exp T ids).take n ++ [mvr ids (eAt T y).1] := by rw [List.take_add_one, exp_get hy]; rfl
    have htl : (ids.take n).length = n := by rw [List.length_take]; omega
    refine (s.view 1 rfl).idx rfl hy rfl fun q1 hq1 => ⟨y, hq1, nonNil_some (s.ldp (x := some p) (a + 3) 0 t.ha rfl (intern_Rule_k s (i + 3) t.hi hyb fun w6 s => s.allocK fun a15 w7 s => s.st0 0 rfl rfl rfl fun w8 s => nilIfc_nil (gd_f rfl (s.ld0 (ty := yapi_Rule) (x := (eAt T y).1) 0 rfl rfl ?_))))⟩
    refine rule_Move_sp hg hyb hz0 s (fun w' s => s.view 3 rfl) (by omega) fun w9 s => s.st0 0 rfl rfl rfl fun w10 s => nilIfc_nil (gd_f rfl ?_)
    rw [hmv] at s
    refine s.ld0 (ty := yapi_Rule) (x := mvr ids (eAt T y).1) 0 rfl rfl (s.allocK fun a21 w11 s => s.app 2 rfl ((s.lit (ty := yapi_Rule) 0 rfl [mvr ids (eAt T y).1] 1 rfl rfl).view 0 rfl) (by simp only [List.length_take, List.length_cons, List.length_nil]; omega) fun s22 w12 s => arith_i64 (by omega) (by omega) ?_)
    refine s.setI 4 rfl (n := y.toNat) (y := (n : Int) + 1) (by omega) (by rw [toL_len]; omega) fun w13 s => arith_i64 (by omega) (by omega) (loop_nx hn' ?_)
    have e2 := toL_snoc (N := T.length) hyn (by omega) hyb.2
    rw [htl] at e2
    rw [htk, hetk, ← e2]
    exact s.drop 2
  have en : n = ids.length := by omega
  subst en
  rw [List.take_length, ← hel, List.take_length] at s
  have hol := (s.view 0 rfl).len
  refine intern_New_sp s fun p2 w14 s => intern_Room_sp s 0 rfl fun w15 s => ?_
  have s : Sp w0 (sto p2 (clampM top) [] :: own yapi_Rule out (exp T ids) :: own (.int .i64) lsl ids :: own (.int .i64) ⟨some ⟨a6, 0, none⟩, T.length + 1, T.length + 1⟩ (toL T.length ids) :: Ω) w15 := s
  have h1' : ((ids.length : Int) ≤ clampM top) → _ := h1
  have h2' : (clampM top < (ids.length : Int)) → _ := h2
  have eroom : (if top < 0 then 0 else if 1048576 < top then 1048576 else top) - ((([] : List ET).length : Nat) : Int) = clampM top := by unfold clampM; simp
  rw [eroom]
  refine gd_dec (fun c => h2 (by omega) _ (s.drop 4)) (fun c => ?_)
  have hro := ruleOK_exp hg hc
  refine intern_Import_sp hro (by omega) s 0 rfl (fun w' Ω' s => s.view (Ω'.length + 1) (by rw [List.getElem?_append_right (by omega)]; simp)) (fun w' Ω' T' s => s.view (Ω'.length + 1) (by rw [List.getElem?_append_right (by omega)]; simp)) fun w16 s => ?_
  rw [pImport_copy hg hc (by omega)] at s ⊢
  exact nilIfc_nil (gd_f rfl (h1 (by omega) p2 _ _ (s.pick [0, 3] 4 rfl (by decide))))

end Go.Proofs.Ytbghccafigmnjaa

/- law12: the specification's Sweep; the walks of CollectHolds, CollectSweeps and CollectNone. -/
set_option linter.unusedVariables false
set_option linter.unusedSimpArgs false
namespace Go.Proofs.Ytbghccafigmnjaa
open Go.Den

variable {w0 w : World} {Ω : List Ob} {most : Int} {T : List ET} {i j a b q r : Nat} {p : Addr} {m : yevergreenref12_Store.T} {mm : List (Int × (Ty.int .i64).T)}

theorem trues_pre (inl : List Ty.bool.T) : ∀ n k, n ≤ k → trues inl n <+: trues inl k := by
  intro n k h
  induction h with
  | refl => exact List.prefix_refl _
  | step _ ih => rw [Nat.succ_eq_add_one, trues_succ]; exact ih.trans (List.prefix_append _ _)
def mvL (T : List ET) (ids L : List Int) : List yapi_Rule.T := L.map fun y => mvr ids (eAt T y).1
theorem mvL_len (T : List ET) (ids L : List Int) : (mvL T ids L).length = L.length := List.length_map _
theorem ref12_Sweep_spec {rsl : Sl} {S : List Int} (g : Grow T) (hS : Known_ T S) (s : Sp w0 Ω w) (j : Nat) (hj : Ω[j]? = some (rf2 m T)) (hl : T.length ≤ 1048576) (hv : ∀ w', Sp w0 Ω w' → View (.int .i64) w' rsl S) (hSN : S.length ≤ 1000000000) {K : Sl × Sl → World → Prop}
    (h : ∀ out tosl w', Sp w0 (own yapi_Rule out (exp T (rlist T S)) :: own (.int .i64) tosl (toL T.length (rlist T S)) :: Ω) w' → K (out, tosl) w') : C_ref12_Sweep m rsl K w := by
  apply S_ref12_Sweep
  unfold F_ref12_Sweep
  have hlen := (Sp.rf2_ s j hj).1.len
  rw [rulesOf_len] at hlen
  have hN : ((m.1.len : Int) + 1).toNat = T.length + 1 := by omega
  refine s.allocK fun a1 w1 s => s.ld0 (ty := yevergreenref12_Store) (x := m) 0 rfl rfl (ref12_Reach_spec g s (j + 1) hj hl (fun w' s => hv _ s.pop) hSN (fun _ isl inl w2 hmb s => ?_) (fun hn => absurd hS hn))
  have hil := hmb.1
  have hend := trues_rlist g hS hmb
  rw [hil] at hend
  have hc := rlist_closed g hS
  rw [← hend] at h hc
  have t1 : trues inl 1 = [] := by
    obtain ⟨b, hb, hbi⟩ := hmb.2 0 (by omega)
    have : b = false := by
      cases b
      · rfl
      · exact absurd rfl (hbi.1 rfl).1
    subst this
    rw [trues_succ, List.getD_eq_getElem?_getD, hb]; rfl
  generalize hids : trues inl (T.length + 1) = ids at h hc
  refine s.lds (x := m.1) 1 0 rfl rfl (arith_i64 (by omega) (by omega) ⟨by omega, by omega, by omega, by omega, s.mkS (.int .i64) (0 : Int) (T.length + 1) (T.length + 1) (Nat.le_refl _) (fun a6 w3 s => ?_) rfl (by rw [hN]; rfl)⟩)
  rw [hN]
  refine loop_from 1 (fun x => x.2.1) T.length (fun n x w => Sp w0 (own yapi_Rule x.1 (mvL T ids (trues inl (n + 1))) :: own (.int .i64) ⟨some ⟨a6, 0, none⟩, T.length + 1, T.length + 1⟩ (toL T.length (trues inl (n + 1))) :: own .bool isl inl :: cel a1 (cells yevergreenref12_Store m) :: Ω) w) rfl (by rw [t1, toL_nil]; exact s.nil yapi_Rule) ?_
  clear s
  rintro n ⟨out, x, _⟩ w4 hn hx s _
  dsimp only at hx s ⊢
  subst hx
  have htl := trues_len inl (n + 1)
  refine s.lds (x := m.1) 3 0 rfl rfl (gd_dec (fun hle => ?_) (fun hgt => ?_))
  rotate_left
  · have en : n = T.length := by omega
    subst en
    rw [hids] at s
    exact h _ _ _ (s.pick [0, 1] 4 rfl (by decide))
  have hn' : n < T.length := by omega
  obtain ⟨b, hb, hbi⟩ := hmb.2 (n + 1) (by omega)
  have hbd : inl.getD (n + 1) false = b := by rw [List.getD_eq_getElem?_getD, hb]; rfl
  refine ⟨fun x w => Sp w0 (own yapi_Rule x.1 (mvL T ids (trues inl (n + 1 + 1))) :: own (.int .i64) ⟨some ⟨a6, 0, none⟩, T.length + 1, T.length + 1⟩ (toL T.length (trues inl (n + 1 + 1))) :: own .bool isl inl :: cel a1 (cells yevergreenref12_Store m) :: Ω) w, (s.view 2 rfl).idx (n := n + 1) (by omega) hb rfl fun q hq => ⟨b, hq, gd_not (gd_mk (fun e => ?_) (fun e => ?_))⟩, fun x w s _ => arith_i64 (by omega) (by omega) (loop_fx hn' s)⟩
  rotate_left
  · rw [trues_succ, hbd, e]
    simpa using s
  have htk : trues inl (n + 1 + 1) = trues inl (n + 1) ++ [((n + 1 : Nat) : Int)] := by rw [trues_succ, hbd, e]; rfl
  -- the rule's references are behind it already
  have hpre : trues inl (n + 1 + 1) <+: ids := by rw [← hids]; exact trues_pre inl _ _ (by omega)
  have hat : ids[(trues inl (n + 1)).length]? = some ((n + 1 : Nat) : Int) := by
    obtain ⟨u, hu⟩ := hpre
    rw [← hu, htk]
    simp
  have htake : ids.take (trues inl (n + 1)).length = trues inl (n + 1) := by
    obtain ⟨u, hu⟩ := hpre
    rw [← hu, htk]
    simp
  have hmv := mv_take g hc hat
  rw [htake] at hmv
  have hget := rulesOf_get (T := T) hn'
  rw [show (n : Int) + 1 = ((n + 1 : Nat) : Int) by omega] at hget
  have hyb := hc.bound _ (List.mem_of_getElem? hat)
  have hz0 : (0 : Int) ∉ trues inl (n + 1) := fun h0 => hc.nz (by rw [← htake] at h0; exact List.mem_of_mem_take h0)
  have hyn : ((n + 1 : Nat) : Int) ∉ trues inl (n + 1) := fun hm => by
    obtain ⟨k, hk, hkl, _⟩ := (show ((n + 1 : Nat) : Int) ∈ trues inl (n + 1) → ∃ k : Nat, ((n + 1 : Nat) : Int) = k ∧ k < n + 1 ∧ True from fun hm => by
      unfold trues at hm
      obtain ⟨k, hk, e⟩ := List.mem_map.1 hm
      have := List.mem_range.1 (List.mem_filter.1 hk).1
      exact ⟨k, e.symm, this, trivial⟩) hm
    omega
  have p0 : pos (trues inl (n + 1)) 0 = 0 := pos_none hz0
  have eid : (1 : Int) + (n : Int) = ((n + 1 : Nat) : Int) := by omega
  have e2 := toL_snoc (N := T.length) hyn (by omega) hyb.2
  rw [htk]
  have em : mvL T ids (trues inl (n + 1) ++ [((n + 1 : Nat) : Int)]) = mvL T ids (trues inl (n + 1)) ++ [mvr ids (eAt T ((n + 1 : Nat) : Int)).1] := by simp [mvL]
  rw [em, ← e2]
  rw [eid]
  have htl2 : (trues inl (n + 1)).length ≤ n + 1 := htl
  have hsh := g.shape hyb.1 hyb.2
  generalize hL : trues inl (n + 1) = L at *
  have hn1 : (((n + 1 : Nat) : Int)).toNat = n + 1 := by omega
  have hnidx : (((n + 1 : Nat) : Int)) - 1 = (n : Int) := by omega
  generalize hy : ((n + 1 : Nat) : Int) = y at *
  refine s.lds (x := m.1) 3 0 rfl rfl (arith_i64 (by omega) (by omega) ((Sp.rf2_ s (j + 4) hj).1.idx (n := n) hnidx hget rfl fun q1 hq1 => ⟨_, hq1, s.allocK fun a18 w6 s => s.st0 0 rfl rfl rfl fun w7 s => ?_⟩))
  have fin : ∀ w, Sp w0 (cel a18 (cells yapi_Rule (mvr ids (eAt T y).1)) :: own yapi_Rule out (mvL T ids L) :: own (.int .i64) ⟨some ⟨a6, 0, none⟩, T.length + 1, T.length + 1⟩ (toL T.length L) :: own .bool isl inl :: cel a1 (cells yevergreenref12_Store m) :: Ω) w →
      ∃ x34 : yapi_Rule.T, At w ⟨a18, 0, none⟩ (cells yapi_Rule x34) ∧ Go.Den.allocK (.cells (cells yapi_Rule x34).toArray t_api_Rule) w fun a35 w13 => appK t_api_Rule 5 40 #[.int .i64 (0 : Int), .int .u8 (0 : Int), .int .i64 (0 : Int), .int .i64 (0 : Int), .int .i64 (0 : Int)] out.a out.len out.cap (.slice (some a35) 1 1) 1 w13 fun s36 w14 =>
        idxK (some ⟨a6, 0, none⟩) (T.length + 1) y 1 fun p37 => stK w14 p37 ([.int .i64 (s36.len : Int)]) fun w15 => Sp w0 (own yapi_Rule s36 (mvL T ids L ++ [mvr ids (eAt T y).1]) :: own (.int .i64) ⟨some ⟨a6, 0, none⟩, T.length + 1, T.length + 1⟩ ((toL T.length L).set y.toNat ((L.length : Int) + 1)) :: own .bool isl inl :: cel a1 (cells yevergreenref12_Store m) :: Ω) w15 := by
    intro w s
    refine s.ld0 (ty := yapi_Rule) (x := mvr ids (eAt T y).1) 0 rfl rfl (s.allocK fun a35 w13 s => s.app 2 rfl ((s.lit (ty := yapi_Rule) 0 rfl [mvr ids (eAt T y).1] 1 rfl rfl).view 0 rfl) (by rw [mvL_len]; simp only [List.length_cons, List.length_nil]; omega) fun s36 w14 s => ?_)
    have hol := (s.view 2 rfl).len
    rw [List.length_append, mvL_len] at hol
    have : (s36.len : Int) = (L.length : Int) + 1 := by rw [hol]; simp
    rw [this]
    exact s.setI 3 rfl (n := y.toNat) (y := (L.length : Int) + 1) (by omega) (by rw [toL_len]; omega) fun w15 s => s.drop 2
  cases hsh with
  | letter b h1 h2 e =>
    have em2 : mvr ids (eAt T y).1 = (eAt T y).1 := by rw [← hmv, e]; simp [mvr, mkLetter, p0]
    refine JoinP.inl (JoinP.inl (s.ldi (x := 1) 0 0 rfl (by rw [e]; rfl) (gd_f rfl (s.ldi (x := 1) 0 0 rfl (by rw [e]; rfl) ?_))))
    intro _
    refine gd_f rfl ?_
    intro _
    refine JoinP.inl (s.ldi (x := 1) 0 0 rfl (by rw [e]; rfl) (gd_f rfl ?_))
    intro _
    exact fin _ (by rw [em2]; exact s)
  | pair l r' h1 h2 h3 h4 _ e =>
    have g1 := toL_get (N := T.length) (ids := L) (y := l) (by omega) (by omega)
    have g2 := toL_get (N := T.length) (ids := L) (y := r') (by omega) (by omega)
    have hm2 : mvr ids (eAt T y).1 = (2, 0, pos L l, pos L r', 0) := by rw [← hmv, e]; rfl
    refine JoinP.inl (JoinP.inl (s.ldi (x := 2) 0 0 rfl (by rw [e]; rfl) (gd_t rfl ?_)))
    intro _
    refine gd_t rfl (s.ldi (x := l) 0 2 rfl (by rw [e]; rfl) ((s.view 2 rfl).idx (n := l.toNat) (by omega) g1 rfl fun q2 hq2 => ⟨_, hq2, ?_⟩))
    rw [e] at s
    refine s.st 0 2 rfl rfl rfl fun w10 s => ?_
    intro _
    refine JoinP.inl (s.ldi (x := 2) 0 0 rfl rfl (gd_t rfl (s.ldi (x := r') 0 3 rfl rfl ((s.view 2 rfl).idx (n := r'.toNat) (by omega) g2 rfl fun q3 hq3 => ⟨_, hq3, s.st 0 3 rfl rfl rfl fun w11 s => ?_⟩))))
    intro _
    exact fin _ (by rw [hm2]; exact s)
  | power x k h1 h2 _ _ e =>
    have g1 := toL_get (N := T.length) (ids := L) (y := x) (by omega) (by omega)
    have hm2 : mvr ids (eAt T y).1 = (3, 0, pos L x, 0, k) := by rw [← hmv, e]; simp [mvr, mkPower, p0]
    refine JoinP.inl (JoinP.inl (s.ldi (x := 3) 0 0 rfl (by rw [e]; rfl) (gd_f rfl (s.ldi (x := 3) 0 0 rfl (by rw [e]; rfl) ?_))))
    intro _
    refine gd_t rfl (s.ldi (x := x) 0 2 rfl (by rw [e]; rfl) ((s.view 2 rfl).idx (n := x.toNat) (by omega) g1 rfl fun q2 hq2 => ⟨_, hq2, ?_⟩))
    rw [e] at s
    refine s.st 0 2 rfl rfl rfl fun w10 s => ?_
    intro _
    refine JoinP.inl (s.ldi (x := 3) 0 0 rfl rfl (gd_f rfl ?_))
    intro _
    exact fin _ (by rw [hm2]; exact s)

theorem law12_CollectHolds_spec {sl ssl : Sl} {ops : List MakeT} {script : List ActT} (hv : View yevergreenref12_Make w0 sl ops) (ho : ∀ o ∈ ops, MakeOK o) (hvs : View yevergreenlaw12_Act w0 ssl script) {K : Bool → World → Prop} (h : ∀ w', Ext w0 w' → K true w') : C_law12_CollectHolds sl ssl K w0 := by
  apply S_law12_CollectHolds
  unfold F_law12_CollectHolds
  have hlen := hv.len
  have hpl := hvs.len
  refine JoinP.inl (gd_dec (fun c => fun _ => gd_t rfl (h _ (.refl _ _))) (fun c => fun _ => gd_dec (fun c2 => h _ (.refl _ _)) (fun c2 => ?_)))
  refine law12_begun_spec (Sp.init w0) hv ho (by omega) fun p rs w1 s => gd_f rfl ?_
  have hb := bld_ok (most := 1000) (by decide) ho
  have hcnt := hb.cnt
  refine law12_play_spec s 1 rfl 0 rfl (by omega) (by omega) hvs (by omega) fun q r hsl mm held w2 th hhl s => gd_f rfl ?_
  refine ref12_Build_spec (most := 1000) s hv ho (by omega) (by omega) fun m rs' w3 s => s.allocK fun a6 w4 s => s.st0 0 rfl rfl rfl fun w5 s => ?_
  have s : Sp w0 [cel a6 (cells yevergreenref12_Store m), own (.int .i64) hsl held, rf2 m (bld 1000 ops).1, cel q [.pointer (some p), .map (some r)], mc (.int .i64) r mm, sto p 1000 (bld 1000 ops).1] w5 := s.pick [0, 3, 2, 4, 5, 7] 8 rfl (by decide)
  generalize (bld 1000 ops).1 = T at *
  have hT := hb.len
  have hg := hb.grow
  have hrl := rlist_len T held
  refine s.ld0 (ty := yevergreenref12_Store) (x := m) 0 rfl rfl (ref12_Reach_spec hg s 2 rfl (by omega) (fun w' s => s.view 1 rfl) (by omega) (fun _ isl inl w7 hmb s => ?_) (fun hn => absurd th.known hn))
  have hml := (Sp.rf2_ s 3 rfl).1.len
  rw [rulesOf_len] at hml
  have hN : ((m.1.len : Int) + 1).toNat = T.length + 1 := by omega
  have hil := hmb.1
  have hiE := trues_rlist hg th.known hmb
  refine s.lds (x := m.1) 1 0 rfl rfl (arith_i64 (by omega) (by omega) ⟨by omega, by omega, by omega, by omega, s.mkS .bool false (T.length + 1) (T.length + 1) (Nat.le_refl _) (fun a11 w8 s => ?_) rfl (by rw [hN]; rfl)⟩)
  rw [hN]
  refine loop_from (-1) (fun x => x.1) (T.length + 3) (fun n _ w => ∃ il2, MB T.length il2 (fun x => (x : Int) ∈ held ∧ (x : Int) < -1 + (n : Int)) ∧ Sp w0 [own .bool ⟨some ⟨a11, 0, none⟩, T.length + 1, T.length + 1⟩ il2, own .bool isl inl, cel a6 (cells yevergreenref12_Store m), own (.int .i64) hsl held, rf2 m T, cel q [.pointer (some p), .map (some r)], mc (.int .i64) r mm, sto p 1000 T] w) rfl ⟨_, ⟨by simp, fun x hx => ⟨false, by rw [List.getElem?_replicate, if_pos (by omega)], by simp⟩⟩, s⟩ ?_
  clear s
  rintro n ⟨x, _⟩ w9 hn hx ⟨il2, hm2, s⟩ _
  dsimp only at hx ⊢
  subst hx
  have tb : Tb [own .bool ⟨some ⟨a11, 0, none⟩, T.length + 1, T.length + 1⟩ il2, own .bool isl inl, cel a6 (cells yevergreenref12_Store m), own (.int .i64) hsl held, rf2 m T, cel q [.pointer (some p), .map (some r)], mc (.int .i64) r mm, sto p 1000 T] 5 6 7 q r p 1000 T mm := ⟨rfl, rfl, rfl⟩
  have hhsl := (s.view 3 rfl).len
  have hl2 := hm2.1
  refine s.lds (x := m.1) 2 0 rfl rfl (arith_i64 (by omega) (by omega) (gd_dec (fun hle => ?_) (fun hgt => ?_)))
  · have hn' : n < T.length + 3 := by omega
    refine loop_by (fun x => x.2.1) held.length (fun k x w => x.1 = ctN (-1 + (n : Int)) (held.take k) ∧ ∃ il3, MB T.length il3 (fun x => (x : Int) ∈ held ∧ ((x : Int) < -1 + (n : Int) ∨ ((x : Int) = -1 + (n : Int) ∧ (x : Int) ∈ held.take k))) ∧ Sp w0 [own .bool ⟨some ⟨a11, 0, none⟩, T.length + 1, T.length + 1⟩ il3, own .bool isl inl, cel a6 (cells yevergreenref12_Store m), own (.int .i64) hsl held, rf2 m T, cel q [.pointer (some p), .map (some r)], mc (.int .i64) r mm, sto p 1000 T] w) rfl ⟨rfl, il2, hm2.iff fun x hx => by simp, s⟩ ?_
    clear s
    rintro k ⟨acc, x, _⟩ w10 hk hx ⟨hacc, il3, hm3, s⟩ _
    dsimp only at hx hacc ⊢
    subst hx hacc
    have hl3 := hm3.1
    refine gd_dec (fun hlt => ?_) (fun hge => ?_)
    · have hk' : k < held.length := by omega
      obtain ⟨z, hz⟩ : ∃ z : Int, held[k]? = some z := ⟨_, List.getElem?_eq_getElem hk'⟩
      have htk : held.take (k + 1) = held.take k ++ [z] := by rw [List.take_add_one, hz]; rfl
      have hzb := th.nz z (List.mem_of_getElem? hz)
      have hcb := ctN_le (-1 + (n : Int)) (held.take k)
      rw [List.length_take] at hcb
      refine ⟨fun x w => x.1 = ctN (-1 + (n : Int)) (held.take (k + 1)) ∧ ∃ il3, MB T.length il3 (fun x => (x : Int) ∈ held ∧ ((x : Int) < -1 + (n : Int) ∨ ((x : Int) = -1 + (n : Int) ∧ (x : Int) ∈ held.take (k + 1)))) ∧ Sp w0 [own .bool ⟨some ⟨a11, 0, none⟩, T.length + 1, T.length + 1⟩ il3, own .bool isl inl, cel a6 (cells yevergreenref12_Store m), own (.int .i64) hsl held, rf2 m T, cel q [.pointer (some p), .map (some r)], mc (.int .i64) r mm, sto p 1000 T] w, (s.view 3 rfl).idx rfl hz rfl fun q1 hq1 => ⟨z, hq1, gd_eq (fun cz => ?_) (fun cz => ?_)⟩, fun x w hxs _ => arith_i64 (by omega) (by omega) (loop_nx hk' hxs)⟩
      · refine arith_i64 (by omega) (by omega) (s.setI 0 rfl (n := (-1 + (n : Int)).toNat) (y := true) (by omega) (by omega) fun w12 s => ⟨?_, _, (hm3.put true (show (-1 + (n : Int)).toNat ≤ T.length by omega)).iff fun x hx => ?_, s⟩)
        · dsimp only
          rw [htk, ctN_snoc, if_pos cz]
        · rw [htk]
          simp only [List.mem_append, List.mem_singleton]
          by_cases c : x = (-1 + (n : Int)).toNat
          · rw [if_pos c]
            have ex : (x : Int) = z := by omega
            refine ⟨fun _ => ⟨ex ▸ List.mem_of_getElem? hz, Or.inr ⟨by omega, Or.inr ex⟩⟩, fun _ => by first | trivial | rfl⟩
          · rw [if_neg c]
            constructor
            · rintro ⟨h1, h2 | ⟨h2, h3⟩⟩
              · exact ⟨h1, Or.inl h2⟩
              · exact ⟨h1, Or.inr ⟨h2, Or.inl h3⟩⟩
            · rintro ⟨h1, h2 | ⟨h2, h3⟩⟩
              · exact ⟨h1, Or.inl h2⟩
              · omega
      · refine ⟨?_, il3, hm3.iff fun x hx => ?_, s⟩
        · dsimp only
          rw [htk, ctN_snoc, if_neg cz, Int.add_zero]
        · rw [htk]
          simp only [List.mem_append, List.mem_singleton]
          constructor
          · rintro ⟨h1, h2 | ⟨h2, h3⟩⟩
            · exact ⟨h1, Or.inl h2⟩
            · exact ⟨h1, Or.inr ⟨h2, Or.inl h3⟩⟩
          · rintro ⟨h1, h2 | ⟨h2, h3 | h3⟩⟩
            · exact ⟨h1, Or.inl h2⟩
            · exact ⟨h1, Or.inr ⟨h2, h3⟩⟩
            · omega
    · have ek : k = held.length := by omega
      subst ek
      rw [List.take_length] at hm3 ⊢
      refine Table_Held_sp (a := 5) (b := 6) (i := 7) (mm := mm) (T := T) (p := p) (most := 1000) (r := r) (c := fun y => ctN y held) ⟨rfl, rfl, rfl⟩ s th.f (gd_ne (fun c => absurd rfl c) (fun _ => arith_i64 (by omega) (by omega) (loop_fx hn' ⟨il3, hm3.iff fun x hx => ?_, s⟩)))
      constructor
      · rintro ⟨h1, h2 | ⟨h2, h3⟩⟩
        · exact ⟨h1, by omega⟩
        · exact ⟨h1, by omega⟩
      · rintro ⟨h1, h2⟩
        by_cases c : (x : Int) < -1 + (n : Int)
        · exact ⟨h1, Or.inl c⟩
        · exact ⟨h1, Or.inr ⟨by omega, h1⟩⟩
  have en : n = T.length + 3 := by omega
  subst en
  have hm2' : MB T.length il2 (fun x => (x : Int) ∈ held) := hm2.iff fun x hx => ⟨fun h => h.1, fun h => ⟨h, by omega⟩⟩
  have hml2 : mm.length ≤ T.length := by
    have := nodup_bound (L := mm.map (·.1)) (n := T.length) (s.mc_ 6 rfl).nodup fun x hx => th.nz x ((th.mem x).1 hx)
    simpa using this
  refine ref12_List_spec s (fun w' s => s.view 1 rfl) (by omega) fun lsl w14 s => s.drawK fun w15 s => ?_
  rw [hiE] at s
  refine Table_Roots_sp (tb.cons _) s (by omega) fun rl R w16 hR hRm s => ?_
  refine ref12_List_spec s (fun w' s => s.view 2 rfl) (by omega) fun l2 w17 s => ?_
  have eR : trues il2 il2.length = R := by
    rw [hl2]
    refine sorted_unique (trues_sorted _ _) hR fun x => ?_
    rw [hm2'.mem, hRm x, th.mem x]
    constructor
    · rintro ⟨n, rfl, _, h⟩; exact h
    · intro h
      have := th.nz x h
      exact ⟨x.toNat, by omega, by omega, by rwa [show ((x.toNat : Nat) : Int) = x by omega]⟩
  rw [eR] at s
  have hRl : R.length ≤ T.length := nodup_bound (L := R) (hR.imp fun {a b} (h : (a : Int) < b) => Int.ne_of_lt h) fun x hx => th.nz x ((th.mem x).1 ((hRm x).1 hx))
  refine base_IDs_spec s (fun w' s => s.view 1 rfl) (fun w' s => s.view 0 rfl) (by omega) fun w18 s => ?_
  rw [decide_eq_true rfl]
  refine gd_t rfl (Table_Live_sp (((tb.cons _).cons _).cons _) th s fun vl w19 s => base_IDs_spec s (fun w' s => s.view 0 rfl) (fun w' s => s.view 3 rfl) (by omega) fun w20 s => ?_)
  rw [decide_eq_true rfl]
  have hll := (s.view 3 rfl).len
  refine gd_t rfl (s.lds (x := m.1) 6 0 rfl rfl (arith_i64 (by omega) (by omega) (Table_Garbage_sp ((((tb.cons _).cons _).cons _).cons _) th s fun w21 s => ⟨s.still 6 0 rfl rfl, ?_⟩)))
  have : ((T.length : Int) - ((rlist T held).length : Int) == (m.1.len : Int) - (lsl.len : Int)) = true := by simp; omega
  rw [this]
  exact h _ s.ext

end Go.Proofs.Ytbghccafigmnjaa

/- law12: the walks of CollectSweeps, CollectNone, CollectAgain, CollectKeeps. -/
set_option linter.unusedVariables false
set_option linter.unusedSimpArgs false
namespace Go.Proofs.Ytbghccafigmnjaa
open Go.Den

variable {w0 w : World} {Ω : List Ob} {most : Int} {T : List ET} {i j a b q r : Nat} {p : Addr} {m : yevergreenref12_Store.T} {mm : List (Int × (Ty.int .i64).T)}

theorem law12_CollectSweeps_spec {sl ssl : Sl} {top : Int} {ops : List MakeT} {script : List ActT} (hv : View yevergreenref12_Make w0 sl ops) (ho : ∀ o ∈ ops, MakeOK o) (hvs : View yevergreenlaw12_Act w0 ssl script) {K : Bool → World → Prop} (h : ∀ w', Ext w0 w' → K true w') : C_law12_CollectSweeps sl ssl top K w0 := by
  apply S_law12_CollectSweeps
  unfold F_law12_CollectSweeps
  have hlen := hv.len
  have hpl := hvs.len
  refine JoinP.inl (gd_dec (fun c => fun _ => gd_t rfl (h _ (.refl _ _))) (fun c => fun _ => gd_dec (fun c2 => h _ (.refl _ _)) (fun c2 => ?_)))
  refine law12_begun_spec (Sp.init w0) hv ho (by omega) fun p rs w1 s => gd_f rfl ?_
  have hb := bld_ok (most := 1000) (by decide) ho
  have hcnt := hb.cnt
  refine law12_play_spec s 1 rfl 0 rfl (by omega) (by omega) hvs (by omega) fun q r hsl mm held w2 th hhl s => gd_f rfl ?_
  refine ref12_Build_spec (most := 1000) s hv ho (by omega) (by omega) fun m rs' w3 s => s.allocK fun a6 w4 s => s.st0 0 rfl rfl rfl fun w5 s => ?_
  have s : Sp w0 [cel a6 (cells yevergreenref12_Store m), own (.int .i64) hsl held, rf2 m (bld 1000 ops).1, cel q [.pointer (some p), .map (some r)], mc (.int .i64) r mm, sto p 1000 (bld 1000 ops).1] w5 := s.pick [0, 3, 2, 4, 5, 7] 8 rfl (by decide)
  generalize (bld 1000 ops).1 = T at *
  have hT := hb.len
  have hg := hb.grow
  have hrl := rlist_len T held
  have hml := (Sp.rf2_ s 2 rfl).1.len
  rw [rulesOf_len] at hml
  refine s.ld0 (ty := yevergreenref12_Store) (x := m) 0 rfl rfl (ref12_Sweep_spec hg th.known s 2 rfl (by omega) (fun w' s => s.view 1 rfl) (by omega) fun out to2 w7 s => ?_)
  have hel := exp_len T (rlist T held)
  have hol : out.len = (rlist T held).length := (s.view 0 rfl).len.trans hel
  have tb : Tb [own yapi_Rule out (exp T (rlist T held)), own (.int .i64) to2 (toL T.length (rlist T held)), cel a6 (cells yevergreenref12_Store m), own (.int .i64) hsl held, rf2 m T, cel q [.pointer (some p), .map (some r)], mc (.int .i64) r mm, sto p 1000 T] 5 6 7 q r p 1000 T mm := ⟨rfl, rfl, rfl⟩
  dsimp only
  refine Table_Sweep_sp tb th s (fun hle p2 tosl w8 s => ?_) (fun hgt w8 s => ?_)
  rotate_left
  · refine gd_t (decide_eq_true ?_) (gd_t rfl (gd_t rfl (is_err (by decide) (h _ s.ext))))
    unfold clampM at hgt
    split at hgt
    · rename_i c; rw [if_pos c]; omega
    · rename_i c
      rw [if_neg c]
      split at hgt <;> omega
  refine gd_f (decide_eq_false ?_) ?_
  · unfold clampM at hle
    split at hle
    · rename_i c; rw [if_pos c]; omega
    · rename_i c
      rw [if_neg c]
      split at hle <;> omega
  have tb2 := (tb.cons (own (.int .i64) tosl (toL T.length (rlist T held)))).cons (sto p2 (clampM top) (Ytbghccafigmnjaa.copy T (rlist T held)))
  have hgar : ∀ (w : World) (K : Int → World → Prop), Sp w0 [sto p2 (clampM top) (Ytbghccafigmnjaa.copy T (rlist T held)), own (.int .i64) tosl (toL T.length (rlist T held)), own yapi_Rule out (exp T (rlist T held)), own (.int .i64) to2 (toL T.length (rlist T held)), cel a6 (cells yevergreenref12_Store m), own (.int .i64) hsl held, rf2 m T, cel q [.pointer (some p), .map (some r)], mc (.int .i64) r mm, sto p 1000 T] w → (∀ w', Sp w0 [sto p2 (clampM top) (Ytbghccafigmnjaa.copy T (rlist T held)), own (.int .i64) tosl (toL T.length (rlist T held)), own yapi_Rule out (exp T (rlist T held)), own (.int .i64) to2 (toL T.length (rlist T held)), cel a6 (cells yevergreenref12_Store m), own (.int .i64) hsl held, rf2 m T, cel q [.pointer (some p), .map (some r)], mc (.int .i64) r mm, sto p 1000 T] w' → K ((T.length : Int) - ((rlist T held).length : Int)) w') → C_collect_Table_Garbage (some ⟨q, 0, none⟩) K w := fun w K s h => Table_Garbage_sp tb2 th s h
  have hcl := copy_len (T := T) (ids := rlist T held)
  have hget : ∀ (n : Nat), n < (rlist T held).length → ∃ y, (rlist T held)[n]? = some y ∧ (eAt (Ytbghccafigmnjaa.copy T (rlist T held)) ((n : Int) + 1)).1 = mvr (rlist T held) (eAt T y).1 ∧ (exp T (rlist T held))[n]? = some (mvr (rlist T held) (eAt T y).1) := fun n hn => by
    obtain ⟨y, hy⟩ : ∃ y, (rlist T held)[n]? = some y := ⟨_, List.getElem?_eq_getElem hn⟩
    exact ⟨y, hy, by rw [eAt_copy hy], exp_get hy⟩
  generalize rlist T held = ids at *
  generalize hE : exp T ids = E at *
  generalize hC : Ytbghccafigmnjaa.copy T ids = C at *
  have htl := toL_len T.length ids
  refine JoinP.inl (s.drawK fun w11 s => nilIfc_nil (gd_f rfl (gd_f rfl (intern_Len_sp s 0 rfl (gd_ne (fun c => absurd (by omega) c) (fun _ => base_IDs_spec s (fun w' s => s.view 1 rfl) (fun w' s => s.view 3 rfl) (by omega) fun w13 s => ?_))))))
  rw [decide_eq_true rfl]
  refine gd_f rfl (s.lds (x := m.1) 4 0 rfl rfl (intern_Len_sp s 9 rfl ⟨s.still 4 0 rfl rfl, gd_ne (fun c => absurd (by omega) c) (fun _ => s.lds (x := m.1) 4 0 rfl rfl (arith_i64 (by omega) (by omega) (hgar _ _ s fun w15 s => ⟨s.still 4 0 rfl rfl, ?_⟩)))⟩))
  intro _
  refine gd_f (by simp; omega) ?_
  have s : Sp w0 [sto p2 (clampM top) C, own yapi_Rule out E] w15 := s.pick [0, 2] 10 rfl (by decide)
  refine loop_by (fun x => x.1) ids.length (fun n _ w => Sp w0 [sto p2 (clampM top) C, own yapi_Rule out E] w) rfl s ?_
  clear s
  rintro n ⟨x, _⟩ w16 hn hx s _
  dsimp only at hx ⊢
  subst hx
  refine gd_dec (fun hlt => ?_) (fun hge => ?_)
  · have hn' : n < ids.length := by omega
    obtain ⟨y, hy, h1, h2⟩ := hget n hn'
    refine (s.view 1 rfl).idx rfl h2 rfl fun q1 hq1 => ⟨_, hq1, s.allocK fun a25 w17 s => s.st0 0 rfl rfl rfl fun w18 s => arith_i64 (by omega) (by omega) (intern_Rule_k s 1 rfl ⟨by omega, by omega⟩ fun w19 s => s.allocK fun a28 w20 s => s.st0 0 rfl rfl rfl fun w21 s => ?_)⟩
    rw [h1] at s
    refine JoinP.inl (nilIfc_nil (gd_f rfl (s.ld0 (ty := yapi_Rule) (x := mvr ids (eAt T y).1) 0 rfl rfl (s.ld0 (ty := yapi_Rule) (x := mvr ids (eAt T y).1) 1 rfl rfl (rule_neq ?_)))))
    rw [decide_eq_true rfl]
    intro _
    exact gd_f rfl (arith_i64 (by omega) (by omega) (loop_nx hn' (s.drop 2)))
  · refine intern_Room_sp s 0 rfl fun w23 s => arith_i64 ?_ ?_ ?_
    · (repeat' split) <;> omega
    · (repeat' split) <;> omega
    · have : (clampM top - (C.length : Int) == (if (if (1048576 : Int) < top then (1048576 : Int) else top) < (0 : Int) then (0 : Int) else (if (1048576 : Int) < top then (1048576 : Int) else top)) - (out.len : Int)) = true := by
        rw [hcl, hol, beq_iff_eq]
        unfold clampM
        (repeat' split) <;> omega
      rw [this]
      exact h _ s.ext

/-! ### Nothing -/
theorem collect_Reach_nil {sl : Sl} {K : Sl × Value → World → Prop} (h : K (⟨none, 0, 0⟩, errV 5) w) : C_collect_Reach none sl K w := by
  apply S_collect_Reach
  unfold F_collect_Reach
  exact gd_t rfl h
theorem law12_CollectNone_spec {id top : Int} {K : Bool → World → Prop} (h : ∀ w', Ext w0 w' → K true w') : C_law12_CollectNone id top K w0 := by
  apply S_law12_CollectNone
  unfold F_law12_CollectNone
  refine law12_begun_spec (ops := []) (Sp.init w0) .nil (by simp) (by simp) fun p rs w1 s => gd_f rfl (s.allocK fun a2 w2 s => collect_Reach_nil (s.allocK fun a4 w4 s => ?_))
  apply S_collect_Counts
  unfold F_collect_Counts
  refine collect_Reach_nil (nilIfc_err (gd_t rfl ?_))
  apply S_collect_Table_Sweep
  unfold F_collect_Table_Sweep
  refine Table_none_nil (gd_t rfl (JoinP.inl ?_))
  apply S_collect_New
  unfold F_collect_New
  refine gd_t rfl (gd_f rfl (arith_i64 (by decide) (by decide) (arith_i64 (by decide) (by decide) (gd_f rfl (gd_f rfl (is_err (by decide) (gd_f rfl (is_err (by decide) (gd_f rfl (is_err (by decide) ?_))))))))))
  intro _
  refine gd_f rfl ?_
  apply S_collect_Table_Hold
  unfold F_collect_Table_Hold
  refine Table_none_nil (gd_t rfl (is_err (by decide) (gd_t rfl ?_)))
  apply S_collect_Table_Release
  unfold F_collect_Table_Release
  refine Table_none_nil (gd_t rfl (is_err (by decide) (gd_t rfl ?_)))
  apply S_collect_Table_Held
  unfold F_collect_Table_Held
  refine Table_none_nil (gd_t rfl (gd_t rfl ?_))
  apply S_collect_Table_Roots
  unfold F_collect_Table_Roots
  refine Table_none_nil (gd_t rfl ?_)
  apply S_collect_Table_Live
  unfold F_collect_Table_Live
  refine Table_none_nil (gd_t rfl (arith_i64 (by decide) (by decide) ?_))
  apply S_collect_Table_Garbage
  unfold F_collect_Table_Garbage
  exact Table_none_nil (gd_t rfl (arith_i64 (by decide) (by decide) (h _ s.ext)))

/-! ### A swept store, swept again -/
theorem copy_known {S : List Int} {ids : List Int} (hc : Closed T ids) : Known_ (Ytbghccafigmnjaa.copy T ids) (S.map (pos ids)) := fun x hx => by
  obtain ⟨y, _, rfl⟩ := List.mem_map.1 hx
  have := pos_bound hc y
  rw [copy_len]; exact this
theorem copy_reach (g : Grow T) {S : List Int} (hS : Known_ T S) {x : Int} (hx : Rch T S x) : ∀ j : Nat, (rlist T S)[j]? = some x → Rch (Ytbghccafigmnjaa.copy T (rlist T S)) (S.map (pos (rlist T S))) ((j : Int) + 1) := by
  have hc := rlist_closed g hS
  have hmem : ∀ x : Int, x ∈ rlist T S ↔ Rch T S x := fun x => rlist_mem g hS
  generalize rlist T S = ids at *
  induction hx with
  | root h1 _ =>
    intro j hj
    refine .root (List.mem_map.2 ⟨_, h1, pos_some hc.nodup hj⟩) (by omega)
  | @ref y x h1 h2 ih =>
    intro j hj
    have hym := (hmem y).2 h1
    obtain ⟨i, hi⟩ := List.getElem?_of_mem hym
    refine .ref (ih i hi) ?_
    rw [eAt_copy hi]
    have := refs_mvr g hc hym h2
    rwa [pos_some hc.nodup hj] at this
theorem rlist_copy_all (g : Grow T) {S : List Int} (hS : Known_ T S) : rlist (Ytbghccafigmnjaa.copy T (rlist T S)) (S.map (pos (rlist T S))) = upTo (rlist T S).length := by
  have hc := rlist_closed g hS
  have gc := copy_grow g hc
  have hk := copy_known (S := S) hc
  have hcl := copy_len (T := T) (ids := rlist T S)
  refine sorted_unique rlist_sorted (upTo_sorted _) fun x => ?_
  rw [rlist_mem gc hk, upTo_mem]
  constructor
  · intro h
    have := h.bound gc hk
    omega
  · intro h
    have hg : (rlist T S)[(x - 1).toNat]? = some (rlist T S)[(x - 1).toNat] := List.getElem?_eq_getElem (by omega)
    have := copy_reach g hS ((rlist_mem g hS).1 (List.getElem_mem (by omega))) _ hg
    rwa [show (((x - 1).toNat : Nat) : Int) + 1 = x by omega] at this
theorem nodup_map {f : Int → Int} : ∀ {L : List Int}, L.Nodup → (∀ x ∈ L, ∀ y ∈ L, f x = f y → x = y) → (L.map f).Nodup
  | [], _, _ => List.nodup_nil
  | x :: L, hn, hf => by
    rw [List.nodup_cons] at hn
    rw [List.map_cons, List.nodup_cons]
    refine ⟨fun hm => ?_, nodup_map hn.2 fun a ha b hb => hf a (List.mem_cons_of_mem _ ha) b (List.mem_cons_of_mem _ hb)⟩
    obtain ⟨y, hy, e⟩ := List.mem_map.1 hm
    have := hf y (List.mem_cons_of_mem _ hy) x (by simp) e
    exact hn.1 (this ▸ hy)
theorem law12_CollectAgain_spec {sl ssl : Sl} {ops : List MakeT} {script : List ActT} (hv : View yevergreenref12_Make w0 sl ops) (ho : ∀ o ∈ ops, MakeOK o) (hvs : View yevergreenlaw12_Act w0 ssl script) {K : Bool → World → Prop} (h : ∀ w', Ext w0 w' → K true w') : C_law12_CollectAgain sl ssl K w0 := by
  apply S_law12_CollectAgain
  unfold F_law12_CollectAgain
  have hlen := hv.len
  have hpl := hvs.len
  refine JoinP.inl (gd_dec (fun c => fun _ => gd_t rfl (h _ (.refl _ _))) (fun c => fun _ => gd_dec (fun c2 => h _ (.refl _ _)) (fun c2 => ?_)))
  refine law12_begun_spec (Sp.init w0) hv ho (by omega) fun p rs w1 s => gd_f rfl ?_
  have hb := bld_ok (most := 1000) (by decide) ho
  have hcnt := hb.cnt
  refine law12_play_spec s 1 rfl 0 rfl (by omega) (by omega) hvs (by omega) fun q r hsl mm held w2 th hhl s => gd_f rfl ?_
  have s : Sp w0 [own (.int .i64) hsl held, cel q [.pointer (some p), .map (some r)], mc (.int .i64) r mm, sto p 1000 (bld 1000 ops).1] w2 := s.pick [0, 1, 2, 4] 5 rfl (by decide)
  generalize (bld 1000 ops).1 = T at *
  have hT := hb.len
  have hg := hb.grow
  have hrl := rlist_len T held
  have tb : Tb [own (.int .i64) hsl held, cel q [.pointer (some p), .map (some r)], mc (.int .i64) r mm, sto p 1000 T] 1 2 3 q r p 1000 T mm := ⟨rfl, rfl, rfl⟩
  refine Table_Sweep_sp tb th s (fun hle p2 tosl w4 s => ?_) (fun hgt => absurd (show (1000 : Int) < _ from hgt) (by omega))
  have hc := rlist_closed hg th.known
  have hall := rlist_copy_all hg th.known
  have hin : ∀ z ∈ held, z ∈ rlist T held := fun z hz => (rlist_mem hg th.known).2 (.root hz (by have := th.nz z hz; omega))
  have hcl := copy_len (T := T) (ids := rlist T held)
  have gc := copy_grow hg hc
  generalize rlist T held = ids at *
  have htl := toL_len T.length ids
  have htsl : tosl.len = T.length + 1 := ((s.view 1 rfl).len).trans htl
  refine collect_New_sp s fun q2 r2 w5 s => ?_
  refine JoinP.inl (nilIfc_nil (gd_f rfl (gd_f rfl (intern_Len_sp s 7 rfl (arith_i64 (by omega) (by omega) ?_)))))
  intro _
  refine gd_f (by simp; omega) ?_
  have hposb : ∀ z ∈ held, 1 ≤ pos ids z ∧ pos ids z ≤ ids.length := fun z hz => by
    obtain ⟨j, hj⟩ := List.getElem?_of_mem (hin z hz)
    have := (List.getElem?_eq_some_iff.1 hj).1
    rw [pos_some hc.nodup hj]; omega
  generalize hC : Ytbghccafigmnjaa.copy T ids = C at *
  have hhsl := (s.view 4 rfl).len
  refine loop_by (fun x => x.1) held.length (fun n _ w => ∃ m2, TH C m2 ((held.take n).map (pos ids)) ∧ Sp w0 [cel q2 [.pointer (some p2), .map (some r2)], mc (.int .i64) r2 m2, sto p2 (clampM 1000) C, own (.int .i64) tosl (toL T.length ids), own (.int .i64) hsl held, cel q [.pointer (some p), .map (some r)], mc (.int .i64) r mm, sto p 1000 T] w) rfl ⟨[], TH.nil, s⟩ ?_
  clear s
  rintro n ⟨x, _⟩ w8 hn hx ⟨m2, th2, s⟩ _
  dsimp only at hx ⊢
  subst hx
  have tb2 : Tb [cel q2 [.pointer (some p2), .map (some r2)], mc (.int .i64) r2 m2, sto p2 (clampM 1000) C, own (.int .i64) tosl (toL T.length ids), own (.int .i64) hsl held, cel q [.pointer (some p), .map (some r)], mc (.int .i64) r mm, sto p 1000 T] 0 1 2 q2 r2 p2 (clampM 1000) C m2 := ⟨rfl, rfl, rfl⟩
  refine gd_dec (fun hlt => ?_) (fun hge => ?_)
  · have hn' : n < held.length := by omega
    obtain ⟨z, hz⟩ : ∃ z, held[n]? = some z := ⟨_, List.getElem?_eq_getElem hn'⟩
    have hzm := List.mem_of_getElem? hz
    have hzb := th.nz z hzm
    have hpb := hposb z hzm
    have htk : (held.take (n + 1)).map (pos ids) = (held.take n).map (pos ids) ++ [pos ids z] := by rw [List.take_add_one, hz]; simp
    have hl2 : ((held.take n).map (pos ids)).length ≤ 200 := by rw [List.length_map, List.length_take]; omega
    refine (s.view 4 rfl).idx rfl hz rfl fun q1 hq1 => ⟨z, hq1, (s.view 3 rfl).idx (n := z.toNat) (by omega) (toL_get (by omega) hzb.2) rfl fun q3 hq3 => ⟨_, hq3, ?_⟩⟩
    refine Table_Hold_sp tb2 s th2.f (fun y => by have := ctN_le y ((held.take n).map (pos ids)); omega) (fun _ m3 w9 hf s => nilIfc_nil (gd_f rfl (arith_i64 (by omega) (by omega) (loop_nx hn' ⟨m3, ⟨fun y => ?_, fun y hy => ?_, ?_⟩, s⟩)))) (fun hno => absurd ⟨by omega, by omega⟩ hno)
    · rw [hf y]
      dsimp only
      rw [htk, ctN_snoc]
      congr 2
      by_cases c : pos ids z = y
      · rw [if_pos c, if_pos ⟨by omega, c.symm⟩]
      · rw [if_neg c, if_neg (fun h => c h.2.symm)]
    · rw [htk] at hy
      rcases List.mem_append.1 hy with hy | hy
      · exact th2.nz y hy
      · simp at hy; subst hy; omega
    · rw [htk, List.length_append]; simp only [List.length_cons, List.length_nil]; omega
  have en : n = held.length := by omega
  subst en
  rw [List.take_length] at th2
  refine Table_Sweep_sp tb2 th2 s (fun hle2 p3 to3 w10 s => ?_) (fun hgt => absurd hgt (by rw [hall]; have h1 : (upTo ids.length).length = ids.length := by simp [upTo]
                                                                                           have h2 : clampM 1000 = 1000 := rfl
                                                                                           omega))
  have tb3 := (tb2.cons (own (.int .i64) to3 (toL C.length (rlist C (held.map (pos ids)))))).cons (sto p3 (clampM 1000) (Ytbghccafigmnjaa.copy C (rlist C (held.map (pos ids)))))
  have hgar : ∀ (w : World) (K : Int → World → Prop), Sp w0 [sto p3 (clampM 1000) (Ytbghccafigmnjaa.copy C (rlist C (held.map (pos ids)))), own (.int .i64) to3 (toL C.length (rlist C (held.map (pos ids)))), cel q2 [.pointer (some p2), .map (some r2)], mc (.int .i64) r2 m2, sto p2 (clampM 1000) C, own (.int .i64) tosl (toL T.length ids), own (.int .i64) hsl held, cel q [.pointer (some p), .map (some r)], mc (.int .i64) r mm, sto p 1000 T] w → (∀ w', Sp w0 [sto p3 (clampM 1000) (Ytbghccafigmnjaa.copy C (rlist C (held.map (pos ids)))), own (.int .i64) to3 (toL C.length (rlist C (held.map (pos ids)))), cel q2 [.pointer (some p2), .map (some r2)], mc (.int .i64) r2 m2, sto p2 (clampM 1000) C, own (.int .i64) tosl (toL T.length ids), own (.int .i64) hsl held, cel q [.pointer (some p), .map (some r)], mc (.int .i64) r mm, sto p 1000 T] w' → K ((C.length : Int) - ((rlist C (held.map (pos ids))).length : Int)) w') → C_collect_Table_Garbage (some ⟨q2, 0, none⟩) K w := fun w K s h => Table_Garbage_sp tb3 th2 s h
  have hul : (upTo ids.length).length = ids.length := by simp [upTo]
  have hcl3 := copy_len (T := C) (ids := rlist C (held.map (pos ids)))
  rw [hall, hul] at hgar
  rw [hall, hul] at hcl3
  rw [hall] at s tb3
  have htl3 := toL_len C.length (upTo ids.length)
  have h3l : to3.len = C.length + 1 := ((s.view 1 rfl).len).trans htl3
  refine JoinP.inl (nilIfc_nil (gd_f rfl (hgar _ _ s fun w12 s => gd_ne (fun c => absurd (by omega) c) (fun _ => intern_Len_sp s 0 rfl (intern_Len_sp s 4 rfl (gd_ne (fun c => absurd (by omega) c) (fun _ => intern_Len_sp s 4 rfl (arith_i64 (by omega) (by omega) ?_))))))))
  intro _
  refine gd_f (by simp; omega) ?_
  refine loop_by (fun x => x.1) (C.length + 1) (fun n _ w => Sp w0 [sto p3 (clampM 1000) (Ytbghccafigmnjaa.copy C (upTo ids.length)), own (.int .i64) to3 (toL C.length (upTo ids.length)), cel q2 [.pointer (some p2), .map (some r2)], mc (.int .i64) r2 m2, sto p2 (clampM 1000) C, own (.int .i64) tosl (toL T.length ids), own (.int .i64) hsl held, cel q [.pointer (some p), .map (some r)], mc (.int .i64) r mm, sto p 1000 T] w) rfl s ?_
  clear s
  rintro n ⟨x, _⟩ w16 hn hx s _
  dsimp only at hx ⊢
  subst hx
  refine gd_dec (fun hlt => ?_) (fun hge => ?_)
  · have hn' : n < C.length + 1 := by omega
    have g1 := toL_get (N := C.length) (ids := upTo ids.length) (y := (n : Int)) (by omega) (by omega)
    rw [upTo_pos (by omega) (by omega), show ((n : Int)).toNat = n by omega] at g1
    exact (s.view 1 rfl).idx rfl g1 rfl fun q1 hq1 => ⟨_, hq1, gd_ne (fun c => absurd rfl c) (fun _ => arith_i64 (by omega) (by omega) (loop_nx hn' s))⟩
  · have hm1 : mm.length ≤ T.length := by
      have := nodup_bound (L := mm.map (·.1)) (n := T.length) (s.mc_ 8 rfl).nodup fun x hx => th.nz x ((th.mem x).1 hx)
      simpa using this
    have hm2 : m2.length ≤ C.length := by
      have := nodup_bound (L := m2.map (·.1)) (n := C.length) (s.mc_ 3 rfl).nodup fun x hx => th2.nz x ((th2.mem x).1 hx)
      simpa using this
    refine Table_Roots_sp tb3 s (by omega) fun ru RU w17 hRU hRUm s => ?_
    have tbt : Tb [own (.int .i64) ru RU, sto p3 (clampM 1000) (Ytbghccafigmnjaa.copy C (upTo ids.length)), own (.int .i64) to3 (toL C.length (upTo ids.length)), cel q2 [.pointer (some p2), .map (some r2)], mc (.int .i64) r2 m2, sto p2 (clampM 1000) C, own (.int .i64) tosl (toL T.length ids), own (.int .i64) hsl held, cel q [.pointer (some p), .map (some r)], mc (.int .i64) r mm, sto p 1000 T] 8 9 10 q r p 1000 T mm := ⟨rfl, rfl, rfl⟩
    refine Table_Roots_sp tbt s (by omega) fun rt RT_ w18 hRT hRTm s => ?_
    have l1 := (s.view 0 rfl).len
    have l2 := (s.view 1 rfl).len
    have e : (RT_.map (pos ids)).length = RU.length := same_len (nodup_map (hRT.imp fun {a b} (h : (a : Int) < b) => Int.ne_of_lt h) fun x hx y hy e => by
        have hxm := hin x ((th.mem x).1 ((hRTm x).1 hx))
        have hym := hin y ((th.mem y).1 ((hRTm y).1 hy))
        exact pos_inj hc (Or.inr hxm) (Or.inr hym) e) (hRU.imp fun {a b} (h : (a : Int) < b) => Int.ne_of_lt h) fun x => by
      rw [hRUm x, th2.mem x, List.mem_map, List.mem_map]
      constructor
      · rintro ⟨y, hy, rfl⟩; exact ⟨y, (th.mem y).1 ((hRTm y).1 hy), rfl⟩
      · rintro ⟨y, hy, rfl⟩; exact ⟨y, (hRTm y).2 ((th.mem y).2 hy), rfl⟩
    rw [List.length_map] at e
    have : ((ru.len : Int) == (rt.len : Int)) = true := by
      rw [beq_iff_eq, l1, l2]
      exact congrArg Int.ofNat e.symm
    rw [this]
    exact h _ s.ext

end Go.Proofs.Ytbghccafigmnjaa

/- law12: a copied rule exports the same; the walk of CollectKeeps. -/
set_option linter.unusedVariables false
set_option linter.unusedSimpArgs false
namespace Go.Proofs.Ytbghccafigmnjaa
open Go.Den

variable {w0 w : World} {Ω : List Ob} {T : List ET} {p p2 : Addr} {ids : List Int}

theorem refs_mvr_inv (g : Grow T) (hc : Closed T ids) {y x : Int} (hy : y ∈ ids) (hx : x ∈ refs (mvr ids (eAt T y).1)) : ∃ z, z ∈ refs (eAt T y).1 ∧ x = pos ids z := by
  have hyb := hc.bound y hy
  cases g.shape hyb.1 hyb.2 with
  | letter b _ _ e => rw [e] at hx; simp [refs, mvr, mkLetter] at hx
  | pair l r _ _ _ _ _ e =>
    rw [e] at hx ⊢
    have : x = pos ids l ∨ x = pos ids r := by simpa [refs, mvr, mkPair] using hx
    rcases this with rfl | rfl
    · exact ⟨l, by simp [refs, mkPair], rfl⟩
    · exact ⟨r, by simp [refs, mkPair], rfl⟩
  | power a k _ _ _ _ e =>
    rw [e] at hx ⊢
    have : x = pos ids a := by simpa [refs, mvr, mkPower] using hx
    exact ⟨a, by simp [refs, mkPower], this⟩
theorem rch_in (g : Grow T) (hc : Closed T ids) {a x : Int} (ha : a ∈ ids) (h : Rch T [a] x) : x ∈ ids := by
  induction h with
  | root h1 _ => simp at h1; subst h1; exact ha
  | ref _ h2 ih =>
    obtain ⟨k, hk⟩ := List.getElem?_of_mem ih
    obtain ⟨j, _, hj, _⟩ := hc.ref g hk h2
    exact List.mem_of_getElem? hj
theorem known_one (hc : Closed T ids) {a : Int} (ha : a ∈ ids) : Known_ T [a] := fun x hx => by
  simp at hx; subst hx
  have := hc.bound _ ha
  omega
theorem pos_pos (hc : Closed T ids) {x : Int} (hx : x ∈ ids) : ∃ k : Nat, ids[k]? = some x ∧ pos ids x = (k : Int) + 1 := by
  obtain ⟨k, hk⟩ := List.getElem?_of_mem hx
  exact ⟨k, hk, pos_some hc.nodup hk⟩
theorem rlist_copy_one (g : Grow T) (hc : Closed T ids) {a : Int} (ha : a ∈ ids) : rlist (Ytbghccafigmnjaa.copy T ids) [pos ids a] = (rlist T [a]).map (pos ids) := by
  have gc := copy_grow g hc
  have hk1 := known_one hc ha
  have hk2 : Known_ (Ytbghccafigmnjaa.copy T ids) [pos ids a] := by
    have := copy_known (S := [a]) hc
    simpa using this
  have ha0 : a ≠ 0 := fun e => by have := (hc.bound a ha).1; omega
  obtain ⟨ka, hka, hpa⟩ := pos_pos hc ha
  refine sorted_unique rlist_sorted ?_ fun x => ?_
  · rw [List.pairwise_map]
    refine (rlist_sorted (T := T) (S := [a])).imp_of_mem fun {x y} hx hy hlt => ?_
    obtain ⟨i, hi, ei⟩ := pos_pos hc (rch_in g hc ha ((rlist_mem g hk1).1 hx))
    obtain ⟨j, hj, ej⟩ := pos_pos hc (rch_in g hc ha ((rlist_mem g hk1).1 hy))
    have := (sorted_lt hc.sorted hi hj).1 hlt
    rw [ei, ej]; omega
  · rw [rlist_mem gc hk2, List.mem_map]
    constructor
    · intro h
      induction h with
      | root h1 _ =>
        simp at h1
        exact ⟨a, (rlist_mem g hk1).2 (.root (by simp) ha0), h1.symm⟩
      | @ref y x h1 h2 ih =>
        obtain ⟨y', hy', rfl⟩ := ih
        have hr := (rlist_mem g hk1).1 hy'
        have hyi := rch_in g hc ha hr
        obtain ⟨k, hk, ek⟩ := pos_pos hc hyi
        rw [ek, eAt_copy hk] at h2
        obtain ⟨z, hz, rfl⟩ := refs_mvr_inv g hc hyi h2
        exact ⟨z, (rlist_mem g hk1).2 (.ref hr hz), rfl⟩
    · rintro ⟨y, hy, rfl⟩
      have hr := (rlist_mem g hk1).1 hy
      clear hy
      induction hr with
      | root h1 _ =>
        simp at h1
        subst h1
        exact .root (by simp) (by rw [hpa]; omega)
      | @ref y x h1 h2 ih =>
        have hyi := rch_in g hc ha h1
        obtain ⟨k, hk, ek⟩ := pos_pos hc hyi
        refine .ref ih ?_
        rw [ek, eAt_copy hk]
        exact refs_mvr g hc hyi h2
theorem exp_copy_one (g : Grow T) (hc : Closed T ids) {a : Int} (ha : a ∈ ids) : exp (Ytbghccafigmnjaa.copy T ids) (rlist (Ytbghccafigmnjaa.copy T ids) [pos ids a]) = exp T (rlist T [a]) := by
  rw [rlist_copy_one g hc ha]
  have hk1 := known_one hc ha
  have hcL := rlist_closed g hk1
  have hsub : ∀ x ∈ rlist T [a], x ∈ ids := fun x hx => rch_in g hc ha ((rlist_mem g hk1).1 hx)
  generalize rlist T [a] = L at *
  have hnd : (L.map (pos ids)).Nodup := nodup_map hcL.nodup fun x hx y hy e => pos_inj hc (Or.inr (hsub x hx)) (Or.inr (hsub y hy)) e
  have key : ∀ z, z = 0 ∨ z ∈ L → pos (L.map (pos ids)) (pos ids z) = pos L z := fun z hz => by
    rcases hz with rfl | hz
    · rw [pos_zero hc, pos_zero hcL]
      refine pos_none fun h => ?_
      obtain ⟨x, hx, e⟩ := List.mem_map.1 h
      obtain ⟨k, _, ek⟩ := pos_pos hc (hsub x hx)
      omega
    · obtain ⟨k, hk⟩ := List.getElem?_of_mem hz
      rw [pos_some hcL.nodup hk, pos_some hnd (by rw [List.getElem?_map, hk]; rfl)]
  unfold exp
  rw [List.map_map]
  refine List.map_congr_left fun y hy => ?_
  obtain ⟨k, hk, ek⟩ := pos_pos hc (hsub y hy)
  have hr := refs_mem g hcL hy
  show mvr (L.map (pos ids)) (eAt (Ytbghccafigmnjaa.copy T ids) (pos ids y)).1 = _
  rw [ek, eAt_copy hk]
  simp only [mvr]
  rw [key _ hr.1, key _ hr.2]
theorem law12_alike_spec {a m1 m2 : Int} (g : Grow T) (hc : Closed T ids) (hT : T.length ≤ 1048576) (ha : a ∈ ids) (s : Sp w0 Ω w) (i i2 : Nat) (hi : Ω[i]? = some (sto p m1 T)) (hi2 : Ω[i2]? = some (sto p2 m2 (Ytbghccafigmnjaa.copy T ids))) {K : Bool → World → Prop} (h : ∀ w', Sp w0 Ω w' → K true w') : C_law12_alike (some p) a (some p2) (pos ids a) K w := by
  apply S_law12_alike
  unfold F_law12_alike
  have hab := hc.bound a ha
  obtain ⟨k, hk, ek⟩ := pos_pos hc ha
  have hkl := (List.getElem?_eq_some_iff.1 hk).1
  have hcl := copy_len (T := T) (ids := ids)
  have hpb := pos_bound hc a
  have he : (eAt (Ytbghccafigmnjaa.copy T ids) (pos ids a)).2 = (eAt T a).2 := by rw [ek, eAt_copy hk]
  have hx := exp_copy_one g hc ha
  have hk1 := known_one hc ha
  have hrl := rlist_len T [a]
  have hel := exp_len T (rlist T [a])
  have hne : 1 ≤ (rlist T [a]).length := List.length_pos_of_mem ((rlist_mem g hk1).2 (.root (x := a) (by simp) (by omega)))
  refine intern_Weight_k s i hi ⟨by omega, hab.2⟩ fun w1 s => s.allocK fun a2 w2 s => s.st0 0 rfl rfl rfl fun w3 s => intern_Weight_k s (i2 + 1) hi2 ⟨by omega, by omega⟩ fun w4 s => s.allocK fun a4 w5 s => s.st0 0 rfl rfl rfl fun w6 s => ?_
  refine intern_Depth_k s (i + 2) hi ⟨by omega, hab.2⟩ fun w7 s => intern_Depth_k s (i2 + 2) hi2 ⟨by omega, by omega⟩ fun w8 s => ?_
  rw [he] at s ⊢
  refine JoinP.inl (nilIfc_nil (gd_f rfl (nilIfc_nil (gd_f rfl (nilIfc_nil (gd_f rfl (nilIfc_nil (gd_f rfl (s.ld0 (ty := yapi_Weight) (x := (eAt T a).2.1) 1 rfl rfl (s.ld0 (ty := yapi_Weight) (x := (eAt T a).2.1) 0 rfl rfl (weight_neq ?_)))))))))))
  rw [decide_eq_true rfl]
  refine gd_f rfl ?_
  intro _
  refine gd_f (by simp) (intern_Export_sp s (i + 2) hi (fun _ l1 w9 s => ?_) (fun hn => absurd ⟨by omega, hab.2⟩ hn))
  refine intern_Export_sp s (i2 + 3) hi2 (fun _ l2 w10 s => ?_) (fun hn => absurd ⟨by omega, by omega⟩ hn)
  rw [hx] at s
  have e1 := (s.view 1 rfl).len.trans hel
  have e2 := (s.view 0 rfl).len.trans hel
  refine JoinP.inl (nilIfc_nil (gd_f rfl (nilIfc_nil (gd_f rfl (gd_ne (fun c => absurd (by dsimp only; omega) c) (fun _ => ?_))))))
  intro _
  refine gd_f (by simp; omega) ?_
  have s' : Sp w0 (own yapi_Rule l2 (exp T (rlist T [a])) :: own yapi_Rule l1 (exp T (rlist T [a])) :: Ω) w10 := s.pick [0, 1] 4 rfl (by decide)
  clear s
  generalize exp T (rlist T [a]) = L at *
  refine loop_by (fun x => x.1) L.length (fun n _ w => Sp w0 (own yapi_Rule l2 L :: own yapi_Rule l1 L :: Ω) w) rfl s' ?_
  clear s'
  rintro n ⟨x, _⟩ w11 hn hx' s _
  dsimp only at hx' ⊢
  subst hx'
  refine gd_dec (fun hlt => ?_) (fun hge => h _ (s.drop 2))
  have hn' : n < L.length := by omega
  obtain ⟨z, hz⟩ : ∃ z, L[n]? = some z := ⟨_, List.getElem?_eq_getElem hn'⟩
  refine s.drawK fun w12 s => (s.view 1 rfl).idx rfl hz rfl fun q1 hq1 => ⟨_, hq1, (s.view 0 rfl).idx rfl hz rfl fun q2 hq2 => ⟨_, hq2, rule_neq ?_⟩⟩
  rw [decide_eq_true rfl]
  exact gd_f rfl (arith_i64 (by omega) (by omega) (loop_nx hn' s))

theorem law12_CollectKeeps_spec {sl ssl : Sl} {ops : List MakeT} {script : List ActT} (hv : View yevergreenref12_Make w0 sl ops) (ho : ∀ o ∈ ops, MakeOK o) (hvs : View yevergreenlaw12_Act w0 ssl script) {K : Bool → World → Prop} (h : ∀ w', Ext w0 w' → K true w') : C_law12_CollectKeeps sl ssl K w0 := by
  apply S_law12_CollectKeeps
  unfold F_law12_CollectKeeps
  have hlen := hv.len
  have hpl := hvs.len
  refine JoinP.inl (gd_dec (fun c => fun _ => gd_t rfl (h _ (.refl _ _))) (fun c => fun _ => gd_dec (fun c2 => h _ (.refl _ _)) (fun c2 => ?_)))
  refine law12_begun_spec (Sp.init w0) hv ho (by omega) fun p rs w1 s => gd_f rfl ?_
  have hb := bld_ok (most := 1000) (by decide) ho
  have hcnt := hb.cnt
  refine law12_play_spec s 1 rfl 0 rfl (by omega) (by omega) hvs (by omega) fun q r hsl mm held w2 th hhl s => gd_f rfl ?_
  have s : Sp w0 [cel q [.pointer (some p), .map (some r)], mc (.int .i64) r mm, sto p 1000 (bld 1000 ops).1] w2 := s.pick [1, 2, 4] 5 rfl (by decide)
  generalize (bld 1000 ops).1 = T at *
  have hT := hb.len
  have hg := hb.grow
  have hrl := rlist_len T held
  have tb : Tb [cel q [.pointer (some p), .map (some r)], mc (.int .i64) r mm, sto p 1000 T] 0 1 2 q r p 1000 T mm := ⟨rfl, rfl, rfl⟩
  refine Table_Sweep_sp tb th s (fun hle p2 tosl w4 s => ?_) (fun hgt => absurd (show (1000 : Int) < _ from hgt) (by omega))
  have hc := rlist_closed hg th.known
  have tb2 : Tb [sto p2 (clampM 1000) (Ytbghccafigmnjaa.copy T (rlist T held)), own (.int .i64) tosl (toL T.length (rlist T held)), cel q [.pointer (some p), .map (some r)], mc (.int .i64) r mm, sto p 1000 T] 2 3 4 q r p 1000 T mm := ⟨rfl, rfl, rfl⟩
  have htl := toL_len T.length (rlist T held)
  have htsl : tosl.len = T.length + 1 := ((s.view 1 rfl).len).trans htl
  have hcl := copy_len (T := T) (ids := rlist T held)
  have g0 := toL_get (N := T.length) (ids := rlist T held) (y := 0) (by omega) (by omega)
  rw [pos_zero hc] at g0
  refine JoinP.inl (nilIfc_nil (gd_f rfl (gd_f rfl (intern_Len_sp s 4 rfl (arith_i64 (by omega) (by omega) (gd_ne (fun c => absurd (by dsimp only; omega) c) (fun _ => (s.view 1 rfl).idx (n := 0) rfl g0 rfl fun q1 hq1 => ⟨_, hq1, gd_f rfl (intern_Len_sp s 4 rfl (intern_Len_sp s 0 rfl (arith_i64 (by omega) (by omega) (Table_Garbage_sp tb2 th s fun w9 s => ?_))))⟩)))))))
  intro _
  refine gd_f (by simp; omega) (Table_Live_sp tb2 th s fun vl w10 s => ?_)
  generalize rlist T held = ids at *
  have hvl := (s.view 0 rfl).len
  have hvc := (s.own_ 0 rfl).cap
  refine loop_from 1 (fun x => x.2.1) T.length (fun n x w => (∃ k : Nat, k ≤ ids.length ∧ (∀ (j : Nat) (y : Int), j < k → ids[j]? = some y → y ≤ (n : Int)) ∧ (∀ (j : Nat) (y : Int), k ≤ j → ids[j]? = some y → (n : Int) < y) ∧ x.1.len = (ids.drop k).length ∧ x.1.len ≤ x.1.cap ∧ ∀ w', View (.int .i64) w' vl ids → View (.int .i64) w' x.1 (ids.drop k)) ∧
    Sp w0 [own (.int .i64) vl ids, sto p2 (clampM 1000) (Ytbghccafigmnjaa.copy T ids), own (.int .i64) tosl (toL T.length ids), cel q [.pointer (some p), .map (some r)], mc (.int .i64) r mm, sto p 1000 T] w) rfl ⟨⟨0, Nat.zero_le _, fun j y hj => by omega, fun j y _ hy => by have := hc.bound y (List.mem_of_getElem? hy); omega, hvl, hvc, fun w' v => v⟩, s⟩ ?_
  clear s
  rintro n ⟨ls, x, _⟩ w11 hn hx ⟨⟨k, hk, hlo, hhi, hll, hlc, hvw⟩, s⟩ _
  dsimp only at hx hll hlc hvw ⊢
  subst hx
  refine intern_Len_sp s 5 rfl (gd_dec (fun hle2 => ?_) (fun hgt2 => h _ s.ext))
  have hn' : n < T.length := by omega
  have eid : (1 : Int) + (n : Int) = ((n + 1 : Nat) : Int) := by omega
  rw [List.length_drop] at hll
  have htg := toL_get (N := T.length) (ids := ids) (y := ((n + 1 : Nat) : Int)) (by omega) (by omega)
  -- is the rule live?
  have hin : ((n + 1 : Nat) : Int) ∈ ids ↔ ids[k]? = some ((n + 1 : Nat) : Int) := by
    constructor
    · intro hm
      obtain ⟨j, hj⟩ := List.getElem?_of_mem hm
      have h1 : ¬ j < k := fun hjk => by have := hlo j _ hjk hj; omega
      have h2 : ¬ k < j := fun hkj => by
        have hkl : k < ids.length := by have := (List.getElem?_eq_some_iff.1 hj).1; omega
        have hy := List.getElem?_eq_getElem hkl
        have h3 := hhi k _ (Nat.le_refl _) hy
        have h4 := (sorted_lt hc.sorted hy hj).2 hkj
        omega
      have : j = k := by omega
      subst this; exact hj
    · exact fun h => List.mem_of_getElem? h
  refine ⟨fun x w => x.1 = decide (((n + 1 : Nat) : Int) ∈ ids) ∧ w = w11, ?_, ?_⟩
  · refine gd_dec (fun hp => ?_) (fun hp => ⟨?_, rfl⟩)
    · have hkl : k < ids.length := by omega
      obtain ⟨y, hy⟩ : ∃ y, ids[k]? = some y := ⟨_, List.getElem?_eq_getElem hkl⟩
      have hd0 : (ids.drop k)[0]? = some y := by rw [List.getElem?_drop]; exact hy
      refine (hvw _ (s.view 0 rfl)).idx (n := 0) rfl hd0 rfl fun q1 hq1 => ⟨y, hq1, ?_, rfl⟩
      dsimp only
      rw [eid]
      have : (y == ((n + 1 : Nat) : Int)) = decide (y = ((n + 1 : Nat) : Int)) := by
        rw [Bool.eq_iff_iff, beq_iff_eq, decide_eq_true_iff]
      rw [this]
      refine decide_eq_decide.2 ?_
      rw [hin, hy]
      exact ⟨fun h => congrArg some h, fun h => Option.some.inj h⟩
    · dsimp only
      refine (decide_eq_false fun hm => ?_).symm
      have := (List.getElem?_eq_some_iff.1 (hin.1 hm)).1
      omega
  rintro ⟨is_, _⟩ w12 ⟨his, rfl⟩ _
  dsimp only at his ⊢
  subst his
  refine ⟨fun x w => (∃ k : Nat, k ≤ ids.length ∧ (∀ (j : Nat) (y : Int), j < k → ids[j]? = some y → y ≤ ((n + 1 : Nat) : Int)) ∧ (∀ (j : Nat) (y : Int), k ≤ j → ids[j]? = some y → ((n + 1 : Nat) : Int) < y) ∧ x.1.len = (ids.drop k).length ∧ x.1.len ≤ x.1.cap ∧ ∀ w', View (.int .i64) w' vl ids → View (.int .i64) w' x.1 (ids.drop k)) ∧ w = w12, gd_dec (fun hm => ?_) (fun hm => ⟨⟨k, hk, fun j y hj hy => by have := hlo j y hj hy; omega, fun j y hj hy => ?_, by rw [List.length_drop]; exact hll, hlc, hvw⟩, rfl⟩), ?_⟩
  · have hat := hin.1 hm
    have hkl := (List.getElem?_eq_some_iff.1 hat).1
    refine View.part (ty := .int .i64) (xs := ids.drop k) (l := 1) (h := (ids.drop k).length) (by rw [List.length_drop]; exact hll) (Or.inr rfl) (Or.inl ⟨rfl, rfl⟩) (by rw [List.length_drop]; omega) (Nat.le_refl _) hlc fun s27 v27 hc27 => ⟨⟨k + 1, by omega, fun j y hj hy => ?_, fun j y hj hy => ?_, ?_, hc27, fun w' v => ?_⟩, rfl⟩
    · by_cases c : j = k
      · subst c; rw [hat] at hy; have := Option.some.inj hy; omega
      · have := hlo j y (by omega) hy; omega
    · exact (sorted_lt hc.sorted hat hy).2 (by omega)
    · have v := (v27 _ (hvw _ (s.view 0 rfl))).len
      rw [List.take_length, List.drop_drop] at v
      exact v
    · have v2 := v27 w' (hvw w' v)
      rwa [List.take_length, List.drop_drop] at v2
  · have h1 := hhi j y hj hy
    have h2 : y ≠ ((n + 1 : Nat) : Int) := fun e => hm (e ▸ List.mem_of_getElem? hy)
    omega
  rintro ⟨ls2, _⟩ w13 ⟨hnext, rfl⟩ _
  dsimp only at hnext ⊢
  have hpb := pos_bound hc ((n + 1 : Nat) : Int)
  have hpz : decide (0 < pos ids ((n + 1 : Nat) : Int)) = decide (((n + 1 : Nat) : Int) ∈ ids) := by
    refine decide_eq_decide.2 ⟨fun hp => ?_, fun hm => ?_⟩
    · apply Classical.byContradiction
      intro hn
      rw [pos_none hn] at hp
      omega
    · obtain ⟨kk, _, e⟩ := pos_pos hc hm
      omega
  refine ⟨fun x w => x.1 = false ∧ Sp w0 [own (.int .i64) vl ids, sto p2 (clampM 1000) (Ytbghccafigmnjaa.copy T ids), own (.int .i64) tosl (toL T.length ids), cel q [.pointer (some p), .map (some r)], mc (.int .i64) r mm, sto p 1000 T] w, ?_, ?_⟩
  · refine (s.view 2 rfl).idx (n := (((n + 1 : Nat) : Int)).toNat) (by omega) htg rfl fun q1 hq1 => ⟨_, hq1, ?_⟩
    rw [hpz]
    refine gd_f (by simp) (gd_dec (fun hm => ?_) (fun hm => ⟨rfl, s⟩))
    refine (s.view 2 rfl).idx (n := (((n + 1 : Nat) : Int)).toNat) (by omega) htg rfl fun q2 hq2 => ⟨_, hq2, ?_⟩
    rw [eid]
    exact law12_alike_spec hg hc (by omega) hm s 5 1 rfl rfl fun w16 s => ⟨rfl, s⟩
  rintro ⟨bb, _⟩ w15 ⟨hbb, s⟩ _
  dsimp only at hbb ⊢
  subst hbb
  exact gd_f rfl (arith_i64 (by omega) (by omega) (loop_fx hn' ⟨hnext, s⟩))

end Go.Proofs.Ytbghccafigmnjaa
