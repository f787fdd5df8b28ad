/- Texts that belong together, joined: ImpB, Copy, Str, Plain, Joins. No conditions. -/
import Derived.Laws.BytesString
import Derived.Test.YtedmbgddmckegaaGE
import Derived.Test.YtedmbgddmckegaaGC
import Derived.Test.YtedmbgddmckegaaGH
import Derived.Test.YtedmbgddmckegaaGD
import Derived.Test.YtedmbgddmckegaaGF
/- The import of a list of rules, by the store and by the specification. -/
set_option linter.unusedVariables false
set_option linter.unusedSimpArgs false
namespace Go.Proofs.Ytedmbgddmckegaa
open Go.Den

variable {w0 w : World} {Ω : List Ob} {most : Int} {T : List ET} {i j : Nat}  {p : Addr}

def atI (ids : List (Ty.int .i64).T) (x : Int) : Int := ids.getD x.toNat (0 : Int)
def pPut (T : List ET) (most : Int) (ids : List (Ty.int .i64).T) (r : RT) : List ET × (Int × Value) :=
  if r.1 = 1 then pLetter T most r.2.1 else
  if r.1 = 2 then pPair T most (atI ids r.2.2.1) (atI ids r.2.2.2.1) else pPower T most (atI ids r.2.2.1) r.2.2.2.2
def pImps (T : List ET) (most : Int) : List RT → List (Ty.int .i64).T → List ET × (Int × Value)
  | [], ids => (T, (ids.getLastD (0 : Int), .nilIface))
  | r :: rs, ids => if isNilI (pPut T most ids r).2.2 then pImps (pPut T most ids r).1 most rs (ids ++ [(pPut T most ids r).2.1]) else ((pPut T most ids r).1, (0, (pPut T most ids r).2.2))
def bad : List RT → Int → Int
  | [], _ => 0
  | r :: rs, n => if chk r n = 0 then bad rs (n + 1) else chk r n
def pImport (T : List ET) (most : Int) (l : List RT) : List ET × (Int × Value) := if bad l 1 = 0 then pImps T most l [(0 : Int)] else (T, (0, errV (bad l 1)))

theorem bad_cons (r : RT) (rs : List RT) (n : Int) : bad (r :: rs) n = if chk r n = 0 then bad rs (n + 1) else chk r n := rfl
theorem pImps_cons (r : RT) (rs : List RT) (ids : List (Ty.int .i64).T) : pImps T most (r :: rs) ids = if isNilI (pPut T most ids r).2.2 then pImps (pPut T most ids r).1 most rs (ids ++ [(pPut T most ids r).2.1]) else ((pPut T most ids r).1, (0, (pPut T most ids r).2.2)) := rfl
theorem bad_zero : ∀ (l : List RT) (n : Int), bad l n = 0 → ∀ (i : Nat) (r : RT), l[i]? = some r → chk r (n + i) = 0
  | [], _, _, _, _, h => by simp at h
  | x :: l, n, h, 0, r, hr => by
    simp only [List.getElem?_cons_zero, Option.some.injEq] at hr
    subst hr
    rw [bad_cons] at h
    split at h
    · rename_i e; simpa using e
    · contradiction
  | x :: l, n, h, i + 1, r, hr => by
    rw [bad_cons] at h
    split at h
    · have := bad_zero l (n + 1) h i r (by simpa using hr)
      rw [← this]; congr 1; omega
    · contradiction
theorem chk_form {r : RT} {n : Int} (h : chk r n = 0) : formB r = true ∧ placeB r n = true := by
  unfold chk at h
  split at h
  · split at h
    · exact ⟨‹_›, ‹_›⟩
    · cases h
  · cases h
theorem form_kind {r : RT} (h : formB r = true) : r.1 = 1 ∨ r.1 = 2 ∨ r.1 = 3 := by
  unfold formB at h
  split at h
  · exact Or.inl ‹_›
  split at h
  · exact Or.inr (Or.inl ‹_›)
  split at h
  · exact Or.inr (Or.inr ‹_›)
  · cases h
theorem pPut_err {ids : List (Ty.int .i64).T} {r : RT} : IsErr (pPut T most ids r).2.2 := by
  unfold pPut
  split
  · exact pLetter_err
  split
  · exact pPair_err
  · exact pPower_err
theorem pPut_grow {ids : List (Ty.int .i64).T} {r : RT} (g : Grow T) (hl : (T.length : Int) ≤ most) (hb : 0 ≤ r.2.1 ∧ r.2.1 < 256) : Grow (pPut T most ids r).1 ∧ ((pPut T most ids r).1.length : Int) ≤ most := by
  unfold pPut
  split
  · exact pLetter_grow g hl hb
  split
  · exact pPair_grow g hl
  · exact pPower_grow g hl
theorem atI_get {ids : List (Ty.int .i64).T} {x : Int} (h0 : 0 ≤ x) (h : x < ids.length) : ids[x.toNat]? = some (atI ids x) := by
  unfold atI
  rw [List.getD_eq_getElem?_getD, List.getElem?_eq_getElem (by omega)]
  rfl
theorem atI_append {ids zs : List (Ty.int .i64).T} {x : Int} (h0 : 0 ≤ x) (h : x < ids.length) : atI (ids ++ zs) x = atI ids x := by
  unfold atI
  rw [List.getD_eq_getElem?_getD, List.getD_eq_getElem?_getD, List.getElem?_append_left (by omega)]
theorem pPut_append {ids zs : List (Ty.int .i64).T} {r : RT} {n : Int} (hp : placeB r n = true) (hn : n ≤ ids.length) (hk : r.1 = 1 ∨ r.1 = 2 ∨ r.1 = 3) : pPut T most (ids ++ zs) r = pPut T most ids r := by
  unfold pPut
  rcases hk with h | h | h
  · simp [h]
  · rw [placeB_2 h, decide_eq_true_eq] at hp
    rw [atI_append (by omega) (by omega), atI_append (by omega) (by omega)]
  · rw [placeB_3 h, decide_eq_true_eq] at hp
    simp only [h]
    rw [if_neg (by decide), if_neg (by decide), if_neg (by decide), if_neg (by decide), atI_append (by omega) (by omega)]

structure RuleOK (r : RT) : Prop where
  b : 0 ≤ r.2.1 ∧ r.2.1 < 256
  k : r.2.2.2.2 ≤ 9223372036854775807
theorem chkV_zero {r : RT} {n : Int} (h : chk r n = 0) : chkV r n = .nilIface := by unfold chkV; rw [if_pos h]
theorem chkV_bad {r : RT} {n : Int} (h : ¬ chk r n = 0) : chkV r n = errV (chk r n) := by unfold chkV; rw [if_neg h]

end Go.Proofs.Ytedmbgddmckegaa

/- What is exported and imported again: into the same store nothing is added; into an empty one a copy. -/
set_option linter.unusedVariables false
set_option linter.unusedSimpArgs false
namespace Go.Proofs.Ytedmbgddmckegaa
open Go.Den

variable {T : List ET} {ids : List Int} {most : Int}

theorem Closed.nz (hc : Closed T ids) : (0 : Int) ∉ ids := fun h => by have := (hc.bound 0 h).1; omega
theorem pos_zero (hc : Closed T ids) : pos ids 0 = 0 := pos_none hc.nz
/-- the references of a rule of the list, and their places -/
theorem Closed.ref (hc : Closed T ids) (g : Grow T) {k : Nat} {y x : Int} (hk : ids[k]? = some y) (hx : x ∈ Ytedmbgddmckegaa.refs (eAt T y).1) : ∃ j, j < k ∧ ids[j]? = some x ∧ pos ids x = (j : Int) + 1 := by
  have hyb := hc.bound y (List.mem_of_getElem? hk)
  have hxm := hc.refs y (List.mem_of_getElem? hk) x hx
  obtain ⟨j, hj⟩ := List.getElem?_of_mem hxm
  have hlt := (refs_in g hyb.1 hyb.2 hx).2
  exact ⟨j, (sorted_lt hc.sorted hj hk).1 hlt, hj, pos_some hc.nodup hj⟩
theorem exp_get {k : Nat} {y : Int} (hk : ids[k]? = some y) : (exp T ids)[k]? = some (mvr ids (eAt T y).1) := by
  unfold exp; rw [List.getElem?_map, hk]; rfl
theorem chk_exp (g : Grow T) (hc : Closed T ids) {k : Nat} {y : Int} (hk : ids[k]? = some y) : chk (mvr ids (eAt T y).1) ((k : Int) + 1) = 0 := by
  have hyb := hc.bound y (List.mem_of_getElem? hk)
  have p0 := pos_zero hc
  have hf : formB (mvr ids (eAt T y).1) = true ∧ placeB (mvr ids (eAt T y).1) ((k : Int) + 1) = true := by
    cases g.shape hyb.1 hyb.2 with
    | letter b _ _ e =>
      rw [e]
      refine ⟨by simp [formB, mvr, mkLetter, p0], ?_⟩
      rw [placeB_1 (by rfl)]; simp; omega
    | pair l r _ _ _ _ _ e =>
      obtain ⟨j1, h1, _, e1⟩ := hc.ref g hk (x := l) (by rw [e]; simp [refs, mkPair])
      obtain ⟨j2, h2, _, e2⟩ := hc.ref g hk (x := r) (by rw [e]; simp [refs, mkPair])
      rw [e]
      refine ⟨by simp [formB, mvr, mkPair], ?_⟩
      rw [placeB_2 (by rfl)]
      simp only [mvr, mkPair, decide_eq_true_eq, e1, e2]; omega
    | power x n _ _ hn _ e =>
      obtain ⟨j1, h1, _, e1⟩ := hc.ref g hk (x := x) (by rw [e]; simp [refs, mkPower])
      rw [e]
      refine ⟨by simp [formB, mvr, mkPower, p0, hn], ?_⟩
      rw [placeB_3 (by rfl)]
      simp only [mvr, mkPower, decide_eq_true_eq, e1]; omega
  unfold chk
  rw [hf.1, if_pos rfl, hf.2, if_pos rfl]
theorem bad_of : ∀ (l : List RT) (n : Int), (∀ (i : Nat) (r : RT), l[i]? = some r → chk r (n + i) = 0) → bad l n = 0
  | [], _, _ => rfl
  | r :: l, n, h => by
    rw [bad_cons, if_pos (by have := h 0 r rfl; simpa using this)]
    refine bad_of l (n + 1) fun i x hi => ?_
    have := h (i + 1) x (by simpa using hi)
    rw [← this]; congr 1; omega
theorem bad_exp (g : Grow T) (hc : Closed T ids) : bad (exp T ids) 1 = 0 := by
  refine bad_of _ _ fun i r hi => ?_
  obtain ⟨y, hy⟩ : ∃ y, ids[i]? = some y := by
    have := (List.getElem?_eq_some_iff.1 hi).1
    rw [exp_len] at this
    exact ⟨_, List.getElem?_eq_getElem this⟩
  rw [exp_get hy] at hi
  cases hi
  have := chk_exp g hc hy
  rw [← this]; congr 1; omega

/-! ### Into the same store -/
theorem pPut_same (g : Grow T) (hc : Closed T ids) {k : Nat} {y : Int} (hk : ids[k]? = some y) : pPut T most ((0 : Int) :: ids.take k) (mvr ids (eAt T y).1) = (T, (y, .nilIface)) := by
  have hyb := hc.bound y (List.mem_of_getElem? hk)
  have hfind := g.find hyb.1 hyb.2
  have hat : ∀ {x : Int} {j : Nat}, j < k → ids[j]? = some x → atI ((0 : Int) :: ids.take k) ((j : Int) + 1) = x := by
    intro x j hj hx
    unfold atI
    rw [show ((j : Int) + 1).toNat = j + 1 by omega, List.getD_eq_getElem?_getD, List.getElem?_cons_succ, List.getElem?_take_of_lt hj, hx]; rfl
  unfold pPut
  cases g.shape hyb.1 hyb.2 with
  | letter b _ _ e =>
    rw [e] at hfind ⊢
    rw [if_pos (by rfl)]
    exact (pAdd_some (most := most) (e := mkLetter b) hfind).2.1
  | pair l r a1 a2 a3 a4 a5 e =>
    obtain ⟨j1, h1, g1, e1⟩ := hc.ref g hk (x := l) (by rw [e]; simp [refs, mkPair])
    obtain ⟨j2, h2, g2, e2⟩ := hc.ref g hk (x := r) (by rw [e]; simp [refs, mkPair])
    rw [e] at hfind ⊢
    rw [if_neg (by simp [mvr, mkPair]), if_pos (by rfl)]
    have q1 : atI ((0 : Int) :: ids.take k) (mvr ids (mkPair T l r).1).2.2.1 = l := by
      show atI _ (pos ids l) = l
      rw [e1]; exact hat h1 g1
    have q2 : atI ((0 : Int) :: ids.take k) (mvr ids (mkPair T l r).1).2.2.2.1 = r := by
      show atI _ (pos ids r) = r
      rw [e2]; exact hat h2 g2
    rw [q1, q2]
    unfold pPair
    have kl : known T l = true := decide_eq_true (by omega)
    have kr : known T r = true := decide_eq_true (by omega)
    rw [kl, kr, if_neg (by simp), if_neg (by omega), if_neg (by omega), if_neg (by omega)]
    exact (pAdd_some (most := most) (e := mkPair T l r) hfind).2.1
  | power x n a1 a2 a3 a4 e =>
    obtain ⟨j1, h1, g1, e1⟩ := hc.ref g hk (x := x) (by rw [e]; simp [refs, mkPower])
    rw [e] at hfind ⊢
    rw [if_neg (by simp [mvr, mkPower]), if_neg (by simp [mvr, mkPower])]
    have q1 : atI ((0 : Int) :: ids.take k) (mvr ids (mkPower T x n).1).2.2.1 = x := by
      show atI _ (pos ids x) = x
      rw [e1]; exact hat h1 g1
    rw [q1]
    show pPower T most x n = _
    unfold pPower
    have kx : known T x = true := decide_eq_true (by omega)
    rw [kx, if_neg (by simp; omega), if_neg (by omega), if_neg (by omega), if_neg (by omega)]
    exact (pAdd_some (most := most) (e := mkPower T x n) hfind).2.1
theorem pImps_same (g : Grow T) (hc : Closed T ids) : ∀ (d k : Nat), k + d = ids.length → pImps T most ((exp T ids).drop k) ((0 : Int) :: ids.take k) = (T, (((0 : Int) :: ids).getLastD 0, .nilIface))
  | 0, k, hk => by
    have : k = ids.length := by omega
    subst this
    rw [show (exp T ids).drop ids.length = [] by rw [← exp_len T ids, List.drop_length], List.take_length]
    rfl
  | d + 1, k, hk => by
    have hkl : k < ids.length := by omega
    obtain ⟨y, hy⟩ : ∃ y, ids[k]? = some y := ⟨_, List.getElem?_eq_getElem hkl⟩
    have hd : (exp T ids).drop k = mvr ids (eAt T y).1 :: (exp T ids).drop (k + 1) := by
      have h := exp_get (T := T) hy
      have hl := (List.getElem?_eq_some_iff.1 h).1
      rw [List.drop_eq_getElem_cons hl, (List.getElem?_eq_some_iff.1 h).2]
    rw [hd, pImps_cons, pPut_same g hc hy, if_pos (by rfl)]
    have ht : (0 : Int) :: ids.take k ++ [y] = (0 : Int) :: ids.take (k + 1) := by rw [List.take_add_one, hy]; rfl
    show pImps T most _ ((0 : Int) :: ids.take k ++ [y]) = _
    rw [ht]
    exact pImps_same g hc d (k + 1) (by omega)
theorem pImport_same (g : Grow T) (hc : Closed T ids) : pImport T most (exp T ids) = (T, (((0 : Int) :: ids).getLastD 0, .nilIface)) := by
  unfold pImport
  rw [if_pos (bad_exp g hc)]
  have := pImps_same (most := most) g hc ids.length 0 (by omega)
  simpa using this

/-! ### Into an empty store -/
def copy (T : List ET) (ids : List Int) : List ET := ids.map fun x => (mvr ids (eAt T x).1, (eAt T x).2)
theorem copy_len : (copy T ids).length = ids.length := List.length_map _
theorem copy_get {k : Nat} {y : Int} (hk : ids[k]? = some y) : (copy T ids)[k]? = some (mvr ids (eAt T y).1, (eAt T y).2) := by
  unfold copy; rw [List.getElem?_map, hk]; rfl
theorem copy_at {k m : Nat} {y : Int} (hk : ids[k]? = some y) (hm : k < m) : eAt ((copy T ids).take m) ((k : Int) + 1) = (mvr ids (eAt T y).1, (eAt T y).2) := by
  have hkl := (List.getElem?_eq_some_iff.1 hk).1
  have h := eAt_get (L := (copy T ids).take m) (id := (k : Int) + 1) (by omega) (by rw [List.length_take, copy_len]; omega)
  rw [show ((k : Int) + 1 - 1).toNat = k by omega, List.getElem?_take_of_lt hm, copy_get hk] at h
  exact (Option.some.inj h).symm
theorem pos_inj (hc : Closed T ids) {x y : Int} (hx : x = 0 ∨ x ∈ ids) (hy : y = 0 ∨ y ∈ ids) (h : pos ids x = pos ids y) : x = y := by
  have key : ∀ {x : Int}, x ∈ ids → ∃ j : Nat, ids[j]? = some x ∧ pos ids x = (j : Int) + 1 := fun hx => by
    obtain ⟨j, hj⟩ := List.getElem?_of_mem hx
    exact ⟨j, hj, pos_some hc.nodup hj⟩
  have p0 := pos_zero hc
  rcases hx with rfl | hx
  · rcases hy with rfl | hy
    · rfl
    · obtain ⟨j, _, e⟩ := key hy
      rw [p0, e] at h; omega
  · obtain ⟨i, hi, ei⟩ := key hx
    rcases hy with rfl | hy
    · rw [p0, ei] at h; omega
    · obtain ⟨j, hj, e⟩ := key hy
      rw [ei, e] at h
      have : i = j := by omega
      subst this
      rw [hi] at hj
      exact Option.some.inj hj
theorem refs_mem (g : Grow T) (hc : Closed T ids) {y : Int} (hy : y ∈ ids) : ((eAt T y).1.2.2.1 = 0 ∨ (eAt T y).1.2.2.1 ∈ ids) ∧ ((eAt T y).1.2.2.2.1 = 0 ∨ (eAt T y).1.2.2.2.1 ∈ ids) := by
  have hyb := hc.bound y hy
  have hr := hc.refs y hy
  cases g.shape hyb.1 hyb.2 with
  | letter b _ _ e => rw [e]; exact ⟨Or.inl rfl, Or.inl rfl⟩
  | pair l r _ _ _ _ _ e =>
    rw [e] at hr ⊢
    exact ⟨Or.inr (hr l (by simp [refs, mkPair])), Or.inr (hr r (by simp [refs, mkPair]))⟩
  | power x k _ _ _ _ e =>
    rw [e] at hr ⊢
    exact ⟨Or.inr (hr x (by simp [refs, mkPower])), Or.inl rfl⟩
theorem mvr_inj (g : Grow T) (hc : Closed T ids) {x y : Int} (hx : x ∈ ids) (hy : y ∈ ids) (h : mvr ids (eAt T x).1 = mvr ids (eAt T y).1) : x = y := by
  have hxb := hc.bound x hx
  have hyb := hc.bound y hy
  have rx := refs_mem g hc hx
  have ry := refs_mem g hc hy
  have f1 := g.find hxb.1 hxb.2
  have f2 := g.find hyb.1 hyb.2
  have e : (eAt T x).1 = (eAt T y).1 := by
    generalize (eAt T x).1 = a at h rx
    generalize (eAt T y).1 = b at h ry
    simp only [mvr, Prod.mk.injEq] at h
    obtain ⟨h1, h2, h3, h4, h5⟩ := h
    exact Prod.ext h1 (Prod.ext h2 (Prod.ext (pos_inj hc rx.1 ry.1 h3) (Prod.ext (pos_inj hc rx.2 ry.2 h4) h5)))
  rw [e, f2] at f1
  exact (Option.some.inj f1).symm
theorem copy_fresh (g : Grow T) (hc : Closed T ids) {k : Nat} {y : Int} (hk : ids[k]? = some y) : lkR ((copy T ids).take k) (mvr ids (eAt T y).1) = none := by
  refine lkR_none fun e he h => ?_
  obtain ⟨j, hj⟩ := List.getElem?_of_mem he
  have hjk : j < k := by
    have := (List.getElem?_eq_some_iff.1 hj).1
    rw [List.length_take] at this; omega
  have hkl := (List.getElem?_eq_some_iff.1 hk).1
  rw [List.getElem?_take_of_lt hjk] at hj
  obtain ⟨x, hx⟩ : ∃ x, ids[j]? = some x := ⟨_, List.getElem?_eq_getElem (by omega)⟩
  rw [copy_get hx] at hj
  cases hj
  have := mvr_inj g hc (List.mem_of_getElem? hx) (List.mem_of_getElem? hk) h
  have := (sorted_lt hc.sorted hx hk).2 hjk
  omega
def ups (k : Nat) : List Int := (List.range (k + 1)).map fun i : Nat => (i : Int)
theorem ups_succ (k : Nat) : ups (k + 1) = ups k ++ [((k : Int) + 1)] := by
  unfold ups
  rw [List.range_succ, List.map_append]; rfl
theorem ups_at {k j : Nat} (h : j ≤ k) : atI (ups k) (j : Int) = j := by
  unfold atI ups
  rw [List.getD_eq_getElem?_getD, List.getElem?_map, List.getElem?_range (by omega)]; simp
theorem pPut_copy (g : Grow T) (hc : Closed T ids) {k : Nat} {y : Int} (hk : ids[k]? = some y) (hm : (k : Int) < most) : pPut ((copy T ids).take k) most (ups k) (mvr ids (eAt T y).1) = ((copy T ids).take (k + 1), ((k : Int) + 1, .nilIface)) := by
  have hyb := hc.bound y (List.mem_of_getElem? hk)
  have hkl := (List.getElem?_eq_some_iff.1 hk).1
  have hfr := copy_fresh g hc hk
  have hlen : ((copy T ids).take k).length = k := by rw [List.length_take, copy_len]; omega
  have hstep : (copy T ids).take (k + 1) = (copy T ids).take k ++ [(mvr ids (eAt T y).1, (eAt T y).2)] := by rw [List.take_add_one, copy_get hk]; rfl
  have p0 := pos_zero hc
  have fin : ∀ e : ET, e = (mvr ids (eAt T y).1, (eAt T y).2) → pAdd ((copy T ids).take k) most e = ((copy T ids).take (k + 1), ((k : Int) + 1, .nilIface)) := by
    rintro e rfl
    rw [(pAdd_new (most := most) (e := (mvr ids (eAt T y).1, (eAt T y).2)) hfr (by rw [hlen]; omega)).2, ← hstep, hlen]
  unfold pPut
  cases g.shape hyb.1 hyb.2 with
  | letter b _ _ e =>
    rw [e] at fin ⊢
    rw [if_pos (by rfl)]
    refine fin (mkLetter b) ?_
    simp [mvr, mkLetter, p0]
  | pair l r a1 a2 a3 a4 a5 e =>
    obtain ⟨j1, h1, g1, e1⟩ := hc.ref g hk (x := l) (by rw [e]; simp [refs, mkPair])
    obtain ⟨j2, h2, g2, e2⟩ := hc.ref g hk (x := r) (by rw [e]; simp [refs, mkPair])
    rw [e] at fin ⊢
    rw [if_neg (by simp [mvr, mkPair]), if_pos (by rfl)]
    have q1 : atI (ups k) (mvr ids (mkPair T l r).1).2.2.1 = (j1 : Int) + 1 := by
      show atI _ (pos ids l) = _
      rw [e1]; exact ups_at (j := j1 + 1) (by omega)
    have q2 : atI (ups k) (mvr ids (mkPair T l r).1).2.2.2.1 = (j2 : Int) + 1 := by
      show atI _ (pos ids r) = _
      rw [e2]; exact ups_at (j := j2 + 1) (by omega)
    have w1 := copy_at (T := T) g1 h1
    have w2 := copy_at (T := T) g2 h2
    rw [q1, q2]
    unfold pPair
    have kl : known ((copy T ids).take k) ((j1 : Int) + 1) = true := decide_eq_true (by rw [hlen]; omega)
    have kr : known ((copy T ids).take k) ((j2 : Int) + 1) = true := decide_eq_true (by rw [hlen]; omega)
    rw [kl, kr, if_neg (by simp), if_neg (by omega), if_neg (by omega), w1, w2, if_neg (by simp only; omega)]
    refine fin _ ?_
    unfold mkPair
    rw [w1, w2]
    simp only [mvr, e1, e2]
  | power x n a1 a2 a3 a4 e =>
    obtain ⟨j1, h1, g1, e1⟩ := hc.ref g hk (x := x) (by rw [e]; simp [refs, mkPower])
    rw [e] at fin ⊢
    rw [if_neg (by simp [mvr, mkPower]), if_neg (by simp [mvr, mkPower])]
    have q1 : atI (ups k) (mvr ids (mkPower T x n).1).2.2.1 = (j1 : Int) + 1 := by
      show atI _ (pos ids x) = _
      rw [e1]; exact ups_at (j := j1 + 1) (by omega)
    have w1 := copy_at (T := T) g1 h1
    rw [q1]
    show pPower _ most _ n = _
    unfold pPower
    have kx : known ((copy T ids).take k) ((j1 : Int) + 1) = true := decide_eq_true (by rw [hlen]; omega)
    rw [kx, if_neg (by simp; omega), if_neg (by omega), if_neg (by omega), w1, if_neg (by simp only; omega)]
    refine fin _ ?_
    unfold mkPower
    rw [w1]
    simp only [mvr, e1, p0]
theorem pImps_copy (g : Grow T) (hc : Closed T ids) (hm : (ids.length : Int) ≤ most) : ∀ (d k : Nat), k + d = ids.length → pImps ((copy T ids).take k) most ((exp T ids).drop k) (ups k) = (copy T ids, ((ids.length : Int), .nilIface))
  | 0, k, hk => by
    have : k = ids.length := by omega
    subst this
    rw [show (exp T ids).drop ids.length = [] by rw [← exp_len T ids, List.drop_length]]
    have : (copy T ids).take ids.length = copy T ids := by rw [← copy_len (T := T), List.take_length]
    rw [this]
    unfold pImps
    congr 2
    unfold ups
    rw [List.range_succ, List.map_append]
    simp
  | d + 1, k, hk => by
    have hkl : k < ids.length := by omega
    obtain ⟨y, hy⟩ : ∃ y, ids[k]? = some y := ⟨_, List.getElem?_eq_getElem hkl⟩
    have hd : (exp T ids).drop k = mvr ids (eAt T y).1 :: (exp T ids).drop (k + 1) := by
      have h := exp_get (T := T) hy
      have hl := (List.getElem?_eq_some_iff.1 h).1
      rw [List.drop_eq_getElem_cons hl, (List.getElem?_eq_some_iff.1 h).2]
    rw [hd, pImps_cons, pPut_copy g hc hy (by omega), if_pos (by rfl)]
    show pImps _ most _ (ups k ++ [((k : Int) + 1)]) = _
    rw [← ups_succ]
    exact pImps_copy g hc hm d (k + 1) (by omega)
theorem pImport_copy (g : Grow T) (hc : Closed T ids) (hm : (ids.length : Int) ≤ most) : pImport [] most (exp T ids) = (copy T ids, ((ids.length : Int), .nilIface)) := by
  unfold pImport
  rw [if_pos (bad_exp g hc)]
  have := pImps_copy (most := most) g hc hm ids.length 0 (by omega)
  simpa [ups] using this

end Go.Proofs.Ytedmbgddmckegaa

/- Bytes as a string. -/
set_option linter.unusedVariables false
set_option linter.unusedSimpArgs false
namespace Go.Proofs.Ytedmbgddmckegaa
open Go.Den

variable {w0 w : World} {Ω : List Ob}

def bstr (xs : List Int) : ByteArray := xs.foldl (fun r n => r.push (UInt8.ofNat n.toNat)) ByteArray.empty
theorem bstr_data (xs : List Int) : (bstr xs).data = (xs.map fun n => UInt8.ofNat n.toNat).toArray := by
  have key : ∀ (xs : List Int) (r : ByteArray), (xs.foldl (fun r n => r.push (UInt8.ofNat n.toNat)) r).data = r.data ++ (xs.map fun n => UInt8.ofNat n.toNat).toArray := by
    intro xs
    induction xs with
    | nil => intro r; simp
    | cons x xs ih =>
      intro r
      rw [List.foldl_cons, ih, ByteArray.data_push]
      simp
  rw [bstr, key]
  simp
theorem bstr_append (xs ys : List Int) : bstr xs ++ bstr ys = bstr (xs ++ ys) := by
  apply ByteArray.ext
  rw [ByteArray.data_append, bstr_data, bstr_data, bstr_data]
  simp
theorem bstr_size (xs : List Int) : (bstr xs).size = xs.length := by
  show (bstr xs).data.size = _
  rw [bstr_data]
  simp
theorem bstr_nil : bstr [] = (⟨#[]⟩ : ByteArray) := rfl
theorem underBytes : P.underlying t_sl_uint8 = some (.slice t_uint8) := by kernel_rfl
theorem underByte : P.underlying t_uint8 = some (.int .u8) := by kernel_rfl
theorem underString : P.underlying t_string = some .string := by kernel_rfl
theorem toStr {sl : Sl} {xs : List (Ty.int .u8).T} (v : View (.int .u8) w sl xs) {K : ByteArray → World → Prop} (h : K (bstr xs) w) : runK P .str (convert t_sl_uint8 t_string (.slice sl.a sl.len sl.cap)) w K := by
  refine ⟨bstr xs, w, ?_, h⟩
  rw [run_convert_bytes_string w _ _ _ _ _ _ underBytes underByte underString]
  cases hq : sl.a with
  | none =>
    have : xs = [] := by
      apply Classical.byContradiction
      intro hne
      obtain ⟨q, hq'⟩ := v.ne hne
      rw [hq] at hq'; cases hq'
    subst this
    rfl
  | some q =>
    have hm := v.mem q hq
    have hf : flat (.int .u8) xs = xs.map (Value.int .u8) := by
      clear v hm h
      induction xs with
      | nil => rfl
      | cons x xs ih => simp only [flat, List.flatMap_cons, List.map_cons] at ih ⊢; rw [ih]; rfl
    rw [hf] at hm
    exact run_bytesToString w q sl.len sl.cap xs (run_loadCells_at hm (by rw [List.length_map]; exact v.len.symm))

end Go.Proofs.Ytedmbgddmckegaa

/- The specification's texts of exported rules (evergreenref11): Check, Lengths, Plain. -/
set_option linter.unusedVariables false
set_option linter.unusedSimpArgs false
namespace Go.Proofs.Ytedmbgddmckegaa
open Go.Den

variable {w0 w : World} {Ω : List Ob} {most : Int} {T : List ET} {ids : List Int} {i : Nat} {p : Addr}

/-- a rule of an exported list -/
inductive GR (T : List ET) (ids : List Int) (k : Nat) (y : Int) : Prop
  | letter (b : Int) : 0 ≤ b → b < 256 → mvr ids (eAt T y).1 = (1, b, 0, 0, 0) → (eAt T y).2.1.1 = 1 → txt T y = [b] → GR T ids k y
  | pair (l r : Int) (jl jr : Nat) : jl < k → jr < k → ids[jl]? = some l → ids[jr]? = some r → mvr ids (eAt T y).1 = (2, 0, (jl : Int) + 1, (jr : Int) + 1, 0) → (eAt T y).2.1.1 = (eAt T l).2.1.1 + (eAt T r).2.1.1 → (eAt T l).2.1.1 + (eAt T r).2.1.1 ≤ 1152921504606846976 → txt T y = txt T l ++ txt T r → GR T ids k y
  | power (x m : Int) (j : Nat) : j < k → ids[j]? = some x → 2 ≤ m → mvr ids (eAt T y).1 = (3, 0, (j : Int) + 1, 0, m) → (eAt T y).2.1.1 = (eAt T x).2.1.1 * m → (eAt T x).2.1.1 * m ≤ 1152921504606846976 → txt T y = (List.replicate m.toNat (txt T x)).flatten → GR T ids k y
theorem gr_of (g : Grow T) (hc : Closed T ids) {k : Nat} {y : Int} (hk : ids[k]? = some y) : GR T ids k y := by
  have hyb := hc.bound y (List.mem_of_getElem? hk)
  have p0 := pos_zero hc
  cases g.txt hyb.1 hyb.2 with
  | letter b h1 h2 e ht =>
    refine .letter b h1 h2 (by rw [e]; simp [mvr, mkLetter, p0]) (by rw [e]; exact wLetter_len b) ht
  | pair l r h1 h2 h3 h4 h5 e ht =>
    obtain ⟨j1, q1, q2, e1⟩ := hc.ref g hk (x := l) (by rw [e]; simp [refs, mkPair])
    obtain ⟨j2, q3, q4, e2⟩ := hc.ref g hk (x := r) (by rw [e]; simp [refs, mkPair])
    exact .pair l r j1 j2 q1 q3 q2 q4 (by rw [e]; simp [mvr, mkPair, e1, e2]) (by rw [e]; rfl) h5 ht
  | power x m h1 h2 h3 h4 e ht =>
    obtain ⟨j1, q1, q2, e1⟩ := hc.ref g hk (x := x) (by rw [e]; simp [refs, mkPower])
    exact .power x m j1 q1 q2 h3 (by rw [e]; simp [mvr, mkPower, e1, p0]) (by rw [e]; exact wRep_len _ _) h4 ht

theorem ref11_earlier_yes {a n : Int} (h1 : 1 ≤ a) (h2 : a < n) {K : Bool → World → Prop} (h : K true w) : C_ref11_earlier a n K w := by
  apply S_ref11_earlier
  unfold F_ref11_earlier
  refine gd_t (decide_eq_true h1) ?_
  rwa [decide_eq_true h2]
theorem ref11_Rule_gr {k : Nat} {y : Int} (hg : GR T ids k y) (s : Sp w0 Ω w) {K : Int → World → Prop} (h : ∀ w', Sp w0 Ω w' → K 0 w') : C_ref11_Rule (mvr ids (eAt T y).1) ((k : Int) + 1) K w := by
  apply S_ref11_Rule
  unfold F_ref11_Rule
  cases hg with
  | letter b h1 h2 e _ _ =>
    rw [e]
    refine s.allocK fun a1 w1 s => s.ldi (x := 1) 0 0 rfl rfl (gd_t rfl (JoinP.inl (s.ldi (x := 0) 0 2 rfl rfl (gd_f rfl (s.ldi (x := 0) 0 3 rfl rfl (gd_f rfl (s.ldi (x := 0) 0 4 rfl rfl ?_)))))))
    intro _
    exact gd_f rfl (gd_f (decide_eq_false (by omega)) (h _ s.pop))
  | pair l r jl jr h1 h2 _ _ e _ _ _ =>
    rw [e]
    refine s.allocK fun a1 w1 s => s.ldi (x := 2) 0 0 rfl rfl (gd_f rfl (gd_t rfl (JoinP.inl (s.ldi (x := 0) 0 1 rfl rfl (gd_f rfl (s.ldi (x := 0) 0 4 rfl rfl ?_))))))
    intro _
    refine gd_f rfl (JoinP.inl (gd_f (decide_eq_false (by omega)) (s.ldi (x := (jl : Int) + 1) 0 2 rfl rfl (ref11_earlier_yes (by omega) (by omega) (gd_f rfl (s.ldi (x := (jr : Int) + 1) 0 3 rfl rfl (ref11_earlier_yes (by omega) (by omega) ?_)))))))
    intro _
    exact gd_f rfl (h _ s.pop)
  | power x m j h1 _ h2 e _ _ _ =>
    rw [e]
    refine s.allocK fun a1 w1 s => s.ldi (x := 3) 0 0 rfl rfl (gd_f rfl (gd_f rfl (gd_t rfl (JoinP.inl (s.ldi (x := 0) 0 1 rfl rfl (gd_f rfl (s.ldi (x := 0) 0 3 rfl rfl (gd_f rfl (s.ldi (x := m) 0 4 rfl rfl ?_)))))))))
    intro _
    refine gd_f (decide_eq_false (by omega)) (JoinP.inl (gd_f (decide_eq_false (by omega)) (s.ldi (x := (j : Int) + 1) 0 2 rfl rfl (ref11_earlier_yes (by omega) (by omega) ?_))))
    intro _
    exact gd_f rfl (h _ s.pop)
theorem ids_len (g : Grow T) (hc : Closed T ids) : ids.length ≤ T.length := nodup_bound hc.nodup hc.bound
theorem ref11_Check_spec {sl : Sl} (g : Grow T) (hN : T.length ≤ 1048576) (hc : Closed T ids) (s : Sp w0 Ω w) (hv : ∀ w', Sp w0 Ω w' → View yapi_Rule w' sl (exp T ids)) {K : Int → World → Prop} (h : ∀ w', Sp w0 Ω w' → K 0 w') : C_ref11_Check sl K w := by
  apply S_ref11_Check
  unfold F_ref11_Check
  have hlen := (hv _ s).len
  rw [exp_len] at hlen
  have hil := ids_len g hc
  refine loop_by (fun x => x.1) ids.length (fun n _ w => Sp w0 Ω w) rfl s ?_
  rintro n ⟨x, _⟩ w2 hn hx s _
  dsimp only at hx ⊢
  subst hx
  refine gd_dec (fun hlt => ?_) (fun hge => h _ s)
  have hn' : n < ids.length := by omega
  have hk : ids[n]? = some ids[n] := List.getElem?_eq_getElem hn'
  refine (hv _ s).idx rfl (exp_get hk) rfl fun q hq => ⟨_, hq, arith_i64 (by omega) (by omega) (ref11_Rule_gr (gr_of g hc hk) s fun w3 s => gd_f rfl (arith_i64 (by omega) (by omega) (loop_nx hn' s)))⟩

theorem ref01_Valid_yes {a : Int} (h1 : 0 ≤ a) (h2 : a ≤ 1152921504606846976) {K : Bool → World → Prop} (h : K true w) : C_ref01_Valid a K w := by
  apply S_ref01_Valid
  unfold F_ref01_Valid
  refine gd_t (decide_eq_true h1) ?_
  rwa [decide_eq_true h2]
theorem ref01_Add_ok {a b : Int} (h1 : 0 ≤ a) (h2 : 0 ≤ b) (h3 : a + b ≤ 1152921504606846976) {K : Int × Int → World → Prop} (h : K (a + b, 0) w) : C_ref01_Add a b K w := by
  apply S_ref01_Add
  unfold F_ref01_Add
  refine JoinP.inl (ref01_Valid_yes h1 (by omega) (gd_f rfl (ref01_Valid_yes h2 (by omega) ?_)))
  intro _
  exact gd_f rfl (arith_i64 (by omega) (by omega) (gd_f (decide_eq_false (by omega)) (arith_i64 (by omega) (by omega) h)))
theorem ref01_Mul_ok {a k : Int} (h1 : 1 ≤ a) (h2 : 0 ≤ k) (h3 : a * k ≤ 1152921504606846976) (ha : a ≤ 1152921504606846976) {K : Int × Int → World → Prop} (h : K (a * k, 0) w) : C_ref01_Mul a k K w := by
  apply S_ref01_Mul
  unfold F_ref01_Mul
  have hnn : 0 ≤ a * k := Int.mul_nonneg (by omega) h2
  have hd : Int.tdiv 1152921504606846976 a = 1152921504606846976 / a := Int.tdiv_eq_ediv_of_nonneg (by decide)
  have hb : 0 ≤ 1152921504606846976 / a ∧ 1152921504606846976 / a ≤ 1152921504606846976 := ⟨Int.ediv_nonneg (by decide) (by omega), Int.ediv_le_self _ (by decide)⟩
  have hiff : 1152921504606846976 / a < k ↔ 1152921504606846976 < a * k := by
    rw [Int.mul_comm]; exact Int.ediv_lt_iff_lt_mul (by omega)
  have hno : ¬ 1152921504606846976 / a < k := fun h => by have := hiff.1 h; omega
  refine JoinP.inl (ref01_Valid_yes (by omega) ha (gd_f rfl ?_))
  intro _
  refine gd_f (decide_eq_false (by omega)) (JoinP.inl (gd_t (decide_eq_true (by omega)) ⟨by omega, ?_⟩))
  rw [hd]
  refine arith_i64 (by omega) (by omega) ?_
  intro _
  exact gd_f (decide_eq_false hno) (arith_i64 (by omega) (by omega) h)

def lensG (T : List ET) (ids : List Int) : List (Ty.int .i64).T := ids.map fun y => (eAt T y).2.1.1
theorem lensG_len (T : List ET) (ids : List Int) : (lensG T ids).length = ids.length := List.length_map _
theorem lensG_get {k : Nat} {y : Int} (hk : ids[k]? = some y) : (lensG T ids)[k]? = some (eAt T y).2.1.1 := by unfold lensG; rw [List.getElem?_map, hk]; rfl
theorem ref11_Lengths_spec {sl : Sl} (g : Grow T) (hN : T.length ≤ 1048576) (hc : Closed T ids) (s : Sp w0 Ω w) (hv : ∀ w', Sp w0 Ω w' → View yapi_Rule w' sl (exp T ids)) {K : Sl × Int → World → Prop} (h : ∀ ls w', Sp w0 (own (.int .i64) ls (lensG T ids) :: Ω) w' → K (ls, 0) w') : C_ref11_Lengths sl K w := by
  apply S_ref11_Lengths
  unfold F_ref11_Lengths
  have hlen := (hv _ s).len
  rw [exp_len] at hlen
  have hil := ids_len g hc
  have hll := lensG_len T ids
  refine ref11_Check_spec g hN hc s hv fun w1 s => gd_f rfl ?_
  refine loop_by (fun x => x.2.1) ids.length (fun n x w => Sp w0 (own (.int .i64) x.1 ((lensG T ids).take n) :: Ω) w) rfl (s.nil _) ?_
  rintro n ⟨ls, x, _⟩ w2 hn hx s _
  dsimp only at hx s ⊢
  subst hx
  refine gd_dec (fun hlt => ?_) (fun hge => ?_)
  rotate_left
  · have e : n = (lensG T ids).length := by omega
    subst e
    rw [List.take_length] at s
    exact h _ _ s
  have hn' : n < ids.length := by omega
  have hk : ids[n]? = some ids[n] := List.getElem?_eq_getElem hn'
  generalize ids[n] = y at hk
  have hex := exp_get (T := T) hk
  have htk : (lensG T ids).take (n + 1) = (lensG T ids).take n ++ [(eAt T y).2.1.1] := by rw [List.take_add_one, lensG_get hk]; rfl
  refine ⟨fun x w => x.1 = (eAt T y).2.1.1 ∧ x.2.1 = 0 ∧ Sp w0 (own (.int .i64) ls ((lensG T ids).take n) :: Ω) w, ?_, ?_⟩
  · have at_ : ∀ {j : Nat} {z : Int}, j < n → ids[j]? = some z → ((lensG T ids).take n)[j]? = some (eAt T z).2.1.1 := fun hj hz => by
      rw [List.getElem?_take_of_lt hj]; exact lensG_get hz
    have wl : ∀ {j : Nat} {z : Int}, ids[j]? = some z → 1 ≤ (eAt T z).2.1.1 ∧ (eAt T z).2.1.1 ≤ 1152921504606846976 := fun hz => by
      have hb := hc.bound _ (List.mem_of_getElem? hz)
      have ha := g.at_ (show 0 ≤ _ by omega) hb.2
      exact ⟨ha.2.2.2 hb.1, ha.1.len.2⟩
    refine (hv _ s.pop).idx2 rfl hex rfl fun q hq => ⟨_, ((hq _ (hv _ s.pop)).sub 0 rfl : At _ (q.add 0) (cells (.int .i64) (mvr ids (eAt T y).1).1)), ?_⟩
    cases gr_of g hc hk with
    | letter b h1 h2 e hl _ => exact gd_f (by rw [e]; rfl) (gd_f (by rw [e]; rfl) ⟨hl.symm, rfl, s⟩)
    | pair l r jl jr h1 h2 hl hr e hlen' hle _ =>
      have b1 := wl hl
      have b2 := wl hr
      refine gd_t (by rw [e]; rfl) (s.drawK fun w3 s => (hv _ s.pop).idx2 rfl hex rfl fun q2 hq2 => ⟨(jl : Int) + 1, ?_, arith_i64 (by omega) (by omega) ((s.view 0 rfl).idx (n := jl) (by omega) (at_ h1 hl) rfl fun q3 hq3 => ⟨_, hq3, (hv _ s.pop).idx2 rfl hex rfl fun q4 hq4 => ⟨(jr : Int) + 1, ?_, arith_i64 (by omega) (by omega) ((s.view 0 rfl).idx (n := jr) (by omega) (at_ h2 hr) rfl fun q5 hq5 => ⟨_, hq5, ref01_Add_ok (by omega) (by omega) hle ⟨hlen'.symm, rfl, s⟩⟩)⟩⟩)⟩)
      · have := hq2 _ (hv _ s.pop)
        rw [e] at this
        exact this.sub 2 rfl
      · have := hq4 _ (hv _ s.pop)
        rw [e] at this
        exact this.sub 3 rfl
    | power x m j h1 hx h2 e hlen' hle _ =>
      have b1 := wl hx
      have hm : m ≤ 1152921504606846976 := by
        have : 1 * m ≤ (eAt T x).2.1.1 * m := Int.mul_le_mul_of_nonneg_right b1.1 (by omega)
        omega
      refine gd_f (by rw [e]; rfl) (gd_t (by rw [e]; rfl) (s.drawK fun w3 s => (hv _ s.pop).idx2 rfl hex rfl fun q2 hq2 => ⟨(j : Int) + 1, ?_, arith_i64 (by omega) (by omega) ((s.view 0 rfl).idx (n := j) (by omega) (at_ h1 hx) rfl fun q3 hq3 => ⟨_, hq3, (hv _ s.pop).idx2 rfl hex rfl fun q4 hq4 => ⟨m, ?_, ref01_Mul_ok b1.1 (by omega) hle b1.2 ⟨hlen'.symm, rfl, s⟩⟩⟩)⟩))
      · have := hq2 _ (hv _ s.pop)
        rw [e] at this
        exact this.sub 2 rfl
      · have := hq4 _ (hv _ s.pop)
        rw [e] at this
        exact this.sub 4 rfl
  rintro ⟨a, b, _⟩ w4 ⟨ha, hb, s⟩ _
  dsimp only at ha hb ⊢
  subst ha hb
  refine gd_f rfl (s.allocK fun a27 w5 s => s.app 1 rfl ((s.lit (ty := .int .i64) 0 rfl [(eAt T y).2.1.1] 1 rfl rfl).view 0 rfl) (by simp only [List.length_take, List.length_cons, List.length_nil]; omega) fun s28 w6 s => arith_i64 (by omega) (by omega) (loop_nx hn' ?_))
  rw [htk]
  exact s.pop

theorem flat_rep_succ {α : Type} (n : Nat) (xs : List α) : (List.replicate (n + 1) xs).flatten = (List.replicate n xs).flatten ++ xs := by
  rw [List.replicate_succ', List.flatten_append]
  simp
theorem flat_rep_len {α : Type} (n : Nat) (xs : List α) : (List.replicate n xs).flatten.length = n * xs.length := by
  induction n with
  | zero => simp
  | succ n ih => rw [flat_rep_succ, List.length_append, ih, Nat.succ_mul]
theorem ref11_plain_spec {sl : Sl} (g : Grow T) (hN : T.length ≤ 1048576) (hc : Closed T ids) : ∀ (k : Nat) {y : Int} {w0 w : World} {Ω : List Ob}, ids[k]? = some y → (txt T y).length ≤ 1000000 → Sp w0 Ω w → (∀ w', Sp w0 Ω w' → View yapi_Rule w' sl (exp T ids)) → ∀ {K : Sl → World → Prop}, (∀ s' w', Sp w0 (own (.int .u8) s' (txt T y) :: Ω) w' → K s' w') → C_ref11_plain sl ((k : Int) + 1) K w := by
  intro k
  induction k using Nat.strongRecOn with
  | ind k ih =>
  intro y w0 w Ω hk hty s hv K h
  have hil := ids_len g hc
  have hk' : k < ids.length := (List.getElem?_eq_some_iff.1 hk).1
  apply S_ref11_plain
  unfold F_ref11_plain
  refine gd_f (by simp; omega) (arith_i64 (by omega) (by omega) ((hv _ s).idx (n := k) (by omega) (exp_get hk) rfl fun q hq => ⟨_, hq, s.allocK fun a4 w1 s => s.st0 0 rfl rfl rfl fun w2 s => s.ldi (x := (mvr ids (eAt T y).1).1) 0 0 rfl rfl ?_⟩))
  cases gr_of g hc hk with
  | letter b h1 h2 e hl ht =>
    rw [ht] at h
    refine gd_t (by rw [e]; rfl) (s.ldi (x := b) 0 1 rfl (by rw [e]; rfl) (s.allocK fun a7 w3 s => h _ _ ((s.lit (ty := .int .u8) 0 rfl [b] 1 rfl rfl).pick [0] 2 rfl (by decide))))
  | pair l r jl jr h1 h2 hl hr e hlen' hle ht =>
    rw [ht, List.length_append] at hty
    refine gd_f (by rw [e]; rfl) (gd_t (by rw [e]; rfl) (s.drawK fun w4 s => s.ldi (x := (jl : Int) + 1) 0 2 rfl (by rw [e]; rfl) (s.ldi (x := (jr : Int) + 1) 0 3 rfl (by rw [e]; rfl) ?_)))
    refine ih jl h1 hl (by omega) s (fun w' s => hv _ s.pop) fun s1 w5 s => ⟨s.still 1 3 rfl (by rw [e]; rfl), ih jr h2 hr (by omega) s (fun w' s => hv _ (s.drop 2)) fun s2 w6 s => ?_⟩
    refine s.app 1 rfl (s.view 0 rfl) (by omega) fun s3 w7 s => h s3 _ ?_
    rw [ht]
    exact s.pick [1] 3 rfl (by decide)
  | power x m j h1 hx h2 e hlen' hle ht =>
    rw [ht, flat_rep_len] at hty
    have hxl : 1 ≤ (txt T x).length := by
      have hb := hc.bound _ (List.mem_of_getElem? hx)
      have := g.len (id := x) (by omega) hb.2
      have := (g.at_ (id := x) (by omega) hb.2).2.2.2 hb.1
      omega
    have hm : m.toNat ≤ m.toNat * (txt T x).length := Nat.le_mul_of_pos_right _ hxl
    have hx1 : (txt T x).length ≤ m.toNat * (txt T x).length := Nat.le_mul_of_pos_left _ (by omega)
    refine gd_f (by rw [e]; rfl) (gd_f (by rw [e]; rfl) (s.ldi (x := (j : Int) + 1) 0 2 rfl (by rw [e]; rfl) ?_))
    refine ih j h1 hx (by omega) s (fun w' s => hv _ s.pop) fun s1 w5 s => ?_
    refine loop_by (fun x => x.2.1) m.toNat (fun n x' w => Sp w0 (own (.int .u8) x'.1 (List.replicate n (txt T x)).flatten :: own (.int .u8) s1 (txt T x) :: cel a4 (cells yapi_Rule (mvr ids (eAt T y).1)) :: Ω) w) rfl (s.nil _) ?_
    rintro n ⟨out, z, _⟩ w6 hn hz s _
    dsimp only at hz s ⊢
    subst hz
    refine s.ldi (x := m) 2 4 rfl (by rw [e]; rfl) (gd_dec (fun hlt => ?_) (fun hge => ?_))
    · have hn' : n < m.toNat := by omega
      have hnl : n * (txt T x).length ≤ m.toNat * (txt T x).length := Nat.mul_le_mul_right _ (by omega)
      refine s.app 0 rfl (s.view 1 rfl) (by rw [flat_rep_len]; omega) fun s3 w7 s => arith_i64 (by omega) (by omega) (loop_nx hn' ?_)
      rw [flat_rep_succ]
      exact s
    · have e2 : n = m.toNat := by omega
      subst e2
      rw [ht] at h
      exact h _ _ (s.pick [0] 3 rfl (by decide))

theorem rlist_last (g : Grow T) {id : Int} (h1 : 1 ≤ id) (h2 : id ≤ T.length) : ∃ k : Nat, (rlist T [id]).length = k + 1 ∧ (rlist T [id])[k]? = some id := by
  have hS : ∀ x ∈ [id], 0 ≤ x ∧ x ≤ (T.length : Int) := fun x hx => by simp at hx; subst hx; exact ⟨by omega, h2⟩
  have hc := rlist_closed g hS
  have hm : id ∈ rlist T [id] := (rlist_mem g hS).2 (.root (by simp) (by omega))
  have hle : ∀ x, Rch T [id] x → x ≤ id := fun x h => by
    induction h with
    | root h1 _ => simp at h1; omega
    | ref hy hx ih =>
      have hb := hy.bound g hS
      have := refs_in g hb.1 hb.2 hx
      omega
  obtain ⟨j, hj⟩ := List.getElem?_of_mem hm
  have hjl := (List.getElem?_eq_some_iff.1 hj).1
  refine ⟨j, ?_, hj⟩
  apply Classical.byContradiction
  intro hne
  have hj1 : j + 1 < (rlist T [id]).length := by omega
  have hget := List.getElem?_eq_getElem hj1
  have hgt := (sorted_lt hc.sorted hj hget).2 (by omega)
  have := hle _ (mem_rlist.1 (List.getElem_mem hj1)).2
  omega
theorem ref11_Plain_spec {sl : Sl} {id : Int} (g : Grow T) (hN : T.length ≤ 1048576) (hk : 0 ≤ id ∧ id ≤ T.length) (hl : (txt T id).length ≤ 4096) (s : Sp w0 Ω w) (hv : ∀ w', Sp w0 Ω w' → View yapi_Rule w' sl (exp T (rlist T [id]))) {n : Int} (hn : n = (sl.len : Int)) {K : Sl × Bool → World → Prop}
    (h : ∀ s' w', Sp w0 (own (.int .u8) s' (txt T id) :: Ω) w' → K (s', true) w') : C_ref11_Plain sl n K w := by
  subst hn
  apply S_ref11_Plain
  unfold F_ref11_Plain
  have hS : ∀ x ∈ [id], 0 ≤ x ∧ x ≤ (T.length : Int) := fun x hx => by simp at hx; subst hx; exact hk
  have hc := rlist_closed g hS
  have hlen := (hv _ s).len
  rw [exp_len] at hlen
  have hil := ids_len g hc
  refine ref11_Lengths_spec g hN hc s hv fun ls w1 s => JoinP.inl (gd_f rfl (gd_f (decide_eq_false (by omega)) (gd_f (decide_eq_false (by omega)) ?_)))
  by_cases c : id = 0
  · subst c
    rw [rlist_zero] at hlen
    rw [txt_zero] at h
    refine gd_f (decide_eq_false (by simp at hlen; omega)) ?_
    intro _
    refine gd_f rfl ?_
    apply S_ref11_plain
    unfold F_ref11_plain
    exact gd_t (by simp at hlen; simp [hlen]) (h _ _ ((s.pop).nil _))
  · obtain ⟨k, e1, e2⟩ := rlist_last g (id := id) (by omega) hk.2
    have hlw := g.len hk.1 hk.2
    refine gd_t (decide_eq_true (by omega)) (arith_i64 (by omega) (by omega) ((s.view 0 rfl).idx (n := k) (by omega) (lensG_get e2) rfl fun q hq => ⟨_, hq, ?_⟩))
    intro _
    refine gd_f (decide_eq_false (by omega)) ?_
    rw [show ((sl.len : Nat) : Int) = (k : Int) + 1 by omega]
    exact ref11_plain_spec g hN hc k e2 (by omega) s.pop hv fun s' w2 s => h _ _ s

end Go.Proofs.Ytedmbgddmckegaa

/- The walk of AvlJoins. -/
set_option linter.unusedVariables false
set_option linter.unusedSimpArgs false
namespace Go.Proofs.Ytedmbgddmckegaa
open Go.Den

variable {w0 w : World} {Ω : List Ob} {most : Int} {T : List ET} {i : Nat} {p : Addr}

theorem law13_text_spec {id : Int} (s : Sp w0 Ω w) (i : Nat) (hi : Ω[i]? = some (sto p most T)) (hk : 0 ≤ id ∧ id ≤ T.length) (hl : (txt T id).length ≤ 4096) {K : ByteArray × Bool → World → Prop}
    (h : ∀ w', Sp w0 Ω w' → K (bstr (txt T id), true) w') : C_law13_text (some p) id K w := by
  apply S_law13_text
  unfold F_law13_text
  obtain ⟨_, _, _, hb0, hb1, hb2, hg⟩ := Sp.entry s i hi
  refine intern_Export_sp s i hi (fun _ sl w1 s => ?_) (fun hno => absurd hk hno)
  refine ref11_Plain_spec hg (by omega) hk hl s (fun w' s => s.view 0 rfl) rfl fun s' w2 s => s.drawK fun w3 s => nilIfc_nil (gd_t rfl (toStr (s.view 0 rfl) (h _ (s.drop 2))))

theorem beq_toList {a b : ByteArray} (h : a = b) : (a.toList == b.toList) = true := by subst h; simp

theorem law13_AvlJoins_spec {sl : Sl} {ops : List yevergreenlaw13_Step.T} (hv : View yevergreenlaw13_Step w0 sl ops) (ho : ∀ o ∈ ops, 0 ≤ o.2.1 ∧ o.2.1 < 256) {K : Bool → World → Prop} (h : ∀ w', Ext w0 w' → K true w') : C_law13_AvlJoins sl K w0 := by
  apply S_law13_AvlJoins
  unfold F_law13_AvlJoins
  refine awake_guard (fun w1 x hx e1 => fun _ => gd_t hx (law13_awake_spec fun w2 e2 => h _ (e1.trans e2))) fun w1 x hs hx e1 => fun _ => gd_f hx ?_
  refine intern_New_sp ((Sp.init w0).toExt e1) fun p w2 s => s.allocK fun a6 w3 s => s.allocK fun a7 w4 s => ?_
  have hlen := hv.len
  have s : Sp w0 [own .str ⟨some ⟨a7, 0, none⟩, 1, 1⟩ [bstr []], own (.int .i64) ⟨some ⟨a6, 0, none⟩, 1, 1⟩ [(0 : Int)], sto p 1048576 []] w4 := (s.lit (ty := .str) 0 rfl [bstr []] 1 rfl rfl).lit (ty := .int .i64) 1 rfl [(0 : Int)] 1 rfl rfl
  refine loop_by (fun x => x.2.2.1) ops.length (fun n x w => ∃ T ids, Sp w0 [own .str x.2.1 (ids.map fun y => bstr (txt T y)), own (.int .i64) x.1 ids, sto p 1048576 T] w ∧ 1 ≤ ids.length ∧ ids.length ≤ n + 1 ∧ (∀ y ∈ ids, IsNd T y ∧ (txt T y).length ≤ 1500) ∧ T.length ≤ 260 * n) rfl ⟨[], [(0 : Int)], s, by decide, by decide, fun y hy => by
    rw [List.mem_singleton] at hy
    subst hy
    exact ⟨⟨[], 0, Nd0.zero⟩, by decide⟩, by decide⟩ ?_
  clear s
  rintro n ⟨xs, ts, x, _⟩ w4 hn hx ⟨T, ids, s, hid0, hid1, hnd, hT⟩ _
  dsimp only at hx s ⊢
  subst hx
  refine gd_dec (fun hlt => ?_) (fun hge => h _ s.ext)
  have hn' : n < ops.length := by omega
  have hlen90 : ops.length ≤ 50 := by omega
  have hok := ho _ (List.getElem_mem hn')
  have hidl : (xs.len : Int) = ids.length := by rw [← (s.view 1 rfl).len]
  obtain ⟨_, _, _, hb0, hb1, hb2, hg⟩ := Sp.entry s 2 rfl
  refine (hv.ext s.ext).idx rfl (List.getElem?_eq_getElem hn') rfl fun q hq => ⟨_, hq, ?_⟩
  generalize ops[n] = o at hok
  refine s.allocK fun a12 w8 s => s.st0 0 rfl rfl rfl fun w9 s => s.drawK fun w10 s => s.ldi (x := o.2.2.1) 0 2 rfl rfl (s.ldi (x := o.2.2.2) 0 3 rfl rfl ?_)
  refine ref12_Pick_spec (by omega) (by omega) fun k1 hk1 hk1' => ⟨s.still 0 3 rfl rfl, ref12_Pick_spec (by omega) (by omega) fun k2 hk2 hk2' => ?_⟩
  obtain ⟨n1, a, rfl, ha, hma⟩ := getN (xs := ids) hk1 (by omega)
  obtain ⟨n2, b, rfl, hb, hmb⟩ := getN (xs := ids) hk2 (by omega)
  have hta : (ids.map fun y => bstr (txt T y))[n1]? = some (bstr (txt T a)) := by rw [List.getElem?_map, ha]; rfl
  have htb : (ids.map fun y => bstr (txt T y))[n2]? = some (bstr (txt T b)) := by rw [List.getElem?_map, hb]; rfl
  refine ⟨fun x w => x.1 = 0 ∧ x.2.1 = bstr [o.2.1] ∧ x.2.2.1 = (T.length : Int) ∧ Sp w0 [cel a12 (cells yevergreenlaw13_Step o), own .str ts (ids.map fun y => bstr (txt T y)), own (.int .i64) xs ids, sto p 1048576 T] w, ?_, ?_⟩
  · refine s.drawK fun w11 s => s.ldi (x := o.2.1) 0 1 rfl rfl ⟨s.allocK fun a20 w12 s => ⟨?_, ?_⟩, ?_⟩
    · refine toStr ((s.lit (ty := .int .u8) 0 rfl [o.2.1] 1 rfl rfl).view 0 rfl) (intern_Len_sp s 4 rfl ⟨rfl, rfl, rfl, s.pop⟩)
    · refine intern_Len_sp s 4 rfl (toStr ((s.lit (ty := .int .u8) 0 rfl [o.2.1] 1 rfl rfl).view 0 rfl) ⟨rfl, rfl, rfl, s.pop⟩)
    · refine intern_Len_sp s 3 rfl ⟨s.still 0 1 rfl rfl, s.allocK fun a20 w12 s => toStr ((s.lit (ty := .int .u8) 0 rfl [o.2.1] 1 rfl rfl).view 0 rfl) ⟨rfl, rfl, rfl, s.pop⟩⟩
  rintro ⟨z, str1, len1, _⟩ w11 ⟨hz, hstr, hl1, s⟩ _
  dsimp only at hz hstr hl1 ⊢
  subst hz hstr hl1
  refine ⟨fun x w => ∃ T' t, T <+: T' ∧ T'.length ≤ T.length + 260 ∧ IsNd T' x.1 ∧ txt T' x.1 = t ∧ t.length ≤ 1500 ∧ x.2.1 = bstr t ∧ x.2.2.1 = .nilIface ∧ Sp w0 [cel a12 (cells yevergreenlaw13_Step o), own .str ts (ids.map fun y => bstr (txt T y)), own (.int .i64) xs ids, sto p 1048576 T'] w, ?_, ?_⟩
  · refine s.ldi (x := o.1) 0 0 rfl rfl (ref12_Pick_spec (by decide) (by decide) fun k3 hk3 hk3' => gd_eq (fun c0 => ?_) (fun c0 => ?_))
    · refine s.ldi (x := o.2.1) 0 1 rfl rfl (letter_nd s 3 rfl hok fun T1 x1 w12 r1 s => ?_)
      rcases r1.out with ⟨e1, n1⟩ | ⟨_, hbad⟩
      rotate_left
      · omega
      exact ⟨T1, [o.2.1], r1.ext, by have := r1.len; omega, ⟨_, _, n1.nd0⟩, n1.txt, by simp, rfl, e1, s⟩
    refine s.drawK fun w12 s => (s.view 1 rfl).idx (n := n1) rfl hta rfl fun q1 hq1 => ⟨_, hq1, (s.view 1 rfl).idx (n := n2) rfl htb rfl fun q2 hq2 => ⟨_, hq2, ?_⟩⟩
    have sza := bstr_size (txt T a)
    have szb := bstr_size (txt T b)
    have l15a := (hnd a hma).2
    have l15b := (hnd b hmb).2
    refine ⟨by omega, gd_dec (fun hle => ?_) (fun hgt => ⟨T, [], List.prefix_refl _, by omega, ⟨[], 0, Nd0.zero⟩, rfl, by decide, rfl, rfl, s⟩)⟩
    rw [ByteArray.size_append] at hle
    obtain ⟨ta, da, na⟩ := (hnd a hma).1
    obtain ⟨tb, db, nb⟩ := (hnd b hmb).1
    have dda := na.deep hg
    have ddb := nb.deep hg
    have eta := na.txt
    have etb := nb.txt
    refine s.drawK fun w13 s => (s.view 2 rfl).idx (n := n1) rfl ha rfl fun q3 hq3 => ⟨_, hq3, (s.view 2 rfl).idx (n := n2) rfl hb rfl fun q4 hq4 => ⟨_, hq4, ?_⟩⟩
    refine avl_Join_sp s 3 rfl na nb (by rw [← eta, ← etb]; omega) fun T1 x1 w14 r1 s => ?_
    have hN : joinN a b da db ≤ 259 := by unfold joinN; split <;> omega
    have hlen1 := r1.len
    rcases r1.out with ⟨e1, d, n3, hd1, hd2, hz1, hz2⟩ | ⟨_, hbad⟩
    rotate_left
    · omega
    have hext := r1.ext
    have na1 := na.ext hext
    have nb1 := nb.ext hext
    refine s.drawK fun w15 s => (s.view 2 rfl).idx (n := n1) rfl ha rfl fun q5 hq5 => ⟨_, hq5, (s.view 2 rfl).idx (n := n2) rfl hb rfl fun q6 hq6 => ⟨_, hq6, ?_⟩⟩
    refine law13_right_spec s 3 rfl na1 nb1 n3 (fun hz => ?_) (fun hnz => ?_) ⟨by omega, by have := ext_len hext; omega⟩ fun w16 s => gd_f rfl ⟨T1, txt T a ++ txt T b, hext, by omega, ⟨_, _, n3⟩, ?_, ?_, bstr_append _ _, e1, s⟩
    · have hN0 : joinN a b da db = 0 := by unfold joinN; rw [if_pos hz]
      have := ext_len hext
      refine ⟨?_, by omega⟩
      rcases hz with hz | hz
      · have := (hz1 hz).1; omega
      · have := (hz2 hz).1; omega
    · have hN0 : joinN a b da db = 3 * (max da db - min da db).toNat + 1 := by unfold joinN; rw [if_neg hnz]
      exact ⟨by omega, by omega⟩
    · rw [n3.txt, eta, etb]
    · rw [List.length_append]; omega
  rintro ⟨id, str, er, _⟩ w12 ⟨T', t, hext, hT', hnd', ht, htl, hstr, her, s⟩ _
  dsimp only at hnd' ht hstr her ⊢
  subst hstr her
  obtain ⟨tx, dx, nx⟩ := hnd'
  refine law13_text_spec s 3 rfl ⟨nx.pos, nx.le⟩ (by rw [ht]; omega) fun w13 s => ?_
  rw [ht]
  refine JoinP.inl (nilIfc_nil (gd_f rfl (gd_f rfl ?_)))
  intro _
  refine gd_f (by simp) (s.allocK fun a52 w14 s => s.app 3 rfl ((s.lit (ty := .int .i64) 0 rfl [id] 1 rfl rfl).view 0 rfl) (by simp only [List.length_cons, List.length_nil]; omega) fun s53 w15 s => ?_)
  refine s.allocK fun a54 w16 s => s.app 3 rfl ((s.lit (ty := .str) 0 rfl [bstr t] 1 rfl rfl).view 0 rfl) (by simp only [List.length_map, List.length_cons, List.length_nil]; omega) fun s55 w17 s => arith_i64 (by omega) (by omega) (loop_nx hn' ⟨T', ids ++ [id], ?_, by simp, by simp; omega, fun y hy => ?_, by omega⟩)
  · have e : ((ids ++ [id]).map fun y => bstr (txt T' y)) = (ids.map fun y => bstr (txt T y)) ++ [bstr t] := by
      rw [List.map_append, List.map_cons, List.map_nil, ht]
      congr 1
      refine List.map_congr_left fun y hy => ?_
      obtain ⟨ty, dy, ny⟩ := (hnd y hy).1
      rw [ext_txt hext ny.pos ny.le]
    rw [e]
    exact s.drop 3
  · rcases List.mem_append.1 hy with hy | hy
    · obtain ⟨ty, dy, ny⟩ := (hnd y hy).1
      exact ⟨(hnd y hy).1.ext hext, by rw [ext_txt hext ny.pos ny.le]; exact (hnd y hy).2⟩
    · rw [List.mem_singleton] at hy
      subst hy
      exact ⟨⟨_, _, nx⟩, by rw [ht]; exact htl⟩

end Go.Proofs.Ytedmbgddmckegaa
