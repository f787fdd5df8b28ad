/- Texts that belong together, joined: RefA, RefB, RefC, LawAA, LawBA, LawCA, Txt, Nd, Avl, AvlB, AvlC, Deep, Split, SplitB, Offs. No conditions. -/
import Derived.Test.YtgbledjehnojeaaGC
import Derived.Test.YtgbledjehnojeaaGB
/- The specification of the layer (evergreenref10): its store is the same list. -/
set_option linter.unusedVariables false
set_option linter.unusedSimpArgs false
namespace Go.Proofs.Ytgbledjehnojeaa
open Go.Den

variable {w0 w : World} {Ω : List Ob} {most : Int} {T : List ET} {j : Nat} 

def rulesOf (T : List ET) : List yapi_Rule.T := T.map fun e => e.1
def lensOf (T : List ET) : List (Ty.int .i64).T := T.map fun e => e.2.1.1
def depsOf (T : List ET) : List (Ty.int .i64).T := T.map fun e => e.2.2.1
theorem rulesOf_len (T : List ET) : (rulesOf T).length = T.length := List.length_map _

theorem blk_none {b : Nat} (h : blk ⟨none, 0, 0⟩ b) : False := by
  obtain ⟨q, h, _⟩ := h
  cases h

theorem clip_form (n : Int) : (if (0 : Int) < (if 1048576 < n then 1048576 else n) then (if 1048576 < n then 1048576 else n) else 0) = if n < 0 then 0 else if 1048576 < n then 1048576 else n := by grind
theorem known_get {id : Int} (hk : known T id = true) (hne : id ≠ 0) : 1 ≤ id ∧ id ≤ T.length ∧ T[(id - 1).toNat]? = some (eAt T id) := by
  have := of_decide_eq_true hk
  exact ⟨by omega, this.2, eAt_get (by omega) this.2⟩
theorem lkR_first : ∀ (T : List ET) (r : RT) (n : Nat) (k : Nat), (∀ i, i < n → ∀ e, T[i]? = some e → e.1 ≠ r) → (∀ e, T[n]? = some e → e.1 = r) → n < T.length →
    ((T.zipIdx k).map fun p => (p.1.1, (p.2 : Int) + 1)).find? (fun p => beqT yapi_Rule r p.1) = some (r, ((k + n : Nat) : Int) + 1)
  | [], _, _, _, _, _, h => by simp at h
  | e :: T, r, 0, k, _, h2, _ => by
    have := h2 e rfl
    rw [List.zipIdx_cons, List.map_cons, List.find?_cons]
    simp only [this, (beqT_iff yapi_Rule rfl r r).2 rfl, Nat.add_zero]
  | e :: T, r, n + 1, k, h1, h2, h3 => by
    have h0 := h1 0 (by omega) e rfl
    have hb : beqT yapi_Rule r e.1 = false := by
      cases hb : beqT yapi_Rule r e.1
      · rfl
      · exact absurd ((beqT_iff yapi_Rule rfl _ _).1 hb).symm h0
    rw [List.zipIdx_cons, List.map_cons, List.find?_cons]
    simp only [hb]
    have := lkR_first T r n (k + 1) (fun i hi e' he => h1 (i + 1) (by omega) e' (by simpa using he)) (fun e' he => h2 e' (by simpa using he)) (by simpa using h3)
    rw [this]
    congr 2
    omega
theorem lkR_at {r : RT} {n : Nat} {e : ET} (h1 : ∀ i, i < n → ∀ e, T[i]? = some e → e.1 ≠ r) (he : T[n]? = some e) (h2 : e.1 = r) : lkR T r = some ((n : Int) + 1) := by
  unfold lkR lk idx
  rw [lkR_first T r n 0 h1 (fun e' he' => by rw [he] at he'; cases he'; exact h2) (List.getElem?_eq_some_iff.1 he).1]
  simp
end Go.Proofs.Ytgbledjehnojeaa

/- The specification of the layer (evergreenref10): its calls answer as the store's list. -/
set_option linter.unusedVariables false
set_option linter.unusedSimpArgs false
namespace Go.Proofs.Ytgbledjehnojeaa
open Go.Den

variable {w0 w : World} {Ω : List Ob} {most : Int} {T : List ET} {j : Nat} 

theorem View.at_nil {ty : Ty} {s : Sl} {xs : List ty.T} {w : World} (v : View ty w s xs) : s.len = xs.length := v.len
theorem rulesOf_append (T : List ET) (e : ET) : rulesOf (T ++ [e]) = rulesOf T ++ [e.1] := by simp [rulesOf]
theorem lensOf_append (T : List ET) (e : ET) : lensOf (T ++ [e]) = lensOf T ++ [e.2.1.1] := by simp [lensOf]
theorem depsOf_append (T : List ET) (e : ET) : depsOf (T ++ [e]) = depsOf T ++ [e.2.2.1] := by simp [depsOf]
theorem lensOf_len (T : List ET) : (lensOf T).length = T.length := List.length_map _
theorem depsOf_len (T : List ET) : (depsOf T).length = T.length := List.length_map _

end Go.Proofs.Ytgbledjehnojeaa

/- The specification of the layer (evergreenref10): Letter, Pair, Power. -/
set_option linter.unusedVariables false
set_option linter.unusedSimpArgs false
namespace Go.Proofs.Ytgbledjehnojeaa
open Go.Den

variable {w0 w : World} {Ω : List Ob} {most : Int} {T : List ET} {j : Nat} 

theorem known_false_or {l r : Int} (hu : ¬(known T l = false ∨ known T r = false)) : known T l = true ∧ known T r = true := by
  cases h1 : known T l <;> cases h2 : known T r <;> simp_all
end Go.Proofs.Ytgbledjehnojeaa

/- The fixed example of the layer, and the calls of no store. -/
set_option linter.unusedVariables false
set_option linter.unusedSimpArgs false
namespace Go.Proofs.Ytgbledjehnojeaa
open Go.Den

variable {w0 : World}

theorem ext_fresh {B B' : Nat → Prop} {w1 w' : World} (e : Ext w0 w1) (k : Step B B' w1 w') (hB : ∀ b, B b → w0.heap.size ≤ b) : Ext w0 w' :=
  ⟨Nat.le_trans e.size k.fr.size, fun b hb _ => by
    rw [k.fr.same b (Nat.lt_of_lt_of_le hb e.size) (fun h => by have := hB b h; omega), e.same b hb (fun h => h)], k.fr.pub.1.trans e.pub.1, k.fr.pub.2.1.trans e.pub.2.1, k.fr.pub.2.2.trans e.pub.2.2⟩

def aw1 : List ET := [mkLetter 97]
def aw2 : List ET := aw1 ++ [mkLetter 98]
def aw3 : List ET := aw2 ++ [mkPair aw2 1 2]
def aw4 : List ET := aw3 ++ [mkPower aw3 3 5]
theorem aw_1 : pLetter [] 4 97 = (aw1, (1, .nilIface)) := by kernel_rfl
theorem aw_2 : pLetter aw1 4 98 = (aw2, (2, .nilIface)) := by kernel_rfl
theorem aw_3 : pPair aw2 4 1 2 = (aw3, (3, .nilIface)) := by kernel_rfl
theorem aw_4 : pPower aw3 4 3 5 = (aw4, (4, .nilIface)) := by kernel_rfl
theorem aw_5 : pPower aw4 4 3 6 = (aw4, (0, errV 3)) := by kernel_rfl

theorem partV_int (cs : Array Value) (off : Nat) : partV P t_int cs off = cs[off]? := by
  have h1 : (P.underlying t_int).isSome = true := by kernel_rfl
  have h2 : isAggP P t_int = false := by kernel_rfl
  unfold partV
  rw [h2]
  cases hu : P.underlying t_int with
  | none => rw [hu] at h1; cases h1
  | some d => rfl
theorem nil_part {x : Int} (h0 : 0 ≤ x) (h8 : x < 8) : partV P t_int #[.int .i64 5, .int .i64 5, .int .i64 5, .int .i64 5, .int .i64 5, .int .i64 5, .int .i64 5, .int .i64 5] (x.toNat * 1) = some (val (.int .i64) (5 : Int)) := by
  rw [partV_int, Nat.mul_one]
  have hn : x.toNat < 8 := by omega
  generalize x.toNat = n at hn
  rcases n with _ | _ | _ | _ | _ | _ | _ | _ | n
  all_goals first | rfl | omega

end Go.Proofs.Ytgbledjehnojeaa

/- The calls of the layer's statements as one function of lists, and that a second call changes nothing. -/
set_option linter.unusedVariables false
set_option linter.unusedSimpArgs false
namespace Go.Proofs.Ytgbledjehnojeaa
open Go.Den

variable {w0 : World}

abbrev OT := Int × Int × Int × Int × Int
def pOp (L : List ET) (most : Int) (o : OT) : List ET × (Int × Value) :=
  if o.1 % 3 = 0 then pLetter L most o.2.1 else if o.1 % 3 = 1 then pPair L most o.2.2.1 o.2.2.2.1 else pPower L most o.2.2.1 o.2.2.2.2
structure OpOK (o : OT) : Prop where
  kind : 0 ≤ o.1
  b : 0 ≤ o.2.1 ∧ o.2.1 < 256
  k : o.2.2.2.2 ≤ 9223372036854775807

theorem pAdd_twice {L : List ET} {most : Int} {e : ET} : (pAdd L most e).1 = L ∨ ((pAdd L most e) = (L ++ [e], ((L.length : Int) + 1, .nilIface)) ∧ ∀ e' : ET, e'.1 = e.1 → pAdd (L ++ [e]) most e' = (L ++ [e], ((L.length : Int) + 1, .nilIface))) := by
  cases hl : lkR L e.1 with
  | some i => left; rw [(pAdd_some (most := most) hl).2.1]
  | none =>
    by_cases hm : most ≤ L.length
    · left; rw [(pAdd_full (most := most) hl hm).2]
    · right
      refine ⟨(pAdd_new (most := most) hl hm).2, fun e' he => ?_⟩
      unfold pAdd
      rw [he, lkR_append_none hl, if_pos rfl]
theorem twice_of {L : List ET} {f : List ET → List ET × (Int × Value)} (h : (f L).1 = L ∨ f (f L).1 = f L) : f (f L).1 = f L := by
  rcases h with h | h
  · rw [h]
  · exact h
theorem pOp_twice {L : List ET} {most : Int} {o : OT} : pOp (pOp L most o).1 most o = pOp L most o := by
  refine twice_of (f := fun L => pOp L most o) ?_
  simp only [pOp]
  by_cases h0 : o.1 % 3 = 0
  · simp only [if_pos h0]
    rcases pAdd_twice (L := L) (most := most) (e := mkLetter o.2.1) with h | ⟨h, h'⟩
    · exact Or.inl h
    · right
      unfold pLetter
      rw [h]
      exact h' _ rfl
  · simp only [if_neg h0]
    by_cases h1 : o.1 % 3 = 1
    · simp only [if_pos h1]
      generalize o.2.2.1 = l
      generalize o.2.2.2.1 = r
      unfold pPair
      by_cases c1 : known L l = false ∨ known L r = false
      · left; rw [if_pos c1]
      · rw [if_neg c1]
        by_cases c2 : l = 0
        · left; rw [if_pos c2]
        · rw [if_neg c2]
          by_cases c3 : r = 0
          · left; rw [if_pos c3]
          · rw [if_neg c3]
            by_cases c4 : 1152921504606846976 < (eAt L l).2.1.1 + (eAt L r).2.1.1
            · left; rw [if_pos c4]
            · rw [if_neg c4]
              rcases pAdd_twice (L := L) (most := most) (e := mkPair L l r) with h | ⟨h, h'⟩
              · exact Or.inl h
              · right
                have kl : known L l = true := by
                  cases e : known L l
                  · exact absurd (Or.inl e) c1
                  · rfl
                have kr : known L r = true := by
                  cases e : known L r
                  · exact absurd (Or.inr e) c1
                  · rfl
                have bl := of_decide_eq_true kl
                have br := of_decide_eq_true kr
                rw [h]
                simp only
                rw [known_append kl, known_append kr, if_neg (by simp), if_neg c2, if_neg c3, eAt_append bl.1 bl.2, eAt_append br.1 br.2, if_neg c4]
                exact h' _ rfl
    · simp only [if_neg h1]
      generalize o.2.2.1 = x
      generalize o.2.2.2.2 = k
      unfold pPower
      by_cases c1 : known L x = false ∨ k < 0
      · left; rw [if_pos c1]
      · rw [if_neg c1]
        by_cases c2 : k = 0 ∨ x = 0
        · left; rw [if_pos c2]
        · rw [if_neg c2]
          by_cases c3 : k = 1
          · left; rw [if_pos c3]
          · rw [if_neg c3]
            by_cases c4 : 1152921504606846976 < (eAt L x).2.1.1 * k
            · left; rw [if_pos c4]
            · rw [if_neg c4]
              rcases pAdd_twice (L := L) (most := most) (e := mkPower L x k) with h | ⟨h, h'⟩
              · exact Or.inl h
              · right
                have kx : known L x = true := by
                  cases e : known L x
                  · exact absurd (Or.inl e) c1
                  · rfl
                have bx := of_decide_eq_true kx
                rw [h]
                simp only
                rw [known_append kx, if_neg (fun c => c1 (Or.inr (c.resolve_left (by simp)))), if_neg c2, if_neg c3, eAt_append bx.1 bx.2, if_neg c4]
                exact h' _ rfl

theorem pOp_err {L : List ET} {most : Int} {o : OT} : IsErr (pOp L most o).2.2 := by
  unfold pOp
  split
  · exact pLetter_err
  split
  · exact pPair_err
  · exact pPower_err

variable {B : Nat → Prop} {p : Addr} {most : Int} {L : List ET}
end Go.Proofs.Ytgbledjehnojeaa

/- The layer's calls of the store and of the specification side by side: do, Built. -/
set_option linter.unusedVariables false
set_option linter.unusedSimpArgs false
namespace Go.Proofs.Ytgbledjehnojeaa
open Go.Den

variable {w0 w : World} {Ω : List Ob} {most most' : Int} {T R : List ET} {i j : Nat}  {p : Addr}

theorem pAdd_grow {e : ET} (g : Grow T) (hg : lkR T e.1 = none → (T.length : Int) < most → Grow (T ++ [e])) (hl : (T.length : Int) ≤ most) : Grow (pAdd T most e).1 ∧ ((pAdd T most e).1.length : Int) ≤ most := by
  cases hf : lkR T e.1 with
  | some i => rw [(pAdd_some (most := most) hf).2.1]; exact ⟨g, hl⟩
  | none =>
    by_cases hm : most ≤ T.length
    · rw [(pAdd_full (most := most) hf hm).2]; exact ⟨g, hl⟩
    · rw [(pAdd_new (most := most) hf hm).2]
      refine ⟨hg hf (by omega), ?_⟩
      simp only [List.length_append, List.length_cons, List.length_nil]; omega
theorem pLetter_grow {b : Int} (g : Grow T) (hl : (T.length : Int) ≤ most) (hb : 0 ≤ b ∧ b < 256) : Grow (pLetter T most b).1 ∧ ((pLetter T most b).1.length : Int) ≤ most :=
  pAdd_grow g (fun h _ => .letter g hb.1 hb.2 h) hl
theorem pPair_grow {l r : Int} (g : Grow T) (hl : (T.length : Int) ≤ most) : Grow (pPair T most l r).1 ∧ ((pPair T most l r).1.length : Int) ≤ most := by
  unfold pPair
  split
  · exact ⟨g, hl⟩
  rename_i hu
  obtain ⟨kl, kr⟩ := known_false_or hu
  have bl := of_decide_eq_true kl
  have br := of_decide_eq_true kr
  split
  · exact ⟨g, hl⟩
  split
  · exact ⟨g, hl⟩
  split
  · exact ⟨g, hl⟩
  · exact pAdd_grow g (fun h _ => .pair g (by omega) bl.2 (by omega) br.2 (by omega) h) hl
theorem pPower_grow {x k : Int} (g : Grow T) (hl : (T.length : Int) ≤ most) : Grow (pPower T most x k).1 ∧ ((pPower T most x k).1.length : Int) ≤ most := by
  unfold pPower
  split
  · exact ⟨g, hl⟩
  rename_i hu
  have kx : known T x = true := by
    cases e : known T x
    · exact absurd (Or.inl e) hu
    · rfl
  have hk : ¬ k < 0 := fun h => hu (Or.inr h)
  have bx := of_decide_eq_true kx
  split
  · exact ⟨g, hl⟩
  split
  · exact ⟨g, hl⟩
  split
  · exact ⟨g, hl⟩
  · exact pAdd_grow g (fun h _ => .power g (by omega) bx.2 (by omega) (by omega) h) hl
theorem pOp_grow {o : OT} (g : Grow T) (hl : (T.length : Int) ≤ most) (ho : OpOK o) : Grow (pOp T most o).1 ∧ ((pOp T most o).1.length : Int) ≤ most := by
  unfold pOp
  split
  · exact pLetter_grow g hl ho.b
  split
  · exact pPair_grow g hl
  · exact pPower_grow g hl

def clip20 (n : Int) : Int := if n < 0 then 0 else if 1048576 < n then 1048576 else n
theorem clip20_bound (n : Int) : 0 ≤ clip20 n ∧ clip20 n ≤ 1048576 := by unfold clip20; grind
end Go.Proofs.Ytgbledjehnojeaa

/- The text of a rule of a list, letter by letter, and that the rule's weight is that of its text. -/
set_option linter.unusedVariables false
set_option linter.unusedSimpArgs false
namespace Go.Proofs.Ytgbledjehnojeaa
open Go.Den

/-! ### Texts -/
def gt (acc : List (List Int)) (id : Int) : List Int := if id = 0 then [] else acc.getD (id - 1).toNat []
def tx1 (acc : List (List Int)) (r : RT) : List Int :=
  if r.1 = 1 then [r.2.1] else if r.1 = 2 then gt acc r.2.2.1 ++ gt acc r.2.2.2.1 else (List.replicate r.2.2.2.2.toNat (gt acc r.2.2.1)).flatten
def txts (T : List ET) : List (List Int) := T.foldl (fun acc e => acc ++ [tx1 acc e.1]) []
def txt (T : List ET) (id : Int) : List Int := gt (txts T) id

theorem txts_append (T : List ET) (e : ET) : txts (T ++ [e]) = txts T ++ [tx1 (txts T) e.1] := by
  unfold txts
  rw [List.foldl_append]; rfl
theorem txts_len (T : List ET) : (txts T).length = T.length := by
  have key : ∀ (T : List ET) (acc : List (List Int)), (T.foldl (fun acc e => acc ++ [tx1 acc e.1]) acc).length = acc.length + T.length := by
    intro T
    induction T with
    | nil => intro acc; rfl
    | cons e T ih =>
      intro acc
      rw [List.foldl_cons, ih]
      simp only [List.length_append, List.length_cons, List.length_nil]; omega
  have := key T []
  simpa [txts] using this
theorem gt_append {acc : List (List Int)} {t : List Int} {id : Int} (h0 : 0 ≤ id) (h : id ≤ acc.length) : gt (acc ++ [t]) id = gt acc id := by
  unfold gt
  by_cases e : id = 0
  · rw [if_pos e, if_pos e]
  · rw [if_neg e, if_neg e, List.getD_eq_getElem?_getD, List.getD_eq_getElem?_getD, List.getElem?_append_left (by omega)]
theorem gt_last {acc : List (List Int)} {t : List Int} : gt (acc ++ [t]) ((acc.length : Int) + 1) = t := by
  unfold gt
  rw [if_neg (by omega), List.getD_eq_getElem?_getD, show ((acc.length : Int) + 1 - 1).toNat = acc.length by omega]
  simp
theorem txt_append {T : List ET} {e : ET} {id : Int} (h0 : 0 ≤ id) (h : id ≤ T.length) : txt (T ++ [e]) id = txt T id := by
  unfold txt
  rw [txts_append, gt_append h0 (by rw [txts_len]; exact h)]
theorem txt_zero (T : List ET) : txt T 0 = [] := rfl

inductive TxtOf (T : List ET) (id : Int) : Prop
  | letter (b : Int) : 0 ≤ b → b < 256 → eAt T id = mkLetter b → txt T id = [b] → TxtOf T id
  | pair (l r : Int) : 1 ≤ l → l < id → 1 ≤ r → r < id → (eAt T l).2.1.1 + (eAt T r).2.1.1 ≤ 1152921504606846976 → eAt T id = mkPair T l r → txt T id = txt T l ++ txt T r → TxtOf T id
  | power (x k : Int) : 1 ≤ x → x < id → 2 ≤ k → (eAt T x).2.1.1 * k ≤ 1152921504606846976 → eAt T id = mkPower T x k → txt T id = (List.replicate k.toNat (txt T x)).flatten → TxtOf T id
theorem TxtOf.append {T : List ET} {e : ET} {id : Int} (h : TxtOf T id) (h1 : 1 ≤ id) (h2 : id ≤ T.length) : TxtOf (T ++ [e]) id := by
  have e1 := eAt_append (e := e) (by omega) h2
  have t1 := txt_append (e := e) (by omega) h2
  cases h with
  | letter b h3 h4 h5 h6 => exact .letter b h3 h4 (e1.trans h5) (t1.trans h6)
  | pair l r h3 h4 h5 h6 h7 h8 h9 =>
    refine .pair l r h3 h4 h5 h6 ?_ ?_ ?_
    · rw [eAt_append (by omega) (by omega), eAt_append (by omega) (by omega)]; exact h7
    · rw [e1, h8, mkPair_append (by omega) (by omega)]
    · rw [t1, h9, txt_append (by omega) (by omega), txt_append (by omega) (by omega)]
  | power x k h3 h4 h5 h6 h7 h8 =>
    refine .power x k h3 h4 h5 ?_ ?_ ?_
    · rw [eAt_append (by omega) (by omega)]; exact h6
    · rw [e1, h7, mkPower_append (by omega)]
    · rw [t1, h8, txt_append (by omega) (by omega)]
theorem Grow.txt {T : List ET} (g : Grow T) : ∀ {id : Int}, 1 ≤ id → id ≤ T.length → TxtOf T id := by
  refine Grow.rec_ (M := fun T => ∀ {id : Int}, 1 ≤ id → id ≤ T.length → TxtOf T id) (fun h1 h2 => by simp at h2; omega) (fun T e _ g ih => ?_) g
  intro id h1 h2
  simp only [List.length_append, List.length_cons, List.length_nil] at h2
  by_cases h : id ≤ T.length
  · exact (ih h1 h).append h1 h
  · have : id = (T.length : Int) + 1 := by omega
    subst this
    have ht : Ytgbledjehnojeaa.txt (T ++ [e]) ((T.length : Int) + 1) = tx1 (txts T) e.1 := by
      unfold Ytgbledjehnojeaa.txt
      have := gt_last (acc := txts T) (t := tx1 (txts T) e.1)
      rw [txts_len] at this
      rw [txts_append]; exact this
    cases g.last.2.2 with
    | letter b h3 h4 h5 =>
      refine .letter b h3 h4 h5 (ht.trans ?_)
      rw [eAt_last] at h5
      rw [h5]; rfl
    | pair l r h3 h4 h5 h6 h7 h8 =>
      refine .pair l r h3 h4 h5 h6 h7 h8 (ht.trans ?_)
      rw [eAt_last] at h8
      rw [h8, txt_append (by omega) (by omega), txt_append (by omega) (by omega)]; rfl
    | power x k h3 h4 h5 h6 h7 =>
      refine .power x k h3 h4 h5 h6 h7 (ht.trans ?_)
      rw [eAt_last] at h7
      rw [h7, txt_append (by omega) (by omega)]; rfl

/-! ### Weights of texts -/
def wOf : List Int → WT
  | [] => wUnit
  | c :: b => wJoin (wLetter c) (wOf b)
theorem dOf_ok : ∀ b : List Int, dOK (wOf b).2.2.2.2
  | [] => dOK_unit
  | c :: b => dOK_join _ _
theorem lines_nn : ∀ b : List Int, 0 ≤ (wOf b).2.1
  | [] => by decide
  | c :: b => by
    have := lines_nn b
    have h : 0 ≤ (wLetter c).2.1 := by unfold wLetter; split <;> simp
    simp only [wOf, wJoin]; omega
theorem wOf_len : ∀ b : List Int, (wOf b).1 = b.length
  | [] => rfl
  | c :: b => by simp only [wOf, wJoin, wLetter_len, wOf_len b, List.length_cons]; omega
theorem wOf_zero : ∀ b : List Int, (wOf b).2.1 = 0 → (wOf b).2.2.1 = (wOf b).1 ∧ (wOf b).2.2.2.1 = (wOf b).1
  | [] => fun _ => ⟨rfl, rfl⟩
  | c :: b => by
    have := lines_nn b
    have ih := wOf_zero b
    by_cases hc : c = 10
    · simp only [wOf, wJoin, wLetter, if_pos hc]; omega
    · simp only [wOf, wJoin, wLetter, if_neg hc]
      intro h
      have hb : (wOf b).2.1 = 0 := by omega
      have := ih hb
      simp only [if_true, if_pos hb]
      omega
theorem wJoin_assoc {a b c : WT} (ha : 0 ≤ a.2.1) (hb : 0 ≤ b.2.1) (hc : 0 ≤ c.2.1) : wJoin (wJoin a b) c = wJoin a (wJoin b c) := by
  simp only [wJoin]
  refine Prod.ext (by dsimp only; omega) (Prod.ext (by dsimp only; omega) (Prod.ext ?_ (Prod.ext ?_ (dJoin_assoc _ _ _))))
  · dsimp only; repeat' split
    all_goals omega
  · dsimp only; repeat' split
    all_goals omega
theorem wJoin_unit_l {a : WT} (hd : dOK a.2.2.2.2) (hz : a.2.1 = 0 → a.2.2.2.1 = a.1) : wJoin wUnit a = a := by
  simp only [wJoin, wUnit]
  refine Prod.ext (by dsimp only; omega) (Prod.ext (by dsimp only; omega) (Prod.ext ?_ (Prod.ext ?_ (dJoin_unit_l hd))))
  · dsimp only; simp only [if_true]; omega
  · dsimp only
    split
    · rename_i h; rw [hz h]; omega
    · rfl
theorem wJoin_unit_r {a : WT} (hd : dOK a.2.2.2.2) (hz : a.2.1 = 0 → a.2.2.1 = a.1) : wJoin a wUnit = a := by
  simp only [wJoin, wUnit]
  refine Prod.ext (by dsimp only; omega) (Prod.ext (by dsimp only; omega) (Prod.ext ?_ (Prod.ext ?_ (dJoin_unit_r hd))))
  · dsimp only
    split
    · rename_i h; rw [hz h]; omega
    · rfl
  · dsimp only; simp only [if_true]; omega
theorem wLetter_lines (c : Int) : 0 ≤ (wLetter c).2.1 := by unfold wLetter; split <;> simp
theorem wOf_append : ∀ a b : List Int, wOf (a ++ b) = wJoin (wOf a) (wOf b)
  | [], b => by
    rw [List.nil_append]
    exact (wJoin_unit_l (dOf_ok b) fun h => (wOf_zero b h).2).symm
  | c :: a, b => by
    rw [List.cons_append, wOf, wOf, wOf_append a b, wJoin_assoc (wLetter_lines c) (lines_nn a) (lines_nn b)]
theorem wOf_one {c : Int} (hc : 0 ≤ c ∧ c < 256) : wOf [c] = wLetter c := by
  have := wOK_letter hc
  rw [wOf, wOf]
  exact wJoin_unit_r this.dOK fun h => (this.zero h).1
theorem wRep_step {a : WT} (hl : 1 ≤ a.1) (hn : 0 ≤ a.2.1) (hz : a.2.1 = 0 → a.2.2.1 = a.1 ∧ a.2.2.2.1 = a.1) (hd : dOK a.2.2.2.2) (k : Nat) : wRep a ((k : Int) + 1) = wJoin (wRep a k) a := by
  have e1 : a.1 * ((k : Int) + 1) = a.1 * k + a.1 := by rw [Int.mul_add, Int.mul_one]
  have e2 : a.2.1 * ((k : Int) + 1) = a.2.1 * k + a.2.1 := by rw [Int.mul_add, Int.mul_one]
  have p1 : 0 ≤ a.1 * (k : Int) := Int.mul_nonneg (by omega) (by omega)
  have p2 : 0 ≤ a.2.1 * (k : Int) := Int.mul_nonneg hn (by omega)
  have et : ((k : Int) + 1).toNat = k + 1 := by omega
  cases k with
  | zero =>
    have r0 : wRep a ((0 : Nat) : Int) = wUnit := by unfold wRep; rw [if_pos (by simp)]
    have r1 : wRep a (((0 : Nat) : Int) + 1) = a := by
      unfold wRep
      have d1 : dNat a.2.2.2.2 (((0 : Nat) : Int) + 1).toNat = a.2.2.2.2 := dNat_one hd
      have m1 : a.1 * (((0 : Nat) : Int) + 1) = a.1 := by simp
      have m2 : a.2.1 * (((0 : Nat) : Int) + 1) = a.2.1 := by simp
      rw [m1, m2, d1, if_neg (by omega)]
      refine Prod.ext rfl (Prod.ext rfl (Prod.ext ?_ (Prod.ext ?_ rfl)))
      · dsimp only; split
        · rename_i h; exact (hz h).1.symm
        · rfl
      · dsimp only; split
        · rename_i h; exact (hz h).2.symm
        · rfl
    rw [r0, r1, wJoin_unit_l hd (fun h => (hz h).2)]
  | succ n =>
    have hne : a.1 * ((n + 1 : Nat) : Int) ≠ 0 := by
      have : 1 * 1 ≤ a.1 * ((n + 1 : Nat) : Int) := Int.mul_le_mul hl (by omega) (by decide) (by omega)
      omega
    unfold wRep
    rw [if_neg (by rw [e1]; omega), if_neg hne, et, e1, e2]
    have zz : a.2.1 * ((n + 1 : Nat) : Int) = 0 ↔ a.2.1 = 0 := by
      constructor
      · intro h
        rcases Int.mul_eq_zero.1 h with h | h
        · exact h
        · omega
      · intro h; rw [h]; simp
    simp only [wJoin]
    refine Prod.ext rfl (Prod.ext rfl (Prod.ext ?_ (Prod.ext ?_ ?_)))
    · dsimp only
      by_cases h : a.2.1 = 0
      · rw [if_pos h, if_pos (zz.2 h), (hz h).1]
      · rw [if_neg h, if_neg fun h' => h (zz.1 h'), if_neg h]
    · dsimp only
      by_cases h : a.2.1 = 0
      · rw [if_pos h, if_pos h, if_pos h]; omega
      · rw [if_neg h, if_neg h]
    · have : ((n + 1 : Nat) : Int).toNat = n + 1 := by omega
      rw [this]; rfl
theorem wOf_rep {t : List Int} (ht : 1 ≤ t.length) : ∀ k : Nat, wOf (List.replicate k t).flatten = wRep (wOf t) k
  | 0 => by simp [wRep, wOf]
  | k + 1 => by
    have h1 : 1 ≤ (wOf t).1 := by rw [wOf_len]; omega
    rw [show ((k + 1 : Nat) : Int) = (k : Int) + 1 from rfl, wRep_step h1 (lines_nn t) (wOf_zero t) (dOf_ok t), ← wOf_rep ht k, ← wOf_append]
    congr 1
    have e : List.replicate (k + 1) t = List.replicate k t ++ [t] := by rw [List.replicate_succ']
    rw [e]; simp
theorem Grow.weight {T : List ET} (g : Grow T) : ∀ {id : Int}, 0 ≤ id → id ≤ T.length → (eAt T id).2.1 = wOf (Ytgbledjehnojeaa.txt T id) ∧ ∀ c ∈ Ytgbledjehnojeaa.txt T id, 0 ≤ c ∧ c < 256 := by
  have key : ∀ (n : Nat) (id : Int), id.toNat = n → 0 ≤ id → id ≤ T.length → (eAt T id).2.1 = wOf (Ytgbledjehnojeaa.txt T id) ∧ ∀ c ∈ Ytgbledjehnojeaa.txt T id, 0 ≤ c ∧ c < 256 := by
    intro n
    induction n using Nat.strongRecOn with
    | ind n ih =>
      intro id hn h0 h1
      by_cases hz : id = 0
      · subst hz
        exact ⟨rfl, fun c hc => by rw [txt_zero] at hc; cases hc⟩
      cases g.txt (id := id) (by omega) h1 with
      | letter b h3 h4 h5 h6 =>
        rw [h5, h6, wOf_one ⟨h3, h4⟩]
        exact ⟨rfl, fun c hc => by simp at hc; subst hc; exact ⟨h3, h4⟩⟩
      | pair l r h3 h4 h5 h6 h7 h8 h9 =>
        have i1 := ih l.toNat (by omega) l rfl (by omega) (by omega)
        have i2 := ih r.toNat (by omega) r rfl (by omega) (by omega)
        rw [h8, h9, wOf_append, ← i1.1, ← i2.1]
        refine ⟨rfl, fun c hc => ?_⟩
        rcases List.mem_append.1 hc with h | h
        · exact i1.2 c h
        · exact i2.2 c h
      | power x k h3 h4 h5 h6 h7 h8 =>
        have i1 := ih x.toNat (by omega) x rfl (by omega) (by omega)
        have hp := (g.at_ (id := x) (by omega) (by omega)).2.2.2 h3
        rw [i1.1, wOf_len] at hp
        rw [h7, h8, wOf_rep (by omega), ← i1.1]
        refine ⟨?_, fun c hc => ?_⟩
        · show wRep (eAt T x).2.1 k = _
          rw [Int.toNat_of_nonneg (by omega)]
        · obtain ⟨t, ht, hc⟩ := List.mem_flatten.1 hc
          rw [List.mem_replicate] at ht
          rw [ht.2] at hc
          exact i1.2 c hc
  exact fun {id} h0 h1 => key _ id rfl h0 h1
theorem Grow.len {T : List ET} (g : Grow T) {id : Int} (h0 : 0 ≤ id) (h1 : id ≤ T.length) : (eAt T id).2.1.1 = (Ytgbledjehnojeaa.txt T id).length := by
  rw [(g.weight h0 h1).1, wOf_len]

end Go.Proofs.Ytgbledjehnojeaa

/- Balanced texts of a list of rules; a pair of two of them; what a call may add. -/
set_option linter.unusedVariables false
set_option linter.unusedSimpArgs false
namespace Go.Proofs.Ytgbledjehnojeaa
open Go.Den

variable {T T' : List ET} {most : Int}

/-! ### Longer lists -/
theorem ext_len (h : T <+: T') : T.length ≤ T'.length := h.length_le
theorem ext_eAt (h : T <+: T') {id : Int} (h0 : 0 ≤ id) (h1 : id ≤ T.length) : eAt T' id = eAt T id := by
  obtain ⟨s, rfl⟩ := h
  unfold eAt
  by_cases c : id = 0
  · rw [if_pos c, if_pos c]
  · rw [if_neg c, if_neg c, List.getD_eq_getElem?_getD, List.getD_eq_getElem?_getD, List.getElem?_append_left (by omega)]
theorem ext_txts (h : T <+: T') : txts T <+: txts T' := by
  obtain ⟨s, rfl⟩ := h
  have key : ∀ (s : List ET) (acc : List (List Int)), acc <+: s.foldl (fun acc e => acc ++ [tx1 acc e.1]) acc := by
    intro s
    induction s with
    | nil => intro acc; exact List.prefix_refl _
    | cons e s ih => intro acc; rw [List.foldl_cons]; exact (List.prefix_append _ _).trans (ih _)
  unfold txts
  rw [List.foldl_append]
  exact key s _
theorem ext_txt (h : T <+: T') {id : Int} (h0 : 0 ≤ id) (h1 : id ≤ T.length) : txt T' id = txt T id := by
  obtain ⟨s, hs⟩ := ext_txts h
  unfold txt gt
  rw [← hs]
  by_cases c : id = 0
  · rw [if_pos c, if_pos c]
  · rw [if_neg c, if_neg c, List.getD_eq_getElem?_getD, List.getD_eq_getElem?_getD, List.getElem?_append_left (by rw [txts_len]; omega)]

/-! ### Balanced texts -/
structure Nd (T : List ET) (x : Int) (t : List Int) (d : Int) : Prop where
  pos : 1 ≤ x
  le : x ≤ T.length
  txt : txt T x = t
  dep : (eAt T x).2.2.1 = d
  even : (eAt T x).2.2.2 = true
theorem Nd.ext {x : Int} {t : List Int} {d : Int} (n : Nd T x t d) (h : T <+: T') : Nd T' x t d := by
  have hl := ext_len h
  have := n.pos
  have := n.le
  exact ⟨n.pos, by omega, by rw [ext_txt h (by omega) n.le]; exact n.txt, by rw [ext_eAt h (by omega) n.le]; exact n.dep, by rw [ext_eAt h (by omega) n.le]; exact n.even⟩
theorem Nd.len (g : Grow T) {x : Int} {t : List Int} {d : Int} (n : Nd T x t d) : (eAt T x).2.1.1 = t.length ∧ 1 ≤ t.length ∧ 0 ≤ d := by
  have := n.pos
  have h1 := g.len (id := x) (by omega) n.le
  have h2 := g.at_ (id := x) (by omega) n.le
  rw [n.txt] at h1
  have h3 := h2.2.2.2 n.pos
  rw [n.dep] at h2
  refine ⟨h1, by omega, h2.2.1⟩
theorem Nd.bound (g : Grow T) {x : Int} {t : List Int} {d : Int} (n : Nd T x t d) : d ≤ T.length ∧ (t.length : Int) ≤ 1152921504606846976 := by
  have := n.pos
  have h2 := g.at_ (id := x) (by omega) n.le
  have h3 := (n.len g).1
  have h4 := h2.1.len
  rw [n.dep] at h2
  exact ⟨h2.2.2.1, by omega⟩
/-- a balanced text is a letter or a pair of two -/
theorem Nd.parts (g : Grow T) {x : Int} {t : List Int} {d : Int} (n : Nd T x t d) : (d = 0 ∧ ∃ b, t = [b] ∧ (eAt T x).1 = (1, b, 0, 0, 0) ∧ 0 ≤ b ∧ b < 256) ∨
    ∃ l r t1 t2 d1 d2, (eAt T x).1 = (2, 0, l, r, 0) ∧ l < x ∧ r < x ∧ Nd T l t1 d1 ∧ Nd T r t2 d2 ∧ t = t1 ++ t2 ∧ d = 1 + max d1 d2 ∧ d1 ≤ d2 + 1 ∧ d2 ≤ d1 + 1 := by
  obtain ⟨h1, h2, h3, h4, h5⟩ := n
  cases g.txt h1 h2 with
  | letter b hb0 hb1 e ht =>
    left
    rw [e] at h4
    exact ⟨h4.symm, b, by rw [← h3, ht], by rw [e]; rfl, hb0, hb1⟩
  | pair l r a1 a2 a3 a4 a5 e ht =>
    right
    rw [e] at h4 h5
    simp only [mkPair, Bool.and_eq_true, decide_eq_true_eq] at h4 h5
    obtain ⟨⟨⟨e1, e2⟩, e3⟩, e4⟩ := h5
    refine ⟨l, r, Ytgbledjehnojeaa.txt T l, Ytgbledjehnojeaa.txt T r, (eAt T l).2.2.1, (eAt T r).2.2.1, by rw [e]; rfl, a2, a4, ⟨a1, by omega, rfl, rfl, e1⟩, ⟨a3, by omega, rfl, rfl, e2⟩, by rw [← h3, ht], ?_, by omega, by omega⟩
    rw [← h4]
    split <;> omega
  | power a k a1 a2 a3 a4 e ht =>
    rw [e] at h5
    simp [mkPower] at h5

/-! ### What a call may add -/
structure Res (T : List ET) (most : Int) (N : Nat) (Q : List ET → Int → Prop) (T' : List ET) (r : Int × Value) : Prop where
  ext : T <+: T'
  grow : Grow T'
  cap : (T'.length : Int) ≤ most
  len : T'.length ≤ T.length + N
  out : (r.2 = .nilIface ∧ Q T' r.1) ∨ (r = (0, errV 3) ∧ most < (T.length : Int) + (N : Int))
theorem Res.same {Q : List ET → Int → Prop} {N : Nat} {x : Int} (g : Grow T) (hm : (T.length : Int) ≤ most) (hq : Q T x) : Res T most N Q T (x, .nilIface) :=
  ⟨List.prefix_refl _, g, hm, by omega, Or.inl ⟨rfl, hq⟩⟩
theorem Res.mono {Q Q' : List ET → Int → Prop} {N N' : Nat} {r : Int × Value} (h : Res T most N Q T' r) (hN : N ≤ N') (hQ : ∀ x, Q T' x → Q' T' x) : Res T most N' Q' T' r := by
  obtain ⟨h1, h2, h3, h4, h5⟩ := h
  refine ⟨h1, h2, h3, by omega, ?_⟩
  rcases h5 with ⟨a, b⟩ | ⟨a, b⟩
  · exact Or.inl ⟨a, hQ _ b⟩
  · exact Or.inr ⟨a, by omega⟩
theorem Res.andThen {Q1 Q2 : List ET → Int → Prop} {N1 N2 : Nat} {T1 : List ET} {r1 r : Int × Value} (h1 : Res T most N1 Q1 T1 r1) (h2 : Res T1 most N2 Q2 T' r) : Res T most (N1 + N2) Q2 T' r := by
  obtain ⟨a1, a2, a3, a4, a5⟩ := h1
  obtain ⟨b1, b2, b3, b4, b5⟩ := h2
  refine ⟨a1.trans b1, b2, b3, by omega, ?_⟩
  rcases b5 with h | ⟨h, h'⟩
  · exact Or.inl h
  · exact Or.inr ⟨h, by omega⟩
theorem Res.fail {Q1 Q2 : List ET → Int → Prop} {N1 N2 : Nat} {T1 : List ET} {r1 : Int × Value} (h1 : Res T most N1 Q1 T1 r1) (h : most < (T.length : Int) + (N1 : Int)) : Res T most (N1 + N2) Q2 T1 (0, errV 3) := by
  obtain ⟨a1, a2, a3, a4, a5⟩ := h1
  exact ⟨a1, a2, a3, by omega, Or.inr ⟨rfl, by omega⟩⟩

theorem pAdd_res {e : ET} {Q : List ET → Int → Prop} (g : Grow T) (hm : (T.length : Int) ≤ most) (hg : lkR T e.1 = none → Grow (T ++ [e])) (h1 : ∀ i, lkR T e.1 = some i → Q T i) (h2 : lkR T e.1 = none → Q (T ++ [e]) ((T.length : Int) + 1)) :
    Res T most 1 Q (pAdd T most e).1 (pAdd T most e).2 := by
  cases hl : lkR T e.1 with
  | some i =>
    rw [(pAdd_some (most := most) hl).2.1]
    exact .same g hm (h1 i hl)
  | none =>
    by_cases hf : most ≤ T.length
    · rw [(pAdd_full (most := most) hl hf).2]
      exact ⟨List.prefix_refl _, g, hm, Nat.le_succ _, Or.inr ⟨rfl, by omega⟩⟩
    · rw [(pAdd_new (most := most) hl hf).2]
      exact ⟨List.prefix_append _ _, hg hl, by simp only [List.length_append, List.length_cons, List.length_nil]; omega, by simp, Or.inl ⟨rfl, h2 hl⟩⟩
theorem pair_known (g : Grow T) {i l r : Int} (h : lkR T (mkPair T l r).1 = some i) : 1 ≤ i ∧ i ≤ T.length ∧ eAt T i = mkPair T l r ∧ txt T i = txt T l ++ txt T r := by
  have hb := lkR_pos h
  have hr := lkR_rule h
  cases g.txt hb.1 hb.2 with
  | letter b _ _ e _ => rw [e] at hr; simp [mkLetter, mkPair] at hr
  | pair l' r' a1 a2 a3 a4 a5 e ht =>
    rw [e] at hr
    simp only [mkPair, Prod.mk.injEq] at hr
    obtain ⟨_, _, rfl, rfl, _⟩ := hr
    exact ⟨hb.1, hb.2, e, ht⟩
  | power x k _ _ _ _ e _ => rw [e] at hr; simp [mkPower, mkPair] at hr
theorem txt_mkPair (g : Grow T) {l r : Int} (h1 : 1 ≤ l ∧ l ≤ T.length) (h2 : 1 ≤ r ∧ r ≤ T.length) : txt (T ++ [mkPair T l r]) ((T.length : Int) + 1) = txt T l ++ txt T r := by
  unfold txt
  have := gt_last (acc := txts T) (t := tx1 (txts T) (mkPair T l r).1)
  rw [txts_len] at this
  rw [txts_append, this]; rfl
/-- a pair of any two texts -/
theorem pPair_res (g : Grow T) (hm : (T.length : Int) ≤ most) {l r : Int} (h1 : 1 ≤ l ∧ l ≤ T.length) (h2 : 1 ≤ r ∧ r ≤ T.length) (hl : (eAt T l).2.1.1 + (eAt T r).2.1.1 ≤ 1152921504606846976) :
    Res T most 1 (fun T' x => 1 ≤ x ∧ x ≤ T'.length ∧ eAt T' x = mkPair T l r ∧ txt T' x = txt T l ++ txt T r) (pPair T most l r).1 (pPair T most l r).2 := by
  have hp : pPair T most l r = pAdd T most (mkPair T l r) := by
    unfold pPair
    have kl : known T l = true := decide_eq_true (by omega)
    have kr : known T r = true := decide_eq_true (by omega)
    rw [kl, kr, if_neg (by simp), if_neg (by omega), if_neg (by omega), if_neg (by omega)]
  rw [hp]
  refine pAdd_res g hm (.pair g h1.1 h1.2 h2.1 h2.2 hl) (fun i hi => pair_known g hi) (fun hn => ⟨by omega, by simp, eAt_last _ _, txt_mkPair g h1 h2⟩)
/-- a pair of two balanced texts -/
theorem Nd.pair (g : Grow T) (hm : (T.length : Int) ≤ most) {l r : Int} {t1 t2 : List Int} {d1 d2 : Int} (n1 : Nd T l t1 d1) (n2 : Nd T r t2 d2) (h1 : d1 ≤ d2 + 1) (h2 : d2 ≤ d1 + 1) (hl : (t1.length : Int) + t2.length ≤ 1152921504606846976) :
    Res T most 1 (fun T' x => Nd T' x (t1 ++ t2) (1 + max d1 d2)) (pPair T most l r).1 (pPair T most l r).2 := by
  refine (pPair_res g hm ⟨n1.pos, n1.le⟩ ⟨n2.pos, n2.le⟩ (by rw [(n1.len g).1, (n2.len g).1]; exact hl)).mono (Nat.le_refl _) ?_
  rintro x ⟨a1, a2, a3, a4⟩
  refine ⟨a1, a2, by rw [a4, n1.txt, n2.txt], ?_, ?_⟩
  · rw [a3]
    simp only [mkPair, n1.dep, n2.dep]
    split <;> omega
  · rw [a3]
    simp only [mkPair, n1.even, n2.even, n1.dep, n2.dep, Bool.true_and, Bool.and_eq_true, decide_eq_true_eq]
    omega

/-! ### How long a balanced text is -/
def fibL : Nat → Nat
  | 0 => 1
  | 1 => 2
  | n + 2 => fibL n + fibL (n + 1)
theorem fibL_mono (n : Nat) : fibL n ≤ fibL (n + 1) := by
  induction n with
  | zero => decide
  | succ n ih => show fibL (n + 1) ≤ fibL n + fibL (n + 1); omega
theorem fibL_le {m n : Nat} (h : m ≤ n) : fibL m ≤ fibL n := by
  induction h with
  | refl => exact Nat.le_refl _
  | step _ ih => exact Nat.le_trans ih (fibL_mono _)
theorem fibL_pos (n : Nat) : 1 ≤ fibL n := fibL_le (m := 0) (Nat.zero_le n)
theorem Nd.fib (g : Grow T) : ∀ (n : Nat) {x : Int} {t : List Int} {d : Int}, x.toNat = n → Nd T x t d → fibL d.toNat ≤ t.length := by
  intro n
  induction n using Nat.strongRecOn with
  | ind n ih =>
    intro x t d hn nd
    have hp := nd.pos
    rcases nd.parts g with ⟨rfl, b, rfl, _⟩ | ⟨l, r, t1, t2, d1, d2, _, hl, hr, n1, n2, rfl, hd, h1, h2⟩
    · exact Nat.le_refl 1
    · have p1 := n1.pos
      have p2 := n2.pos
      have i1 := ih l.toNat (by omega) rfl n1
      have i2 := ih r.toNat (by omega) rfl n2
      have l1 := n1.len g
      have l2 := n2.len g
      rw [List.length_append]
      have key : ∀ a b : Nat, a ≤ b + 1 → fibL (b + 1) ≤ fibL b + fibL b ∧ (a ≤ b → b ≤ a + 1 → fibL (b + 1) ≤ fibL a + fibL b) := by
        intro a b _
        have h1 : fibL (b + 1) ≤ fibL b + fibL b := by
          cases b with
          | zero => decide
          | succ b => show fibL b + fibL (b + 1) ≤ _; have := fibL_mono b; omega
        refine ⟨h1, fun h2 h3 => ?_⟩
        by_cases c : a = b
        · subst c; exact h1
        · have : b = a + 1 := by omega
          subst this
          exact Nat.le_refl _
      by_cases c : d1 ≤ d2
      · have e : d.toNat = d2.toNat + 1 := by omega
        rw [e]
        have := (key d1.toNat d2.toNat (by omega)).2 (by omega) (by omega)
        omega
      · have e : d.toNat = d1.toNat + 1 := by omega
        rw [e]
        have := (key d2.toNat d1.toNat (by omega)).2 (by omega) (by omega)
        omega

end Go.Proofs.Ytgbledjehnojeaa

/- What the package avl computes: joins of balanced texts. -/
set_option linter.unusedVariables false
set_option linter.unusedSimpArgs false
namespace Go.Proofs.Ytgbledjehnojeaa
open Go.Den

variable {w0 w : World} {Ω : List Ob} {p : Addr} {most : Int} {T : List ET} {i : Nat}

theorem intern_Even_sp {id : Int} (s : Sp w0 Ω w) (i : Nat) (hi : Ω[i]? = some (sto p most T)) {K : Bool → World → Prop} (h : ∀ w', Sp w0 Ω w' → K (known T id && (eAt T id).2.2.2) w') : C_intern_Store_Even (some p) id K w := by
  apply S_intern_Store_Even
  unfold F_intern_Store_Even
  refine gd_t rfl (intern_known_sp s i hi ?_)
  cases hk : known T id
  · rw [hk] at h
    exact gd_f rfl (h _ s)
  · rw [hk] at h
    exact gd_t rfl (intern_at_sp s i hi hk fun w' s => h _ s)
theorem intern_Even_nil {id : Int} {K : Bool → World → Prop} (h : K false w0) : C_intern_Store_Even none id K w0 := by
  apply S_intern_Store_Even
  unfold F_intern_Store_Even
  exact gd_f rfl h
theorem avl_Balanced_k {id : Int} (s : Sp w0 Ω w) (i : Nat) (hi : Ω[i]? = some (sto p most T)) (hk : 0 ≤ id ∧ id ≤ T.length) {K : Bool × Value → World → Prop} (h : ∀ w', Sp w0 Ω w' → K ((eAt T id).2.2.2, .nilIface) w') : C_avl_Balanced (some p) id K w := by
  apply S_avl_Balanced
  unfold F_avl_Balanced
  refine intern_Depth_k s i hi hk fun w1 s => nilIfc_nil (gd_f rfl (intern_Even_sp s i hi fun w2 s => ?_))
  have hkn : known T id = true := decide_eq_true hk
  rw [hkn, Bool.true_and]
  exact h _ s
theorem avl_Balanced_u {id : Int} (s : Sp w0 Ω w) (i : Nat) (hi : Ω[i]? = some (sto p most T)) (hk : ¬ (0 ≤ id ∧ id ≤ T.length)) {K : Bool × Value → World → Prop} (h : ∀ w', Sp w0 Ω w' → K (false, errV 1) w') : C_avl_Balanced (some p) id K w := by
  apply S_avl_Balanced
  unfold F_avl_Balanced
  exact intern_Depth_u s i hi hk fun w1 s => nilIfc_err (gd_t rfl (h _ s))

/-- a call of Pair for two balanced texts -/
theorem pair_nd {l r : Int} {t1 t2 : List Int} {d1 d2 : Int} (s : Sp w0 Ω w) (i : Nat) (hi : Ω[i]? = some (sto p most T)) (n1 : Nd T l t1 d1) (n2 : Nd T r t2 d2) (h1 : d1 ≤ d2 + 1) (h2 : d2 ≤ d1 + 1) (hl : (t1.length : Int) + t2.length ≤ 1152921504606846976) {K : Int × Value → World → Prop}
    (h : ∀ T' x w', Res T most 1 (fun T' x => Nd T' x (t1 ++ t2) (1 + max d1 d2)) T' x → Sp w0 (Ω.set i (sto p most T')) w' → K x w') : C_intern_Store_Pair (some p) l r K w := by
  obtain ⟨_, _, _, hb0, hb1, hb2, hg⟩ := Sp.entry s i hi
  exact intern_Pair_sp s i hi fun w' s => h _ _ _ (Nd.pair hg hb2 n1 n2 h1 h2 hl) s
theorem avl_two_sp {a b c : Int} {ta tb tc : List Int} {da db dc : Int} (s : Sp w0 Ω w) (i : Nat) (hi : Ω[i]? = some (sto p most T)) (na : Nd T a ta da) (nb : Nd T b tb db) (nc : Nd T c tc dc) (h1 : db ≤ dc + 1) (h2 : dc ≤ db + 1) (h3 : da ≤ 1 + max db dc + 1) (h4 : 1 + max db dc ≤ da + 1)
    (hl : (ta.length : Int) + tb.length + tc.length ≤ 1152921504606846976) {K : Int × Value → World → Prop}
    (h : ∀ T' x w', Res T most 2 (fun T' x => Nd T' x (ta ++ (tb ++ tc)) (1 + max da (1 + max db dc))) T' x → Sp w0 (Ω.set i (sto p most T')) w' → K x w') : C_avl_two (some p) a b c K w := by
  apply S_avl_two
  unfold F_avl_two
  refine pair_nd s i hi nb nc h1 h2 (by omega) fun T1 x1 w1 r1 s => ?_
  rcases r1.out with ⟨e1, q1⟩ | ⟨e1, e2⟩
  · rw [e1]
    refine nilIfc_nil (gd_f rfl (pair_nd s i (setGet hi) (na.ext r1.ext) q1 h3 h4 (by simp only [List.length_append]; omega) fun T2 x2 w2 r2 s => ?_))
    rw [List.set_set] at s
    exact h _ _ _ (r1.andThen r2) s
  · rw [e1]
    exact nilIfc_err (gd_t rfl (h _ _ _ (r1.fail (N2 := 1) e2) s))
theorem avl_four_sp {a b c d : Int} {ta tb tc td : List Int} {da db dc dd : Int} (s : Sp w0 Ω w) (i : Nat) (hi : Ω[i]? = some (sto p most T)) (na : Nd T a ta da) (nb : Nd T b tb db) (nc : Nd T c tc dc) (nd : Nd T d td dd) (h1 : da ≤ db + 1) (h2 : db ≤ da + 1) (h3 : dc ≤ dd + 1) (h4 : dd ≤ dc + 1)
    (h5 : max da db ≤ max dc dd + 1) (h6 : max dc dd ≤ max da db + 1) (hl : (ta.length : Int) + tb.length + tc.length + td.length ≤ 1152921504606846976) {K : Int × Value → World → Prop}
    (h : ∀ T' x w', Res T most 3 (fun T' x => Nd T' x ((ta ++ tb) ++ (tc ++ td)) (1 + max (1 + max da db) (1 + max dc dd))) T' x → Sp w0 (Ω.set i (sto p most T')) w' → K x w') : C_avl_four (some p) a b c d K w := by
  apply S_avl_four
  unfold F_avl_four
  refine pair_nd s i hi na nb h1 h2 (by omega) fun T1 x1 w1 r1 s => ?_
  rcases r1.out with ⟨e1, q1⟩ | ⟨e1, e2⟩
  · rw [e1]
    refine nilIfc_nil (gd_f rfl (avl_two_sp s i (setGet hi) q1 (nc.ext r1.ext) (nd.ext r1.ext) h3 h4 (by omega) (by omega) (by simp only [List.length_append]; omega) fun T2 x2 w2 r2 s => ?_))
    rw [List.set_set] at s
    exact h _ _ _ (r1.andThen r2) s
  · rw [e1]
    exact nilIfc_err (gd_t rfl (h _ _ _ (r1.fail (N2 := 2) e2) s))

theorem avl_parts_sp {x l r : Int} {t1 t2 : List Int} {d1 d2 : Int} (s : Sp w0 Ω w) (i : Nat) (hi : Ω[i]? = some (sto p most T)) (hx : 1 ≤ x ∧ x ≤ T.length) (hr : (eAt T x).1 = (2, 0, l, r, 0)) (n1 : Nd T l t1 d1) (n2 : Nd T r t2 d2) {K : Int × Int × Int × Int × Value → World → Prop}
    (h : ∀ w', Sp w0 Ω w' → K (l, r, d1, d2, .nilIface) w') : C_avl_parts (some p) x K w := by
  apply S_avl_parts
  unfold F_avl_parts
  have p1 := n1.pos
  have p2 := n2.pos
  refine intern_Rule_k s i hi hx fun w1 s => s.allocK fun a2 w2 s => s.st0 0 rfl rfl rfl fun w3 s => ?_
  rw [hr] at s ⊢
  refine nilIfc_nil (gd_f rfl (s.ldi (x := l) 0 2 rfl rfl (intern_Depth_k s (i + 1) hi ⟨by omega, n1.le⟩ fun w4 s => nilIfc_nil (gd_f rfl (s.ldi (x := r) 0 3 rfl rfl (intern_Depth_k s (i + 1) hi ⟨by omega, n2.le⟩ fun w5 s => nilIfc_nil (gd_f rfl (s.drawK fun w6 s => ?_))))))))
  refine s.ldi (x := l) 0 2 rfl rfl (s.ldi (x := r) 0 3 rfl rfl ?_)
  rw [n1.dep, n2.dep]
  exact h _ s.pop

/-- texts whose depths differ by at most two -/
def LevQ (t : List Int) (da db : Int) : List ET → Int → Prop := fun T' x => ∃ d, Nd T' x t d ∧ ((da ≤ db + 1 ∧ db ≤ da + 1 → d = 1 + max da db) ∧ (max da db ≤ d ∧ d ≤ 1 + max da db))
theorem avl_level_sp {a b : Int} {ta tb : List Int} {da db : Int} (s : Sp w0 Ω w) (i : Nat) (hi : Ω[i]? = some (sto p most T)) (na : Nd T a ta da) (nb : Nd T b tb db) (h1 : da ≤ db + 2) (h2 : db ≤ da + 2) (hl : (ta.length : Int) + tb.length ≤ 1152921504606846976) {K : Int × Value → World → Prop}
    (h : ∀ T' x w', Res T most 3 (LevQ (ta ++ tb) da db) T' x → Sp w0 (Ω.set i (sto p most T')) w' → K x w') : C_avl_level (some p) a b K w := by
  apply S_avl_level
  unfold F_avl_level
  obtain ⟨_, _, _, hb0, hb1, hb2, hg⟩ := Sp.entry s i hi
  have pa := na.pos
  have pb := nb.pos
  have ba := na.bound hg
  have bb := nb.bound hg
  have la := na.len hg
  have lb := nb.len hg
  refine intern_Depth_k s i hi ⟨by omega, na.le⟩ fun w1 s => nilIfc_nil (gd_f rfl (intern_Depth_k s i hi ⟨by omega, nb.le⟩ fun w2 s => nilIfc_nil (gd_f rfl ?_)))
  rw [na.dep, nb.dep]
  refine arith_i64 (by omega) (by omega) (gd_dec (fun c1 => ?_) (fun c1 => arith_i64 (by omega) (by omega) (gd_dec (fun c2 => ?_) (fun c2 => ?_))))
  · rcases na.parts hg with ⟨e0, _⟩ | ⟨l, r, t1, t2, d1, d2, hr, _, _, n1, n2, ht, hd, k1, k2⟩
    · omega
    have q1 := n1.len hg
    have q2 := n2.len hg
    have hll : (ta.length : Int) = t1.length + t2.length := by rw [ht, List.length_append]; omega
    refine avl_parts_sp s i hi ⟨pa, na.le⟩ hr n1 n2 fun w3 s => nilIfc_nil (gd_f rfl ?_)
    dsimp only
    refine gd_dec (fun c3 => ?_) (fun c3 => ?_)
    · refine avl_two_sp s i hi n1 n2 nb (by omega) (by omega) (by omega) (by omega) (by omega) fun T' x w' r s => h _ _ _ (r.mono (by decide) fun y q => ⟨1 + max d1 (1 + max d2 db), ?_, by omega, by omega⟩) s
      rw [ht, List.append_assoc]; exact q
    · rcases n2.parts hg with ⟨e0, _⟩ | ⟨l2, r2, u1, u2, f1, f2, hr2, _, _, m1, m2, ht2, hd2, k3, k4⟩
      · omega
      have q3 := m1.len hg
      have q4 := m2.len hg
      have hll2 : (t2.length : Int) = u1.length + u2.length := by rw [ht2, List.length_append]; omega
      refine avl_parts_sp s i hi ⟨n2.pos, n2.le⟩ hr2 m1 m2 fun w4 s => nilIfc_nil (gd_f rfl ?_)
      refine avl_four_sp s i hi n1 m1 m2 nb (by omega) (by omega) (by omega) (by omega) (by omega) (by omega) (by omega) fun T' x w' r s => h _ _ _ (r.mono (by decide) fun y q => ⟨1 + max (1 + max d1 f1) (1 + max f2 db), ?_, by omega, by omega⟩) s
      have : ta ++ tb = (t1 ++ u1) ++ (u2 ++ tb) := by rw [ht, ht2]; simp
      rw [this]; exact q
  · rcases nb.parts hg with ⟨e0, _⟩ | ⟨l, r, t1, t2, d1, d2, hr, _, _, n1, n2, ht, hd, k1, k2⟩
    · omega
    have q1 := n1.len hg
    have q2 := n2.len hg
    have hll : (tb.length : Int) = t1.length + t2.length := by rw [ht, List.length_append]; omega
    refine avl_parts_sp s i hi ⟨pb, nb.le⟩ hr n1 n2 fun w3 s => nilIfc_nil (gd_f rfl ?_)
    dsimp only
    refine gd_dec (fun c3 => ?_) (fun c3 => ?_)
    · rcases n1.parts hg with ⟨e0, _⟩ | ⟨l2, r2, u1, u2, f1, f2, hr2, _, _, m1, m2, ht2, hd2, k3, k4⟩
      · omega
      have q3 := m1.len hg
      have q4 := m2.len hg
      have hll2 : (t1.length : Int) = u1.length + u2.length := by rw [ht2, List.length_append]; omega
      refine avl_parts_sp s i hi ⟨n1.pos, n1.le⟩ hr2 m1 m2 fun w4 s => nilIfc_nil (gd_f rfl ?_)
      refine avl_four_sp s i hi na m1 m2 n2 (by omega) (by omega) (by omega) (by omega) (by omega) (by omega) (by omega) fun T' x w' r s => h _ _ _ (r.mono (by decide) fun y q => ⟨1 + max (1 + max da f1) (1 + max f2 d2), ?_, by omega, by omega⟩) s
      have : ta ++ tb = (ta ++ u1) ++ (u2 ++ t2) := by rw [ht, ht2]; simp
      rw [this]; exact q
    · refine pair_nd s i hi na n1 (by omega) (by omega) (by omega) fun T1 x1 w4 r1 s => ?_
      rcases r1.out with ⟨e1, g1⟩ | ⟨e1, e2⟩
      · rw [e1]
        refine nilIfc_nil (gd_f rfl (pair_nd s i (setGet hi) g1 (n2.ext r1.ext) (by omega) (by omega) (by simp only [List.length_append]; omega) fun T2 x2 w5 r2 s => ?_))
        rw [List.set_set] at s
        refine h _ _ _ ((r1.andThen r2).mono (by decide) fun y q => ⟨1 + max (1 + max da d1) d2, ?_, by omega, by omega⟩) s
        rw [ht, ← List.append_assoc]; exact q
      · rw [e1]
        exact nilIfc_err (gd_t rfl (h _ _ _ (r1.fail (N2 := 2) e2) s))
  · exact pair_nd s i hi na nb (by omega) (by omega) hl fun T' x w' r s => h _ _ _ (r.mono (by decide) fun y q => ⟨_, q, by omega, by omega⟩) s

theorem avl_join_sp : ∀ (n : Nat) {a b : Int} {ta tb : List Int} {da db : Int} {w0 w : World} {Ω : List Ob} {T : List ET}, (da + db).toNat = n → Sp w0 Ω w → ∀ (i : Nat), Ω[i]? = some (sto p most T) → Nd T a ta da → Nd T b tb db → (ta.length : Int) + tb.length ≤ 1152921504606846976 →
    ∀ {K : Int × Value → World → Prop}, (∀ T' x w', Res T most (3 * (max da db - min da db).toNat + 1) (fun T' x => ∃ d, Nd T' x (ta ++ tb) d ∧ max da db ≤ d ∧ d ≤ 1 + max da db) T' x → Sp w0 (Ω.set i (sto p most T')) w' → K x w') → C_avl_join (some p) a b K w := by
  intro n
  induction n using Nat.strongRecOn with
  | ind n ih =>
    intro a b ta tb da db w0 w Ω T hn s i hi na nb hl K h
    apply S_avl_join
    unfold F_avl_join
    obtain ⟨_, _, _, hb0, hb1, hb2, hg⟩ := Sp.entry s i hi
    have pa := na.pos
    have pb := nb.pos
    have ba := na.bound hg
    have bb := nb.bound hg
    have la := na.len hg
    have lb := nb.len hg
    refine intern_Depth_k s i hi ⟨by omega, na.le⟩ fun w1 s => nilIfc_nil (gd_f rfl (intern_Depth_k s i hi ⟨by omega, nb.le⟩ fun w2 s => nilIfc_nil (gd_f rfl ?_)))
    rw [na.dep, nb.dep]
    refine arith_i64 (by omega) (by omega) (gd_dec (fun c1 => ?_) (fun c1 => arith_i64 (by omega) (by omega) (gd_dec (fun c2 => ?_) (fun c2 => ?_))))
    · rcases na.parts hg with ⟨e0, _⟩ | ⟨l, r, t1, t2, d1, d2, hr, _, _, n1, n2, ht, hd, k1, k2⟩
      · omega
      have q1 := n1.len hg
      have q2 := n2.len hg
      have hll : (ta.length : Int) = t1.length + t2.length := by rw [ht, List.length_append]; omega
      refine avl_parts_sp s i hi ⟨pa, na.le⟩ hr n1 n2 fun w3 s => nilIfc_nil (gd_f rfl ?_)
      refine ih (d2 + db).toNat (by omega) rfl s i hi n2 nb (by omega) fun T1 x1 w4 r1 s => ?_
      rcases r1.out with ⟨e1, d, g1, g2, g3⟩ | ⟨e1, e2⟩
      · rw [e1]
        refine nilIfc_nil (gd_f rfl (avl_level_sp s i (setGet hi) (n1.ext r1.ext) g1 (by omega) (by omega) (by simp only [List.length_append]; omega) fun T2 x2 w5 r2 s => ?_))
        rw [List.set_set] at s
        refine h _ _ _ ((r1.andThen r2).mono (by omega) ?_) s
        rintro y ⟨d', q, q5, q6⟩
        refine ⟨d', ?_, by omega, by omega⟩
        rw [ht, List.append_assoc]; exact q
      · rw [e1]
        exact nilIfc_err (gd_t rfl (h _ _ _ ((r1.fail (N2 := 3) (Q2 := fun T' x => ∃ d, Nd T' x (ta ++ tb) d ∧ max da db ≤ d ∧ d ≤ 1 + max da db) e2).mono (by omega) fun _ h => h) s))
    · rcases nb.parts hg with ⟨e0, _⟩ | ⟨l, r, t1, t2, d1, d2, hr, _, _, n1, n2, ht, hd, k1, k2⟩
      · omega
      have q1 := n1.len hg
      have q2 := n2.len hg
      have hll : (tb.length : Int) = t1.length + t2.length := by rw [ht, List.length_append]; omega
      refine avl_parts_sp s i hi ⟨pb, nb.le⟩ hr n1 n2 fun w3 s => nilIfc_nil (gd_f rfl ?_)
      refine ih (da + d1).toNat (by omega) rfl s i hi na n1 (by omega) fun T1 x1 w4 r1 s => ?_
      rcases r1.out with ⟨e1, d, g1, g2, g3⟩ | ⟨e1, e2⟩
      · rw [e1]
        refine nilIfc_nil (gd_f rfl (avl_level_sp s i (setGet hi) g1 (n2.ext r1.ext) (by omega) (by omega) (by simp only [List.length_append]; omega) fun T2 x2 w5 r2 s => ?_))
        rw [List.set_set] at s
        refine h _ _ _ ((r1.andThen r2).mono (by omega) ?_) s
        rintro y ⟨d', q, q5, q6⟩
        refine ⟨d', ?_, by omega, by omega⟩
        rw [ht, ← List.append_assoc]; exact q
      · rw [e1]
        exact nilIfc_err (gd_t rfl (h _ _ _ ((r1.fail (N2 := 3) (Q2 := fun T' x => ∃ d, Nd T' x (ta ++ tb) d ∧ max da db ≤ d ∧ d ≤ 1 + max da db) e2).mono (by omega) fun _ h => h) s))
    · exact pair_nd s i hi na nb (by omega) (by omega) hl fun T' x w' r s => h _ _ _ (r.mono (by omega) fun y q => ⟨_, q, by omega, by omega⟩) s

end Go.Proofs.Ytgbledjehnojeaa

/- Join as a whole, and the least lengths. -/
set_option linter.unusedVariables false
set_option linter.unusedSimpArgs false
namespace Go.Proofs.Ytgbledjehnojeaa
open Go.Den

variable {w0 w : World} {Ω : List Ob} {p : Addr} {most : Int} {T : List ET} {i : Nat}

/-- a balanced text, the empty one too -/
structure Nd0 (T : List ET) (x : Int) (t : List Int) (d : Int) : Prop where
  pos : 0 ≤ x
  le : x ≤ T.length
  txt : txt T x = t
  dep : (eAt T x).2.2.1 = d
  even : (eAt T x).2.2.2 = true
theorem Nd0.zero : Nd0 T 0 [] 0 := ⟨Int.le_refl _, by omega, rfl, rfl, rfl⟩
theorem Nd.nd0 {x : Int} {t : List Int} {d : Int} (n : Nd T x t d) : Nd0 T x t d := ⟨by have := n.pos; omega, n.le, n.txt, n.dep, n.even⟩
theorem Nd0.nd {x : Int} {t : List Int} {d : Int} (n : Nd0 T x t d) (h : x ≠ 0) : Nd T x t d := ⟨by have := n.pos; omega, n.le, n.txt, n.dep, n.even⟩
theorem Nd0.nil {t : List Int} {d : Int} (n : Nd0 T 0 t d) : t = [] ∧ d = 0 := ⟨n.txt.symm, n.dep.symm⟩
theorem Nd0.ext {T' : List ET} {x : Int} {t : List Int} {d : Int} (n : Nd0 T x t d) (h : T <+: T') : Nd0 T' x t d := by
  have hl := ext_len h
  have := n.le
  exact ⟨n.pos, by omega, by rw [ext_txt h n.pos n.le]; exact n.txt, by rw [ext_eAt h n.pos n.le]; exact n.dep, by rw [ext_eAt h n.pos n.le]; exact n.even⟩
theorem Nd0.len (g : Grow T) {x : Int} {t : List Int} {d : Int} (n : Nd0 T x t d) : (eAt T x).2.1.1 = t.length ∧ 0 ≤ d := by
  have h1 := g.len n.pos n.le
  rw [n.txt] at h1
  have h2 := g.at_ n.pos n.le
  rw [n.dep] at h2
  exact ⟨h1, h2.2.1⟩
theorem Nd0.wt (g : Grow T) {x : Int} {t : List Int} {d : Int} (n : Nd0 T x t d) : (eAt T x).2.1 = wOf t := by rw [← n.txt]; exact (g.weight n.pos n.le).1

def JoinQ (a b : Int) (ta tb : List Int) (da db : Int) : List ET → Int → Prop := fun T' x => ∃ d, Nd0 T' x (ta ++ tb) d ∧ max da db ≤ d ∧ d ≤ 1 + max da db ∧ (a = 0 → x = b ∧ d = db) ∧ (b = 0 → x = a ∧ d = da)
def joinN (a b da db : Int) : Nat := if a = 0 ∨ b = 0 then 0 else 3 * (max da db - min da db).toNat + 1
theorem avl_Join_sp {a b : Int} {ta tb : List Int} {da db : Int} (s : Sp w0 Ω w) (i : Nat) (hi : Ω[i]? = some (sto p most T)) (na : Nd0 T a ta da) (nb : Nd0 T b tb db) (hl : (ta.length : Int) + tb.length ≤ 1152921504606846976) {K : Int × Value → World → Prop}
    (h : ∀ T' x w', Res T most (joinN a b da db) (JoinQ a b ta tb da db) T' x → Sp w0 (Ω.set i (sto p most T')) w' → K x w') : C_avl_Join (some p) a b K w := by
  apply S_avl_Join
  unfold F_avl_Join
  obtain ⟨_, _, _, hb0, hb1, hb2, hg⟩ := Sp.entry s i hi
  have la := na.len hg
  have lb := nb.len hg
  have wa := (hg.at_ na.pos na.le).1
  have wb := (hg.at_ nb.pos nb.le).1
  have ka : known T a = true := decide_eq_true ⟨na.pos, na.le⟩
  have kb : known T b = true := decide_eq_true ⟨nb.pos, nb.le⟩
  refine intern_Weight_k s i hi ⟨na.pos, na.le⟩ fun w1 s => s.allocK fun a2 w2 s => s.st0 0 rfl rfl rfl fun w3 s => nilIfc_nil (gd_f rfl ?_)
  refine intern_Weight_k s (i + 1) hi ⟨nb.pos, nb.le⟩ fun w4 s => s.allocK fun a5 w5 s => s.st0 0 rfl rfl rfl fun w6 s => nilIfc_nil (gd_f rfl ?_)
  refine JoinP.inl (intern_Even_sp s (i + 2) hi fun w7 s => ?_)
  rw [ka, na.even]
  refine gd_f rfl (intern_Even_sp s (i + 2) hi fun w8 s => ?_)
  rw [kb, nb.even]
  intro _
  refine gd_f rfl (s.ldi (x := (eAt T a).2.1.1) 1 0 rfl rfl (s.ldi (x := (eAt T b).2.1.1) 0 0 rfl rfl (length_Add_spec wa.len wb.len (fun hle => nilIfc_nil (gd_f rfl (gd_eq (fun c1 => ?_) (fun c1 => gd_eq (fun c2 => ?_) (fun c2 => ?_))))) (fun hgt => absurd hgt (by omega)))))
  · subst c1
    obtain ⟨rfl, rfl⟩ := na.nil
    refine h T _ _ (Res.same hg hb2 ⟨db, ?_, by omega, by omega, fun _ => ⟨rfl, rfl⟩, fun e => ?_⟩) ?_
    · rw [List.nil_append]; exact nb
    · subst e
      exact ⟨rfl, nb.nil.2⟩
    · rw [setSame hi]; exact s.drop 2
  · subst c2
    obtain ⟨rfl, rfl⟩ := nb.nil
    refine h T _ _ (Res.same hg hb2 ⟨da, ?_, by omega, by omega, fun e => absurd e c1, fun _ => ⟨rfl, rfl⟩⟩) ?_
    · rw [List.append_nil]; exact na
    · rw [setSame hi]; exact s.drop 2
  · refine avl_join_sp _ rfl s (i + 2) hi (na.nd c1) (nb.nd c2) hl fun T' x w9 r s => h T' x _ ?_ (s.drop 2)
    have e : joinN a b da db = 3 * (max da db - min da db).toNat + 1 := by unfold joinN; rw [if_neg (by omega)]
    rw [e]
    refine r.mono (Nat.le_refl _) ?_
    rintro y ⟨d, q, q1, q2⟩
    exact ⟨d, q.nd0, q1, q2, fun e => absurd e c1, fun e => absurd e c2⟩
/-- what Join answers where it does not join -/
def joinBad (T : List ET) (a b : Int) : Option Int :=
  if ¬ (0 ≤ a ∧ a ≤ T.length) ∨ ¬ (0 ≤ b ∧ b ≤ T.length) then some 1 else
  if (eAt T a).2.2.2 = false ∨ (eAt T b).2.2.2 = false then some 4 else
  if 1152921504606846976 < (eAt T a).2.1.1 + (eAt T b).2.1.1 then some 2 else none
theorem avl_Join_bad {a b n : Int} (s : Sp w0 Ω w) (i : Nat) (hi : Ω[i]? = some (sto p most T)) (hb : joinBad T a b = some n) {K : Int × Value → World → Prop} (h : ∀ w', Sp w0 Ω w' → K (0, errV n) w') : C_avl_Join (some p) a b K w := by
  apply S_avl_Join
  unfold F_avl_Join
  obtain ⟨_, _, _, hb0, hb1, hb2, hg⟩ := Sp.entry s i hi
  unfold joinBad at hb
  by_cases ca : 0 ≤ a ∧ a ≤ T.length
  rotate_left
  · rw [if_pos (Or.inl ca)] at hb
    cases hb
    exact intern_Weight_u s i hi ca fun w1 s => s.allocK fun a2 w2 s => s.st0 0 rfl rfl rfl fun w3 s => nilIfc_err (gd_t rfl (h _ s.pop))
  refine intern_Weight_k s i hi ca fun w1 s => s.allocK fun a2 w2 s => s.st0 0 rfl rfl rfl fun w3 s => nilIfc_nil (gd_f rfl ?_)
  by_cases cb : 0 ≤ b ∧ b ≤ T.length
  rotate_left
  · rw [if_pos (Or.inr cb)] at hb
    cases hb
    exact intern_Weight_u s (i + 1) hi cb fun w1 s => s.allocK fun a2 w2 s => s.st0 0 rfl rfl rfl fun w3 s => nilIfc_err (gd_t rfl (h _ (s.drop 2)))
  refine intern_Weight_k s (i + 1) hi cb fun w4 s => s.allocK fun a5 w5 s => s.st0 0 rfl rfl rfl fun w6 s => nilIfc_nil (gd_f rfl ?_)
  rw [if_neg (by omega)] at hb
  have ka : known T a = true := decide_eq_true ca
  have kb : known T b = true := decide_eq_true cb
  have wa := (hg.at_ ca.1 ca.2).1
  have wb := (hg.at_ cb.1 cb.2).1
  refine JoinP.inl (intern_Even_sp s (i + 2) hi fun w7 s => ?_)
  rw [ka, Bool.true_and]
  cases ea : (eAt T a).2.2.2
  · rw [if_pos (Or.inl ea)] at hb
    cases hb
    exact gd_t rfl fun _ => gd_t rfl (h _ (s.drop 2))
  refine gd_f rfl (intern_Even_sp s (i + 2) hi fun w8 s => ?_)
  rw [kb, Bool.true_and]
  cases eb : (eAt T b).2.2.2
  · rw [if_pos (Or.inr eb)] at hb
    cases hb
    exact fun _ => gd_t rfl (h _ (s.drop 2))
  rw [if_neg (by rw [ea, eb]; simp)] at hb
  have hgt : 1152921504606846976 < (eAt T a).2.1.1 + (eAt T b).2.1.1 := by
    by_cases c : 1152921504606846976 < (eAt T a).2.1.1 + (eAt T b).2.1.1
    · exact c
    · rw [if_neg c] at hb; cases hb
  rw [if_pos hgt] at hb
  cases hb
  intro _
  exact gd_f rfl (s.ldi (x := (eAt T a).2.1.1) 1 0 rfl rfl (s.ldi (x := (eAt T b).2.1.1) 0 0 rfl rfl (length_Add_spec wa.len wb.len (fun hle => absurd hle (by omega)) (fun _ => nilIfc_err (gd_t rfl (h _ (s.drop 2)))))))
theorem avl_Join_nil {a b : Int} {K : Int × Value → World → Prop} (h : ∀ w', Ext w0 w' → K (0, errV 5) w') : C_avl_Join none a b K w0 := by
  apply S_avl_Join
  unfold F_avl_Join
  refine intern_Weight_nil fun w1 e => ?_
  have s : Sp w0 [] w1 := (Sp.init w0).toExt e
  exact s.allocK fun a2 w2 s => s.st0 0 rfl rfl rfl fun w3 s => nilIfc_err (gd_t rfl (h _ s.ext))
theorem avl_Balanced_nil {a : Int} {K : Bool × Value → World → Prop} (h : K (false, errV 5) w0) : C_avl_Balanced none a K w0 := by
  apply S_avl_Balanced
  unfold F_avl_Balanced
  exact intern_Depth_nil (nilIfc_err (gd_t rfl h))

/-! ### Least lengths -/
theorem fibL_step (n : Nat) : fibL (n + 2) = fibL n + fibL (n + 1) := rfl
theorem fibL_big : 1152921504606846976 < fibL 87 ∧ fibL 86 ≤ 1152921504606846976 := by decide
def least (d : Int) : Int := if d < 0 then 0 else if 1152921504606846977 < (fibL d.toNat : Int) then 1152921504606846977 else fibL d.toNat
def bound (n : Int) : Nat → Nat
  | 0 => 0
  | f + 1 => if (fibL (f + 1) : Int) ≤ n then f + 1 else bound n f
end Go.Proofs.Ytgbledjehnojeaa

/- The greatest depths of lengths; the walks of AvlLeasts and AvlNil. -/
set_option linter.unusedVariables false
set_option linter.unusedSimpArgs false
namespace Go.Proofs.Ytgbledjehnojeaa
open Go.Den

variable {w0 w : World} {Ω : List Ob} {p : Addr} {most : Int} {T : List ET} {i : Nat}

theorem fibL_small {j : Nat} (h : (fibL j : Int) ≤ 1152921504606846976) : j ≤ 86 := by
  rcases Nat.lt_or_ge 86 j with h' | h'
  · have h1 := fibL_le (m := 87) (n := j) (by omega)
    have h2 := fibL_big
    omega
  · exact h'
theorem fibL_88 : fibL 88 ≤ 4611686018427387904 := by decide
/-- d is the greatest depth of a balanced text of n letters -/
def IsBound (n : Int) (d : Nat) : Prop := (d = 0 ∨ (fibL d : Int) ≤ n) ∧ n < fibL (d + 1) ∧ d ≤ 86
theorem IsBound.unique {n : Int} {d e : Nat} (hd : IsBound n d) (he : IsBound n e) : d = e := by
  rcases Nat.lt_trichotomy d e with h | h | h
  · have h1 := fibL_le (m := d + 1) (n := e) h
    rcases he.1 with h2 | h2
    · omega
    · have := hd.2.1; omega
  · exact h
  · have h1 := fibL_le (m := e + 1) (n := d) h
    rcases hd.1 with h2 | h2
    · omega
    · have := he.2.1; omega
theorem IsBound.le {n : Int} {d e : Nat} (hd : IsBound n d) (he : (fibL e : Int) ≤ n) : e ≤ d := by
  rcases Nat.lt_or_ge d e with h | h
  · have h1 := fibL_le (m := d + 1) (n := e) h
    have := hd.2.1; omega
  · exact h
theorem least_le {d : Nat} {n : Int} (hn : n ≤ 1152921504606846976) : least (d : Int) ≤ n ↔ (fibL d : Int) ≤ n := by
  unfold least
  rw [if_neg (by omega), show ((d : Int)).toNat = d by omega]
  split <;> omega
/-! ### Letters -/
theorem pLetter_res (g : Grow T) (hm : (T.length : Int) ≤ most) {b : Int} (hb : 0 ≤ b ∧ b < 256) : Res T most 1 (fun T' x => Nd T' x [b] 0) (pLetter T most b).1 (pLetter T most b).2 := by
  refine pAdd_res g hm (.letter g hb.1 hb.2) (fun i hi => ?_) (fun hn => ?_)
  · have hp := lkR_pos hi
    have hr := lkR_rule hi
    cases g.txt hp.1 hp.2 with
    | letter c _ _ e ht =>
      rw [e] at hr
      have hcb : c = b := congrArg (fun r : RT => r.2.1) hr
      subst hcb
      exact ⟨hp.1, hp.2, ht, by rw [e]; rfl, by rw [e]; rfl⟩
    | pair l r _ _ _ _ _ e _ => rw [e] at hr; simp [mkLetter, mkPair] at hr
    | power x k _ _ _ _ e _ => rw [e] at hr; simp [mkPower, mkLetter] at hr
  · refine ⟨by omega, by simp, ?_, by rw [eAt_last]; rfl, by rw [eAt_last]; rfl⟩
    unfold txt
    have := gt_last (acc := txts T) (t := tx1 (txts T) (mkLetter b).1)
    rw [txts_len] at this
    rw [txts_append, this]; rfl
theorem letter_nd {b : Int} (s : Sp w0 Ω w) (i : Nat) (hi : Ω[i]? = some (sto p most T)) (hb : 0 ≤ b ∧ b < 256) {K : Int × Value → World → Prop}
    (h : ∀ T' x w', Res T most 1 (fun T' x => Nd T' x [b] 0) T' x → Sp w0 (Ω.set i (sto p most T')) w' → K x w') : C_intern_Store_Letter (some p) b K w := by
  obtain ⟨_, _, _, hb0, hb1, hb2, hg⟩ := Sp.entry s i hi
  exact intern_Letter_sp s i hi hb fun w' s => h _ _ _ (pLetter_res hg hb2 hb) s

/-! ### The example -/
end Go.Proofs.Ytgbledjehnojeaa

/- Joined texts at any length: the walk of AvlDeep. -/
set_option linter.unusedVariables false
set_option linter.unusedSimpArgs false
namespace Go.Proofs.Ytgbledjehnojeaa
open Go.Den

variable {w0 w : World} {Ω : List Ob} {p : Addr} {most : Int} {T : List ET} {i : Nat}

theorem Nd0.deep (g : Grow T) {x : Int} {t : List Int} {d : Int} (n : Nd0 T x t d) : 0 ≤ d ∧ d ≤ 86 := by
  refine ⟨(n.len g).2, ?_⟩
  by_cases c : x = 0
  · subst c; have := n.nil.2; omega
  · have nd := n.nd c
    have h1 := nd.fib g _ rfl
    have h2 := (nd.bound g).2
    have h3 := fibL_small (j := d.toNat) (by omega)
    have := (n.len g).2
    omega

/-- some balanced text -/
def IsNd (T : List ET) (x : Int) : Prop := ∃ t d, Nd0 T x t d
theorem IsNd.ext {T' : List ET} {x : Int} (n : IsNd T x) (h : T <+: T') : IsNd T' x := by
  obtain ⟨t, d, n⟩ := n
  exact ⟨t, d, n.ext h⟩
theorem getN {xs : List Int} {x : Int} (h0 : 0 ≤ x) (h1 : x < xs.length) : ∃ (n : Nat) (y : Int), x = n ∧ xs[n]? = some y ∧ y ∈ xs := by
  have hn : x.toNat < xs.length := by omega
  exact ⟨x.toNat, xs[x.toNat], by omega, List.getElem?_eq_getElem hn, List.getElem_mem hn⟩

end Go.Proofs.Ytgbledjehnojeaa

/- What split's front, rest, Split and section return, and how many rules they add. -/
set_option linter.unusedVariables false
set_option linter.unusedSimpArgs false
namespace Go.Proofs.Ytgbledjehnojeaa
open Go.Den

variable {w0 w : World} {Ω : List Ob} {p : Addr} {most : Int} {T : List ET} {i : Nat}

theorem split_size_k {id : Int} (s : Sp w0 Ω w) (i : Nat) (hi : Ω[i]? = some (sto p most T)) (hk : 0 ≤ id ∧ id ≤ T.length) {K : Int × Value → World → Prop} (h : ∀ w', Sp w0 Ω w' → K ((eAt T id).2.1.1, .nilIface) w') : C_split_size (some p) id K w := by
  apply S_split_size
  unfold F_split_size
  exact intern_Weight_k s i hi hk fun w1 s => s.allocK fun a2 w2 s => s.st0 0 rfl rfl rfl fun w3 s => nilIfc_nil (gd_f rfl (s.ldi (x := (eAt T id).2.1.1) 0 0 rfl rfl (h _ s.pop)))

/-- a part of a text of depth d: balanced, no deeper, with few rules added; or the store is full -/
structure Prt (T : List ET) (most d : Int) (t : List Int) (T' : List ET) (r : Int × Value) : Prop where
  ext : T <+: T'
  grow : Grow T'
  cap : (T'.length : Int) ≤ most
  out : (∃ e, r.2 = .nilIface ∧ Nd0 T' r.1 t e ∧ 0 ≤ e ∧ e ≤ d ∧ (T'.length : Int) ≤ T.length + 3 * e + 4 * d) ∨ (r = (0, errV 3) ∧ most < (T.length : Int) + 7 * d ∧ (T'.length : Int) ≤ T.length + 7 * d)
theorem Prt.same {d e : Int} {t : List Int} {x : Int} (g : Grow T) (hm : (T.length : Int) ≤ most) (n : Nd0 T x t e) (h : e ≤ d) : Prt T most d t T (x, .nilIface) := by
  have := (n.len g).2
  exact ⟨List.prefix_refl _, g, hm, Or.inl ⟨e, rfl, n, this, h, by omega⟩⟩
theorem Prt.up {d d' : Int} {t : List Int} {T' : List ET} {r : Int × Value} (h : Prt T most d t T' r) (hd : d ≤ d') : Prt T most d' t T' r := by
  obtain ⟨h1, h2, h3, h4⟩ := h
  refine ⟨h1, h2, h3, ?_⟩
  rcases h4 with ⟨e, a1, a2, a3, a4, a5⟩ | ⟨a1, a2, a3⟩
  · exact Or.inl ⟨e, a1, a2, a3, by omega, by omega⟩
  · exact Or.inr ⟨a1, by omega, by omega⟩

theorem split_front_sp : ∀ (k : Nat) {x n : Int} {t : List Int} {d : Int} {w0 w : World} {Ω : List Ob} {T : List ET}, x.toNat = k → Sp w0 Ω w → ∀ (i : Nat), Ω[i]? = some (sto p most T) → Nd0 T x t d → 0 ≤ n → n ≤ t.length →
    ∀ {K : Int × Value → World → Prop}, (∀ T' r w', Prt T most d (t.take n.toNat) T' r → Sp w0 (Ω.set i (sto p most T')) w' → K r w') → C_split_front (some p) x n K w := by
  intro k
  induction k using Nat.strongRecOn with
  | ind k ih =>
  intro x n t d w0 w Ω T hk s i hi nx hn0 hn1 K h
  obtain ⟨_, _, _, hb0, hb1, hb2, hg⟩ := Sp.entry s i hi
  apply S_split_front
  unfold F_split_front
  have lx := nx.len hg
  have wlx := (hg.at_ nx.pos nx.le).1.len
  refine gd_eq (fun c => ?_) (fun c => split_size_k s i hi ⟨nx.pos, nx.le⟩ fun w1 s => nilIfc_nil (gd_f rfl (gd_eq (fun c2 => ?_) (fun c2 => ?_))))
  · subst c
    refine h T _ _ (Prt.same (e := 0) hg hb2 ?_ lx.2) ?_
    · exact Nd0.zero
    · rw [setSame hi]; exact s
  · refine h T _ _ (Prt.same (e := d) hg hb2 ?_ (Int.le_refl _)) ?_
    · dsimp only at c2
      rw [List.take_of_length_le (by omega)]; exact nx
    · rw [setSame hi]; exact s
  · dsimp only at c2
    have hx0 : x ≠ 0 := fun e => by subst e; have := nx.nil.1; subst this; simp at hn1; omega
    have nd := nx.nd hx0
    rcases nd.parts hg with ⟨_, b, hb, _⟩ | ⟨l, r, t1, t2, d1, d2, hr, hlx, hrx, n1, n2, ht, hd, k1, k2⟩
    · subst hb; simp at hn1 lx; omega
    have q1 := n1.len hg
    have q2 := n2.len hg
    have p1 := n1.pos
    have p2 := n2.pos
    have hlt : (t.length : Int) = t1.length + t2.length := by rw [ht, List.length_append]; omega
    refine intern_Rule_k s i hi ⟨nd.pos, nd.le⟩ fun w2 s => s.allocK fun a4 w3 s => s.st0 0 rfl rfl rfl fun w4 s => ?_
    rw [hr] at s ⊢
    refine nilIfc_nil (gd_f rfl (s.ldi (x := l) 0 2 rfl rfl (split_size_k s (i + 1) hi ⟨by omega, n1.le⟩ fun w5 s => nilIfc_nil (gd_f rfl (gd_dec (fun c3 => ?_) (fun c3 => ?_))))))
    · dsimp only at c3
      refine s.ldi (x := l) 0 2 rfl rfl (ih l.toNat (by omega) rfl s (i + 1) hi n1.nd0 hn0 (by omega) fun T1 x1 w6 r1 s => ?_)
      refine h T1 _ _ ?_ s.pop
      rw [ht, List.take_append_of_le_length (by omega)]
      exact r1.up (by omega)
    · dsimp only at c3
      refine s.ldi (x := r) 0 3 rfl rfl (arith_i64 (by dsimp only; omega) (by dsimp only; omega) ?_)
      dsimp only
      refine ih r.toNat (by omega) rfl s (i + 1) hi n2.nd0 (n := n - (eAt T l).2.1.1) (by omega) (by omega) fun T1 x1 w6 r1 s => ?_
      have htk : t.take n.toNat = t1 ++ t2.take (n - (eAt T l).2.1.1).toNat := by
        rw [ht, List.take_append, List.take_of_length_le (by omega)]
        congr 2
        omega
      have s : Sp w0 (cel a4 (cells yapi_Rule (2, 0, l, r, 0)) :: Ω.set i (sto p most T1)) w6 := s
      rcases r1.out with ⟨e1, a1, a2, a3, a4', a5⟩ | ⟨a1, a2, a3⟩
      · rw [a1]
        have hext := r1.ext
        have nl := n1.nd0.ext hext
        refine nilIfc_nil (gd_f rfl (s.ldi (x := l) 0 2 rfl rfl (avl_Join_sp s (i + 1) (setGet hi) nl a2 (by simp only [List.length_take]; omega) fun T2 x2 w7 r2 s => ?_)))
        have s' : Sp w0 ((Ω.set i (sto p most T1)).set i (sto p most T2)) w7 := s.pop
        rw [List.set_set] at s'
        have hN : (joinN l x1.1 d1 e1 : Int) ≤ 3 * (max d1 e1 - min d1 e1) + 1 := by unfold joinN; split <;> omega
        have hl2 := r2.len
        refine h T2 _ _ ⟨hext.trans r2.ext, r2.grow, r2.cap, ?_⟩ s'
        rcases r2.out with ⟨b1, d', b2, b3, b4, _⟩ | ⟨b1, b2⟩
        · left
          refine ⟨d', b1, by rw [htk]; exact b2, by omega, by omega, ?_⟩
          omega
        · right
          rw [b1]
          exact ⟨rfl, by omega, by omega⟩
      · rw [a1]
        refine nilIfc_err (gd_t rfl (h T1 _ _ ⟨r1.ext, r1.grow, r1.cap, Or.inr ⟨rfl, by omega, by omega⟩⟩ s.pop))

theorem split_rest_sp : ∀ (k : Nat) {x n : Int} {t : List Int} {d : Int} {w0 w : World} {Ω : List Ob} {T : List ET}, x.toNat = k → Sp w0 Ω w → ∀ (i : Nat), Ω[i]? = some (sto p most T) → Nd0 T x t d → 0 ≤ n → n ≤ t.length →
    ∀ {K : Int × Value → World → Prop}, (∀ T' r w', Prt T most d (t.drop n.toNat) T' r → Sp w0 (Ω.set i (sto p most T')) w' → K r w') → C_split_rest (some p) x n K w := by
  intro k
  induction k using Nat.strongRecOn with
  | ind k ih =>
  intro x n t d w0 w Ω T hk s i hi nx hn0 hn1 K h
  obtain ⟨_, _, _, hb0, hb1, hb2, hg⟩ := Sp.entry s i hi
  apply S_split_rest
  unfold F_split_rest
  have lx := nx.len hg
  have wlx := (hg.at_ nx.pos nx.le).1.len
  refine gd_eq (fun c => ?_) (fun c => split_size_k s i hi ⟨nx.pos, nx.le⟩ fun w1 s => JoinP.inl (nilIfc_nil (gd_f rfl ?_)))
  · subst c
    refine h T _ _ (Prt.same (e := d) hg hb2 nx (Int.le_refl _)) ?_
    rw [setSame hi]; exact s
  intro _
  refine gd_eq (fun c2 => ?_) (fun c2 => ?_)
  · refine h T _ _ (Prt.same (e := 0) hg hb2 ?_ lx.2) ?_
    · dsimp only at c2
      rw [List.drop_of_length_le (by omega)]; exact Nd0.zero
    · rw [setSame hi]; exact s
  · dsimp only at c2
    have hx0 : x ≠ 0 := fun e => by subst e; have := nx.nil.1; subst this; simp at hn1; omega
    have nd := nx.nd hx0
    rcases nd.parts hg with ⟨_, b, hb, _⟩ | ⟨l, r, t1, t2, d1, d2, hr, hlx, hrx, n1, n2, ht, hd, k1, k2⟩
    · subst hb; simp at hn1 lx; omega
    have q1 := n1.len hg
    have q2 := n2.len hg
    have p1 := n1.pos
    have p2 := n2.pos
    have hlt : (t.length : Int) = t1.length + t2.length := by rw [ht, List.length_append]; omega
    refine intern_Rule_k s i hi ⟨nd.pos, nd.le⟩ fun w2 s => s.allocK fun a4 w3 s => s.st0 0 rfl rfl rfl fun w4 s => ?_
    rw [hr] at s ⊢
    refine nilIfc_nil (gd_f rfl (s.ldi (x := l) 0 2 rfl rfl (split_size_k s (i + 1) hi ⟨by omega, n1.le⟩ fun w5 s => nilIfc_nil (gd_f rfl (gd_dec (fun c3 => ?_) (fun c3 => ?_))))))
    · dsimp only at c3
      refine s.ldi (x := r) 0 3 rfl rfl (arith_i64 (by dsimp only; omega) (by dsimp only; omega) ?_)
      dsimp only
      refine ih r.toNat (by omega) rfl s (i + 1) hi n2.nd0 (n := n - (eAt T l).2.1.1) (by omega) (by omega) fun T1 x1 w6 r1 s => ?_
      refine h T1 _ _ ?_ s.pop
      rw [ht, List.drop_append, List.drop_of_length_le (by omega), List.nil_append, show n.toNat - t1.length = (n - (eAt T l).2.1.1).toNat by omega]
      exact r1.up (by omega)
    · dsimp only at c3
      refine s.ldi (x := l) 0 2 rfl rfl (ih l.toNat (by omega) rfl s (i + 1) hi n1.nd0 hn0 (by omega) fun T1 x1 w6 r1 s => ?_)
      have htk : t.drop n.toNat = t1.drop n.toNat ++ t2 := by
        rw [ht, List.drop_append_of_le_length (by omega)]
      have s : Sp w0 (cel a4 (cells yapi_Rule (2, 0, l, r, 0)) :: Ω.set i (sto p most T1)) w6 := s
      rcases r1.out with ⟨e1, a1, a2, a3, a4', a5⟩ | ⟨a1, a2, a3⟩
      · rw [a1]
        have hext := r1.ext
        have nr := n2.nd0.ext hext
        refine nilIfc_nil (gd_f rfl (s.ldi (x := r) 0 3 rfl rfl (avl_Join_sp s (i + 1) (setGet hi) a2 nr (by simp only [List.length_drop]; omega) fun T2 x2 w7 r2 s => ?_)))
        have s' : Sp w0 ((Ω.set i (sto p most T1)).set i (sto p most T2)) w7 := s.pop
        rw [List.set_set] at s'
        have hN : (joinN x1.1 r e1 d2 : Int) ≤ 3 * (max e1 d2 - min e1 d2) + 1 := by unfold joinN; split <;> omega
        have hl2 := r2.len
        refine h T2 _ _ ⟨hext.trans r2.ext, r2.grow, r2.cap, ?_⟩ s'
        rcases r2.out with ⟨b1, d', b2, b3, b4, _⟩ | ⟨b1, b2⟩
        · left
          refine ⟨d', b1, by rw [htk]; exact b2, by omega, by omega, ?_⟩
          omega
        · right
          rw [b1]
          exact ⟨rfl, by omega, by omega⟩
      · rw [a1]
        refine nilIfc_err (gd_t rfl (h T1 _ _ ⟨r1.ext, r1.grow, r1.cap, Or.inr ⟨rfl, by omega, by omega⟩⟩ s.pop))

end Go.Proofs.Ytgbledjehnojeaa

/- Split and section as a whole. -/
set_option linter.unusedVariables false
set_option linter.unusedSimpArgs false
namespace Go.Proofs.Ytgbledjehnojeaa
open Go.Den

variable {w0 w : World} {Ω : List Ob} {p : Addr} {most : Int} {T : List ET} {i : Nat}

theorem split_check_e {id : Int} (s : Sp w0 Ω w) (i : Nat) (hi : Ω[i]? = some (sto p most T)) (hk : 0 ≤ id ∧ id ≤ T.length) (he : (eAt T id).2.2.2 = true) {K : Int × Value → World → Prop} (h : ∀ w', Sp w0 Ω w' → K ((eAt T id).2.1.1, .nilIface) w') : C_split_check (some p) id K w := by
  apply S_split_check
  unfold F_split_check
  refine avl_Balanced_k s i hi hk fun w1 s => nilIfc_nil (gd_f rfl ?_)
  rw [he]
  exact gd_f rfl (split_size_k s i hi hk fun w2 s => h _ s)
theorem split_check_bad {id n : Int} (s : Sp w0 Ω w) (i : Nat) (hi : Ω[i]? = some (sto p most T)) (hn : (¬ (0 ≤ id ∧ id ≤ T.length) ∧ n = 1) ∨ ((0 ≤ id ∧ id ≤ T.length) ∧ (eAt T id).2.2.2 = false ∧ n = 4)) {K : Int × Value → World → Prop} (h : ∀ w', Sp w0 Ω w' → K (0, errV n) w') : C_split_check (some p) id K w := by
  apply S_split_check
  unfold F_split_check
  rcases hn with ⟨h1, rfl⟩ | ⟨h1, h2, rfl⟩
  · exact avl_Balanced_u s i hi h1 fun w1 s => nilIfc_err (gd_t rfl (h _ s))
  · refine avl_Balanced_k s i hi h1 fun w1 s => nilIfc_nil (gd_f rfl ?_)
    rw [h2]
    exact gd_t rfl (h _ s)

/-- both parts of a text -/
structure Prts (T : List ET) (most d : Int) (t1 t2 : List Int) (T' : List ET) (r : Int × Int × Value) : Prop where
  ext : T <+: T'
  grow : Grow T'
  cap : (T'.length : Int) ≤ most
  len : (T'.length : Int) ≤ T.length + 14 * d
  out : (∃ e1 e2, r.2.2 = .nilIface ∧ Nd0 T' r.1 t1 e1 ∧ Nd0 T' r.2.1 t2 e2 ∧ e1 ≤ d ∧ e2 ≤ d) ∨ (r = (0, 0, errV 3) ∧ most < (T.length : Int) + 14 * d)
theorem split_Split_sp {x n : Int} {t : List Int} {d : Int} (s : Sp w0 Ω w) (i : Nat) (hi : Ω[i]? = some (sto p most T)) (nx : Nd0 T x t d) (hn0 : 0 ≤ n) (hn1 : n ≤ t.length) {K : Int × Int × Value → World → Prop}
    (h : ∀ T' r w', Prts T most d (t.take n.toNat) (t.drop n.toNat) T' r → Sp w0 (Ω.set i (sto p most T')) w' → K r w') : C_split_Split (some p) x n K w := by
  apply S_split_Split
  unfold F_split_Split
  obtain ⟨_, _, _, hb0, hb1, hb2, hg⟩ := Sp.entry s i hi
  have lx := nx.len hg
  refine split_check_e s i hi ⟨nx.pos, nx.le⟩ nx.even fun w1 s => nilIfc_nil (gd_f rfl (JoinP.inl (gd_f (decide_eq_false (by omega)) ?_)))
  intro _
  refine gd_f (decide_eq_false (by first | omega | (dsimp only; omega))) (split_front_sp _ rfl s i hi nx hn0 hn1 fun T1 x1 w2 r1 s => ?_)
  have hext := r1.ext
  rcases r1.out with ⟨e1, a1, a2, a3, a4, a5⟩ | ⟨a1, a2, a3⟩
  · rw [a1]
    refine nilIfc_nil (gd_f rfl (split_rest_sp _ rfl s i (setGet hi) (nx.ext hext) hn0 hn1 fun T2 x2 w3 r2 s => ?_))
    rw [List.set_set] at s
    rcases r2.out with ⟨e2, b1, b2, b3, b4, b5⟩ | ⟨b1, b2, b3⟩
    · rw [b1]
      exact nilIfc_nil (gd_f rfl (h T2 _ _ ⟨hext.trans r2.ext, r2.grow, r2.cap, by omega, Or.inl ⟨e1, e2, rfl, a2.ext r2.ext, b2, a4, b4⟩⟩ s))
    · rw [b1]
      exact nilIfc_err (gd_t rfl (h T2 _ _ ⟨hext.trans r2.ext, r2.grow, r2.cap, by omega, Or.inr ⟨rfl, by omega⟩⟩ s))
  · rw [a1]
    exact nilIfc_err (gd_t rfl (h T1 _ _ ⟨r1.ext, r1.grow, r1.cap, by omega, Or.inr ⟨rfl, by omega⟩⟩ s))

def SecQ (t : List Int) (d : Int) : List ET → Int → Prop := fun T' y => ∃ e, Nd0 T' y t e ∧ e ≤ d
theorem split_section_sp {x from_ n : Int} {t : List Int} {d : Int} (s : Sp w0 Ω w) (i : Nat) (hi : Ω[i]? = some (sto p most T)) (nx : Nd0 T x t d) (hf0 : 0 ≤ from_) (hn0 : 0 ≤ n) (hn1 : from_ + n ≤ t.length) {K : Int × Value → World → Prop}
    (h : ∀ T' r w', Res T most (14 * d).toNat (SecQ ((t.drop from_.toNat).take n.toNat) d) T' r → Sp w0 (Ω.set i (sto p most T')) w' → K r w') : C_split_section (some p) x from_ n K w := by
  apply S_split_section
  unfold F_split_section
  obtain ⟨_, _, _, hb0, hb1, hb2, hg⟩ := Sp.entry s i hi
  have lx := nx.len hg
  have same : ∀ (y : Int) (e : Int) w', Nd0 T y ((t.drop from_.toNat).take n.toNat) e → e ≤ d → Sp w0 Ω w' → K (y, .nilIface) w' := fun y e w' hy he s' => by
    refine h T _ _ ((Res.same (N := (14 * d).toNat) hg hb2 (Q := SecQ ((t.drop from_.toNat).take n.toNat) d) ⟨e, hy, he⟩)) ?_
    rw [setSame hi]; exact s'
  refine gd_eq (fun c => ?_) (fun c => ?_)
  · subst c
    exact same 0 0 _ (by simpa using Nd0.zero) lx.2 s
  refine ⟨fun x w => ∃ tx dx, Nd0 T x.1 tx dx ∧ 0 ≤ x.2.1 ∧ x.2.1 + n ≤ tx.length ∧ dx ≤ d ∧ (tx.drop x.2.1.toNat).take n.toNat = (t.drop from_.toNat).take n.toNat ∧ Sp w0 Ω w, fun x _ => x.1.toNat, ⟨t, d, nx, hf0, hn1, Int.le_refl _, rfl, s⟩, ?_⟩
  rintro ⟨y, f, _⟩ w1 ⟨ty, dy, ny, hf, hfn, hdy, hsec, s⟩ _
  dsimp only at ny hf hfn hsec ⊢
  have ly := ny.len hg
  have wly := (hg.at_ ny.pos ny.le).1.len
  refine split_size_k s i hi ⟨ny.pos, ny.le⟩ fun w2 s => nilIfc_nil (gd_f rfl (gd_eq (fun c2 => ?_) (fun c2 => ?_)))
  · dsimp only at c2
    have e0 : f = 0 := by omega
    subst e0
    refine same y dy _ ?_ hdy s
    rw [← hsec, List.take_of_length_le (by simp only [List.length_drop]; omega)]
    exact ny
  · dsimp only at c2
    have hy0 : y ≠ 0 := fun e => by subst e; have := ny.nil.1; subst this; simp at hfn; omega
    have nd := ny.nd hy0
    rcases nd.parts hg with ⟨_, b, hb, _⟩ | ⟨l, r, t1, t2, d1, d2, hr, hlx, hrx, n1, n2, ht, hd, k1, k2⟩
    · subst hb; simp at hfn ly; omega
    have q1 := n1.len hg
    have q2 := n2.len hg
    have p1 := n1.pos
    have p2 := n2.pos
    have hlt : (ty.length : Int) = t1.length + t2.length := by rw [ht, List.length_append]; omega
    refine intern_Rule_k s i hi ⟨nd.pos, nd.le⟩ fun w2 s => s.allocK fun a4 w3 s => s.st0 0 rfl rfl rfl fun w4 s => ?_
    rw [hr] at s ⊢
    refine nilIfc_nil (gd_f rfl (s.ldi (x := l) 0 2 rfl rfl (split_size_k s (i + 1) hi ⟨by omega, n1.le⟩ fun w5 s => nilIfc_nil (gd_f rfl (arith_i64 (by omega) (by omega) (gd_dec (fun c3 => ?_) (fun c3 => gd_dec (fun c4 => ?_) (fun c4 => ?_))))))))
    · dsimp only at c3
      refine s.ldi (x := l) 0 2 rfl rfl ⟨⟨t1, d1, n1.nd0, hf, by first | omega | (dsimp only; omega), by omega, ?_, s.pop⟩, by first | omega | (dsimp only; omega)⟩
      rw [← hsec, ht, List.drop_append_of_le_length (by first | omega | (dsimp only; omega)), List.take_append_of_le_length (by simp only [List.length_drop]; omega)]
    · dsimp only at c4
      refine s.ldi (x := r) 0 3 rfl rfl (arith_i64 (by first | omega | (dsimp only; omega)) (by first | omega | (dsimp only; omega)) ⟨⟨t2, d2, n2.nd0, by first | omega | (dsimp only; omega), by first | omega | (dsimp only; omega), by omega, ?_, s.pop⟩, by first | omega | (dsimp only; omega)⟩)
      dsimp only
      rw [← hsec, ht, List.drop_append, List.drop_of_length_le (l := t1) (i := f.toNat) (by omega), List.nil_append, show f.toNat - t1.length = (f - (eAt T l).2.1.1).toNat by omega]
    · dsimp only at c3 c4
      refine s.ldi (x := l) 0 2 rfl rfl (split_rest_sp _ rfl s (i + 1) hi n1.nd0 hf (by omega) fun T1 x1 w6 r1 s => ?_)
      have s : Sp w0 (cel a4 (cells yapi_Rule (2, 0, l, r, 0)) :: Ω.set i (sto p most T1)) w6 := s
      have hx1 := r1.ext
      rcases r1.out with ⟨e1, a1, a2, a3, a4', a5⟩ | ⟨a1, a2, a3⟩
      rotate_left
      · rw [a1]
        exact nilIfc_err (gd_t rfl (h T1 _ _ ⟨hx1, r1.grow, r1.cap, by omega, Or.inr ⟨rfl, by omega⟩⟩ s.pop))
      rw [a1]
      refine nilIfc_nil (gd_f rfl (s.ldi (x := r) 0 3 rfl rfl (arith_i64 (by omega) (by omega) (arith_i64 (by first | omega | (dsimp only; omega)) (by first | omega | (dsimp only; omega)) ?_))))
      dsimp only
      refine split_front_sp _ rfl s (i + 1) (setGet hi) (n2.nd0.ext hx1) (n := f + n - (eAt T l).2.1.1) (by omega) (by omega) fun T2 x2 w7 r2 s => ?_
      have s : Sp w0 (cel a4 (cells yapi_Rule (2, 0, l, r, 0)) :: (Ω.set i (sto p most T1)).set i (sto p most T2)) w7 := s
      rw [List.set_set] at s
      have hx2 := r2.ext
      rcases r2.out with ⟨e2, b1, b2, b3, b4, b5⟩ | ⟨b1, b2, b3⟩
      rotate_left
      · rw [b1]
        exact nilIfc_err (gd_t rfl (h T2 _ _ ⟨hx1.trans hx2, r2.grow, r2.cap, by omega, Or.inr ⟨rfl, by omega⟩⟩ s.pop))
      rw [b1]
      refine nilIfc_nil (gd_f rfl (avl_Join_sp s (i + 1) (setGet hi) (a2.ext hx2) b2 (by simp only [List.length_drop, List.length_take]; omega) fun T3 x3 w8 r3 s => ?_))
      have s : Sp w0 (cel a4 (cells yapi_Rule (2, 0, l, r, 0)) :: (Ω.set i (sto p most T2)).set i (sto p most T3)) w8 := s
      rw [List.set_set] at s
      have hN : (joinN x1.1 x2.1 e1 e2 : Int) ≤ 3 * (max e1 e2 - min e1 e2) + 1 := by unfold joinN; split <;> omega
      have hl3 := r3.len
      have htk : (t.drop from_.toNat).take n.toNat = t1.drop f.toNat ++ t2.take (f + n - (eAt T l).2.1.1).toNat := by
        rw [← hsec, ht, List.drop_append_of_le_length (by omega), List.take_append, List.take_of_length_le (by simp only [List.length_drop]; omega)]
        congr 2
        simp only [List.length_drop]; omega
      refine h T3 _ _ ⟨(hx1.trans hx2).trans r3.ext, r3.grow, r3.cap, by omega, ?_⟩ s.pop
      rcases r3.out with ⟨g1, d', g2, g3, g4, _⟩ | ⟨g1, g2⟩
      · exact Or.inl ⟨g1, d', by rw [htk]; exact g2, by omega⟩
      · exact Or.inr ⟨g1, by omega⟩

end Go.Proofs.Ytgbledjehnojeaa

/- Offsets of law14: any number, moved into a text's range. -/
set_option linter.unusedVariables false
set_option linter.unusedSimpArgs false
namespace Go.Proofs.Ytgbledjehnojeaa
open Go.Den

variable {w0 w : World}

theorem and_toNat_le (a : Int) (m : Nat) (hm : m < 18446744073709551616) : ((BitVec.ofInt 64 a &&& BitVec.ofInt 64 (m : Int)).toNat) ≤ m := by
  rw [BitVec.toNat_and]
  refine Nat.le_trans Nat.and_le_right ?_
  rw [BitVec.toNat_ofInt]
  omega
theorem law14_offset_spec {a n : Int} (hn : 0 ≤ n ∧ n ≤ 1152921504606846976) {K : Int → World → Prop} (h1 : (BitVec.ofInt 64 a &&& BitVec.ofInt 64 7).toNat = 0 → K a w) (h2 : ∀ r : Int, 0 ≤ r → r ≤ n → K r w) : C_law14_offset a n K w := by
  apply S_law14_offset
  unfold F_law14_offset
  have b1 : (BitVec.ofInt 64 a &&& BitVec.ofInt 64 (7 : Int)).toNat ≤ 7 := and_toNat_le a 7 (by decide)
  refine arith_i64 (n := ((BitVec.ofInt 64 a &&& BitVec.ofInt 64 (7 : Int)).toNat : Int)) (by omega) (by omega) (gd_eq (fun c => h1 (by omega)) (fun c => ⟨by decide, letZ_mk ?_⟩))
  generalize Int.fdiv a (2 ^ min (Int.toNat (3 : Int)) (IntKind.bits .i64)) = q
  have b2 : (BitVec.ofInt 64 q &&& BitVec.ofInt 64 (2305843009213693951 : Int)).toNat ≤ 2305843009213693951 := and_toNat_le q 2305843009213693951 (by decide)
  refine arith_i64 (n := ((BitVec.ofInt 64 q &&& BitVec.ofInt 64 (2305843009213693951 : Int)).toNat : Int)) (by omega) (by omega) (arith_i64 (by omega) (by omega) ⟨by omega, letZ_mk ?_⟩)
  rw [Int.tmod_eq_emod_of_nonneg (by omega)]
  have h3 := Int.emod_nonneg (((BitVec.ofInt 64 q &&& BitVec.ofInt 64 (2305843009213693951 : Int)).toNat : Nat) : Int) (show n + 1 ≠ 0 by omega)
  have h4 := Int.emod_lt_of_pos (((BitVec.ofInt 64 q &&& BitVec.ofInt 64 (2305843009213693951 : Int)).toNat : Nat) : Int) (show 0 < n + 1 by omega)
  exact h2 _ h3 (by omega)

/-- a number with its lowest bit set -/
def Odd8 (v : Int) : Prop := (BitVec.ofInt 64 v &&& BitVec.ofInt 64 7).toNat ≠ 0
theorem arith_odd {a : Int} {K : Int → Prop} (h : ∀ v : Int, Odd8 v → K v) : arith .i64 ((BitVec.ofInt (IntKind.bits .i64) a ||| BitVec.ofInt (IntKind.bits .i64) (1 : Int)).toNat) K := by
  intro m hm
  refine h m ?_
  have e : BitVec.ofInt 64 m = BitVec.ofInt 64 a ||| BitVec.ofInt 64 (1 : Int) := by
    apply BitVec.eq_of_toNat_eq
    have hlt := (BitVec.ofInt 64 a ||| BitVec.ofInt 64 (1 : Int)).isLt
    have hm' : m = IntKind.i64.wrap ((BitVec.ofInt 64 a ||| BitVec.ofInt 64 (1 : Int)).toNat : Int) := hm
    rw [IntKind.wrap_i64] at hm'
    rw [BitVec.toNat_ofInt]
    omega
  intro h0
  rw [e] at h0
  have hz : (BitVec.ofInt 64 a ||| BitVec.ofInt 64 (1 : Int)) &&& BitVec.ofInt 64 7 = 0#64 := BitVec.eq_of_toNat_eq (by rw [h0]; rfl)
  have := congrArg (fun b => b.getLsbD 0) hz
  simp at this
theorem law14_offset_odd {a n : Int} (hn : 0 ≤ n ∧ n ≤ 1152921504606846976) (ha : Odd8 a) {K : Int → World → Prop} (h2 : ∀ r : Int, 0 ≤ r → r ≤ n → K r w) : C_law14_offset a n K w :=
  law14_offset_spec hn (fun h => absurd h ha) h2

end Go.Proofs.Ytgbledjehnojeaa
