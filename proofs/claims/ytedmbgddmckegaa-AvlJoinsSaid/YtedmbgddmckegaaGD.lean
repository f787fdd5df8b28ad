/- Texts that belong together, joined: RefA, RefB, RefC, LawAA, LawBA, LawCA, Txt, Nd, Avl, AvlB, AvlC, Deep. No conditions. -/
import Derived.Test.YtedmbgddmckegaaGC
import Derived.Test.YtedmbgddmckegaaGB
/- The specification of the layer (evergreenref10): its store is the same list. -/
set_option linter.unusedVariables false
set_option linter.unusedSimpArgs false
namespace Go.Proofs.Ytedmbgddmckegaa
open Go.Den

variable {w0 w : World} {Ω : List Ob} {most : Int} {T : List ET} {j : Nat} 

def rulesOf (T : List ET) : List yapi_Rule.T := T.map fun e => e.1
def lensOf (T : List ET) : List (Ty.int .i64).T := T.map fun e => e.2.1.1
def depsOf (T : List ET) : List (Ty.int .i64).T := T.map fun e => e.2.2.1
theorem rulesOf_len (T : List ET) : (rulesOf T).length = T.length := List.length_map _

theorem blk_none {b : Nat} (h : blk ⟨none, 0, 0⟩ b) : False := by
  obtain ⟨q, h, _⟩ := h
  cases h

theorem clip_form (n : Int) : (if (0 : Int) < (if 1048576 < n then 1048576 else n) then (if 1048576 < n then 1048576 else n) else 0) = if n < 0 then 0 else if 1048576 < n then 1048576 else n := by grind
theorem known_get {id : Int} (hk : known T id = true) (hne : id ≠ 0) : 1 ≤ id ∧ id ≤ T.length ∧ T[(id - 1).toNat]? = some (eAt T id) := by
  have := of_decide_eq_true hk
  exact ⟨by omega, this.2, eAt_get (by omega) this.2⟩
theorem lkR_first : ∀ (T : List ET) (r : RT) (n : Nat) (k : Nat), (∀ i, i < n → ∀ e, T[i]? = some e → e.1 ≠ r) → (∀ e, T[n]? = some e → e.1 = r) → n < T.length →
    ((T.zipIdx k).map fun p => (p.1.1, (p.2 : Int) + 1)).find? (fun p => beqT yapi_Rule r p.1) = some (r, ((k + n : Nat) : Int) + 1)
  | [], _, _, _, _, _, h => by simp at h
  | e :: T, r, 0, k, _, h2, _ => by
    have := h2 e rfl
    rw [List.zipIdx_cons, List.map_cons, List.find?_cons]
    simp only [this, (beqT_iff yapi_Rule rfl r r).2 rfl, Nat.add_zero]
  | e :: T, r, n + 1, k, h1, h2, h3 => by
    have h0 := h1 0 (by omega) e rfl
    have hb : beqT yapi_Rule r e.1 = false := by
      cases hb : beqT yapi_Rule r e.1
      · rfl
      · exact absurd ((beqT_iff yapi_Rule rfl _ _).1 hb).symm h0
    rw [List.zipIdx_cons, List.map_cons, List.find?_cons]
    simp only [hb]
    have := lkR_first T r n (k + 1) (fun i hi e' he => h1 (i + 1) (by omega) e' (by simpa using he)) (fun e' he => h2 e' (by simpa using he)) (by simpa using h3)
    rw [this]
    congr 2
    omega
theorem lkR_at {r : RT} {n : Nat} {e : ET} (h1 : ∀ i, i < n → ∀ e, T[i]? = some e → e.1 ≠ r) (he : T[n]? = some e) (h2 : e.1 = r) : lkR T r = some ((n : Int) + 1) := by
  unfold lkR lk idx
  rw [lkR_first T r n 0 h1 (fun e' he' => by rw [he] at he'; cases he'; exact h2) (List.getElem?_eq_some_iff.1 he).1]
  simp
end Go.Proofs.Ytedmbgddmckegaa

/- The specification of the layer (evergreenref10): its calls answer as the store's list. -/
set_option linter.unusedVariables false
set_option linter.unusedSimpArgs false
namespace Go.Proofs.Ytedmbgddmckegaa
open Go.Den

variable {w0 w : World} {Ω : List Ob} {most : Int} {T : List ET} {j : Nat} 

theorem View.at_nil {ty : Ty} {s : Sl} {xs : List ty.T} {w : World} (v : View ty w s xs) : s.len = xs.length := v.len
theorem rulesOf_append (T : List ET) (e : ET) : rulesOf (T ++ [e]) = rulesOf T ++ [e.1] := by simp [rulesOf]
theorem lensOf_append (T : List ET) (e : ET) : lensOf (T ++ [e]) = lensOf T ++ [e.2.1.1] := by simp [lensOf]
theorem depsOf_append (T : List ET) (e : ET) : depsOf (T ++ [e]) = depsOf T ++ [e.2.2.1] := by simp [depsOf]
theorem lensOf_len (T : List ET) : (lensOf T).length = T.length := List.length_map _
theorem depsOf_len (T : List ET) : (depsOf T).length = T.length := List.length_map _

end Go.Proofs.Ytedmbgddmckegaa

/- The specification of the layer (evergreenref10): Letter, Pair, Power. -/
set_option linter.unusedVariables false
set_option linter.unusedSimpArgs false
namespace Go.Proofs.Ytedmbgddmckegaa
open Go.Den

variable {w0 w : World} {Ω : List Ob} {most : Int} {T : List ET} {j : Nat} 

theorem known_false_or {l r : Int} (hu : ¬(known T l = false ∨ known T r = false)) : known T l = true ∧ known T r = true := by
  cases h1 : known T l <;> cases h2 : known T r <;> simp_all
end Go.Proofs.Ytedmbgddmckegaa

/- The fixed example of the layer, and the calls of no store. -/
set_option linter.unusedVariables false
set_option linter.unusedSimpArgs false
namespace Go.Proofs.Ytedmbgddmckegaa
open Go.Den

variable {w0 : World}

theorem ext_fresh {B B' : Nat → Prop} {w1 w' : World} (e : Ext w0 w1) (k : Step B B' w1 w') (hB : ∀ b, B b → w0.heap.size ≤ b) : Ext w0 w' :=
  ⟨Nat.le_trans e.size k.fr.size, fun b hb _ => by
    rw [k.fr.same b (Nat.lt_of_lt_of_le hb e.size) (fun h => by have := hB b h; omega), e.same b hb (fun h => h)], k.fr.pub.1.trans e.pub.1, k.fr.pub.2.1.trans e.pub.2.1, k.fr.pub.2.2.trans e.pub.2.2⟩

def aw1 : List ET := [mkLetter 97]
def aw2 : List ET := aw1 ++ [mkLetter 98]
def aw3 : List ET := aw2 ++ [mkPair aw2 1 2]
def aw4 : List ET := aw3 ++ [mkPower aw3 3 5]
theorem aw_1 : pLetter [] 4 97 = (aw1, (1, .nilIface)) := by kernel_rfl
theorem aw_2 : pLetter aw1 4 98 = (aw2, (2, .nilIface)) := by kernel_rfl
theorem aw_3 : pPair aw2 4 1 2 = (aw3, (3, .nilIface)) := by kernel_rfl
theorem aw_4 : pPower aw3 4 3 5 = (aw4, (4, .nilIface)) := by kernel_rfl
theorem aw_5 : pPower aw4 4 3 6 = (aw4, (0, errV 3)) := by kernel_rfl

theorem partV_int (cs : Array Value) (off : Nat) : partV P t_int cs off = cs[off]? := by
  have h1 : (P.underlying t_int).isSome = true := by kernel_rfl
  have h2 : isAggP P t_int = false := by kernel_rfl
  unfold partV
  rw [h2]
  cases hu : P.underlying t_int with
  | none => rw [hu] at h1; cases h1
  | some d => rfl
theorem nil_part {x : Int} (h0 : 0 ≤ x) (h8 : x < 8) : partV P t_int #[.int .i64 5, .int .i64 5, .int .i64 5, .int .i64 5, .int .i64 5, .int .i64 5, .int .i64 5, .int .i64 5] (x.toNat * 1) = some (val (.int .i64) (5 : Int)) := by
  rw [partV_int, Nat.mul_one]
  have hn : x.toNat < 8 := by omega
  generalize x.toNat = n at hn
  rcases n with _ | _ | _ | _ | _ | _ | _ | _ | n
  all_goals first | rfl | omega

end Go.Proofs.Ytedmbgddmckegaa

/- The calls of the layer's statements as one function of lists, and that a second call changes nothing. -/
set_option linter.unusedVariables false
set_option linter.unusedSimpArgs false
namespace Go.Proofs.Ytedmbgddmckegaa
open Go.Den

variable {w0 : World}

abbrev OT := Int × Int × Int × Int × Int
def pOp (L : List ET) (most : Int) (o : OT) : List ET × (Int × Value) :=
  if o.1 % 3 = 0 then pLetter L most o.2.1 else if o.1 % 3 = 1 then pPair L most o.2.2.1 o.2.2.2.1 else pPower L most o.2.2.1 o.2.2.2.2
structure OpOK (o : OT) : Prop where
  kind : 0 ≤ o.1
  b : 0 ≤ o.2.1 ∧ o.2.1 < 256
  k : o.2.2.2.2 ≤ 9223372036854775807

theorem pAdd_twice {L : List ET} {most : Int} {e : ET} : (pAdd L most e).1 = L ∨ ((pAdd L most e) = (L ++ [e], ((L.length : Int) + 1, .nilIface)) ∧ ∀ e' : ET, e'.1 = e.1 → pAdd (L ++ [e]) most e' = (L ++ [e], ((L.length : Int) + 1, .nilIface))) := by
  cases hl : lkR L e.1 with
  | some i => left; rw [(pAdd_some (most := most) hl).2.1]
  | none =>
    by_cases hm : most ≤ L.length
    · left; rw [(pAdd_full (most := most) hl hm).2]
    · right
      refine ⟨(pAdd_new (most := most) hl hm).2, fun e' he => ?_⟩
      unfold pAdd
      rw [he, lkR_append_none hl, if_pos rfl]
theorem twice_of {L : List ET} {f : List ET → List ET × (Int × Value)} (h : (f L).1 = L ∨ f (f L).1 = f L) : f (f L).1 = f L := by
  rcases h with h | h
  · rw [h]
  · exact h
theorem pOp_twice {L : List ET} {most : Int} {o : OT} : pOp (pOp L most o).1 most o = pOp L most o := by
  refine twice_of (f := fun L => pOp L most o) ?_
  simp only [pOp]
  by_cases h0 : o.1 % 3 = 0
  · simp only [if_pos h0]
    rcases pAdd_twice (L := L) (most := most) (e := mkLetter o.2.1) with h | ⟨h, h'⟩
    · exact Or.inl h
    · right
      unfold pLetter
      rw [h]
      exact h' _ rfl
  · simp only [if_neg h0]
    by_cases h1 : o.1 % 3 = 1
    · simp only [if_pos h1]
      generalize o.2.2.1 = l
      generalize o.2.2.2.1 = r
      unfold pPair
      by_cases c1 : known L l = false ∨ known L r = false
      · left; rw [if_pos c1]
      · rw [if_neg c1]
        by_cases c2 : l = 0
        · left; rw [if_pos c2]
        · rw [if_neg c2]
          by_cases c3 : r = 0
          · left; rw [if_pos c3]
          · rw [if_neg c3]
            by_cases c4 : 1152921504606846976 < (eAt L l).2.1.1 + (eAt L r).2.1.1
            · left; rw [if_pos c4]
            · rw [if_neg c4]
              rcases pAdd_twice (L := L) (most := most) (e := mkPair L l r) with h | ⟨h, h'⟩
              · exact Or.inl h
              · right
                have kl : known L l = true := by
                  cases e : known L l
                  · exact absurd (Or.inl e) c1
                  · rfl
                have kr : known L r = true := by
                  cases e : known L r
                  · exact absurd (Or.inr e) c1
                  · rfl
                have bl := of_decide_eq_true kl
                have br := of_decide_eq_true kr
                rw [h]
                simp only
                rw [known_append kl, known_append kr, if_neg (by simp), if_neg c2, if_neg c3, eAt_append bl.1 bl.2, eAt_append br.1 br.2, if_neg c4]
                exact h' _ rfl
    · simp only [if_neg h1]
      generalize o.2.2.1 = x
      generalize o.2.2.2.2 = k
      unfold pPower
      by_cases c1 : known L x = false ∨ k < 0
      · left; rw [if_pos c1]
      · rw [if_neg c1]
        by_cases c2 : k = 0 ∨ x = 0
        · left; rw [if_pos c2]
        · rw [if_neg c2]
          by_cases c3 : k = 1
          · left; rw [if_pos c3]
          · rw [if_neg c3]
            by_cases c4 : 1152921504606846976 < (eAt L x).2.1.1 * k
            · left; rw [if_pos c4]
            · rw [if_neg c4]
              rcases pAdd_twice (L := L) (most := most) (e := mkPower L x k) with h | ⟨h, h'⟩
              · exact Or.inl h
              · right
                have kx : known L x = true := by
                  cases e : known L x
                  · exact absurd (Or.inl e) c1
                  · rfl
                have bx := of_decide_eq_true kx
                rw [h]
                simp only
                rw [known_append kx, if_neg (fun c => c1 (Or.inr (c.resolve_left (by simp)))), if_neg c2, if_neg c3, eAt_append bx.1 bx.2, if_neg c4]
                exact h' _ rfl

theorem pOp_err {L : List ET} {most : Int} {o : OT} : IsErr (pOp L most o).2.2 := by
  unfold pOp
  split
  · exact pLetter_err
  split
  · exact pPair_err
  · exact pPower_err

variable {B : Nat → Prop} {p : Addr} {most : Int} {L : List ET}
end Go.Proofs.Ytedmbgddmckegaa

/- The layer's calls of the store and of the specification side by side: do, Built. -/
set_option linter.unusedVariables false
set_option linter.unusedSimpArgs false
namespace Go.Proofs.Ytedmbgddmckegaa
open Go.Den

variable {w0 w : World} {Ω : List Ob} {most most' : Int} {T R : List ET} {i j : Nat}  {p : Addr}

theorem pAdd_grow {e : ET} (g : Grow T) (hg : lkR T e.1 = none → (T.length : Int) < most → Grow (T ++ [e])) (hl : (T.length : Int) ≤ most) : Grow (pAdd T most e).1 ∧ ((pAdd T most e).1.length : Int) ≤ most := by
  cases hf : lkR T e.1 with
  | some i => rw [(pAdd_some (most := most) hf).2.1]; exact ⟨g, hl⟩
  | none =>
    by_cases hm : most ≤ T.length
    · rw [(pAdd_full (most := most) hf hm).2]; exact ⟨g, hl⟩
    · rw [(pAdd_new (most := most) hf hm).2]
      refine ⟨hg hf (by omega), ?_⟩
      simp only [List.length_append, List.length_cons, List.length_nil]; omega
theorem pLetter_grow {b : Int} (g : Grow T) (hl : (T.length : Int) ≤ most) (hb : 0 ≤ b ∧ b < 256) : Grow (pLetter T most b).1 ∧ ((pLetter T most b).1.length : Int) ≤ most :=
  pAdd_grow g (fun h _ => .letter g hb.1 hb.2 h) hl
theorem pPair_grow {l r : Int} (g : Grow T) (hl : (T.length : Int) ≤ most) : Grow (pPair T most l r).1 ∧ ((pPair T most l r).1.length : Int) ≤ most := by
  unfold pPair
  split
  · exact ⟨g, hl⟩
  rename_i hu
  obtain ⟨kl, kr⟩ := known_false_or hu
  have bl := of_decide_eq_true kl
  have br := of_decide_eq_true kr
  split
  · exact ⟨g, hl⟩
  split
  · exact ⟨g, hl⟩
  split
  · exact ⟨g, hl⟩
  · exact pAdd_grow g (fun h _ => .pair g (by omega) bl.2 (by omega) br.2 (by omega) h) hl
theorem pPower_grow {x k : Int} (g : Grow T) (hl : (T.length : Int) ≤ most) : Grow (pPower T most x k).1 ∧ ((pPower T most x k).1.length : Int) ≤ most := by
  unfold pPower
  split
  · exact ⟨g, hl⟩
  rename_i hu
  have kx : known T x = true := by
    cases e : known T x
    · exact absurd (Or.inl e) hu
    · rfl
  have hk : ¬ k < 0 := fun h => hu (Or.inr h)
  have bx := of_decide_eq_true kx
  split
  · exact ⟨g, hl⟩
  split
  · exact ⟨g, hl⟩
  split
  · exact ⟨g, hl⟩
  · exact pAdd_grow g (fun h _ => .power g (by omega) bx.2 (by omega) (by omega) h) hl
theorem pOp_grow {o : OT} (g : Grow T) (hl : (T.length : Int) ≤ most) (ho : OpOK o) : Grow (pOp T most o).1 ∧ ((pOp T most o).1.length : Int) ≤ most := by
  unfold pOp
  split
  · exact pLetter_grow g hl ho.b
  split
  · exact pPair_grow g hl
  · exact pPower_grow g hl

def clip20 (n : Int) : Int := if n < 0 then 0 else if 1048576 < n then 1048576 else n
theorem clip20_bound (n : Int) : 0 ≤ clip20 n ∧ clip20 n ≤ 1048576 := by unfold clip20; grind
end Go.Proofs.Ytedmbgddmckegaa

/- The text of a rule of a list, letter by letter, and that the rule's weight is that of its text. -/
set_option linter.unusedVariables false
set_option linter.unusedSimpArgs false
namespace Go.Proofs.Ytedmbgddmckegaa
open Go.Den

/-! ### Texts -/
def gt (acc : List (List Int)) (id : Int) : List Int := if id = 0 then [] else acc.getD (id - 1).toNat []
def tx1 (acc : List (List Int)) (r : RT) : List Int :=
  if r.1 = 1 then [r.2.1] else if r.1 = 2 then gt acc r.2.2.1 ++ gt acc r.2.2.2.1 else (List.replicate r.2.2.2.2.toNat (gt acc r.2.2.1)).flatten
def txts (T : List ET) : List (List Int) := T.foldl (fun acc e => acc ++ [tx1 acc e.1]) []
def txt (T : List ET) (id : Int) : List Int := gt (txts T) id

theorem txts_append (T : List ET) (e : ET) : txts (T ++ [e]) = txts T ++ [tx1 (txts T) e.1] := by
  unfold txts
  rw [List.foldl_append]; rfl
theorem txts_len (T : List ET) : (txts T).length = T.length := by
  have key : ∀ (T : List ET) (acc : List (List Int)), (T.foldl (fun acc e => acc ++ [tx1 acc e.1]) acc).length = acc.length + T.length := by
    intro T
    induction T with
    | nil => intro acc; rfl
    | cons e T ih =>
      intro acc
      rw [List.foldl_cons, ih]
      simp only [List.length_append, List.length_cons, List.length_nil]; omega
  have := key T []
  simpa [txts] using this
theorem gt_append {acc : List (List Int)} {t : List Int} {id : Int} (h0 : 0 ≤ id) (h : id ≤ acc.length) : gt (acc ++ [t]) id = gt acc id := by
  unfold gt
  by_cases e : id = 0
  · rw [if_pos e, if_pos e]
  · rw [if_neg e, if_neg e, List.getD_eq_getElem?_getD, List.getD_eq_getElem?_getD, List.getElem?_append_left (by omega)]
theorem gt_last {acc : List (List Int)} {t : List Int} : gt (acc ++ [t]) ((acc.length : Int) + 1) = t := by
  unfold gt
  rw [if_neg (by omega), List.getD_eq_getElem?_getD, show ((acc.length : Int) + 1 - 1).toNat = acc.length by omega]
  simp
theorem txt_append {T : List ET} {e : ET} {id : Int} (h0 : 0 ≤ id) (h : id ≤ T.length) : txt (T ++ [e]) id = txt T id := by
  unfold txt
  rw [txts_append, gt_append h0 (by rw [txts_len]; exact h)]
theorem txt_zero (T : List ET) : txt T 0 = [] := rfl

inductive TxtOf (T : List ET) (id : Int) : Prop
  | letter (b : Int) : 0 ≤ b → b < 256 → eAt T id = mkLetter b → txt T id = [b] → TxtOf T id
  | pair (l r : Int) : 1 ≤ l → l < id → 1 ≤ r → r < id → (eAt T l).2.1.1 + (eAt T r).2.1.1 ≤ 1152921504606846976 → eAt T id = mkPair T l r → txt T id = txt T l ++ txt T r → TxtOf T id
  | power (x k : Int) : 1 ≤ x → x < id → 2 ≤ k → (eAt T x).2.1.1 * k ≤ 1152921504606846976 → eAt T id = mkPower T x k → txt T id = (List.replicate k.toNat (txt T x)).flatten → TxtOf T id
theorem TxtOf.append {T : List ET} {e : ET} {id : Int} (h : TxtOf T id) (h1 : 1 ≤ id) (h2 : id ≤ T.length) : TxtOf (T ++ [e]) id := by
  have e1 := eAt_append (e := e) (by omega) h2
  have t1 := txt_append (e := e) (by omega) h2
  cases h with
  | letter b h3 h4 h5 h6 => exact .letter b h3 h4 (e1.trans h5) (t1.trans h6)
  | pair l r h3 h4 h5 h6 h7 h8 h9 =>
    refine .pair l r h3 h4 h5 h6 ?_ ?_ ?_
    · rw [eAt_append (by omega) (by omega), eAt_append (by omega) (by omega)]; exact h7
    · rw [e1, h8, mkPair_append (by omega) (by omega)]
    · rw [t1, h9, txt_append (by omega) (by omega), txt_append (by omega) (by omega)]
  | power x k h3 h4 h5 h6 h7 h8 =>
    refine .power x k h3 h4 h5 ?_ ?_ ?_
    · rw [eAt_append (by omega) (by omega)]; exact h6
    · rw [e1, h7, mkPower_append (by omega)]
    · rw [t1, h8, txt_append (by omega) (by omega)]
theorem Grow.txt {T : List ET} (g : Grow T) : ∀ {id : Int}, 1 ≤ id → id ≤ T.length → TxtOf T id := by
  refine Grow.rec_ (M := fun T => ∀ {id : Int}, 1 ≤ id → id ≤ T.length → TxtOf T id) (fun h1 h2 => by simp at h2; omega) (fun T e _ g ih => ?_) g
  intro id h1 h2
  simp only [List.length_append, List.length_cons, List.length_nil] at h2
  by_cases h : id ≤ T.length
  · exact (ih h1 h).append h1 h
  · have : id = (T.length : Int) + 1 := by omega
    subst this
    have ht : Ytedmbgddmckegaa.txt (T ++ [e]) ((T.length : Int) + 1) = tx1 (txts T) e.1 := by
      unfold Ytedmbgddmckegaa.txt
      have := gt_last (acc := txts T) (t := tx1 (txts T) e.1)
      rw [txts_len] at this
      rw [txts_append]; exact this
    cases g.last.2.2 with
    | letter b h3 h4 h5 =>
      refine .letter b h3 h4 h5 (ht.trans ?_)
      rw [eAt_last] at h5
      rw [h5]; rfl
    | pair l r h3 h4 h5 h6 h7 h8 =>
      refine .pair l r h3 h4 h5 h6 h7 h8 (ht.trans ?_)
      rw [eAt_last] at h8
      rw [h8, txt_append (by omega) (by omega), txt_append (by omega) (by omega)]; rfl
    | power x k h3 h4 h5 h6 h7 =>
      refine .power x k h3 h4 h5 h6 h7 (ht.trans ?_)
      rw [eAt_last] at h7
      rw [h7, txt_append (by omega) (by omega)]; rfl

/-! ### Weights of texts -/
def wOf : List Int → WT
  | [] => wUnit
  | c :: b => wJoin (wLetter c) (wOf b)
theorem dOf_ok : ∀ b : List Int, dOK (wOf b).2.2.2.2
  | [] => dOK_unit
  | c :: b => dOK_join _ _
theorem lines_nn : ∀ b : List Int, 0 ≤ (wOf b).2.1
  | [] => by decide
  | c :: b => by
    have := lines_nn b
    have h : 0 ≤ (wLetter c).2.1 := by unfold wLetter; split <;> simp
    simp only [wOf, wJoin]; omega
theorem wOf_len : ∀ b : List Int, (wOf b).1 = b.length
  | [] => rfl
  | c :: b => by simp only [wOf, wJoin, wLetter_len, wOf_len b, List.length_cons]; omega
theorem wOf_zero : ∀ b : List Int, (wOf b).2.1 = 0 → (wOf b).2.2.1 = (wOf b).1 ∧ (wOf b).2.2.2.1 = (wOf b).1
  | [] => fun _ => ⟨rfl, rfl⟩
  | c :: b => by
    have := lines_nn b
    have ih := wOf_zero b
    by_cases hc : c = 10
    · simp only [wOf, wJoin, wLetter, if_pos hc]; omega
    · simp only [wOf, wJoin, wLetter, if_neg hc]
      intro h
      have hb : (wOf b).2.1 = 0 := by omega
      have := ih hb
      simp only [if_true, if_pos hb]
      omega
theorem wJoin_assoc {a b c : WT} (ha : 0 ≤ a.2.1) (hb : 0 ≤ b.2.1) (hc : 0 ≤ c.2.1) : wJoin (wJoin a b) c = wJoin a (wJoin b c) := by
  simp only [wJoin]
  refine Prod.ext (by dsimp only; omega) (Prod.ext (by dsimp only; omega) (Prod.ext ?_ (Prod.ext ?_ (dJoin_assoc _ _ _))))
  · dsimp only; repeat' split
    all_goals omega
  · dsimp only; repeat' split
    all_goals omega
theorem wJoin_unit_l {a : WT} (hd : dOK a.2.2.2.2) (hz : a.2.1 = 0 → a.2.2.2.1 = a.1) : wJoin wUnit a = a := by
  simp only [wJoin, wUnit]
  refine Prod.ext (by dsimp only; omega) (Prod.ext (by dsimp only; omega) (Prod.ext ?_ (Prod.ext ?_ (dJoin_unit_l hd))))
  · dsimp only; simp only [if_true]; omega
  · dsimp only
    split
    · rename_i h; rw [hz h]; omega
    · rfl
theorem wJoin_unit_r {a : WT} (hd : dOK a.2.2.2.2) (hz : a.2.1 = 0 → a.2.2.1 = a.1) : wJoin a wUnit = a := by
  simp only [wJoin, wUnit]
  refine Prod.ext (by dsimp only; omega) (Prod.ext (by dsimp only; omega) (Prod.ext ?_ (Prod.ext ?_ (dJoin_unit_r hd))))
  · dsimp only
    split
    · rename_i h; rw [hz h]; omega
    · rfl
  · dsimp only; simp only [if_true]; omega
theorem wLetter_lines (c : Int) : 0 ≤ (wLetter c).2.1 := by unfold wLetter; split <;> simp
theorem wOf_append : ∀ a b : List Int, wOf (a ++ b) = wJoin (wOf a) (wOf b)
  | [], b => by
    rw [List.nil_append]
    exact (wJoin_unit_l (dOf_ok b) fun h => (wOf_zero b h).2).symm
  | c :: a, b => by
    rw [List.cons_append, wOf, wOf, wOf_append a b, wJoin_assoc (wLetter_lines c) (lines_nn a) (lines_nn b)]
theorem wOf_one {c : Int} (hc : 0 ≤ c ∧ c < 256) : wOf [c] = wLetter c := by
  have := wOK_letter hc
  rw [wOf, wOf]
  exact wJoin_unit_r this.dOK fun h => (this.zero h).1
theorem wRep_step {a : WT} (hl : 1 ≤ a.1) (hn : 0 ≤ a.2.1) (hz : a.2.1 = 0 → a.2.2.1 = a.1 ∧ a.2.2.2.1 = a.1) (hd : dOK a.2.2.2.2) (k : Nat) : wRep a ((k : Int) + 1) = wJoin (wRep a k) a := by
  have e1 : a.1 * ((k : Int) + 1) = a.1 * k + a.1 := by rw [Int.mul_add, Int.mul_one]
  have e2 : a.2.1 * ((k : Int) + 1) = a.2.1 * k + a.2.1 := by rw [Int.mul_add, Int.mul_one]
  have p1 : 0 ≤ a.1 * (k : Int) := Int.mul_nonneg (by omega) (by omega)
  have p2 : 0 ≤ a.2.1 * (k : Int) := Int.mul_nonneg hn (by omega)
  have et : ((k : Int) + 1).toNat = k + 1 := by omega
  cases k with
  | zero =>
    have r0 : wRep a ((0 : Nat) : Int) = wUnit := by unfold wRep; rw [if_pos (by simp)]
    have r1 : wRep a (((0 : Nat) : Int) + 1) = a := by
      unfold wRep
      have d1 : dNat a.2.2.2.2 (((0 : Nat) : Int) + 1).toNat = a.2.2.2.2 := dNat_one hd
      have m1 : a.1 * (((0 : Nat) : Int) + 1) = a.1 := by simp
      have m2 : a.2.1 * (((0 : Nat) : Int) + 1) = a.2.1 := by simp
      rw [m1, m2, d1, if_neg (by omega)]
      refine Prod.ext rfl (Prod.ext rfl (Prod.ext ?_ (Prod.ext ?_ rfl)))
      · dsimp only; split
        · rename_i h; exact (hz h).1.symm
        · rfl
      · dsimp only; split
        · rename_i h; exact (hz h).2.symm
        · rfl
    rw [r0, r1, wJoin_unit_l hd (fun h => (hz h).2)]
  | succ n =>
    have hne : a.1 * ((n + 1 : Nat) : Int) ≠ 0 := by
      have : 1 * 1 ≤ a.1 * ((n + 1 : Nat) : Int) := Int.mul_le_mul hl (by omega) (by decide) (by omega)
      omega
    unfold wRep
    rw [if_neg (by rw [e1]; omega), if_neg hne, et, e1, e2]
    have zz : a.2.1 * ((n + 1 : Nat) : Int) = 0 ↔ a.2.1 = 0 := by
      constructor
      · intro h
        rcases Int.mul_eq_zero.1 h with h | h
        · exact h
        · omega
      · intro h; rw [h]; simp
    simp only [wJoin]
    refine Prod.ext rfl (Prod.ext rfl (Prod.ext ?_ (Prod.ext ?_ ?_)))
    · dsimp only
      by_cases h : a.2.1 = 0
      · rw [if_pos h, if_pos (zz.2 h), (hz h).1]
      · rw [if_neg h, if_neg fun h' => h (zz.1 h'), if_neg h]
    · dsimp only
      by_cases h : a.2.1 = 0
      · rw [if_pos h, if_pos h, if_pos h]; omega
      · rw [if_neg h, if_neg h]
    · have : ((n + 1 : Nat) : Int).toNat = n + 1 := by omega
      rw [this]; rfl
theorem wOf_rep {t : List Int} (ht : 1 ≤ t.length) : ∀ k : Nat, wOf (List.replicate k t).flatten = wRep (wOf t) k
  | 0 => by simp [wRep, wOf]
  | k + 1 => by
    have h1 : 1 ≤ (wOf t).1 := by rw [wOf_len]; omega
    rw [show ((k + 1 : Nat) : Int) = (k : Int) + 1 from rfl, wRep_step h1 (lines_nn t) (wOf_zero t) (dOf_ok t), ← wOf_rep ht k, ← wOf_append]
    congr 1
    have e : List.replicate (k + 1) t = List.replicate k t ++ [t] := by rw [List.replicate_succ']
    rw [e]; simp
theorem Grow.weight {T : List ET} (g : Grow T) : ∀ {id : Int}, 0 ≤ id → id ≤ T.length → (eAt T id).2.1 = wOf (Ytedmbgddmckegaa.txt T id) ∧ ∀ c ∈ Ytedmbgddmckegaa.txt T id, 0 ≤ c ∧ c < 256 := by
  have key : ∀ (n : Nat) (id : Int), id.toNat = n → 0 ≤ id → id ≤ T.length → (eAt T id).2.1 = wOf (Ytedmbgddmckegaa.txt T id) ∧ ∀ c ∈ Ytedmbgddmckegaa.txt T id, 0 ≤ c ∧ c < 256 := by
    intro n
    induction n using Nat.strongRecOn with
    | ind n ih =>
      intro id hn h0 h1
      by_cases hz : id = 0
      · subst hz
        exact ⟨rfl, fun c hc => by rw [txt_zero] at hc; cases hc⟩
      cases g.txt (id := id) (by omega) h1 with
      | letter b h3 h4 h5 h6 =>
        rw [h5, h6, wOf_one ⟨h3, h4⟩]
        exact ⟨rfl, fun c hc => by simp at hc; subst hc; exact ⟨h3, h4⟩⟩
      | pair l r h3 h4 h5 h6 h7 h8 h9 =>
        have i1 := ih l.toNat (by omega) l rfl (by omega) (by omega)
        have i2 := ih r.toNat (by omega) r rfl (by omega) (by omega)
        rw [h8, h9, wOf_append, ← i1.1, ← i2.1]
        refine ⟨rfl, fun c hc => ?_⟩
        rcases List.mem_append.1 hc with h | h
        · exact i1.2 c h
        · exact i2.2 c h
      | power x k h3 h4 h5 h6 h7 h8 =>
        have i1 := ih x.toNat (by omega) x rfl (by omega) (by omega)
        have hp := (g.at_ (id := x) (by omega) (by omega)).2.2.2 h3
        rw [i1.1, wOf_len] at hp
        rw [h7, h8, wOf_rep (by omega), ← i1.1]
        refine ⟨?_, fun c hc => ?_⟩
        · show wRep (eAt T x).2.1 k = _
          rw [Int.toNat_of_nonneg (by omega)]
        · obtain ⟨t, ht, hc⟩ := List.mem_flatten.1 hc
          rw [List.mem_replicate] at ht
          rw [ht.2] at hc
          exact i1.2 c hc
  exact fun {id} h0 h1 => key _ id rfl h0 h1
theorem Grow.len {T : List ET} (g : Grow T) {id : Int} (h0 : 0 ≤ id) (h1 : id ≤ T.length) : (eAt T id).2.1.1 = (Ytedmbgddmckegaa.txt T id).length := by
  rw [(g.weight h0 h1).1, wOf_len]

end Go.Proofs.Ytedmbgddmckegaa

/- Balanced texts of a list of rules; a pair of two of them; what a call may add. -/
set_option linter.unusedVariables false
set_option linter.unusedSimpArgs false
namespace Go.Proofs.Ytedmbgddmckegaa
open Go.Den

variable {T T' : List ET} {most : Int}

/-! ### Longer lists -/
theorem ext_len (h : T <+: T') : T.length ≤ T'.length := h.length_le
theorem ext_eAt (h : T <+: T') {id : Int} (h0 : 0 ≤ id) (h1 : id ≤ T.length) : eAt T' id = eAt T id := by
  obtain ⟨s, rfl⟩ := h
  unfold eAt
  by_cases c : id = 0
  · rw [if_pos c, if_pos c]
  · rw [if_neg c, if_neg c, List.getD_eq_getElem?_getD, List.getD_eq_getElem?_getD, List.getElem?_append_left (by omega)]
theorem ext_txts (h : T <+: T') : txts T <+: txts T' := by
  obtain ⟨s, rfl⟩ := h
  have key : ∀ (s : List ET) (acc : List (List Int)), acc <+: s.foldl (fun acc e => acc ++ [tx1 acc e.1]) acc := by
    intro s
    induction s with
    | nil => intro acc; exact List.prefix_refl _
    | cons e s ih => intro acc; rw [List.foldl_cons]; exact (List.prefix_append _ _).trans (ih _)
  unfold txts
  rw [List.foldl_append]
  exact key s _
theorem ext_txt (h : T <+: T') {id : Int} (h0 : 0 ≤ id) (h1 : id ≤ T.length) : txt T' id = txt T id := by
  obtain ⟨s, hs⟩ := ext_txts h
  unfold txt gt
  rw [← hs]
  by_cases c : id = 0
  · rw [if_pos c, if_pos c]
  · rw [if_neg c, if_neg c, List.getD_eq_getElem?_getD, List.getD_eq_getElem?_getD, List.getElem?_append_left (by rw [txts_len]; omega)]

/-! ### Balanced texts -/
structure Nd (T : List ET) (x : Int) (t : List Int) (d : Int) : Prop where
  pos : 1 ≤ x
  le : x ≤ T.length
  txt : txt T x = t
  dep : (eAt T x).2.2.1 = d
  even : (eAt T x).2.2.2 = true
theorem Nd.ext {x : Int} {t : List Int} {d : Int} (n : Nd T x t d) (h : T <+: T') : Nd T' x t d := by
  have hl := ext_len h
  have := n.pos
  have := n.le
  exact ⟨n.pos, by omega, by rw [ext_txt h (by omega) n.le]; exact n.txt, by rw [ext_eAt h (by omega) n.le]; exact n.dep, by rw [ext_eAt h (by omega) n.le]; exact n.even⟩
theorem Nd.len (g : Grow T) {x : Int} {t : List Int} {d : Int} (n : Nd T x t d) : (eAt T x).2.1.1 = t.length ∧ 1 ≤ t.length ∧ 0 ≤ d := by
  have := n.pos
  have h1 := g.len (id := x) (by omega) n.le
  have h2 := g.at_ (id := x) (by omega) n.le
  rw [n.txt] at h1
  have h3 := h2.2.2.2 n.pos
  rw [n.dep] at h2
  refine ⟨h1, by omega, h2.2.1⟩
theorem Nd.bound (g : Grow T) {x : Int} {t : List Int} {d : Int} (n : Nd T x t d) : d ≤ T.length ∧ (t.length : Int) ≤ 1152921504606846976 := by
  have := n.pos
  have h2 := g.at_ (id := x) (by omega) n.le
  have h3 := (n.len g).1
  have h4 := h2.1.len
  rw [n.dep] at h2
  exact ⟨h2.2.2.1, by omega⟩
/-- a balanced text is a letter or a pair of two -/
theorem Nd.parts (g : Grow T) {x : Int} {t : List Int} {d : Int} (n : Nd T x t d) : (d = 0 ∧ ∃ b, t = [b] ∧ (eAt T x).1 = (1, b, 0, 0, 0) ∧ 0 ≤ b ∧ b < 256) ∨
    ∃ l r t1 t2 d1 d2, (eAt T x).1 = (2, 0, l, r, 0) ∧ l < x ∧ r < x ∧ Nd T l t1 d1 ∧ Nd T r t2 d2 ∧ t = t1 ++ t2 ∧ d = 1 + max d1 d2 ∧ d1 ≤ d2 + 1 ∧ d2 ≤ d1 + 1 := by
  obtain ⟨h1, h2, h3, h4, h5⟩ := n
  cases g.txt h1 h2 with
  | letter b hb0 hb1 e ht =>
    left
    rw [e] at h4
    exact ⟨h4.symm, b, by rw [← h3, ht], by rw [e]; rfl, hb0, hb1⟩
  | pair l r a1 a2 a3 a4 a5 e ht =>
    right
    rw [e] at h4 h5
    simp only [mkPair, Bool.and_eq_true, decide_eq_true_eq] at h4 h5
    obtain ⟨⟨⟨e1, e2⟩, e3⟩, e4⟩ := h5
    refine ⟨l, r, Ytedmbgddmckegaa.txt T l, Ytedmbgddmckegaa.txt T r, (eAt T l).2.2.1, (eAt T r).2.2.1, by rw [e]; rfl, a2, a4, ⟨a1, by omega, rfl, rfl, e1⟩, ⟨a3, by omega, rfl, rfl, e2⟩, by rw [← h3, ht], ?_, by omega, by omega⟩
    rw [← h4]
    split <;> omega
  | power a k a1 a2 a3 a4 e ht =>
    rw [e] at h5
    simp [mkPower] at h5

/-! ### What a call may add -/
structure Res (T : List ET) (most : Int) (N : Nat) (Q : List ET → Int → Prop) (T' : List ET) (r : Int × Value) : Prop where
  ext : T <+: T'
  grow : Grow T'
  cap : (T'.length : Int) ≤ most
  len : T'.length ≤ T.length + N
  out : (r.2 = .nilIface ∧ Q T' r.1) ∨ (r = (0, errV 3) ∧ most < (T.length : Int) + (N : Int))
theorem Res.same {Q : List ET → Int → Prop} {N : Nat} {x : Int} (g : Grow T) (hm : (T.length : Int) ≤ most) (hq : Q T x) : Res T most N Q T (x, .nilIface) :=
  ⟨List.prefix_refl _, g, hm, by omega, Or.inl ⟨rfl, hq⟩⟩
theorem Res.mono {Q Q' : List ET → Int → Prop} {N N' : Nat} {r : Int × Value} (h : Res T most N Q T' r) (hN : N ≤ N') (hQ : ∀ x, Q T' x → Q' T' x) : Res T most N' Q' T' r := by
  obtain ⟨h1, h2, h3, h4, h5⟩ := h
  refine ⟨h1, h2, h3, by omega, ?_⟩
  rcases h5 with ⟨a, b⟩ | ⟨a, b⟩
  · exact Or.inl ⟨a, hQ _ b⟩
  · exact Or.inr ⟨a, by omega⟩
theorem Res.andThen {Q1 Q2 : List ET → Int → Prop} {N1 N2 : Nat} {T1 : List ET} {r1 r : Int × Value} (h1 : Res T most N1 Q1 T1 r1) (h2 : Res T1 most N2 Q2 T' r) : Res T most (N1 + N2) Q2 T' r := by
  obtain ⟨a1, a2, a3, a4, a5⟩ := h1
  obtain ⟨b1, b2, b3, b4, b5⟩ := h2
  refine ⟨a1.trans b1, b2, b3, by omega, ?_⟩
  rcases b5 with h | ⟨h, h'⟩
  · exact Or.inl h
  · exact Or.inr ⟨h, by omega⟩
theorem Res.fail {Q1 Q2 : List ET → Int → Prop} {N1 N2 : Nat} {T1 : List ET} {r1 : Int × Value} (h1 : Res T most N1 Q1 T1 r1) (h : most < (T.length : Int) + (N1 : Int)) : Res T most (N1 + N2) Q2 T1 (0, errV 3) := by
  obtain ⟨a1, a2, a3, a4, a5⟩ := h1
  exact ⟨a1, a2, a3, by omega, Or.inr ⟨rfl, by omega⟩⟩

theorem pAdd_res {e : ET} {Q : List ET → Int → Prop} (g : Grow T) (hm : (T.length : Int) ≤ most) (hg : lkR T e.1 = none → Grow (T ++ [e])) (h1 : ∀ i, lkR T e.1 = some i → Q T i) (h2 : lkR T e.1 = none → Q (T ++ [e]) ((T.length : Int) + 1)) :
    Res T most 1 Q (pAdd T most e).1 (pAdd T most e).2 := by
  cases hl : lkR T e.1 with
  | some i =>
    rw [(pAdd_some (most := most) hl).2.1]
    exact .same g hm (h1 i hl)
  | none =>
    by_cases hf : most ≤ T.length
    · rw [(pAdd_full (most := most) hl hf).2]
      exact ⟨List.prefix_refl _, g, hm, Nat.le_succ _, Or.inr ⟨rfl, by omega⟩⟩
    · rw [(pAdd_new (most := most) hl hf).2]
      exact ⟨List.prefix_append _ _, hg hl, by simp only [List.length_append, List.length_cons, List.length_nil]; omega, by simp, Or.inl ⟨rfl, h2 hl⟩⟩
theorem pair_known (g : Grow T) {i l r : Int} (h : lkR T (mkPair T l r).1 = some i) : 1 ≤ i ∧ i ≤ T.length ∧ eAt T i = mkPair T l r ∧ txt T i = txt T l ++ txt T r := by
  have hb := lkR_pos h
  have hr := lkR_rule h
  cases g.txt hb.1 hb.2 with
  | letter b _ _ e _ => rw [e] at hr; simp [mkLetter, mkPair] at hr
  | pair l' r' a1 a2 a3 a4 a5 e ht =>
    rw [e] at hr
    simp only [mkPair, Prod.mk.injEq] at hr
    obtain ⟨_, _, rfl, rfl, _⟩ := hr
    exact ⟨hb.1, hb.2, e, ht⟩
  | power x k _ _ _ _ e _ => rw [e] at hr; simp [mkPower, mkPair] at hr
theorem txt_mkPair (g : Grow T) {l r : Int} (h1 : 1 ≤ l ∧ l ≤ T.length) (h2 : 1 ≤ r ∧ r ≤ T.length) : txt (T ++ [mkPair T l r]) ((T.length : Int) + 1) = txt T l ++ txt T r := by
  unfold txt
  have := gt_last (acc := txts T) (t := tx1 (txts T) (mkPair T l r).1)
  rw [txts_len] at this
  rw [txts_append, this]; rfl
/-- a pair of any two texts -/
theorem pPair_res (g : Grow T) (hm : (T.length : Int) ≤ most) {l r : Int} (h1 : 1 ≤ l ∧ l ≤ T.length) (h2 : 1 ≤ r ∧ r ≤ T.length) (hl : (eAt T l).2.1.1 + (eAt T r).2.1.1 ≤ 1152921504606846976) :
    Res T most 1 (fun T' x => 1 ≤ x ∧ x ≤ T'.length ∧ eAt T' x = mkPair T l r ∧ txt T' x = txt T l ++ txt T r) (pPair T most l r).1 (pPair T most l r).2 := by
  have hp : pPair T most l r = pAdd T most (mkPair T l r) := by
    unfold pPair
    have kl : known T l = true := decide_eq_true (by omega)
    have kr : known T r = true := decide_eq_true (by omega)
    rw [kl, kr, if_neg (by simp), if_neg (by omega), if_neg (by omega), if_neg (by omega)]
  rw [hp]
  refine pAdd_res g hm (.pair g h1.1 h1.2 h2.1 h2.2 hl) (fun i hi => pair_known g hi) (fun hn => ⟨by omega, by simp, eAt_last _ _, txt_mkPair g h1 h2⟩)
/-- a pair of two balanced texts -/
theorem Nd.pair (g : Grow T) (hm : (T.length : Int) ≤ most) {l r : Int} {t1 t2 : List Int} {d1 d2 : Int} (n1 : Nd T l t1 d1) (n2 : Nd T r t2 d2) (h1 : d1 ≤ d2 + 1) (h2 : d2 ≤ d1 + 1) (hl : (t1.length : Int) + t2.length ≤ 1152921504606846976) :
    Res T most 1 (fun T' x => Nd T' x (t1 ++ t2) (1 + max d1 d2)) (pPair T most l r).1 (pPair T most l r).2 := by
  refine (pPair_res g hm ⟨n1.pos, n1.le⟩ ⟨n2.pos, n2.le⟩ (by rw [(n1.len g).1, (n2.len g).1]; exact hl)).mono (Nat.le_refl _) ?_
  rintro x ⟨a1, a2, a3, a4⟩
  refine ⟨a1, a2, by rw [a4, n1.txt, n2.txt], ?_, ?_⟩
  · rw [a3]
    simp only [mkPair, n1.dep, n2.dep]
    split <;> omega
  · rw [a3]
    simp only [mkPair, n1.even, n2.even, n1.dep, n2.dep, Bool.true_and, Bool.and_eq_true, decide_eq_true_eq]
    omega

/-! ### How long a balanced text is -/
def fibL : Nat → Nat
  | 0 => 1
  | 1 => 2
  | n + 2 => fibL n + fibL (n + 1)
theorem fibL_mono (n : Nat) : fibL n ≤ fibL (n + 1) := by
  induction n with
  | zero => decide
  | succ n ih => show fibL (n + 1) ≤ fibL n + fibL (n + 1); omega
theorem fibL_le {m n : Nat} (h : m ≤ n) : fibL m ≤ fibL n := by
  induction h with
  | refl => exact Nat.le_refl _
  | step _ ih => exact Nat.le_trans ih (fibL_mono _)
theorem fibL_pos (n : Nat) : 1 ≤ fibL n := fibL_le (m := 0) (Nat.zero_le n)
theorem Nd.fib (g : Grow T) : ∀ (n : Nat) {x : Int} {t : List Int} {d : Int}, x.toNat = n → Nd T x t d → fibL d.toNat ≤ t.length := by
  intro n
  induction n using Nat.strongRecOn with
  | ind n ih =>
    intro x t d hn nd
    have hp := nd.pos
    rcases nd.parts g with ⟨rfl, b, rfl, _⟩ | ⟨l, r, t1, t2, d1, d2, _, hl, hr, n1, n2, rfl, hd, h1, h2⟩
    · exact Nat.le_refl 1
    · have p1 := n1.pos
      have p2 := n2.pos
      have i1 := ih l.toNat (by omega) rfl n1
      have i2 := ih r.toNat (by omega) rfl n2
      have l1 := n1.len g
      have l2 := n2.len g
      rw [List.length_append]
      have key : ∀ a b : Nat, a ≤ b + 1 → fibL (b + 1) ≤ fibL b + fibL b ∧ (a ≤ b → b ≤ a + 1 → fibL (b + 1) ≤ fibL a + fibL b) := by
        intro a b _
        have h1 : fibL (b + 1) ≤ fibL b + fibL b := by
          cases b with
          | zero => decide
          | succ b => show fibL b + fibL (b + 1) ≤ _; have := fibL_mono b; omega
        refine ⟨h1, fun h2 h3 => ?_⟩
        by_cases c : a = b
        · subst c; exact h1
        · have : b = a + 1 := by omega
          subst this
          exact Nat.le_refl _
      by_cases c : d1 ≤ d2
      · have e : d.toNat = d2.toNat + 1 := by omega
        rw [e]
        have := (key d1.toNat d2.toNat (by omega)).2 (by omega) (by omega)
        omega
      · have e : d.toNat = d1.toNat + 1 := by omega
        rw [e]
        have := (key d2.toNat d1.toNat (by omega)).2 (by omega) (by omega)
        omega

end Go.Proofs.Ytedmbgddmckegaa

/- What the package avl computes: joins of balanced texts. -/
set_option linter.unusedVariables false
set_option linter.unusedSimpArgs false
namespace Go.Proofs.Ytedmbgddmckegaa
open Go.Den

variable {w0 w : World} {Ω : List Ob} {p : Addr} {most : Int} {T : List ET} {i : Nat}

theorem intern_Even_sp {id : Int} (s : Sp w0 Ω w) (i : Nat) (hi : Ω[i]? = some (sto p most T)) {K : Bool → World → Prop} (h : ∀ w', Sp w0 Ω w' → K (known T id && (eAt T id).2.2.2) w') : C_intern_Store_Even (some p) id K w := by
  apply S_intern_Store_Even
  unfold F_intern_Store_Even
  refine gd_t rfl (intern_known_sp s i hi ?_)
  cases hk : known T id
  · rw [hk] at h
    exact gd_f rfl (h _ s)
  · rw [hk] at h
    exact gd_t rfl (intern_at_sp s i hi hk fun w' s => h _ s)
theorem intern_Even_nil {id : Int} {K : Bool → World → Prop} (h : K false w0) : C_intern_Store_Even none id K w0 := by
  apply S_intern_Store_Even
  unfold F_intern_Store_Even
  exact gd_f rfl h
theorem avl_Balanced_k {id : Int} (s : Sp w0 Ω w) (i : Nat) (hi : Ω[i]? = some (sto p most T)) (hk : 0 ≤ id ∧ id ≤ T.length) {K : Bool × Value → World → Prop} (h : ∀ w', Sp w0 Ω w' → K ((eAt T id).2.2.2, .nilIface) w') : C_avl_Balanced (some p) id K w := by
  apply S_avl_Balanced
  unfold F_avl_Balanced
  refine intern_Depth_k s i hi hk fun w1 s => nilIfc_nil (gd_f rfl (intern_Even_sp s i hi fun w2 s => ?_))
  have hkn : known T id = true := decide_eq_true hk
  rw [hkn, Bool.true_and]
  exact h _ s
theorem avl_Balanced_u {id : Int} (s : Sp w0 Ω w) (i : Nat) (hi : Ω[i]? = some (sto p most T)) (hk : ¬ (0 ≤ id ∧ id ≤ T.length)) {K : Bool × Value → World → Prop} (h : ∀ w', Sp w0 Ω w' → K (false, errV 1) w') : C_avl_Balanced (some p) id K w := by
  apply S_avl_Balanced
  unfold F_avl_Balanced
  exact intern_Depth_u s i hi hk fun w1 s => nilIfc_err (gd_t rfl (h _ s))

/-- a call of Pair for two balanced texts -/
theorem pair_nd {l r : Int} {t1 t2 : List Int} {d1 d2 : Int} (s : Sp w0 Ω w) (i : Nat) (hi : Ω[i]? = some (sto p most T)) (n1 : Nd T l t1 d1) (n2 : Nd T r t2 d2) (h1 : d1 ≤ d2 + 1) (h2 : d2 ≤ d1 + 1) (hl : (t1.length : Int) + t2.length ≤ 1152921504606846976) {K : Int × Value → World → Prop}
    (h : ∀ T' x w', Res T most 1 (fun T' x => Nd T' x (t1 ++ t2) (1 + max d1 d2)) T' x → Sp w0 (Ω.set i (sto p most T')) w' → K x w') : C_intern_Store_Pair (some p) l r K w := by
  obtain ⟨_, _, _, hb0, hb1, hb2, hg⟩ := Sp.entry s i hi
  exact intern_Pair_sp s i hi fun w' s => h _ _ _ (Nd.pair hg hb2 n1 n2 h1 h2 hl) s
theorem avl_two_sp {a b c : Int} {ta tb tc : List Int} {da db dc : Int} (s : Sp w0 Ω w) (i : Nat) (hi : Ω[i]? = some (sto p most T)) (na : Nd T a ta da) (nb : Nd T b tb db) (nc : Nd T c tc dc) (h1 : db ≤ dc + 1) (h2 : dc ≤ db + 1) (h3 : da ≤ 1 + max db dc + 1) (h4 : 1 + max db dc ≤ da + 1)
    (hl : (ta.length : Int) + tb.length + tc.length ≤ 1152921504606846976) {K : Int × Value → World → Prop}
    (h : ∀ T' x w', Res T most 2 (fun T' x => Nd T' x (ta ++ (tb ++ tc)) (1 + max da (1 + max db dc))) T' x → Sp w0 (Ω.set i (sto p most T')) w' → K x w') : C_avl_two (some p) a b c K w := by
  apply S_avl_two
  unfold F_avl_two
  refine pair_nd s i hi nb nc h1 h2 (by omega) fun T1 x1 w1 r1 s => ?_
  rcases r1.out with ⟨e1, q1⟩ | ⟨e1, e2⟩
  · rw [e1]
    refine nilIfc_nil (gd_f rfl (pair_nd s i (setGet hi) (na.ext r1.ext) q1 h3 h4 (by simp only [List.length_append]; omega) fun T2 x2 w2 r2 s => ?_))
    rw [List.set_set] at s
    exact h _ _ _ (r1.andThen r2) s
  · rw [e1]
    exact nilIfc_err (gd_t rfl (h _ _ _ (r1.fail (N2 := 1) e2) s))
theorem avl_four_sp {a b c d : Int} {ta tb tc td : List Int} {da db dc dd : Int} (s : Sp w0 Ω w) (i : Nat) (hi : Ω[i]? = some (sto p most T)) (na : Nd T a ta da) (nb : Nd T b tb db) (nc : Nd T c tc dc) (nd : Nd T d td dd) (h1 : da ≤ db + 1) (h2 : db ≤ da + 1) (h3 : dc ≤ dd + 1) (h4 : dd ≤ dc + 1)
    (h5 : max da db ≤ max dc dd + 1) (h6 : max dc dd ≤ max da db + 1) (hl : (ta.length : Int) + tb.length + tc.length + td.length ≤ 1152921504606846976) {K : Int × Value → World → Prop}
    (h : ∀ T' x w', Res T most 3 (fun T' x => Nd T' x ((ta ++ tb) ++ (tc ++ td)) (1 + max (1 + max da db) (1 + max dc dd))) T' x → Sp w0 (Ω.set i (sto p most T')) w' → K x w') : C_avl_four (some p) a b c d K w := by
  apply S_avl_four
  unfold F_avl_four
  refine pair_nd s i hi na nb h1 h2 (by omega) fun T1 x1 w1 r1 s => ?_
  rcases r1.out with ⟨e1, q1⟩ | ⟨e1, e2⟩
  · rw [e1]
    refine nilIfc_nil (gd_f rfl (avl_two_sp s i (setGet hi) q1 (nc.ext r1.ext) (nd.ext r1.ext) h3 h4 (by omega) (by omega) (by simp only [List.length_append]; omega) fun T2 x2 w2 r2 s => ?_))
    rw [List.set_set] at s
    exact h _ _ _ (r1.andThen r2) s
  · rw [e1]
    exact nilIfc_err (gd_t rfl (h _ _ _ (r1.fail (N2 := 2) e2) s))

theorem avl_parts_sp {x l r : Int} {t1 t2 : List Int} {d1 d2 : Int} (s : Sp w0 Ω w) (i : Nat) (hi : Ω[i]? = some (sto p most T)) (hx : 1 ≤ x ∧ x ≤ T.length) (hr : (eAt T x).1 = (2, 0, l, r, 0)) (n1 : Nd T l t1 d1) (n2 : Nd T r t2 d2) {K : Int × Int × Int × Int × Value → World → Prop}
    (h : ∀ w', Sp w0 Ω w' → K (l, r, d1, d2, .nilIface) w') : C_avl_parts (some p) x K w := by
  apply S_avl_parts
  unfold F_avl_parts
  have p1 := n1.pos
  have p2 := n2.pos
  refine intern_Rule_k s i hi hx fun w1 s => s.allocK fun a2 w2 s => s.st0 0 rfl rfl rfl fun w3 s => ?_
  rw [hr] at s ⊢
  refine nilIfc_nil (gd_f rfl (s.ldi (x := l) 0 2 rfl rfl (intern_Depth_k s (i + 1) hi ⟨by omega, n1.le⟩ fun w4 s => nilIfc_nil (gd_f rfl (s.ldi (x := r) 0 3 rfl rfl (intern_Depth_k s (i + 1) hi ⟨by omega, n2.le⟩ fun w5 s => nilIfc_nil (gd_f rfl (s.drawK fun w6 s => ?_))))))))
  refine s.ldi (x := l) 0 2 rfl rfl (s.ldi (x := r) 0 3 rfl rfl ?_)
  rw [n1.dep, n2.dep]
  exact h _ s.pop

/-- texts whose depths differ by at most two -/
def LevQ (t : List Int) (da db : Int) : List ET → Int → Prop := fun T' x => ∃ d, Nd T' x t d ∧ ((da ≤ db + 1 ∧ db ≤ da + 1 → d = 1 + max da db) ∧ (max da db ≤ d ∧ d ≤ 1 + max da db))
theorem avl_level_sp {a b : Int} {ta tb : List Int} {da db : Int} (s : Sp w0 Ω w) (i : Nat) (hi : Ω[i]? = some (sto p most T)) (na : Nd T a ta da) (nb : Nd T b tb db) (h1 : da ≤ db + 2) (h2 : db ≤ da + 2) (hl : (ta.length : Int) + tb.length ≤ 1152921504606846976) {K : Int × Value → World → Prop}
    (h : ∀ T' x w', Res T most 3 (LevQ (ta ++ tb) da db) T' x → Sp w0 (Ω.set i (sto p most T')) w' → K x w') : C_avl_level (some p) a b K w := by
  apply S_avl_level
  unfold F_avl_level
  obtain ⟨_, _, _, hb0, hb1, hb2, hg⟩ := Sp.entry s i hi
  have pa := na.pos
  have pb := nb.pos
  have ba := na.bound hg
  have bb := nb.bound hg
  have la := na.len hg
  have lb := nb.len hg
  refine intern_Depth_k s i hi ⟨by omega, na.le⟩ fun w1 s => nilIfc_nil (gd_f rfl (intern_Depth_k s i hi ⟨by omega, nb.le⟩ fun w2 s => nilIfc_nil (gd_f rfl ?_)))
  rw [na.dep, nb.dep]
  refine arith_i64 (by omega) (by omega) (gd_dec (fun c1 => ?_) (fun c1 => arith_i64 (by omega) (by omega) (gd_dec (fun c2 => ?_) (fun c2 => ?_))))
  · rcases na.parts hg with ⟨e0, _⟩ | ⟨l, r, t1, t2, d1, d2, hr, _, _, n1, n2, ht, hd, k1, k2⟩
    · omega
    have q1 := n1.len hg
    have q2 := n2.len hg
    have hll : (ta.length : Int) = t1.length + t2.length := by rw [ht, List.length_append]; omega
    refine avl_parts_sp s i hi ⟨pa, na.le⟩ hr n1 n2 fun w3 s => nilIfc_nil (gd_f rfl ?_)
    dsimp only
    refine gd_dec (fun c3 => ?_) (fun c3 => ?_)
    · refine avl_two_sp s i hi n1 n2 nb (by omega) (by omega) (by omega) (by omega) (by omega) fun T' x w' r s => h _ _ _ (r.mono (by decide) fun y q => ⟨1 + max d1 (1 + max d2 db), ?_, by omega, by omega⟩) s
      rw [ht, List.append_assoc]; exact q
    · rcases n2.parts hg with ⟨e0, _⟩ | ⟨l2, r2, u1, u2, f1, f2, hr2, _, _, m1, m2, ht2, hd2, k3, k4⟩
      · omega
      have q3 := m1.len hg
      have q4 := m2.len hg
      have hll2 : (t2.length : Int) = u1.length + u2.length := by rw [ht2, List.length_append]; omega
      refine avl_parts_sp s i hi ⟨n2.pos, n2.le⟩ hr2 m1 m2 fun w4 s => nilIfc_nil (gd_f rfl ?_)
      refine avl_four_sp s i hi n1 m1 m2 nb (by omega) (by omega) (by omega) (by omega) (by omega) (by omega) (by omega) fun T' x w' r s => h _ _ _ (r.mono (by decide) fun y q => ⟨1 + max (1 + max d1 f1) (1 + max f2 db), ?_, by omega, by omega⟩) s
      have : ta ++ tb = (t1 ++ u1) ++ (u2 ++ tb) := by rw [ht, ht2]; simp
      rw [this]; exact q
  · rcases nb.parts hg with ⟨e0, _⟩ | ⟨l, r, t1, t2, d1, d2, hr, _, _, n1, n2, ht, hd, k1, k2⟩
    · omega
    have q1 := n1.len hg
    have q2 := n2.len hg
    have hll : (tb.length : Int) = t1.length + t2.length := by rw [ht, List.length_append]; omega
    refine avl_parts_sp s i hi ⟨pb, nb.le⟩ hr n1 n2 fun w3 s => nilIfc_nil (gd_f rfl ?_)
    dsimp only
    refine gd_dec (fun c3 => ?_) (fun c3 => ?_)
    · rcases n1.parts hg with ⟨e0, _⟩ | ⟨l2, r2, u1, u2, f1, f2, hr2, _, _, m1, m2, ht2, hd2, k3, k4⟩
      · omega
      have q3 := m1.len hg
      have q4 := m2.len hg
      have hll2 : (t1.length : Int) = u1.length + u2.length := by rw [ht2, List.length_append]; omega
      refine avl_parts_sp s i hi ⟨n1.pos, n1.le⟩ hr2 m1 m2 fun w4 s => nilIfc_nil (gd_f rfl ?_)
      refine avl_four_sp s i hi na m1 m2 n2 (by omega) (by omega) (by omega) (by omega) (by omega) (by omega) (by omega) fun T' x w' r s => h _ _ _ (r.mono (by decide) fun y q => ⟨1 + max (1 + max da f1) (1 + max f2 d2), ?_, by omega, by omega⟩) s
      have : ta ++ tb = (ta ++ u1) ++ (u2 ++ t2) := by rw [ht, ht2]; simp
      rw [this]; exact q
    · refine pair_nd s i hi na n1 (by omega) (by omega) (by omega) fun T1 x1 w4 r1 s => ?_
      rcases r1.out with ⟨e1, g1⟩ | ⟨e1, e2⟩
      · rw [e1]
        refine nilIfc_nil (gd_f rfl (pair_nd s i (setGet hi) g1 (n2.ext r1.ext) (by omega) (by omega) (by simp only [List.length_append]; omega) fun T2 x2 w5 r2 s => ?_))
        rw [List.set_set] at s
        refine h _ _ _ ((r1.andThen r2).mono (by decide) fun y q => ⟨1 + max (1 + max da d1) d2, ?_, by omega, by omega⟩) s
        rw [ht, ← List.append_assoc]; exact q
      · rw [e1]
        exact nilIfc_err (gd_t rfl (h _ _ _ (r1.fail (N2 := 2) e2) s))
  · exact pair_nd s i hi na nb (by omega) (by omega) hl fun T' x w' r s => h _ _ _ (r.mono (by decide) fun y q => ⟨_, q, by omega, by omega⟩) s

theorem avl_join_sp : ∀ (n : Nat) {a b : Int} {ta tb : List Int} {da db : Int} {w0 w : World} {Ω : List Ob} {T : List ET}, (da + db).toNat = n → Sp w0 Ω w → ∀ (i : Nat), Ω[i]? = some (sto p most T) → Nd T a ta da → Nd T b tb db → (ta.length : Int) + tb.length ≤ 1152921504606846976 →
    ∀ {K : Int × Value → World → Prop}, (∀ T' x w', Res T most (3 * (max da db - min da db).toNat + 1) (fun T' x => ∃ d, Nd T' x (ta ++ tb) d ∧ max da db ≤ d ∧ d ≤ 1 + max da db) T' x → Sp w0 (Ω.set i (sto p most T')) w' → K x w') → C_avl_join (some p) a b K w := by
  intro n
  induction n using Nat.strongRecOn with
  | ind n ih =>
    intro a b ta tb da db w0 w Ω T hn s i hi na nb hl K h
    apply S_avl_join
    unfold F_avl_join
    obtain ⟨_, _, _, hb0, hb1, hb2, hg⟩ := Sp.entry s i hi
    have pa := na.pos
    have pb := nb.pos
    have ba := na.bound hg
    have bb := nb.bound hg
    have la := na.len hg
    have lb := nb.len hg
    refine intern_Depth_k s i hi ⟨by omega, na.le⟩ fun w1 s => nilIfc_nil (gd_f rfl (intern_Depth_k s i hi ⟨by omega, nb.le⟩ fun w2 s => nilIfc_nil (gd_f rfl ?_)))
    rw [na.dep, nb.dep]
    refine arith_i64 (by omega) (by omega) (gd_dec (fun c1 => ?_) (fun c1 => arith_i64 (by omega) (by omega) (gd_dec (fun c2 => ?_) (fun c2 => ?_))))
    · rcases na.parts hg with ⟨e0, _⟩ | ⟨l, r, t1, t2, d1, d2, hr, _, _, n1, n2, ht, hd, k1, k2⟩
      · omega
      have q1 := n1.len hg
      have q2 := n2.len hg
      have hll : (ta.length : Int) = t1.length + t2.length := by rw [ht, List.length_append]; omega
      refine avl_parts_sp s i hi ⟨pa, na.le⟩ hr n1 n2 fun w3 s => nilIfc_nil (gd_f rfl ?_)
      refine ih (d2 + db).toNat (by omega) rfl s i hi n2 nb (by omega) fun T1 x1 w4 r1 s => ?_
      rcases r1.out with ⟨e1, d, g1, g2, g3⟩ | ⟨e1, e2⟩
      · rw [e1]
        refine nilIfc_nil (gd_f rfl (avl_level_sp s i (setGet hi) (n1.ext r1.ext) g1 (by omega) (by omega) (by simp only [List.length_append]; omega) fun T2 x2 w5 r2 s => ?_))
        rw [List.set_set] at s
        refine h _ _ _ ((r1.andThen r2).mono (by omega) ?_) s
        rintro y ⟨d', q, q5, q6⟩
        refine ⟨d', ?_, by omega, by omega⟩
        rw [ht, List.append_assoc]; exact q
      · rw [e1]
        exact nilIfc_err (gd_t rfl (h _ _ _ ((r1.fail (N2 := 3) (Q2 := fun T' x => ∃ d, Nd T' x (ta ++ tb) d ∧ max da db ≤ d ∧ d ≤ 1 + max da db) e2).mono (by omega) fun _ h => h) s))
    · rcases nb.parts hg with ⟨e0, _⟩ | ⟨l, r, t1, t2, d1, d2, hr, _, _, n1, n2, ht, hd, k1, k2⟩
      · omega
      have q1 := n1.len hg
      have q2 := n2.len hg
      have hll : (tb.length : Int) = t1.length + t2.length := by rw [ht, List.length_append]; omega
      refine avl_parts_sp s i hi ⟨pb, nb.le⟩ hr n1 n2 fun w3 s => nilIfc_nil (gd_f rfl ?_)
      refine ih (da + d1).toNat (by omega) rfl s i hi na n1 (by omega) fun T1 x1 w4 r1 s => ?_
      rcases r1.out with ⟨e1, d, g1, g2, g3⟩ | ⟨e1, e2⟩
      · rw [e1]
        refine nilIfc_nil (gd_f rfl (avl_level_sp s i (setGet hi) g1 (n2.ext r1.ext) (by omega) (by omega) (by simp only [List.length_append]; omega) fun T2 x2 w5 r2 s => ?_))
        rw [List.set_set] at s
        refine h _ _ _ ((r1.andThen r2).mono (by omega) ?_) s
        rintro y ⟨d', q, q5, q6⟩
        refine ⟨d', ?_, by omega, by omega⟩
        rw [ht, ← List.append_assoc]; exact q
      · rw [e1]
        exact nilIfc_err (gd_t rfl (h _ _ _ ((r1.fail (N2 := 3) (Q2 := fun T' x => ∃ d, Nd T' x (ta ++ tb) d ∧ max da db ≤ d ∧ d ≤ 1 + max da db) e2).mono (by omega) fun _ h => h) s))
    · exact pair_nd s i hi na nb (by omega) (by omega) hl fun T' x w' r s => h _ _ _ (r.mono (by omega) fun y q => ⟨_, q, by omega, by omega⟩) s

end Go.Proofs.Ytedmbgddmckegaa

/- Join as a whole, and the least lengths. -/
set_option linter.unusedVariables false
set_option linter.unusedSimpArgs false
namespace Go.Proofs.Ytedmbgddmckegaa
open Go.Den

variable {w0 w : World} {Ω : List Ob} {p : Addr} {most : Int} {T : List ET} {i : Nat}

/-- a balanced text, the empty one too -/
structure Nd0 (T : List ET) (x : Int) (t : List Int) (d : Int) : Prop where
  pos : 0 ≤ x
  le : x ≤ T.length
  txt : txt T x = t
  dep : (eAt T x).2.2.1 = d
  even : (eAt T x).2.2.2 = true
theorem Nd0.zero : Nd0 T 0 [] 0 := ⟨Int.le_refl _, by omega, rfl, rfl, rfl⟩
theorem Nd.nd0 {x : Int} {t : List Int} {d : Int} (n : Nd T x t d) : Nd0 T x t d := ⟨by have := n.pos; omega, n.le, n.txt, n.dep, n.even⟩
theorem Nd0.nd {x : Int} {t : List Int} {d : Int} (n : Nd0 T x t d) (h : x ≠ 0) : Nd T x t d := ⟨by have := n.pos; omega, n.le, n.txt, n.dep, n.even⟩
theorem Nd0.nil {t : List Int} {d : Int} (n : Nd0 T 0 t d) : t = [] ∧ d = 0 := ⟨n.txt.symm, n.dep.symm⟩
theorem Nd0.ext {T' : List ET} {x : Int} {t : List Int} {d : Int} (n : Nd0 T x t d) (h : T <+: T') : Nd0 T' x t d := by
  have hl := ext_len h
  have := n.le
  exact ⟨n.pos, by omega, by rw [ext_txt h n.pos n.le]; exact n.txt, by rw [ext_eAt h n.pos n.le]; exact n.dep, by rw [ext_eAt h n.pos n.le]; exact n.even⟩
theorem Nd0.len (g : Grow T) {x : Int} {t : List Int} {d : Int} (n : Nd0 T x t d) : (eAt T x).2.1.1 = t.length ∧ 0 ≤ d := by
  have h1 := g.len n.pos n.le
  rw [n.txt] at h1
  have h2 := g.at_ n.pos n.le
  rw [n.dep] at h2
  exact ⟨h1, h2.2.1⟩
theorem Nd0.wt (g : Grow T) {x : Int} {t : List Int} {d : Int} (n : Nd0 T x t d) : (eAt T x).2.1 = wOf t := by rw [← n.txt]; exact (g.weight n.pos n.le).1

def JoinQ (a b : Int) (ta tb : List Int) (da db : Int) : List ET → Int → Prop := fun T' x => ∃ d, Nd0 T' x (ta ++ tb) d ∧ max da db ≤ d ∧ d ≤ 1 + max da db ∧ (a = 0 → x = b ∧ d = db) ∧ (b = 0 → x = a ∧ d = da)
def joinN (a b da db : Int) : Nat := if a = 0 ∨ b = 0 then 0 else 3 * (max da db - min da db).toNat + 1
theorem avl_Join_sp {a b : Int} {ta tb : List Int} {da db : Int} (s : Sp w0 Ω w) (i : Nat) (hi : Ω[i]? = some (sto p most T)) (na : Nd0 T a ta da) (nb : Nd0 T b tb db) (hl : (ta.length : Int) + tb.length ≤ 1152921504606846976) {K : Int × Value → World → Prop}
    (h : ∀ T' x w', Res T most (joinN a b da db) (JoinQ a b ta tb da db) T' x → Sp w0 (Ω.set i (sto p most T')) w' → K x w') : C_avl_Join (some p) a b K w := by
  apply S_avl_Join
  unfold F_avl_Join
  obtain ⟨_, _, _, hb0, hb1, hb2, hg⟩ := Sp.entry s i hi
  have la := na.len hg
  have lb := nb.len hg
  have wa := (hg.at_ na.pos na.le).1
  have wb := (hg.at_ nb.pos nb.le).1
  have ka : known T a = true := decide_eq_true ⟨na.pos, na.le⟩
  have kb : known T b = true := decide_eq_true ⟨nb.pos, nb.le⟩
  refine intern_Weight_k s i hi ⟨na.pos, na.le⟩ fun w1 s => s.allocK fun a2 w2 s => s.st0 0 rfl rfl rfl fun w3 s => nilIfc_nil (gd_f rfl ?_)
  refine intern_Weight_k s (i + 1) hi ⟨nb.pos, nb.le⟩ fun w4 s => s.allocK fun a5 w5 s => s.st0 0 rfl rfl rfl fun w6 s => nilIfc_nil (gd_f rfl ?_)
  refine JoinP.inl (intern_Even_sp s (i + 2) hi fun w7 s => ?_)
  rw [ka, na.even]
  refine gd_f rfl (intern_Even_sp s (i + 2) hi fun w8 s => ?_)
  rw [kb, nb.even]
  intro _
  refine gd_f rfl (s.ldi (x := (eAt T a).2.1.1) 1 0 rfl rfl (s.ldi (x := (eAt T b).2.1.1) 0 0 rfl rfl (length_Add_spec wa.len wb.len (fun hle => nilIfc_nil (gd_f rfl (gd_eq (fun c1 => ?_) (fun c1 => gd_eq (fun c2 => ?_) (fun c2 => ?_))))) (fun hgt => absurd hgt (by omega)))))
  · subst c1
    obtain ⟨rfl, rfl⟩ := na.nil
    refine h T _ _ (Res.same hg hb2 ⟨db, ?_, by omega, by omega, fun _ => ⟨rfl, rfl⟩, fun e => ?_⟩) ?_
    · rw [List.nil_append]; exact nb
    · subst e
      exact ⟨rfl, nb.nil.2⟩
    · rw [setSame hi]; exact s.drop 2
  · subst c2
    obtain ⟨rfl, rfl⟩ := nb.nil
    refine h T _ _ (Res.same hg hb2 ⟨da, ?_, by omega, by omega, fun e => absurd e c1, fun _ => ⟨rfl, rfl⟩⟩) ?_
    · rw [List.append_nil]; exact na
    · rw [setSame hi]; exact s.drop 2
  · refine avl_join_sp _ rfl s (i + 2) hi (na.nd c1) (nb.nd c2) hl fun T' x w9 r s => h T' x _ ?_ (s.drop 2)
    have e : joinN a b da db = 3 * (max da db - min da db).toNat + 1 := by unfold joinN; rw [if_neg (by omega)]
    rw [e]
    refine r.mono (Nat.le_refl _) ?_
    rintro y ⟨d, q, q1, q2⟩
    exact ⟨d, q.nd0, q1, q2, fun e => absurd e c1, fun e => absurd e c2⟩
/-- what Join answers where it does not join -/
def joinBad (T : List ET) (a b : Int) : Option Int :=
  if ¬ (0 ≤ a ∧ a ≤ T.length) ∨ ¬ (0 ≤ b ∧ b ≤ T.length) then some 1 else
  if (eAt T a).2.2.2 = false ∨ (eAt T b).2.2.2 = false then some 4 else
  if 1152921504606846976 < (eAt T a).2.1.1 + (eAt T b).2.1.1 then some 2 else none
theorem avl_Join_bad {a b n : Int} (s : Sp w0 Ω w) (i : Nat) (hi : Ω[i]? = some (sto p most T)) (hb : joinBad T a b = some n) {K : Int × Value → World → Prop} (h : ∀ w', Sp w0 Ω w' → K (0, errV n) w') : C_avl_Join (some p) a b K w := by
  apply S_avl_Join
  unfold F_avl_Join
  obtain ⟨_, _, _, hb0, hb1, hb2, hg⟩ := Sp.entry s i hi
  unfold joinBad at hb
  by_cases ca : 0 ≤ a ∧ a ≤ T.length
  rotate_left
  · rw [if_pos (Or.inl ca)] at hb
    cases hb
    exact intern_Weight_u s i hi ca fun w1 s => s.allocK fun a2 w2 s => s.st0 0 rfl rfl rfl fun w3 s => nilIfc_err (gd_t rfl (h _ s.pop))
  refine intern_Weight_k s i hi ca fun w1 s => s.allocK fun a2 w2 s => s.st0 0 rfl rfl rfl fun w3 s => nilIfc_nil (gd_f rfl ?_)
  by_cases cb : 0 ≤ b ∧ b ≤ T.length
  rotate_left
  · rw [if_pos (Or.inr cb)] at hb
    cases hb
    exact intern_Weight_u s (i + 1) hi cb fun w1 s => s.allocK fun a2 w2 s => s.st0 0 rfl rfl rfl fun w3 s => nilIfc_err (gd_t rfl (h _ (s.drop 2)))
  refine intern_Weight_k s (i + 1) hi cb fun w4 s => s.allocK fun a5 w5 s => s.st0 0 rfl rfl rfl fun w6 s => nilIfc_nil (gd_f rfl ?_)
  rw [if_neg (by omega)] at hb
  have ka : known T a = true := decide_eq_true ca
  have kb : known T b = true := decide_eq_true cb
  have wa := (hg.at_ ca.1 ca.2).1
  have wb := (hg.at_ cb.1 cb.2).1
  refine JoinP.inl (intern_Even_sp s (i + 2) hi fun w7 s => ?_)
  rw [ka, Bool.true_and]
  cases ea : (eAt T a).2.2.2
  · rw [if_pos (Or.inl ea)] at hb
    cases hb
    exact gd_t rfl fun _ => gd_t rfl (h _ (s.drop 2))
  refine gd_f rfl (intern_Even_sp s (i + 2) hi fun w8 s => ?_)
  rw [kb, Bool.true_and]
  cases eb : (eAt T b).2.2.2
  · rw [if_pos (Or.inr eb)] at hb
    cases hb
    exact fun _ => gd_t rfl (h _ (s.drop 2))
  rw [if_neg (by rw [ea, eb]; simp)] at hb
  have hgt : 1152921504606846976 < (eAt T a).2.1.1 + (eAt T b).2.1.1 := by
    by_cases c : 1152921504606846976 < (eAt T a).2.1.1 + (eAt T b).2.1.1
    · exact c
    · rw [if_neg c] at hb; cases hb
  rw [if_pos hgt] at hb
  cases hb
  intro _
  exact gd_f rfl (s.ldi (x := (eAt T a).2.1.1) 1 0 rfl rfl (s.ldi (x := (eAt T b).2.1.1) 0 0 rfl rfl (length_Add_spec wa.len wb.len (fun hle => absurd hle (by omega)) (fun _ => nilIfc_err (gd_t rfl (h _ (s.drop 2)))))))
theorem avl_Join_nil {a b : Int} {K : Int × Value → World → Prop} (h : ∀ w', Ext w0 w' → K (0, errV 5) w') : C_avl_Join none a b K w0 := by
  apply S_avl_Join
  unfold F_avl_Join
  refine intern_Weight_nil fun w1 e => ?_
  have s : Sp w0 [] w1 := (Sp.init w0).toExt e
  exact s.allocK fun a2 w2 s => s.st0 0 rfl rfl rfl fun w3 s => nilIfc_err (gd_t rfl (h _ s.ext))
theorem avl_Balanced_nil {a : Int} {K : Bool × Value → World → Prop} (h : K (false, errV 5) w0) : C_avl_Balanced none a K w0 := by
  apply S_avl_Balanced
  unfold F_avl_Balanced
  exact intern_Depth_nil (nilIfc_err (gd_t rfl h))

/-! ### Least lengths -/
theorem fibL_step (n : Nat) : fibL (n + 2) = fibL n + fibL (n + 1) := rfl
theorem fibL_big : 1152921504606846976 < fibL 87 ∧ fibL 86 ≤ 1152921504606846976 := by decide
def least (d : Int) : Int := if d < 0 then 0 else if 1152921504606846977 < (fibL d.toNat : Int) then 1152921504606846977 else fibL d.toNat
def bound (n : Int) : Nat → Nat
  | 0 => 0
  | f + 1 => if (fibL (f + 1) : Int) ≤ n then f + 1 else bound n f
theorem avl_Least_spec {d : Int} (hd : d ≤ 9223372036854775807) {K : Int → World → Prop} (h : K (least d) w) : C_avl_Least d K w := by
  apply S_avl_Least
  unfold F_avl_Least
  unfold least at h
  refine gd_dec (fun c => by rwa [if_pos c] at h) (fun c => ?_)
  rw [if_neg c] at h
  have hbig := fibL_big
  have cut : ∀ j : Nat, 87 ≤ j → 1152921504606846977 ≤ fibL j := fun j hj => by have := fibL_le hj; omega
  have small : ∀ j : Nat, (fibL j : Int) ≤ 1152921504606846976 → j ≤ 86 := fun j hj => by
    rcases Nat.lt_or_ge 86 j with h | h
    · have := cut j h; omega
    · exact h
  refine JoinP.inl ⟨fun x w' => ∃ j : Nat, (j : Int) ≤ d ∧ x.1 = d - j ∧ x.2.1 = fibL j ∧ x.2.2.1 = fibL (j + 1) ∧ j ≤ 87 ∧ w' = w, fun x _ => x.1.toNat, ⟨0, by omega, by simp, rfl, rfl, by decide, rfl⟩, ?_⟩
  rintro ⟨x, a, b, _⟩ w1 ⟨j, hj, rfl, rfl, rfl, h87, rfl⟩ _
  dsimp only
  refine JoinP.inl (gd_dec (fun c1 => gd_dec (fun c2 => fun _ => ?_) (fun c2 => fun _ => ?_)) (fun c1 => fun _ => ?_))
  · have hj86 := small j c2
    have f1 := fibL_le (m := j + 1) (n := 87) (by omega)
    have f2 : fibL 87 ≤ 2 * 1152921504606846976 := by decide
    refine arith_i64 (by omega) (by omega) (arith_i64 (by omega) (by omega) ⟨⟨j + 1, by omega, by omega, rfl, by rw [fibL_step]; rfl, by omega, rfl⟩, by omega⟩)
  · have : 1152921504606846977 ≤ fibL d.toNat := by
      have := fibL_le (m := j) (n := d.toNat) (by omega)
      omega
    by_cases c3 : 1152921504606846977 < (fibL j : Int)
    · rw [if_pos c3]
      by_cases c4 : 1152921504606846977 < (fibL d.toNat : Int)
      · rwa [if_pos c4] at h
      · rw [if_neg c4] at h
        rwa [show (fibL d.toNat : Int) = 1152921504606846977 by omega] at h
    · rw [if_neg c3, show (fibL j : Int) = 1152921504606846977 by omega]
      by_cases c4 : 1152921504606846977 < (fibL d.toNat : Int)
      · rwa [if_pos c4] at h
      · rw [if_neg c4] at h
        rwa [show (fibL d.toNat : Int) = 1152921504606846977 by omega] at h
  · have : j = d.toNat := by omega
    subst this
    exact h

end Go.Proofs.Ytedmbgddmckegaa

/- The greatest depths of lengths; the walks of AvlLeasts and AvlNil. -/
set_option linter.unusedVariables false
set_option linter.unusedSimpArgs false
namespace Go.Proofs.Ytedmbgddmckegaa
open Go.Den

variable {w0 w : World} {Ω : List Ob} {p : Addr} {most : Int} {T : List ET} {i : Nat}

theorem fibL_small {j : Nat} (h : (fibL j : Int) ≤ 1152921504606846976) : j ≤ 86 := by
  rcases Nat.lt_or_ge 86 j with h' | h'
  · have h1 := fibL_le (m := 87) (n := j) (by omega)
    have h2 := fibL_big
    omega
  · exact h'
theorem fibL_88 : fibL 88 ≤ 4611686018427387904 := by decide
/-- d is the greatest depth of a balanced text of n letters -/
def IsBound (n : Int) (d : Nat) : Prop := (d = 0 ∨ (fibL d : Int) ≤ n) ∧ n < fibL (d + 1) ∧ d ≤ 86
theorem IsBound.unique {n : Int} {d e : Nat} (hd : IsBound n d) (he : IsBound n e) : d = e := by
  rcases Nat.lt_trichotomy d e with h | h | h
  · have h1 := fibL_le (m := d + 1) (n := e) h
    rcases he.1 with h2 | h2
    · omega
    · have := hd.2.1; omega
  · exact h
  · have h1 := fibL_le (m := e + 1) (n := d) h
    rcases hd.1 with h2 | h2
    · omega
    · have := he.2.1; omega
theorem IsBound.le {n : Int} {d e : Nat} (hd : IsBound n d) (he : (fibL e : Int) ≤ n) : e ≤ d := by
  rcases Nat.lt_or_ge d e with h | h
  · have h1 := fibL_le (m := d + 1) (n := e) h
    have := hd.2.1; omega
  · exact h
theorem avl_Bound_spec {n : Int} (hn : 0 ≤ n ∧ n ≤ 1152921504606846976) {K : Int × Value → World → Prop} (h : ∀ d : Nat, IsBound n d → K ((d : Int), .nilIface) w) : C_avl_Bound n K w := by
  apply S_avl_Bound
  unfold F_avl_Bound
  refine JoinP.inl (gd_f (decide_eq_false (by omega)) fun _ => gd_f (decide_eq_false (by omega)) ?_)
  refine ⟨fun x w' => ∃ j : Nat, x.1 = j ∧ x.2.1 = fibL j ∧ x.2.2.1 = fibL (j + 1) ∧ (j = 0 ∨ (fibL j : Int) ≤ n) ∧ j ≤ 86 ∧ w' = w, fun x _ => (100 - x.1).toNat, ⟨0, rfl, rfl, rfl, Or.inl rfl, by decide, rfl⟩, ?_⟩
  rintro ⟨x, a, b, _⟩ w1 ⟨j, rfl, rfl, rfl, hj, h86, rfl⟩ _
  dsimp only
  refine gd_dec (fun c => ?_) (fun c => h j ⟨hj, by omega, h86⟩)
  have hs := fibL_small (j := j + 1) (by omega)
  have f1 := fibL_le (m := j) (n := 88) (by omega)
  have f2 := fibL_88
  refine arith_i64 (by omega) (by omega) (arith_i64 (by omega) (by omega) ⟨⟨j + 1, rfl, rfl, by rw [fibL_step]; rfl, Or.inr c, hs, rfl⟩, by omega⟩)
theorem avl_Bound_bad {n : Int} (hn : ¬ (0 ≤ n ∧ n ≤ 1152921504606846976)) {K : Int × Value → World → Prop} (h : K (0, errV 1) w) : C_avl_Bound n K w := by
  apply S_avl_Bound
  unfold F_avl_Bound
  refine JoinP.inl ?_
  by_cases c : n < 0
  · exact gd_t (decide_eq_true c) fun _ => gd_t rfl h
  · exact gd_f (decide_eq_false c) fun _ => gd_t (decide_eq_true (by omega)) h
theorem least_le {d : Nat} {n : Int} (hn : n ≤ 1152921504606846976) : least (d : Int) ≤ n ↔ (fibL d : Int) ≤ n := by
  unfold least
  rw [if_neg (by omega), show ((d : Int)).toNat = d by omega]
  split <;> omega
theorem ref13_Least_spec {d : Int} (hd : d ≤ 100000) {K : Int → World → Prop} (h : K (least d) w) : C_ref13_Least d K w := by
  apply S_ref13_Least
  unfold F_ref13_Least
  unfold least at h
  refine gd_dec (fun c => by rwa [if_pos c] at h) (fun c => ?_)
  rw [if_neg c] at h
  have hbig := fibL_big
  refine ⟨fun x w' => ∃ j : Nat, (j : Int) ≤ d ∧ x.1 = fibL j ∧ x.2.1 = fibL (j + 1) ∧ x.2.2.1 = j ∧ j ≤ 86 ∧ w' = w, fun x _ => (d - x.2.2.1).toNat, ⟨0, by omega, rfl, rfl, rfl, by decide, rfl⟩, ?_⟩
  rintro ⟨a, b, x, _⟩ w1 ⟨j, hj, rfl, rfl, rfl, h86, rfl⟩ _
  dsimp only
  have f1 := fibL_le (m := j) (n := 88) (by omega)
  have f3 := fibL_le (m := j + 2) (n := 88) (by omega)
  rw [fibL_step] at f3
  have f2 := fibL_88
  refine gd_dec (fun c1 => arith_i64 (by omega) (by omega) (gd_dec (fun c2 => ?_) (fun c2 => ?_))) (fun c1 => ?_)
  · have := fibL_le (m := j + 1) (n := d.toNat) (by omega)
    by_cases c3 : 1152921504606846977 < (fibL d.toNat : Int)
    · rwa [if_pos c3] at h
    · rw [if_neg c3] at h
      rwa [show (fibL d.toNat : Int) = 1152921504606846977 by omega] at h
  · have hs := fibL_small (j := j + 1) (by omega)
    exact arith_i64 (by omega) (by omega) ⟨⟨j + 1, by omega, rfl, by rw [fibL_step]; rfl, by omega, hs, rfl⟩, by omega⟩
  · have e : j = d.toNat := by omega
    subst e
    have f4 := fibL_le (m := d.toNat) (n := 86) h86
    rw [if_neg (by omega)] at h
    exact h
theorem ref13_Bound_spec {n : Int} (hn : 0 ≤ n ∧ n ≤ 1152921504606846976) {K : Int → World → Prop} (h : ∀ d : Nat, IsBound n d → K (d : Int) w) : C_ref13_Bound n K w := by
  apply S_ref13_Bound
  unfold F_ref13_Bound
  refine ⟨fun x w' => ∃ j : Nat, x.1 = j ∧ (j = 0 ∨ (fibL j : Int) ≤ n) ∧ j ≤ 86 ∧ w' = w, fun x _ => (100 - x.1).toNat, ⟨0, rfl, Or.inl rfl, by decide, rfl⟩, ?_⟩
  rintro ⟨x, _⟩ w1 ⟨j, rfl, hj, h86, rfl⟩ _
  dsimp only
  refine arith_i64 (by omega) (by omega) (ref13_Least_spec (by omega) ?_)
  have hl := least_le (d := j + 1) hn.2
  rw [show ((j + 1 : Nat) : Int) = (j : Int) + 1 from rfl] at hl
  refine gd_dec (fun c => ?_) (fun c => h j ⟨hj, by omega, h86⟩)
  have c' := hl.1 c
  have hs := fibL_small (j := j + 1) (by omega)
  exact arith_i64 (by omega) (by omega) ⟨⟨j + 1, rfl, Or.inr c', hs, rfl⟩, by omega⟩

/-! ### Letters -/
theorem pLetter_res (g : Grow T) (hm : (T.length : Int) ≤ most) {b : Int} (hb : 0 ≤ b ∧ b < 256) : Res T most 1 (fun T' x => Nd T' x [b] 0) (pLetter T most b).1 (pLetter T most b).2 := by
  refine pAdd_res g hm (.letter g hb.1 hb.2) (fun i hi => ?_) (fun hn => ?_)
  · have hp := lkR_pos hi
    have hr := lkR_rule hi
    cases g.txt hp.1 hp.2 with
    | letter c _ _ e ht =>
      rw [e] at hr
      have hcb : c = b := congrArg (fun r : RT => r.2.1) hr
      subst hcb
      exact ⟨hp.1, hp.2, ht, by rw [e]; rfl, by rw [e]; rfl⟩
    | pair l r _ _ _ _ _ e _ => rw [e] at hr; simp [mkLetter, mkPair] at hr
    | power x k _ _ _ _ e _ => rw [e] at hr; simp [mkPower, mkLetter] at hr
  · refine ⟨by omega, by simp, ?_, by rw [eAt_last]; rfl, by rw [eAt_last]; rfl⟩
    unfold txt
    have := gt_last (acc := txts T) (t := tx1 (txts T) (mkLetter b).1)
    rw [txts_len] at this
    rw [txts_append, this]; rfl
theorem letter_nd {b : Int} (s : Sp w0 Ω w) (i : Nat) (hi : Ω[i]? = some (sto p most T)) (hb : 0 ≤ b ∧ b < 256) {K : Int × Value → World → Prop}
    (h : ∀ T' x w', Res T most 1 (fun T' x => Nd T' x [b] 0) T' x → Sp w0 (Ω.set i (sto p most T')) w' → K x w') : C_intern_Store_Letter (some p) b K w := by
  obtain ⟨_, _, _, hb0, hb1, hb2, hg⟩ := Sp.entry s i hi
  exact intern_Letter_sp s i hi hb fun w' s => h _ _ _ (pLetter_res hg hb2 hb) s

/-! ### The example -/
theorem law13_awake_spec {K : Bool → World → Prop} (h : ∀ w', Ext w0 w' → K true w') : C_law13_awake K w0 := by
  apply S_law13_awake
  unfold F_law13_awake
  refine intern_New_sp (Sp.init w0) fun p w1 s => gd_f rfl (letter_nd s 0 rfl (by decide) fun T1 x1 w2 r1 s => ?_)
  rcases r1.out with ⟨e1, n1⟩ | ⟨_, h⟩
  rotate_left
  · simp only [List.length_nil] at h; omega
  refine letter_nd s 0 rfl (by decide) fun T2 x2 w3 r2 s => ?_
  have l1 := r1.len
  have l2 := r2.len
  simp only [List.length_nil] at l1
  rcases r2.out with ⟨e2, n2⟩ | ⟨_, h⟩
  rotate_left
  · simp only [if_neg (show ¬ (10 : Int) < 0 by decide), if_neg (show ¬ (1048576 : Int) < 10 by decide)] at h; omega
  have n1' := n1.ext r2.ext
  refine avl_Join_sp s 0 rfl n1'.nd0 n2.nd0 (by decide) fun T3 x3 w4 r3 s => ?_
  have p1 := n1.pos
  have p2 := n2.pos
  have l3 := r3.len
  have hN : joinN x1.1 x2.1 0 0 = 1 := by unfold joinN; rw [if_neg (by omega)]; rfl
  rw [hN] at r3 l3
  rcases r3.out with ⟨e3, d, n3, d1, d2, _, _⟩ | ⟨_, h⟩
  rotate_left
  · simp only [if_neg (show ¬ (10 : Int) < 0 by decide), if_neg (show ¬ (1048576 : Int) < 10 by decide)] at h; omega
  have n1'' := n1'.ext r3.ext
  have n2' := n2.ext r3.ext
  have hx1 : x1.1 = 1 := by have := n1.le; omega
  have hne : x1.1 ≠ x2.1 := fun e => by
    have a := n1'.txt
    have b := n2.txt
    rw [e, b] at a; cases a
  have hx2 : x2.1 = 2 := by have := n2.le; omega
  have hx3 : x3.1 = 3 := by
    have h0 : x3.1 ≠ 0 := fun e => by have := n3.txt; rw [e] at this; cases this
    have h1 : x3.1 ≠ x1.1 := fun e => by have := n3.txt; rw [e, n1''.txt] at this; cases this
    have h2 : x3.1 ≠ x2.1 := fun e => by have := n3.txt; rw [e, n2'.txt] at this; cases this
    have := n3.pos
    have := n3.le
    omega
  refine avl_Balanced_k s 0 rfl ⟨n3.pos, n3.le⟩ fun w5 s => avl_Bound_spec (by decide) fun d8 hd8 => ?_
  have h8 : d8 = 4 := hd8.unique ⟨Or.inr (by decide), by decide, by decide⟩
  subst h8
  rw [e3]
  refine nilIfc_nil (gd_t rfl (nilIfc_nil (gd_t rfl (nilIfc_nil (gd_t rfl (gd_t (by rw [hx3]; rfl) (gd_t n3.even (gd_t rfl (avl_Least_spec (by decide) ?_)))))))))
  have : (least 4 == 8) = true := by decide
  rw [this]
  exact h _ s.ext

theorem law13_AvlLeasts_spec {depth length : Int} (hd : depth ≤ 9223372036854775807) {K : Bool → World → Prop} (h : ∀ w', Ext w0 w' → K true w') : C_law13_AvlLeasts depth length K w0 := by
  apply S_law13_AvlLeasts
  unfold F_law13_AvlLeasts
  refine law13_awake_spec fun w1 e1 => gd_f rfl ?_
  have fin : C_avl_Least depth (fun x17 w11 => C_ref13_Least (if (200 : Int) < depth then (200 : Int) else depth) (fun x18 w12 => K (x17 == x18) w12) w11) w1 := by
    refine avl_Least_spec hd (ref13_Least_spec (by split <;> omega) ?_)
    have : (least depth == least (if (200 : Int) < depth then (200 : Int) else depth)) = true := by
      split
      · rename_i c
        have big : ∀ d : Int, 200 ≤ d → least d = 1152921504606846977 := fun d hd => by
          unfold least
          have h1 := fibL_le (m := 87) (n := d.toNat) (by omega)
          have h2 := fibL_big
          rw [if_neg (by omega)]
          split <;> omega
        rw [big depth (by omega), big 200 (by omega)]; rfl
      · simp
    rw [this]
    exact h _ e1
  by_cases hn : 0 ≤ length ∧ length ≤ 1152921504606846976
  · refine avl_Bound_spec hn fun d hdb => JoinP.inl (JoinP.inl (gd_f (decide_eq_false (by omega)) fun _ => gd_f (decide_eq_false (by omega)) ?_))
    refine JoinP.inl (nilIfc_nil (gd_f rfl (ref13_Bound_spec hn fun e he => ?_)))
    have := hdb.unique he
    subst this
    have h86 := hdb.2.2
    refine gd_f (by simp) (avl_Least_spec (by omega) ?_)
    have hl : least (d : Int) ≤ (if length < 1 then 1 else length) := by
      rcases hdb.1 with h0 | h0
      · subst h0
        have : least ((0 : Nat) : Int) = 1 := by decide
        rw [this]; split <;> omega
      · have := (least_le (d := d) hn.2).2 h0
        split <;> omega
    refine gd_f (decide_eq_false (by dsimp only; omega)) (arith_i64 (by dsimp only; omega) (by dsimp only; omega) (avl_Least_spec (by dsimp only; omega) fun _ => gd_f ?_ fun _ => fin))
    refine decide_eq_false fun hc => ?_
    have := (least_le (d := d + 1) hn.2).1 hc
    have := hdb.2.1
    omega
  · refine avl_Bound_bad hn (JoinP.inl (JoinP.inl ?_))
    by_cases c : length < 0
    · exact gd_t (decide_eq_true c) fun _ => gd_t rfl (JoinP.inl (base_Is_err (by decide) (gd_f rfl fun _ => gd_f rfl fun _ => fin)))
    · exact gd_f (decide_eq_false c) fun _ => gd_t (decide_eq_true (by omega)) (JoinP.inl (base_Is_err (by decide) (gd_f rfl fun _ => gd_f rfl fun _ => fin)))

theorem avl_check_nil {a : Int} {K : Value → World → Prop} (h : K (errV 5) w0) : C_avl_check none a K w0 := by
  apply S_avl_check
  unfold F_avl_check
  exact avl_Balanced_nil (JoinP.inl (nilIfc_err (gd_f rfl fun _ => gd_f rfl h)))
theorem law13_AvlNil_spec {a b : Int} {K : Bool → World → Prop} (h : ∀ w', Ext w0 w' → K true w') : C_law13_AvlNil a b K w0 := by
  apply S_law13_AvlNil
  unfold F_law13_AvlNil
  refine law13_awake_spec fun w1 e1 => gd_f rfl (avl_Balanced_nil (avl_Join_nil fun w2 e2 => ?_))
  apply S_avl_Certificate
  unfold F_avl_Certificate
  refine avl_check_nil (nilIfc_err (gd_t rfl (gd_t rfl (gd_t rfl (gd_t rfl (base_Is_err (by decide) (gd_t rfl (base_Is_err (by decide) (gd_t rfl (base_Is_err (by decide) (gd_t rfl ?_)))))))))))
  apply S_avl_Verify
  unfold F_avl_Verify
  have s : Sp w0 [] w2 := (Sp.init w0).toExt (e1.trans e2)
  refine s.allocMap (.int .i64) yavl_Row fun r w3 s => ⟨fun x w => x.2.1 = 0 ∧ Ext w0 w, fun _ _ => 0, ⟨rfl, s.ext⟩, ?_⟩
  rintro ⟨x, y, _⟩ w4 ⟨hy, e⟩ _
  dsimp only at hy ⊢
  subst hy
  exact gd_f rfl (h _ e)

end Go.Proofs.Ytedmbgddmckegaa

/- Joined texts at any length: the walk of AvlDeep. -/
set_option linter.unusedVariables false
set_option linter.unusedSimpArgs false
namespace Go.Proofs.Ytedmbgddmckegaa
open Go.Den

variable {w0 w : World} {Ω : List Ob} {p : Addr} {most : Int} {T : List ET} {i : Nat}

/-- a number taken modulo a count -/
theorem ref12_Pick_spec {n many : Int} (hm : 1 ≤ many) (hb : many ≤ 4611686018427387904) {K : Int → World → Prop} (h : ∀ k : Int, 0 ≤ k → k < many → K k w) : C_ref12_Pick n many K w := by
  apply S_ref12_Pick
  unfold F_ref12_Pick
  refine ⟨by omega, letZ_mk (JoinP.inl ?_)⟩
  have h1 := Int.tmod_lt_of_pos n (show 0 < many by omega)
  have h2 : -many < Int.tmod n many := by
    have := Int.lt_tmod_of_pos n (show 0 < many by omega)
    omega
  refine gd_dec (fun c => arith_i64 (by omega) (by omega) fun _ => h _ (by first | omega | (dsimp only; omega)) (by first | omega | (dsimp only; omega))) (fun c => fun _ => h _ (by first | omega | (dsimp only; omega)) h1)

/-- the calls' number is bounded; the fixed example -/
theorem awake_guard {sl : Sl} {N : Int} {B : Bool × Unit → World → Prop} (h1 : ∀ w x, x.1 = true → Ext w0 w → B x w) (h2 : ∀ w x, (sl.len : Int) ≤ N → x.1 = false → Ext w0 w → B x w) :
    JoinP (X := Bool × Unit) (fun R => C_law13_awake (fun x3 w2 => gd (!x3) (R (true, ()) w2) (R (decide (N < (sl.len : Int)), ()) w2)) w0) B := by
  refine ⟨B, law13_awake_spec fun w1 e1 => gd_f rfl ?_, fun _ _ h => h⟩
  by_cases c : (sl.len : Int) ≤ N
  · exact h2 _ _ c (by simp [c]) e1
  · exact h1 _ _ (by simp; omega) e1

theorem Nd0.deep (g : Grow T) {x : Int} {t : List Int} {d : Int} (n : Nd0 T x t d) : 0 ≤ d ∧ d ≤ 86 := by
  refine ⟨(n.len g).2, ?_⟩
  by_cases c : x = 0
  · subst c; have := n.nil.2; omega
  · have nd := n.nd c
    have h1 := nd.fib g _ rfl
    have h2 := (nd.bound g).2
    have h3 := fibL_small (j := d.toNat) (by omega)
    have := (n.len g).2
    omega

theorem law13_gap_spec {a b : Int} {ta tb : List Int} {da db : Int} (s : Sp w0 Ω w) (i : Nat) (hi : Ω[i]? = some (sto p most T)) (na : Nd0 T a ta da) (nb : Nd0 T b tb db) {K : Int × Int → World → Prop}
    (h : ∀ w', Sp w0 Ω w' → K (max da db - min da db, max da db) w') : C_law13_gap (some p) a b K w := by
  apply S_law13_gap
  unfold F_law13_gap
  obtain ⟨_, _, _, hb0, hb1, hb2, hg⟩ := Sp.entry s i hi
  have e1 := na.deep hg
  have e2 := nb.deep hg
  refine intern_Depth_k s i hi ⟨na.pos, na.le⟩ fun w1 s => intern_Depth_k s i hi ⟨nb.pos, nb.le⟩ fun w2 s => ?_
  rw [na.dep, nb.dep]
  have m1 : (if da < db then db else da) = max da db := by split <;> omega
  have m2 : (if db < da then db else da) = min da db := by split <;> omega
  rw [m1, m2]
  exact arith_i64 (by omega) (by omega) (h _ s)

theorem law13_right_spec {a b c before : Int} {ta tb tc : List Int} {da db dc : Int} (s : Sp w0 Ω w) (i : Nat) (hi : Ω[i]? = some (sto p most T)) (na : Nd0 T a ta da) (nb : Nd0 T b tb db) (nc : Nd0 T c tc dc)
    (hz : a = 0 ∨ b = 0 → c = a + b ∧ (T.length : Int) = before) (hn : ¬ (a = 0 ∨ b = 0) → (dc = max da db ∨ dc = max da db + 1) ∧ (T.length : Int) - before ≤ 4 * (max da db - min da db + 1)) (hb : 0 ≤ before ∧ before ≤ T.length) {K : Bool → World → Prop}
    (h : ∀ w', Sp w0 Ω w' → K true w') : C_law13_right (some p) a b c before K w := by
  apply S_law13_right
  unfold F_law13_right
  obtain ⟨_, _, _, hb0, hb1, hb2, hg⟩ := Sp.entry s i hi
  have e1 := na.deep hg
  have e2 := nb.deep hg
  refine law13_gap_spec s i hi na nb fun w1 s => intern_Depth_k s i hi ⟨nc.pos, nc.le⟩ fun w2 s => avl_Balanced_k s i hi ⟨nc.pos, nc.le⟩ fun w3 s => JoinP.inl ?_
  rw [nc.dep, nc.even]
  have h1 := na.le
  have h2 := nb.le
  have h3 := na.pos
  have h4 := nb.pos
  by_cases c0 : a = 0 ∨ b = 0
  · obtain ⟨q1, q2⟩ := hz c0
    have fin : nilIfcK .nilIface fun b6 => gd b6 (nilIfcK .nilIface fun b7 => gd b7 (gd true (arith .i64 (a + b) fun n8 => gd (c == n8) (C_intern_Store_Len (some p) (fun x9 w5 => K (x9 == before) w5) w3) (K false w3)) (K false w3)) (K false w3)) (K false w3) := by
      refine nilIfc_nil (gd_t rfl (nilIfc_nil (gd_t rfl (gd_t rfl (arith_i64 (by omega) (by omega) (gd_t (by simp [q1]) (intern_Len_sp s i hi ?_)))))))
      rw [show ((T.length : Int) == before) = true by simp [q2]]
      exact h _ s
    refine gd_eq (fun c1 => ?_) (fun c1 => ?_)
    · intro _; exact gd_t rfl fin
    · intro _; exact gd_t (by simpa using c0.resolve_left c1) fin
  · obtain ⟨q1, q2⟩ := hn c0
    refine gd_eq (fun c1 => absurd (Or.inl c1) c0) (fun c1 => ?_)
    have c2 : b ≠ 0 := fun h => c0 (Or.inr h)
    intro _
    refine gd_f (by simp [c2]) (nilIfc_nil (gd_t rfl (nilIfc_nil (gd_t rfl (gd_t rfl (gd_eq (fun c3 => ?_) (fun c3 => ?_)))))))
    · refine intern_Len_sp s i hi (arith_i64 (by omega) (by omega) (arith_i64 (by first | omega | (dsimp only; omega)) (by first | omega | (dsimp only; omega)) (arith_i64 (by first | omega | (dsimp only; omega)) (by first | omega | (dsimp only; omega)) ?_)))
      dsimp only
      rw [show (decide ((T.length : Int) - before ≤ 4 * (max da db - min da db + 1))) = true from decide_eq_true (by omega)]
      exact h _ s
    · dsimp only at c3
      refine arith_i64 (by omega) (by omega) (gd_t (by simp; omega) (intern_Len_sp s i hi (arith_i64 (by first | omega | (dsimp only; omega)) (by first | omega | (dsimp only; omega)) (arith_i64 (by first | omega | (dsimp only; omega)) (by first | omega | (dsimp only; omega)) (arith_i64 (by first | omega | (dsimp only; omega)) (by first | omega | (dsimp only; omega)) ?_)))))
      dsimp only
      rw [show (decide ((T.length : Int) - before ≤ 4 * (max da db - min da db + 1))) = true from decide_eq_true (by omega)]
      exact h _ s

/-- some balanced text -/
def IsNd (T : List ET) (x : Int) : Prop := ∃ t d, Nd0 T x t d
theorem IsNd.ext {T' : List ET} {x : Int} (n : IsNd T x) (h : T <+: T') : IsNd T' x := by
  obtain ⟨t, d, n⟩ := n
  exact ⟨t, d, n.ext h⟩
theorem getN {xs : List Int} {x : Int} (h0 : 0 ≤ x) (h1 : x < xs.length) : ∃ (n : Nat) (y : Int), x = n ∧ xs[n]? = some y ∧ y ∈ xs := by
  have hn : x.toNat < xs.length := by omega
  exact ⟨x.toNat, xs[x.toNat], by omega, List.getElem?_eq_getElem hn, List.getElem_mem hn⟩

theorem law13_AvlDeep_spec {sl : Sl} {ops : List yevergreenlaw13_Step.T} (hv : View yevergreenlaw13_Step w0 sl ops) (ho : ∀ o ∈ ops, 0 ≤ o.2.1 ∧ o.2.1 < 256) {K : Bool → World → Prop} (h : ∀ w', Ext w0 w' → K true w') : C_law13_AvlDeep sl K w0 := by
  apply S_law13_AvlDeep
  unfold F_law13_AvlDeep
  refine awake_guard (fun w1 x hx e1 => fun _ => gd_t hx (law13_awake_spec fun w2 e2 => h _ (e1.trans e2))) fun w1 x hs hx e1 => fun _ => gd_f hx ?_
  refine intern_New_sp ((Sp.init w0).toExt e1) fun p w2 s => s.allocK fun a6 w3 s => ?_
  have hlen := hv.len
  refine loop_by (fun x => x.2.1) ops.length (fun n x w => ∃ T ids, Sp w0 [own (.int .i64) x.1 ids, sto p 1048576 T] w ∧ 1 ≤ ids.length ∧ ids.length ≤ n + 1 ∧ (∀ y ∈ ids, IsNd T y) ∧ T.length ≤ 260 * n) rfl ⟨[], [(0 : Int)], s.lit (ty := .int .i64) 0 rfl [(0 : Int)] 1 rfl rfl, by decide, by decide, fun y hy => by
    rw [List.mem_singleton] at hy
    subst hy
    exact ⟨[], 0, Nd0.zero⟩, by decide⟩ ?_
  rintro n ⟨xs, x, _⟩ w4 hn hx ⟨T, ids, s, hid0, hid1, hnd, hT⟩ _
  dsimp only at hx s ⊢
  subst hx
  refine gd_dec (fun hlt => ?_) (fun hge => h _ s.ext)
  have hn' : n < ops.length := by omega
  have hlen90 : ops.length ≤ 90 := by omega
  have hok := ho _ (List.getElem_mem hn')
  have hidl : (xs.len : Int) = ids.length := by rw [← (s.view 0 rfl).len]
  obtain ⟨_, _, _, hb0, hb1, hb2, hg⟩ := Sp.entry s 1 rfl
  refine ⟨fun x w => ∃ T ids, Sp w0 [own (.int .i64) x.1 ids, sto p 1048576 T] w ∧ 1 ≤ ids.length ∧ ids.length ≤ n + 2 ∧ (∀ y ∈ ids, IsNd T y) ∧ T.length ≤ 260 * (n + 1), ?_, ?_⟩
  rotate_left
  · rintro ⟨x, _⟩ w5 ⟨T', ids', s, q1, q2, q3, q4⟩ _
    exact arith_i64 (by omega) (by omega) (loop_nx hn' ⟨T', ids', s, q1, q2, q3, q4⟩)
  refine (hv.ext s.ext).idx rfl (List.getElem?_eq_getElem hn') rfl fun q hq => ⟨_, hq, ?_⟩
  generalize ops[n] = o at hok
  refine s.allocK fun a13 w8 s => s.st0 0 rfl rfl rfl fun w9 s => s.drawK fun w10 s => s.ldi (x := o.2.2.1) 0 2 rfl rfl (s.ldi (x := o.2.2.2) 0 3 rfl rfl ?_)
  refine ref12_Pick_spec (by omega) (by omega) fun k1 hk1 hk1' => ⟨s.still 0 3 rfl rfl, ?_⟩
  obtain ⟨n1, a, rfl, ha, hma⟩ := getN (xs := ids) hk1 (by omega)
  refine (s.view 1 rfl).idx2 rfl ha rfl fun q1 hq1 => ⟨a, hq1 _ (s.view 1 rfl), ref12_Pick_spec (by omega) (by omega) fun k2 hk2 hk2' => ⟨hq1 _ (s.view 1 rfl), ?_⟩⟩
  obtain ⟨n2, b, rfl, hb, hmb⟩ := getN (xs := ids) hk2 (by omega)
  refine (s.view 1 rfl).idx rfl hb rfl fun q2 hq2 => ⟨b, hq2, s.ldi (x := o.1) 0 0 rfl rfl (ref12_Pick_spec (by decide) (by decide) fun k3 hk3 hk3' => gd_eq (fun c0 => ?_) (fun c0 => ?_))⟩
  · refine s.ldi (x := o.2.1) 0 1 rfl rfl (letter_nd s 2 rfl hok fun T1 x1 w11 r1 s => s.allocK fun a26 w12 s => ?_)
    rcases r1.out with ⟨e1, n1⟩ | ⟨_, hbad⟩
    rotate_left
    · omega
    refine s.app 2 rfl ((s.lit (ty := .int .i64) 0 rfl [x1.1] 1 rfl rfl).view 0 rfl) (by simp only [List.length_cons, List.length_nil]; omega) fun s27 w13 s => ⟨T1, ids ++ [x1.1], s.drop 2, by simp, by simp; omega, fun y hy => ?_, by have := r1.len; omega⟩
    rcases List.mem_append.1 hy with hy | hy
    · exact (hnd y hy).ext r1.ext
    · rw [List.mem_singleton] at hy
      subst hy
      exact ⟨_, _, n1.nd0⟩
  · obtain ⟨ta, da, na⟩ := hnd a hma
    obtain ⟨tb, db, nb⟩ := hnd b hmb
    have la := na.len hg
    have lb := nb.len hg
    have dda := na.deep hg
    have ddb := nb.deep hg
    have wla := (hg.at_ na.pos na.le).1.len
    have wlb := (hg.at_ nb.pos nb.le).1.len
    refine intern_Weight_k s 2 rfl ⟨na.pos, na.le⟩ fun w11 s => s.allocK fun a29 w12 s => s.st0 0 rfl rfl rfl fun w13 s => ?_
    refine intern_Weight_k s 3 rfl ⟨nb.pos, nb.le⟩ fun w14 s => s.allocK fun a31 w15 s => s.st0 0 rfl rfl rfl fun w16 s => intern_Len_sp s 4 rfl ?_
    by_cases hl : (ta.length : Int) + tb.length ≤ 1152921504606846976
    · refine avl_Join_sp s 4 rfl na nb hl fun T1 x1 w17 r1 s => s.ldi (x := (eAt T a).2.1.1) 1 0 rfl rfl (s.ldi (x := (eAt T b).2.1.1) 0 0 rfl rfl (arith_i64 (by omega) (by omega) (gd_f (decide_eq_false (by omega)) ?_)))
      have hN : joinN a b da db ≤ 259 := by unfold joinN; split <;> omega
      have hlen1 := r1.len
      rcases r1.out with ⟨e1, d, n1, hd1, hd2, hz1, hz2⟩ | ⟨_, hbad⟩
      rotate_left
      · omega
      have hext := r1.ext
      have lx := n1.len r1.grow
      have ddx := n1.deep r1.grow
      have na1 := na.ext hext
      have nb1 := nb.ext hext
      rw [e1]
      refine intern_Weight_k s 4 rfl ⟨n1.pos, n1.le⟩ fun w18 s => s.allocK fun a41 w19 s => s.st0 0 rfl rfl rfl fun w20 s => intern_Depth_k s 5 rfl ⟨n1.pos, n1.le⟩ fun w21 s => s.ldi (x := (eAt T1 x1.1).2.1.1) 0 0 rfl rfl ?_
      rw [List.length_append] at lx
      refine avl_Bound_spec (by omega) fun dB hdB => ?_
      have hfib : x1.1 ≠ 0 → (fibL d.toNat : Int) ≤ (eAt T1 x1.1).2.1.1 := fun hne => by
        have := (n1.nd hne).fib r1.grow _ rfl
        rw [List.length_append] at this
        omega
      have hdn : d ≤ dB := by
        by_cases c : x1.1 = 0
        · rw [c] at n1; have := n1.nil.2; omega
        · have := hdB.le (hfib c); omega
      have hls : least d ≤ (if (eAt T1 x1.1).2.1.1 < 1 then 1 else (eAt T1 x1.1).2.1.1) := by
        by_cases c : x1.1 = 0
        · have e0 : d = 0 := by rw [c] at n1; exact n1.nil.2
          subst e0
          have : least 0 = 1 := by decide
          rw [this]; split <;> omega
        · have h1 := (least_le (d := d.toNat) (n := (eAt T1 x1.1).2.1.1) (by omega)).2 (hfib c)
          rw [show ((d.toNat : Nat) : Int) = d by omega] at h1
          split <;> omega
      rw [n1.dep]
      refine JoinP.inl (s.drawK fun w22 s => nilIfc_nil (gd_f rfl (nilIfc_nil (gd_f rfl (nilIfc_nil (gd_f rfl (nilIfc_nil (gd_f rfl ?_))))))))
      refine s.ldi (x := (eAt T1 x1.1).2.1.1) 0 0 rfl rfl (s.ldi (x := (eAt T a).2.1.1) 2 0 rfl rfl (s.ldi (x := (eAt T b).2.1.1) 1 0 rfl rfl (arith_i64 (by omega) (by omega) (gd_f (by simp; omega) (gd_f (decide_eq_false (by first | omega | (dsimp only; omega))) ?_)))))
      refine s.ldi (x := (eAt T1 x1.1).2.1.1) 0 0 rfl rfl (avl_Least_spec (by first | omega | (dsimp only; omega)) ⟨s.still 0 0 rfl rfl, gd_f (decide_eq_false (by omega)) ?_⟩)
      refine law13_right_spec s 5 rfl na1 nb1 n1 (fun hz => ?_) (fun hnz => ?_) ⟨by omega, by have := ext_len hext; omega⟩ fun w23 s => ?_
      · have hN0 : joinN a b da db = 0 := by unfold joinN; rw [if_pos hz]
        have := ext_len hext
        refine ⟨?_, by omega⟩
        rcases hz with hz | hz
        · have := (hz1 hz).1; omega
        · have := (hz2 hz).1; omega
      · have hN0 : joinN a b da db = 3 * (max da db - min da db).toNat + 1 := by unfold joinN; rw [if_neg hnz]
        exact ⟨by omega, by omega⟩
      · intro _
        refine gd_f rfl (s.allocK fun a58 w24 s => s.app 5 rfl ((s.lit (ty := .int .i64) 0 rfl [x1.1] 1 rfl rfl).view 0 rfl) (by simp only [List.length_cons, List.length_nil]; omega) fun s59 w25 s => ⟨T1, ids ++ [x1.1], s.drop 5, by simp, by simp; omega, fun y hy => ?_, by omega⟩)
        rcases List.mem_append.1 hy with hy | hy
        · exact (hnd y hy).ext hext
        · rw [List.mem_singleton] at hy
          subst hy
          exact ⟨_, _, n1⟩
    · have hbad : joinBad T a b = some 2 := by
        unfold joinBad
        rw [if_neg (by have := na.pos; have := na.le; have := nb.pos; have := nb.le; omega), if_neg (by rw [na.even, nb.even]; simp), if_pos (by omega)]
      refine avl_Join_bad s 4 rfl hbad fun w17 s => s.ldi (x := (eAt T a).2.1.1) 1 0 rfl rfl (s.ldi (x := (eAt T b).2.1.1) 0 0 rfl rfl (arith_i64 (by omega) (by omega) (gd_t (decide_eq_true (by omega)) ?_)))
      refine JoinP.inl (base_Is_err (by decide) (gd_f rfl fun _ => gd_f rfl ⟨T, ids, s.drop 3, hid0, by omega, hnd, by omega⟩))

end Go.Proofs.Ytedmbgddmckegaa
