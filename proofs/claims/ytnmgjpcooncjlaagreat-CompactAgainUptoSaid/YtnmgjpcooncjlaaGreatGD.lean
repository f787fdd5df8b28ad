/- Texts that belong together, joined: RefA, RefB, RefC, LawAA, LawBA, LawCA, Shape, LawDA, ImpA, Rch, Keep, KeepB, CpA, CpB, SortLS, SortS, CpC, LawDB, ExpA, Reach, ExpB. No conditions. -/
import Derived.Shelf.SortM.Plain
import Derived.Shelf.SortM.SortNone
import Derived.Test.YtnmgjpcooncjlaaGreatProg
import Derived.Test.YtnmgjpcooncjlaaGreatGC
import Derived.Test.YtnmgjpcooncjlaaGreatGB
/- The specification of the layer (evergreenref10): its store is the same list. -/
set_option linter.unusedVariables false
set_option linter.unusedSimpArgs false
namespace Go.Proofs.YtnmgjpcooncjlaaGreat
open Go.Den

variable {w0 w : World} {Ω : List Ob} {most : Int} {T : List ET} {j : Nat} 

def rulesOf (T : List ET) : List yapi_Rule.T := T.map fun e => e.1
def lensOf (T : List ET) : List (Ty.int .i64).T := T.map fun e => e.2.1.1
def depsOf (T : List ET) : List (Ty.int .i64).T := T.map fun e => e.2.2.1
theorem rulesOf_len (T : List ET) : (rulesOf T).length = T.length := List.length_map _

theorem blk_none {b : Nat} (h : blk ⟨none, 0, 0⟩ b) : False := by
  obtain ⟨q, h, _⟩ := h
  cases h

theorem clip_form (n : Int) : (if (0 : Int) < (if 1048576 < n then 1048576 else n) then (if 1048576 < n then 1048576 else n) else 0) = if n < 0 then 0 else if 1048576 < n then 1048576 else n := by grind
theorem known_get {id : Int} (hk : known T id = true) (hne : id ≠ 0) : 1 ≤ id ∧ id ≤ T.length ∧ T[(id - 1).toNat]? = some (eAt T id) := by
  have := of_decide_eq_true hk
  exact ⟨by omega, this.2, eAt_get (by omega) this.2⟩
theorem lkR_first : ∀ (T : List ET) (r : RT) (n : Nat) (k : Nat), (∀ i, i < n → ∀ e, T[i]? = some e → e.1 ≠ r) → (∀ e, T[n]? = some e → e.1 = r) → n < T.length →
    ((T.zipIdx k).map fun p => (p.1.1, (p.2 : Int) + 1)).find? (fun p => beqT yapi_Rule r p.1) = some (r, ((k + n : Nat) : Int) + 1)
  | [], _, _, _, _, _, h => by simp at h
  | e :: T, r, 0, k, _, h2, _ => by
    have := h2 e rfl
    rw [List.zipIdx_cons, List.map_cons, List.find?_cons]
    simp only [this, (beqT_iff yapi_Rule rfl r r).2 rfl, Nat.add_zero]
  | e :: T, r, n + 1, k, h1, h2, h3 => by
    have h0 := h1 0 (by omega) e rfl
    have hb : beqT yapi_Rule r e.1 = false := by
      cases hb : beqT yapi_Rule r e.1
      · rfl
      · exact absurd ((beqT_iff yapi_Rule rfl _ _).1 hb).symm h0
    rw [List.zipIdx_cons, List.map_cons, List.find?_cons]
    simp only [hb]
    have := lkR_first T r n (k + 1) (fun i hi e' he => h1 (i + 1) (by omega) e' (by simpa using he)) (fun e' he => h2 e' (by simpa using he)) (by simpa using h3)
    rw [this]
    congr 2
    omega
theorem lkR_at {r : RT} {n : Nat} {e : ET} (h1 : ∀ i, i < n → ∀ e, T[i]? = some e → e.1 ≠ r) (he : T[n]? = some e) (h2 : e.1 = r) : lkR T r = some ((n : Int) + 1) := by
  unfold lkR lk idx
  rw [lkR_first T r n 0 h1 (fun e' he' => by rw [he] at he'; cases he'; exact h2) (List.getElem?_eq_some_iff.1 he).1]
  simp
end Go.Proofs.YtnmgjpcooncjlaaGreat

/- The specification of the layer (evergreenref10): its calls answer as the store's list. -/
set_option linter.unusedVariables false
set_option linter.unusedSimpArgs false
namespace Go.Proofs.YtnmgjpcooncjlaaGreat
open Go.Den

variable {w0 w : World} {Ω : List Ob} {most : Int} {T : List ET} {j : Nat} 

theorem View.at_nil {ty : Ty} {s : Sl} {xs : List ty.T} {w : World} (v : View ty w s xs) : s.len = xs.length := v.len
theorem rulesOf_append (T : List ET) (e : ET) : rulesOf (T ++ [e]) = rulesOf T ++ [e.1] := by simp [rulesOf]
theorem lensOf_append (T : List ET) (e : ET) : lensOf (T ++ [e]) = lensOf T ++ [e.2.1.1] := by simp [lensOf]
theorem depsOf_append (T : List ET) (e : ET) : depsOf (T ++ [e]) = depsOf T ++ [e.2.2.1] := by simp [depsOf]
theorem lensOf_len (T : List ET) : (lensOf T).length = T.length := List.length_map _
theorem depsOf_len (T : List ET) : (depsOf T).length = T.length := List.length_map _

end Go.Proofs.YtnmgjpcooncjlaaGreat

/- The specification of the layer (evergreenref10): Letter, Pair, Power. -/
set_option linter.unusedVariables false
set_option linter.unusedSimpArgs false
namespace Go.Proofs.YtnmgjpcooncjlaaGreat
open Go.Den

variable {w0 w : World} {Ω : List Ob} {most : Int} {T : List ET} {j : Nat} 

theorem known_false_or {l r : Int} (hu : ¬(known T l = false ∨ known T r = false)) : known T l = true ∧ known T r = true := by
  cases h1 : known T l <;> cases h2 : known T r <;> simp_all
end Go.Proofs.YtnmgjpcooncjlaaGreat

/- The fixed example of the layer, and the calls of no store. -/
set_option linter.unusedVariables false
set_option linter.unusedSimpArgs false
namespace Go.Proofs.YtnmgjpcooncjlaaGreat
open Go.Den

variable {w0 : World}

theorem ext_fresh {B B' : Nat → Prop} {w1 w' : World} (e : Ext w0 w1) (k : Step B B' w1 w') (hB : ∀ b, B b → w0.heap.size ≤ b) : Ext w0 w' :=
  ⟨Nat.le_trans e.size k.fr.size, fun b hb _ => by
    rw [k.fr.same b (Nat.lt_of_lt_of_le hb e.size) (fun h => by have := hB b h; omega), e.same b hb (fun h => h)], k.fr.pub.1.trans e.pub.1, k.fr.pub.2.1.trans e.pub.2.1, k.fr.pub.2.2.trans e.pub.2.2⟩

def aw1 : List ET := [mkLetter 97]
def aw2 : List ET := aw1 ++ [mkLetter 98]
def aw3 : List ET := aw2 ++ [mkPair aw2 1 2]
def aw4 : List ET := aw3 ++ [mkPower aw3 3 5]
theorem aw_1 : pLetter [] 4 97 = (aw1, (1, .nilIface)) := by kernel_rfl
theorem aw_2 : pLetter aw1 4 98 = (aw2, (2, .nilIface)) := by kernel_rfl
theorem aw_3 : pPair aw2 4 1 2 = (aw3, (3, .nilIface)) := by kernel_rfl
theorem aw_4 : pPower aw3 4 3 5 = (aw4, (4, .nilIface)) := by kernel_rfl
theorem aw_5 : pPower aw4 4 3 6 = (aw4, (0, errV 3)) := by kernel_rfl

theorem partV_int (cs : Array Value) (off : Nat) : partV P t_int cs off = cs[off]? := by
  have h1 : (P.underlying t_int).isSome = true := by kernel_rfl
  have h2 : isAggP P t_int = false := by kernel_rfl
  unfold partV
  rw [h2]
  cases hu : P.underlying t_int with
  | none => rw [hu] at h1; cases h1
  | some d => rfl
theorem nil_part {x : Int} (h0 : 0 ≤ x) (h8 : x < 8) : partV P t_int #[.int .i64 5, .int .i64 5, .int .i64 5, .int .i64 5, .int .i64 5, .int .i64 5, .int .i64 5, .int .i64 5] (x.toNat * 1) = some (val (.int .i64) (5 : Int)) := by
  rw [partV_int, Nat.mul_one]
  have hn : x.toNat < 8 := by omega
  generalize x.toNat = n at hn
  rcases n with _ | _ | _ | _ | _ | _ | _ | _ | n
  all_goals first | rfl | omega

end Go.Proofs.YtnmgjpcooncjlaaGreat

/- The calls of the layer's statements as one function of lists, and that a second call changes nothing. -/
set_option linter.unusedVariables false
set_option linter.unusedSimpArgs false
namespace Go.Proofs.YtnmgjpcooncjlaaGreat
open Go.Den

variable {w0 : World}

abbrev OT := Int × Int × Int × Int × Int
def pOp (L : List ET) (most : Int) (o : OT) : List ET × (Int × Value) :=
  if o.1 % 3 = 0 then pLetter L most o.2.1 else if o.1 % 3 = 1 then pPair L most o.2.2.1 o.2.2.2.1 else pPower L most o.2.2.1 o.2.2.2.2
structure OpOK (o : OT) : Prop where
  kind : 0 ≤ o.1
  b : 0 ≤ o.2.1 ∧ o.2.1 < 256
  k : o.2.2.2.2 ≤ 9223372036854775807

theorem pAdd_twice {L : List ET} {most : Int} {e : ET} : (pAdd L most e).1 = L ∨ ((pAdd L most e) = (L ++ [e], ((L.length : Int) + 1, .nilIface)) ∧ ∀ e' : ET, e'.1 = e.1 → pAdd (L ++ [e]) most e' = (L ++ [e], ((L.length : Int) + 1, .nilIface))) := by
  cases hl : lkR L e.1 with
  | some i => left; rw [(pAdd_some (most := most) hl).2.1]
  | none =>
    by_cases hm : most ≤ L.length
    · left; rw [(pAdd_full (most := most) hl hm).2]
    · right
      refine ⟨(pAdd_new (most := most) hl hm).2, fun e' he => ?_⟩
      unfold pAdd
      rw [he, lkR_append_none hl, if_pos rfl]
theorem twice_of {L : List ET} {f : List ET → List ET × (Int × Value)} (h : (f L).1 = L ∨ f (f L).1 = f L) : f (f L).1 = f L := by
  rcases h with h | h
  · rw [h]
  · exact h
theorem pOp_twice {L : List ET} {most : Int} {o : OT} : pOp (pOp L most o).1 most o = pOp L most o := by
  refine twice_of (f := fun L => pOp L most o) ?_
  simp only [pOp]
  by_cases h0 : o.1 % 3 = 0
  · simp only [if_pos h0]
    rcases pAdd_twice (L := L) (most := most) (e := mkLetter o.2.1) with h | ⟨h, h'⟩
    · exact Or.inl h
    · right
      unfold pLetter
      rw [h]
      exact h' _ rfl
  · simp only [if_neg h0]
    by_cases h1 : o.1 % 3 = 1
    · simp only [if_pos h1]
      generalize o.2.2.1 = l
      generalize o.2.2.2.1 = r
      unfold pPair
      by_cases c1 : known L l = false ∨ known L r = false
      · left; rw [if_pos c1]
      · rw [if_neg c1]
        by_cases c2 : l = 0
        · left; rw [if_pos c2]
        · rw [if_neg c2]
          by_cases c3 : r = 0
          · left; rw [if_pos c3]
          · rw [if_neg c3]
            by_cases c4 : 1152921504606846976 < (eAt L l).2.1.1 + (eAt L r).2.1.1
            · left; rw [if_pos c4]
            · rw [if_neg c4]
              rcases pAdd_twice (L := L) (most := most) (e := mkPair L l r) with h | ⟨h, h'⟩
              · exact Or.inl h
              · right
                have kl : known L l = true := by
                  cases e : known L l
                  · exact absurd (Or.inl e) c1
                  · rfl
                have kr : known L r = true := by
                  cases e : known L r
                  · exact absurd (Or.inr e) c1
                  · rfl
                have bl := of_decide_eq_true kl
                have br := of_decide_eq_true kr
                rw [h]
                simp only
                rw [known_append kl, known_append kr, if_neg (by simp), if_neg c2, if_neg c3, eAt_append bl.1 bl.2, eAt_append br.1 br.2, if_neg c4]
                exact h' _ rfl
    · simp only [if_neg h1]
      generalize o.2.2.1 = x
      generalize o.2.2.2.2 = k
      unfold pPower
      by_cases c1 : known L x = false ∨ k < 0
      · left; rw [if_pos c1]
      · rw [if_neg c1]
        by_cases c2 : k = 0 ∨ x = 0
        · left; rw [if_pos c2]
        · rw [if_neg c2]
          by_cases c3 : k = 1
          · left; rw [if_pos c3]
          · rw [if_neg c3]
            by_cases c4 : 1152921504606846976 < (eAt L x).2.1.1 * k
            · left; rw [if_pos c4]
            · rw [if_neg c4]
              rcases pAdd_twice (L := L) (most := most) (e := mkPower L x k) with h | ⟨h, h'⟩
              · exact Or.inl h
              · right
                have kx : known L x = true := by
                  cases e : known L x
                  · exact absurd (Or.inl e) c1
                  · rfl
                have bx := of_decide_eq_true kx
                rw [h]
                simp only
                rw [known_append kx, if_neg (fun c => c1 (Or.inr (c.resolve_left (by simp)))), if_neg c2, if_neg c3, eAt_append bx.1 bx.2, if_neg c4]
                exact h' _ rfl

theorem pOp_err {L : List ET} {most : Int} {o : OT} : IsErr (pOp L most o).2.2 := by
  unfold pOp
  split
  · exact pLetter_err
  split
  · exact pPair_err
  · exact pPower_err

variable {B : Nat → Prop} {p : Addr} {most : Int} {L : List ET}
end Go.Proofs.YtnmgjpcooncjlaaGreat

/- The layer's calls of the store and of the specification side by side: do, Built. -/
set_option linter.unusedVariables false
set_option linter.unusedSimpArgs false
namespace Go.Proofs.YtnmgjpcooncjlaaGreat
open Go.Den

variable {w0 w : World} {Ω : List Ob} {most most' : Int} {T R : List ET} {i j : Nat}  {p : Addr}

theorem pAdd_grow {e : ET} (g : Grow T) (hg : lkR T e.1 = none → (T.length : Int) < most → Grow (T ++ [e])) (hl : (T.length : Int) ≤ most) : Grow (pAdd T most e).1 ∧ ((pAdd T most e).1.length : Int) ≤ most := by
  cases hf : lkR T e.1 with
  | some i => rw [(pAdd_some (most := most) hf).2.1]; exact ⟨g, hl⟩
  | none =>
    by_cases hm : most ≤ T.length
    · rw [(pAdd_full (most := most) hf hm).2]; exact ⟨g, hl⟩
    · rw [(pAdd_new (most := most) hf hm).2]
      refine ⟨hg hf (by omega), ?_⟩
      simp only [List.length_append, List.length_cons, List.length_nil]; omega
theorem pLetter_grow {b : Int} (g : Grow T) (hl : (T.length : Int) ≤ most) (hb : 0 ≤ b ∧ b < 256) : Grow (pLetter T most b).1 ∧ ((pLetter T most b).1.length : Int) ≤ most :=
  pAdd_grow g (fun h _ => .letter g hb.1 hb.2 h) hl
theorem pPair_grow {l r : Int} (g : Grow T) (hl : (T.length : Int) ≤ most) : Grow (pPair T most l r).1 ∧ ((pPair T most l r).1.length : Int) ≤ most := by
  unfold pPair
  split
  · exact ⟨g, hl⟩
  rename_i hu
  obtain ⟨kl, kr⟩ := known_false_or hu
  have bl := of_decide_eq_true kl
  have br := of_decide_eq_true kr
  split
  · exact ⟨g, hl⟩
  split
  · exact ⟨g, hl⟩
  split
  · exact ⟨g, hl⟩
  · exact pAdd_grow g (fun h _ => .pair g (by omega) bl.2 (by omega) br.2 (by omega) h) hl
theorem pPower_grow {x k : Int} (g : Grow T) (hl : (T.length : Int) ≤ most) : Grow (pPower T most x k).1 ∧ ((pPower T most x k).1.length : Int) ≤ most := by
  unfold pPower
  split
  · exact ⟨g, hl⟩
  rename_i hu
  have kx : known T x = true := by
    cases e : known T x
    · exact absurd (Or.inl e) hu
    · rfl
  have hk : ¬ k < 0 := fun h => hu (Or.inr h)
  have bx := of_decide_eq_true kx
  split
  · exact ⟨g, hl⟩
  split
  · exact ⟨g, hl⟩
  split
  · exact ⟨g, hl⟩
  · exact pAdd_grow g (fun h _ => .power g (by omega) bx.2 (by omega) (by omega) h) hl
theorem pOp_grow {o : OT} (g : Grow T) (hl : (T.length : Int) ≤ most) (ho : OpOK o) : Grow (pOp T most o).1 ∧ ((pOp T most o).1.length : Int) ≤ most := by
  unfold pOp
  split
  · exact pLetter_grow g hl ho.b
  split
  · exact pPair_grow g hl
  · exact pPower_grow g hl

def clip20 (n : Int) : Int := if n < 0 then 0 else if 1048576 < n then 1048576 else n
theorem clip20_bound (n : Int) : 0 ≤ clip20 n ∧ clip20 n ≤ 1048576 := by unfold clip20; grind
end Go.Proofs.YtnmgjpcooncjlaaGreat

/- What a list of rules is made of: each rule is of earlier ones; no rule stands there twice. -/
set_option linter.unusedVariables false
set_option linter.unusedSimpArgs false
namespace Go.Proofs.YtnmgjpcooncjlaaGreat
open Go.Den

inductive Shape (T : List ET) (id : Int) : Prop
  | letter (b : Int) : 0 ≤ b → b < 256 → eAt T id = mkLetter b → Shape T id
  | pair (l r : Int) : 1 ≤ l → l < id → 1 ≤ r → r < id → (eAt T l).2.1.1 + (eAt T r).2.1.1 ≤ 1152921504606846976 → eAt T id = mkPair T l r → Shape T id
  | power (x k : Int) : 1 ≤ x → x < id → 2 ≤ k → (eAt T x).2.1.1 * k ≤ 1152921504606846976 → eAt T id = mkPower T x k → Shape T id

theorem mkPair_append {T : List ET} {e : ET} {l r : Int} (hl : 0 ≤ l ∧ l ≤ T.length) (hr : 0 ≤ r ∧ r ≤ T.length) : mkPair (T ++ [e]) l r = mkPair T l r := by
  unfold mkPair
  rw [eAt_append hl.1 hl.2, eAt_append hr.1 hr.2]
theorem mkPower_append {T : List ET} {e : ET} {x k : Int} (hx : 0 ≤ x ∧ x ≤ T.length) : mkPower (T ++ [e]) x k = mkPower T x k := by
  unfold mkPower
  rw [eAt_append hx.1 hx.2]
theorem Shape.append {T : List ET} {e : ET} {id : Int} (h : Shape T id) (h1 : 1 ≤ id) (h2 : id ≤ T.length) : Shape (T ++ [e]) id := by
  have e1 := eAt_append (e := e) (by omega) h2
  cases h with
  | letter b h3 h4 h5 => exact .letter b h3 h4 (e1.trans h5)
  | pair l r h3 h4 h5 h6 h7 h8 =>
    refine .pair l r h3 h4 h5 h6 ?_ ?_
    · rw [eAt_append (by omega) (by omega), eAt_append (by omega) (by omega)]; exact h7
    · rw [e1, h8, mkPair_append (by omega) (by omega)]
  | power x k h3 h4 h5 h6 h7 =>
    refine .power x k h3 h4 h5 ?_ ?_
    · rw [eAt_append (by omega) (by omega)]; exact h6
    · rw [e1, h7, mkPower_append (by omega)]
theorem Grow.last {T : List ET} {e : ET} (h : Grow (T ++ [e])) : Grow T ∧ lkR T e.1 = none ∧ Shape (T ++ [e]) ((T.length : Int) + 1) := by
  generalize hL : T ++ [e] = L at h
  cases h with
  | nil => simp at hL
  | @letter L' b g h0 h1 hn =>
    obtain ⟨rfl, e1⟩ := List.append_inj' hL rfl
    cases e1
    exact ⟨g, hn, .letter b h0 h1 (eAt_last _ _)⟩
  | @pair L' l r g a1 a2 a3 a4 a5 hn =>
    obtain ⟨rfl, e1⟩ := List.append_inj' hL rfl
    cases e1
    refine ⟨g, hn, .pair l r a1 (by omega) a3 (by omega) ?_ ?_⟩
    · rw [eAt_append (by omega) (by omega), eAt_append (by omega) (by omega)]; exact a5
    · rw [eAt_last, mkPair_append (by omega) (by omega)]
  | @power L' x k g a1 a2 a3 a4 hn =>
    obtain ⟨rfl, e1⟩ := List.append_inj' hL rfl
    cases e1
    refine ⟨g, hn, .power x k a1 (by omega) a3 ?_ ?_⟩
    · rw [eAt_append (by omega) (by omega)]; exact a4
    · rw [eAt_last, mkPower_append (by omega)]
/-- from the empty list, rule by rule -/
theorem Grow.rec_ {M : List ET → Prop} (h0 : M []) (h1 : ∀ T e, Grow T → Grow (T ++ [e]) → M T → M (T ++ [e])) : ∀ {T : List ET}, Grow T → M T := by
  have key : ∀ n (T : List ET), T.length = n → Grow T → M T := by
    intro n
    induction n with
    | zero => intro T h g; rw [List.eq_nil_of_length_eq_zero h]; exact h0
    | succ n ih =>
      intro T h g
      obtain ⟨T', e, rfl⟩ : ∃ T' e, T = T' ++ [e] := ⟨T.dropLast, T.getLast (by intro h'; rw [h'] at h; simp at h), (List.dropLast_concat_getLast _).symm⟩
      exact h1 T' e g.last.1 g (ih T' (by simpa using h) g.last.1)
  exact fun {T} g => key _ T rfl g
theorem Grow.shape {T : List ET} (g : Grow T) : ∀ {id : Int}, 1 ≤ id → id ≤ T.length → Shape T id := by
  refine Grow.rec_ (M := fun T => ∀ {id : Int}, 1 ≤ id → id ≤ T.length → Shape T id) (fun h1 h2 => by simp at h2; omega) (fun T e _ g ih => ?_) g
  intro id h1 h2
  simp only [List.length_append, List.length_cons, List.length_nil] at h2
  by_cases h : id ≤ T.length
  · exact (ih h1 h).append h1 h
  · have : id = (T.length : Int) + 1 := by omega
    subst this
    exact g.last.2.2
theorem Grow.find {T : List ET} (g : Grow T) : ∀ {id : Int}, 1 ≤ id → id ≤ T.length → lkR T (eAt T id).1 = some id := by
  refine Grow.rec_ (M := fun T => ∀ {id : Int}, 1 ≤ id → id ≤ T.length → lkR T (eAt T id).1 = some id) (fun h1 h2 => by simp at h2; omega) (fun T e _ g ih => ?_) g
  intro id h1 h2
  simp only [List.length_append, List.length_cons, List.length_nil] at h2
  by_cases h : id ≤ T.length
  · rw [eAt_append (by omega) h]
    exact lkR_append_some (ih h1 h)
  · have : id = (T.length : Int) + 1 := by omega
    subst this
    rw [eAt_last, lkR_append_none g.last.2.1, if_pos rfl]
theorem lkR_rule {T : List ET} {r : RT} {i : Int} (h : lkR T r = some i) : (eAt T i).1 = r := by
  have hb := lkR_pos h
  unfold lkR lk at h
  cases hf : (Go.Proofs.YtnmgjpcooncjlaaGreat.idx T).find? (fun p => beqT yapi_Rule r p.1) with
  | none => rw [hf] at h; cases h
  | some p =>
    rw [hf] at h
    simp only [Option.map_some, Option.some.injEq] at h
    have hm := List.mem_of_find?_eq_some hf
    have hb := List.find?_some hf
    have hr := (beqT_iff yapi_Rule rfl _ _).1 hb
    unfold Go.Proofs.YtnmgjpcooncjlaaGreat.idx at hm
    obtain ⟨⟨a, n⟩, hq, rfl⟩ := List.mem_map.1 hm
    obtain ⟨_, h2, h3⟩ := List.mem_zipIdx hq
    have h' : (n : Int) + 1 = i := h
    have := eAt_get (L := T) (id := i) (by omega) (by omega)
    have e1 : (i - 1).toNat = n := by omega
    rw [e1] at this
    simp only [Nat.sub_zero] at h3
    have h4 : T[n]? = some a := by rw [h3]; exact List.getElem?_eq_getElem _
    rw [h4] at this
    cases this
    exact hr.symm

end Go.Proofs.YtnmgjpcooncjlaaGreat

/- The walk of InternAsks. -/
set_option linter.unusedVariables false
set_option linter.unusedSimpArgs false
namespace Go.Proofs.YtnmgjpcooncjlaaGreat
open Go.Den

variable {w0 w : World} {T : List ET}

theorem rulesOf_get {n : Nat} (h : n < T.length) : (rulesOf T)[n]? = some (eAt T ((n : Int) + 1)).1 := by
  have := eAt_get (L := T) (id := (n : Int) + 1) (by omega) (by omega)
  rw [show ((n : Int) + 1 - 1).toNat = n by omega] at this
  rw [rulesOf, List.getElem?_map, this]; rfl
theorem lensOf_get {n : Nat} (h : n < T.length) : (lensOf T)[n]? = some (eAt T ((n : Int) + 1)).2.1.1 := by
  have := eAt_get (L := T) (id := (n : Int) + 1) (by omega) (by omega)
  rw [show ((n : Int) + 1 - 1).toNat = n by omega] at this
  rw [lensOf, List.getElem?_map, this]; rfl
theorem depsOf_get {n : Nat} (h : n < T.length) : (depsOf T)[n]? = some (eAt T ((n : Int) + 1)).2.2.1 := by
  have := eAt_get (L := T) (id := (n : Int) + 1) (by omega) (by omega)
  rw [show ((n : Int) + 1 - 1).toNat = n by omega] at this
  rw [depsOf, List.getElem?_map, this]; rfl

end Go.Proofs.YtnmgjpcooncjlaaGreat

/- The check of rules, and the import of a list of rules: package rule, package intern, and the specification. -/
set_option linter.unusedVariables false
set_option linter.unusedSimpArgs false
namespace Go.Proofs.YtnmgjpcooncjlaaGreat
open Go.Den

variable {w0 w : World} {Ω : List Ob} {most : Int} {T : List ET} {i j : Nat}  {p : Addr}

/-! ### The check -/
def refs (r : RT) : List (Ty.int .i64).T := if r.1 = 2 then [r.2.2.1, r.2.2.2.1] else if r.1 = 3 then [r.2.2.1] else []
def formB (r : RT) : Bool :=
  if r.1 = 1 then decide (r.2.2.1 = 0 ∧ r.2.2.2.1 = 0 ∧ r.2.2.2.2 = 0) else
  if r.1 = 2 then decide (r.2.1 = 0 ∧ r.2.2.2.2 = 0) else
  if r.1 = 3 then decide (r.2.1 = 0 ∧ r.2.2.2.1 = 0 ∧ 2 ≤ r.2.2.2.2) else false
def placeB (r : RT) (n : Int) : Bool := decide (1 ≤ n ∧ ∀ x ∈ refs r, 1 ≤ x ∧ x < n)
def chk (r : RT) (n : Int) : Int := if formB r then (if placeB r n then 0 else 1) else 4
def chkV (r : RT) (n : Int) : Value := if chk r n = 0 then .nilIface else errV (chk r n)

theorem refs_len (r : RT) : (refs r).length ≤ 2 := by
  unfold refs
  split
  · exact Nat.le_refl 2
  split
  · exact (by decide : 1 ≤ 2)
  · exact Nat.zero_le 2
theorem placeB_1 {r : RT} {n : Int} (h : r.1 = 1) : placeB r n = decide (1 ≤ n) := by simp [placeB, refs, h]
theorem placeB_2 {r : RT} {n : Int} (h : r.1 = 2) : placeB r n = decide (1 ≤ n ∧ (1 ≤ r.2.2.1 ∧ r.2.2.1 < n) ∧ (1 ≤ r.2.2.2.1 ∧ r.2.2.2.1 < n)) := by simp [placeB, refs, h]
theorem placeB_3 {r : RT} {n : Int} (h : r.1 = 3) : placeB r n = decide (1 ≤ n ∧ 1 ≤ r.2.2.1 ∧ r.2.2.1 < n) := by simp [placeB, refs, h]

theorem rule_Refs_spec {r : RT} (s : Sp w0 Ω w) {K : Sl → World → Prop} (h : ∀ sl w', Sp w0 (own (.int .i64) sl (refs r) :: Ω) w' → K sl w') : C_rule_Refs r K w := by
  apply S_rule_Refs
  unfold F_rule_Refs
  refine s.allocK fun a1 w1 s => s.ldi (x := r.1) 0 0 rfl rfl (gd_eq (fun c1 => ?_) (fun c1 => gd_eq (fun c2 => ?_) (fun c2 => ?_)))
  · have e : refs r = [r.2.2.1, r.2.2.2.1] := by unfold refs; rw [if_pos c1]
    rw [e] at h
    exact s.ldi (x := r.2.2.1) 0 2 rfl rfl (s.ldi (x := r.2.2.2.1) 0 3 rfl rfl (s.allocK fun a2 w2 s => h _ _ ((s.lit (ty := .int .i64) 0 rfl [r.2.2.1, r.2.2.2.1] 2 rfl rfl).pick [0] 2 rfl (by decide))))
  · have e : refs r = [r.2.2.1] := by unfold refs; rw [if_neg c1, if_pos c2]
    rw [e] at h
    exact s.ldi (x := r.2.2.1) 0 2 rfl rfl (s.allocK fun a2 w2 s => h _ _ ((s.lit (ty := .int .i64) 0 rfl [r.2.2.1] 1 rfl rfl).pick [0] 2 rfl (by decide)))
  · have e : refs r = [] := by unfold refs; rw [if_neg c1, if_neg c2]
    rw [e] at h
    exact h _ _ (s.pop.nil (.int .i64))
theorem rule_place_spec {r : RT} {n : Int} (hn : n ≤ 9223372036854775807) (s : Sp w0 Ω w) {K : Value → World → Prop} (h : ∀ w', Sp w0 Ω w' → K (if placeB r n then .nilIface else errV 1) w') : C_rule_place r n K w := by
  apply S_rule_place
  unfold F_rule_place
  refine s.allocK fun a1 w1 s => gd_dec (fun c => ?_) (fun c => s.ld0 0 rfl rfl (rule_Refs_spec s fun sl w2 s => ?_))
  · rw [if_neg (by simp [placeB]; omega)] at h
    exact h _ s.pop
  refine loop_by (fun x => x.1) (refs r).length (fun k _ w => (∀ i, i < k → ∀ x : Int, (refs r)[i]? = some x → 1 ≤ x ∧ x < n) ∧ Sp w0 (own (.int .i64) sl (refs r) :: cel a1 (cells yapi_Rule r) :: Ω) w) rfl ⟨fun i hi => by omega, s⟩ ?_
  rintro k ⟨x, _⟩ w3 hk hx ⟨ha, s⟩ _
  dsimp only at hx ⊢
  subst hx
  have hlen := (s.view 0 rfl).len
  refine gd_dec (fun hlt => ?_) (fun hge => ?_)
  · have hk' : k < (refs r).length := by omega
    obtain ⟨x, hx⟩ : ∃ x : Int, (refs r)[k]? = some x := ⟨_, List.getElem?_eq_getElem hk'⟩
    have hk2 := refs_len r
    refine (s.view 0 rfl).idx rfl hx rfl fun q hq => ⟨_, hq, ⟨fun y w => y.1 = !decide (1 ≤ (x : Int) ∧ (x : Int) < n) ∧ w = w3, gd_dec (fun c1 => ⟨?_, rfl⟩) (fun c1 => arith_i64 (by omega) (by omega) ⟨?_, rfl⟩), ?_⟩⟩
    · simp; omega
    · rw [← decide_not]; exact decide_eq_decide.2 (by omega)
    rintro ⟨y, _⟩ w4 ⟨hy, rfl⟩ _
    dsimp only at hy
    by_cases c1 : 1 ≤ (x : Int) ∧ (x : Int) < n
    · refine gd_f (by rw [hy]; simp [c1]) (arith_i64 (by omega) (by omega) (loop_nx hk' ⟨fun i hi y hy => ?_, s⟩))
      by_cases hik : i < k
      · exact ha i hik y hy
      · have : i = k := by omega
        subst this
        rw [hx] at hy
        cases hy
        exact c1
    · refine gd_t (by rw [hy]; simp; omega) ?_
      rw [if_neg (by
        simp only [placeB, decide_eq_true_eq, not_and]
        exact fun _ h => c1 (h x (List.mem_of_getElem? hx)))] at h
      exact h _ (s.drop 2)
  · rw [if_pos (by
      simp only [placeB, decide_eq_true_eq]
      refine ⟨by omega, fun x hx => ?_⟩
      obtain ⟨i, hi⟩ := List.getElem?_of_mem hx
      exact ha i (by have := (List.getElem?_eq_some_iff.1 hi).1; omega) x hi)] at h
    exact h _ (s.drop 2)
theorem rule_Check_spec {r : RT} {n : Int} (hn : n ≤ 9223372036854775807) (s : Sp w0 Ω w) {K : Value → World → Prop} (h : ∀ w', Sp w0 Ω w' → K (chkV r n) w') : C_rule_Check r n K w := by
  apply S_rule_Check
  unfold F_rule_Check
  refine s.allocK fun a1 w1 s => ⟨fun x w => x.1 = formB r ∧ Sp w0 (cel a1 (cells yapi_Rule r) :: Ω) w, ?_, ?_⟩
  · refine s.ldi (x := r.1) 0 0 rfl rfl (gd_eq (fun c1 => s.ldi (x := r.2.2.1) 0 2 rfl rfl (gd_eq (fun c2 => s.ldi (x := r.2.2.2.1) 0 3 rfl rfl (gd_eq (fun c3 => s.ldi (x := r.2.2.2.2) 0 4 rfl rfl ⟨?_, s⟩) (fun c3 => ⟨?_, s⟩))) (fun c2 => ⟨?_, s⟩)))
      (fun c1 => gd_eq (fun c2 => s.ldi (x := r.2.1) 0 1 rfl rfl (gd_eq (fun c3 => s.ldi (x := r.2.2.2.2) 0 4 rfl rfl ⟨?_, s⟩) (fun c3 => ⟨?_, s⟩)))
        (fun c2 => gd_eq (fun c3 => s.ldi (x := r.2.1) 0 1 rfl rfl (gd_eq (fun c4 => s.ldi (x := r.2.2.2.1) 0 3 rfl rfl (gd_eq (fun c5 => s.ldi (x := r.2.2.2.2) 0 4 rfl rfl ⟨?_, s⟩) (fun c5 => ⟨?_, s⟩))) (fun c4 => ⟨?_, s⟩))) (fun c3 => ⟨?_, s⟩))))
    all_goals rw [Bool.eq_iff_iff]
    all_goals first | (simp [formB, c1, c2, c3, c4, c5]; done) | (simp [formB, c1, c2, c3, c4]; done) | (simp [formB, c1, c2, c3]; done) | (simp [formB, c1, c2]; done) | (simp [formB, c1]; done)
  · rintro ⟨x, _⟩ w2 ⟨hx, s⟩ _
    dsimp only at hx
    subst hx
    unfold chkV chk at h
    cases hf : formB r
    · rw [hf] at h
      exact gd_t rfl (h _ s.pop)
    · rw [hf] at h
      refine gd_f rfl (s.ld0 0 rfl rfl (rule_place_spec hn s fun w3 s => ?_))
      cases hp : placeB r n
      · rw [hp] at h
        exact h _ s.pop
      · rw [hp] at h
        exact h _ s.pop
end Go.Proofs.YtnmgjpcooncjlaaGreat

/- What rules reach, and the list of that in order. -/
set_option linter.unusedVariables false
set_option linter.unusedSimpArgs false
namespace Go.Proofs.YtnmgjpcooncjlaaGreat
open Go.Den

variable {T : List ET} {S : List Int}

inductive Rch (T : List ET) (S : List Int) : Int → Prop
  | root {x : Int} : x ∈ S → x ≠ 0 → Rch T S x
  | ref {y x : Int} : Rch T S y → x ∈ refs (eAt T y).1 → Rch T S x

theorem refs_in (g : Grow T) {y x : Int} (h1 : 1 ≤ y) (h2 : y ≤ T.length) (h : x ∈ refs (eAt T y).1) : 1 ≤ x ∧ x < y := by
  cases g.shape h1 h2 with
  | letter b _ _ e => rw [e] at h; simp [refs, mkLetter] at h
  | pair l r _ _ _ _ _ e =>
    rw [e] at h
    have : x = l ∨ x = r := by simpa [refs, mkPair] using h
    rcases this with rfl | rfl <;> omega
  | power a k _ _ _ _ e =>
    rw [e] at h
    have : x = a := by simpa [refs, mkPower] using h
    subst this; omega
theorem Rch.bound (g : Grow T) (hS : ∀ x ∈ S, 0 ≤ x ∧ x ≤ T.length) {x : Int} (h : Rch T S x) : 1 ≤ x ∧ x ≤ T.length := by
  induction h with
  | root h1 h2 => have := hS _ h1; omega
  | ref h1 h2 ih =>
    have := refs_in g ih.1 ih.2 h2
    omega
noncomputable def rlist (T : List ET) (S : List Int) : List Int := ((List.range T.length).map fun i : Nat => (i : Int) + 1).filter fun x => @decide (Rch T S x) (Classical.propDecidable _)
theorem mem_rlist {x : Int} : x ∈ rlist T S ↔ (1 ≤ x ∧ x ≤ T.length) ∧ Rch T S x := by
  unfold rlist
  rw [List.mem_filter]
  have : x ∈ ((List.range T.length).map fun i : Nat => (i : Int) + 1) ↔ 1 ≤ x ∧ x ≤ T.length := by
    rw [List.mem_map]
    constructor
    · rintro ⟨i, hi, rfl⟩
      have := List.mem_range.1 hi
      omega
    · intro h
      exact ⟨(x - 1).toNat, List.mem_range.2 (by omega), by omega⟩
  rw [this]
  simp
theorem rlist_sorted : (rlist T S).Pairwise (fun x y => x < y) := by
  unfold rlist
  refine List.Pairwise.filter _ ?_
  rw [List.pairwise_map]
  exact List.pairwise_lt_range.imp fun h => by omega
theorem rlist_nodup : (rlist T S).Nodup := rlist_sorted.imp fun h => by omega
theorem rlist_mem (g : Grow T) (hS : ∀ x ∈ S, 0 ≤ x ∧ x ≤ T.length) {x : Int} : x ∈ rlist T S ↔ Rch T S x := by
  rw [mem_rlist]
  exact ⟨fun h => h.2, fun h => ⟨h.bound g hS, h⟩⟩
theorem sorted_unique {L M : List Int} (hL : L.Pairwise (fun x y => x < y)) (hM : M.Pairwise (fun x y => x < y)) (h : ∀ x, x ∈ L ↔ x ∈ M) : L = M := by
  induction L generalizing M with
  | nil =>
    cases M with
    | nil => rfl
    | cons y M => have := (h y).2 (by simp); cases this
  | cons x L ih =>
    cases M with
    | nil => have := (h x).1 (by simp); cases this
    | cons y M =>
      rw [List.pairwise_cons] at hL hM
      have hxy : x = y := by
        have h1 := (h x).1 (by simp)
        have h2 := (h y).2 (by simp)
        rcases List.mem_cons.1 h1 with h1 | h1
        · exact h1
        · rcases List.mem_cons.1 h2 with h2 | h2
          · exact h2.symm
          · have := hM.1 x h1; have := hL.1 y h2; omega
      subst hxy
      congr 1
      refine ih hL.2 hM.2 fun z => ?_
      have := h z
      simp only [List.mem_cons] at this
      constructor
      · intro hz
        rcases this.1 (Or.inr hz) with rfl | h'
        · have := hL.1 z hz; omega
        · exact h'
      · intro hz
        rcases this.2 (Or.inr hz) with rfl | h'
        · have := hM.1 z hz; omega
        · exact h'
theorem srt_lt {L : List Int} (hn : L.Nodup) : (srt L).Pairwise (fun x y => x < y) := by
  have h1 := srt_sorted L
  have h2 : (srt L).Nodup := (srt_perm L).nodup_iff.2 hn
  exact (h1.and h2).imp fun ⟨a, b⟩ => by omega
theorem srt_rlist (g : Grow T) (hS : ∀ x ∈ S, 0 ≤ x ∧ x ≤ T.length) {L : List Int} (hn : L.Nodup) (h : ∀ x, x ∈ L ↔ Rch T S x) : srt L = rlist T S :=
  sorted_unique (srt_lt hn) rlist_sorted fun x => by rw [(srt_perm L).mem_iff, h, rlist_mem g hS]
theorem rlist_zero : rlist T [0] = [] := by
  apply List.eq_nil_iff_forall_not_mem.2
  intro x hx
  have h := (mem_rlist.1 hx).2
  have key : ∀ x, Rch T [0] x → False := by
    intro x h
    induction h with
    | root h1 h2 => simp at h1; exact h2 h1
    | ref _ _ ih => exact ih
  exact key x h
theorem rlist_len (T : List ET) (S : List Int) : (rlist T S).length ≤ T.length := by
  unfold rlist
  refine Nat.le_trans (List.length_filter_le _ _) ?_
  simp

/-- a list of different numbers from 1 to n is no longer than n -/
theorem nodup_bound {L : List Int} {n : Nat} (hn : L.Nodup) (h : ∀ x ∈ L, 1 ≤ x ∧ x ≤ n) : L.length ≤ n := by
  have hp : srt L = ((List.range n).map fun i : Nat => (i : Int) + 1).filter (fun x => decide (x ∈ L)) := by
    refine sorted_unique (srt_lt hn) (List.Pairwise.filter _ (by rw [List.pairwise_map]; exact List.pairwise_lt_range.imp fun h => by omega)) fun x => ?_
    rw [(srt_perm L).mem_iff, List.mem_filter, List.mem_map]
    constructor
    · intro hx
      have := h x hx
      exact ⟨⟨(x - 1).toNat, List.mem_range.2 (by omega), by omega⟩, decide_eq_true hx⟩
    · intro hx
      exact of_decide_eq_true hx.2
  have h1 := srt_len L
  rw [hp] at h1
  rw [← h1]
  refine Nat.le_trans (List.length_filter_le _ _) ?_
  simp

/-! ### Positions -/
def ent (ids : List Int) : List ((Ty.int .i64).T × (Ty.int .i64).T) := ids.zipIdx.map fun p => (p.1, (p.2 : Int) + 1)
theorem ent_append (ids : List Int) (x : Int) : ent (ids ++ [x]) = ent ids ++ [(x, (ids.length : Int) + 1)] := by
  simp [ent, List.zipIdx_append]
theorem lk_append {kt vt : Ty} {es fs : List (kt.T × vt.T)} {x : kt.T} : lk (es ++ fs) x = (lk es x).or (lk fs x) := by
  unfold lk
  rw [List.find?_append]
  cases es.find? (fun p => beqT kt x p.1) <;> rfl
theorem lk_one {kt vt : Ty} (hk : leafT kt = true) {k x : kt.T} {v : vt.T} [DecidableEq kt.T] : lk [(k, v)] x = if x = k then some v else none := by
  unfold lk
  by_cases h : x = k
  · rw [if_pos h]
    have : beqT kt x k = true := (beqT_iff kt hk _ _).2 h
    simp [this]
  · rw [if_neg h]
    have : beqT kt x k = false := by
      cases hb : beqT kt x k
      · rfl
      · exact absurd ((beqT_iff kt hk _ _).1 hb) h
    simp [this]
theorem lk_ent_none {ids : List Int} {y : Int} (h : y ∉ ids) : lk (ent ids) y = none := by
  unfold lk
  have : (ent ids).find? (fun p => beqT (.int .i64) y p.1) = none := by
    rw [List.find?_eq_none]
    intro p hp hb
    have e := (beqT_iff (.int .i64) rfl _ _).1 hb
    unfold ent at hp
    obtain ⟨⟨a, i⟩, hq, rfl⟩ := List.mem_map.1 hp
    have := (List.mem_zipIdx hq).2.2
    exact h (by rw [show y = a from e, this]; exact List.getElem_mem _)
  rw [this]; rfl
theorem snoc_ind {α : Type} {M : List α → Prop} (h0 : M []) (h1 : ∀ L x, M L → M (L ++ [x])) (L : List α) : M L := by
  have key : ∀ (n : Nat) (L : List α), L.length = n → M L := by
    intro n
    induction n with
    | zero => intro L h; rw [List.eq_nil_of_length_eq_zero h]; exact h0
    | succ n ih =>
      intro L h
      obtain ⟨L', e, rfl⟩ : ∃ L' e, L = L' ++ [e] := ⟨L.dropLast, L.getLast (by intro h'; rw [h'] at h; simp at h), (List.dropLast_concat_getLast _).symm⟩
      exact h1 L' e (ih L' (by simpa using h))
  exact key _ L rfl
theorem lk_ent_some : ∀ {ids : List Int} {y : Int} {k : Nat}, ids.Nodup → ids[k]? = some y → lk (ent ids) y = some ((k : Int) + 1) := by
  intro ids
  refine snoc_ind (M := fun ids => ∀ {y : Int} {k : Nat}, ids.Nodup → ids[k]? = some y → lk (ent ids) y = some ((k : Int) + 1)) ?_ ?_ ids
  · intro y k _ h; simp at h
  · intro L x ih y k hn h
    rw [List.nodup_append] at hn
    rw [ent_append, lk_append]
    by_cases hk : k < L.length
    · rw [List.getElem?_append_left hk] at h
      rw [ih hn.1 h]; rfl
    · have hk' : k = L.length := by
        have := (List.getElem?_eq_some_iff.1 h).1
        simp at this; omega
      subst hk'
      have hx : x = y := by simpa using h
      subst hx
      rw [lk_ent_none (fun hm => (hn.2.2 x hm x (by simp)) rfl), lk_one rfl, if_pos rfl]
      rfl
def pos (ids : List Int) (y : Int) : Int := (lk (ent ids) y).getD (0 : Int)
theorem pos_none {ids : List Int} {y : Int} (h : y ∉ ids) : pos ids y = 0 := by unfold pos; rw [lk_ent_none h]; rfl
theorem pos_some {ids : List Int} {y : Int} {k : Nat} (hn : ids.Nodup) (h : ids[k]? = some y) : pos ids y = (k : Int) + 1 := by unfold pos; rw [lk_ent_some hn h]; rfl

/-! ### The grammar of a list of rules -/
def mvr (ids : List Int) (r : RT) : RT := (r.1, r.2.1, pos ids r.2.2.1, pos ids r.2.2.2.1, r.2.2.2.2)
def exp (T : List ET) (ids : List Int) : List yapi_Rule.T := ids.map fun x => mvr ids (eAt T x).1
theorem exp_len (T : List ET) (ids : List Int) : (exp T ids).length = ids.length := List.length_map _
structure Closed (T : List ET) (ids : List Int) : Prop where
  sorted : ids.Pairwise (fun x y => x < y)
  bound : ∀ x ∈ ids, 1 ≤ x ∧ x ≤ T.length
  refs : ∀ y ∈ ids, ∀ x ∈ refs (eAt T y).1, x ∈ ids
theorem Closed.nodup {ids : List Int} (h : Closed T ids) : ids.Nodup := h.sorted.imp fun h => by omega
theorem rlist_closed (g : Grow T) (hS : ∀ x ∈ S, 0 ≤ x ∧ x ≤ T.length) : Closed T (rlist T S) :=
  ⟨rlist_sorted, fun x hx => (mem_rlist.1 hx).1, fun y hy x hx => (rlist_mem g hS).2 (.ref (mem_rlist.1 hy).2 hx)⟩
theorem sorted_lt {ids : List Int} (hs : ids.Pairwise (fun x y => x < y)) {i j : Nat} {x y : Int} (hi : ids[i]? = some x) (hj : ids[j]? = some y) : x < y ↔ i < j := by
  have key : ∀ {i j : Nat} {x y : Int}, ids[i]? = some x → ids[j]? = some y → i < j → x < y := by
    intro i j x y hi hj h
    have := (List.pairwise_iff_getElem.1 hs) i j (List.getElem?_eq_some_iff.1 hi).1 (List.getElem?_eq_some_iff.1 hj).1 h
    rwa [(List.getElem?_eq_some_iff.1 hi).2, (List.getElem?_eq_some_iff.1 hj).2] at this
  constructor
  · intro h
    rcases Nat.lt_trichotomy i j with h' | h' | h'
    · exact h'
    · subst h'; rw [hi] at hj; cases hj; omega
    · have := key hj hi h'; omega
  · exact key hi hj

end Go.Proofs.YtnmgjpcooncjlaaGreat

/- law51: which commits are kept (compact.Keep). -/
set_option linter.unusedVariables false
set_option linter.unusedSimpArgs false
namespace Go.Proofs.YtnmgjpcooncjlaaGreat
open Go.Den

variable {w0 w : World} {Ω : List Ob} {i j a b c g a' b' t r : Nat} {csl : Sl} {cs : List CM} {C : List CT} {m : List (ByteArray × TG)} {S : List Int}

/-- parents come before their children -/
def WFC (C : List CT) : Prop := ∀ (k : Nat) (d : CT), C[k]? = some d → d.1.length ≤ 8 ∧ ∀ p ∈ d.1, 0 ≤ p ∧ p < (k : Int)
inductive An (C : List CT) (S : List Int) : Nat → Prop
  | root {x : Nat} : (x : Int) ∈ S → An C S x
  | ref {y x : Nat} {d : CT} : An C S y → C[y]? = some d → (x : Int) ∈ d.1 → An C S x
theorem An.iff {x : Nat} : An C S x ↔ (x : Int) ∈ S ∨ ∃ (y : Nat) (d : CT), An C S y ∧ C[y]? = some d ∧ (x : Int) ∈ d.1 := by
  constructor
  · intro h
    cases h with
    | root h => exact Or.inl h
    | @ref y _ d h1 h2 h3 => exact Or.inr ⟨y, d, h1, h2, h3⟩
  · rintro (h | ⟨y, d, h1, h2, h3⟩)
    · exact .root h
    · exact .ref h1 h2 h3
theorem An.congr {S' : List Int} (h : ∀ z, z ∈ S ↔ z ∈ S') {x : Nat} (hx : An C S x) : An C S' x := by
  induction hx with
  | root h1 => exact .root ((h _).1 h1)
  | ref _ h2 h3 ih => exact .ref ih h2 h3
/-- marks -/
def MK (N : Nat) (inl : List Ty.bool.T) (q : Nat → Prop) : Prop := inl.length = N ∧ ∀ x : Nat, x < N → ∃ b : Bool, inl[x]? = some b ∧ (b = true ↔ q x)
theorem MK.iff {N : Nat} {inl : List Ty.bool.T} {q q' : Nat → Prop} (h : MK N inl q) (e : ∀ x, x < N → (q x ↔ q' x)) : MK N inl q' :=
  ⟨h.1, fun x hx => by obtain ⟨b, h1, h2⟩ := h.2 x hx; exact ⟨b, h1, h2.trans (e x hx)⟩⟩
theorem MK.put {N k : Nat} {inl : List Ty.bool.T} {q : Nat → Prop} (h : MK N inl q) (hk : k < N) : MK N (inl.set k true) (fun x => q x ∨ x = k) := by
  have hl := h.1
  refine ⟨by rw [List.length_set]; exact hl, fun x hx => ?_⟩
  rw [List.getElem?_set]
  by_cases c : k = x
  · subst c
    exact ⟨true, by rw [if_pos rfl, if_pos (by omega)], by simp⟩
  · obtain ⟨b, h1, h2⟩ := h.2 x hx
    exact ⟨b, by rw [if_neg c]; exact h1, by rw [h2]; simp [Ne.symm c]⟩
theorem MK.none (N : Nat) : MK N (List.replicate N false) (fun _ => False) :=
  ⟨by simp, fun x hx => ⟨false, by rw [List.getElem?_replicate, if_pos hx], by simp⟩⟩
/-- the kept numbers from k on -/
noncomputable def kl (C : List CT) (S : List Int) (k N : Nat) : List Int := ((List.range N).filter fun i => @decide (k ≤ i ∧ An C S i) (Classical.propDecidable _)).map fun i : Nat => (i : Int)
theorem kl_mem {k N : Nat} {x : Int} : x ∈ kl C S k N ↔ ∃ n : Nat, x = n ∧ n < N ∧ k ≤ n ∧ An C S n := by
  unfold kl
  rw [List.mem_map]
  constructor
  · rintro ⟨n, hn, rfl⟩
    obtain ⟨h1, h2⟩ := List.mem_filter.1 hn
    exact ⟨n, rfl, List.mem_range.1 h1, @of_decide_eq_true _ (Classical.propDecidable _) h2⟩
  · rintro ⟨n, rfl, h1, h2⟩
    exact ⟨n, List.mem_filter.2 ⟨List.mem_range.2 h1, @decide_eq_true _ (Classical.propDecidable _) h2⟩, rfl⟩
theorem kl_sorted (k N : Nat) : (kl C S k N).Pairwise (fun x y => x < y) := by
  unfold kl
  rw [List.pairwise_map]
  exact (List.pairwise_lt_range.filter _).imp fun h => by omega
theorem kl_len (k N : Nat) : (kl C S k N).length ≤ N := by
  unfold kl
  rw [List.length_map]
  exact Nat.le_trans (List.length_filter_le _ _) (by simp)
theorem kl_top (N : Nat) : kl C S N N = [] := by
  apply List.eq_nil_iff_forall_not_mem.2
  intro x hx
  obtain ⟨n, _, h1, h2, _⟩ := kl_mem.1 hx
  omega
theorem kl_step {k N : Nat} (hk : k < N) : (An C S k → kl C S k N = (k : Int) :: kl C S (k + 1) N) ∧ (¬ An C S k → kl C S k N = kl C S (k + 1) N) := by
  constructor
  · intro h
    refine sorted_unique (kl_sorted k N) (List.pairwise_cons.2 ⟨fun y hy => ?_, kl_sorted _ _⟩) fun x => ?_
    · obtain ⟨n, rfl, _, h2, _⟩ := kl_mem.1 hy
      omega
    · rw [List.mem_cons, kl_mem, kl_mem]
      constructor
      · rintro ⟨n, rfl, h1, h2, h3⟩
        by_cases c : n = k
        · exact Or.inl (by rw [c])
        · exact Or.inr ⟨n, rfl, h1, by omega, h3⟩
      · rintro (rfl | ⟨n, rfl, h1, h2, h3⟩)
        · exact ⟨k, rfl, hk, Nat.le_refl _, h⟩
        · exact ⟨n, rfl, h1, by omega, h3⟩
  · intro h
    refine sorted_unique (kl_sorted k N) (kl_sorted _ _) fun x => ?_
    rw [kl_mem, kl_mem]
    constructor
    · rintro ⟨n, rfl, h1, h2, h3⟩
      have : n ≠ k := fun e => h (e ▸ h3)
      exact ⟨n, rfl, h1, by omega, h3⟩
    · rintro ⟨n, rfl, h1, h2, h3⟩
      exact ⟨n, rfl, h1, by omega, h3⟩
/-- what is marked when the commits from k on have marked their parents -/
def MarkQ (C : List CT) (S : List Int) (k : Nat) (x : Nat) : Prop := (x : Int) ∈ S ∨ ∃ (y : Nat) (d : CT), k ≤ y ∧ An C S y ∧ C[y]? = some d ∧ (x : Int) ∈ d.1
theorem MarkQ.zero {x : Nat} : MarkQ C S 0 x ↔ An C S x := by
  rw [An.iff]
  unfold MarkQ
  constructor
  · rintro (h | ⟨y, d, _, h⟩)
    · exact Or.inl h
    · exact Or.inr ⟨y, d, h⟩
  · rintro (h | ⟨y, d, h⟩)
    · exact Or.inl h
    · exact Or.inr ⟨y, d, Nat.zero_le _, h⟩
theorem MarkQ.at_ (hw : WFC C) {k : Nat} : MarkQ C S (k + 1) k ↔ An C S k := by
  rw [An.iff]
  unfold MarkQ
  constructor
  · rintro (h | ⟨y, d, _, h⟩)
    · exact Or.inl h
    · exact Or.inr ⟨y, d, h⟩
  · rintro (h | ⟨y, d, h1, h2, h3⟩)
    · exact Or.inl h
    · exact Or.inr ⟨y, d, by have := (hw y d h2).2 _ h3; omega, h1, h2, h3⟩
theorem MarkQ.top {N x : Nat} (hN : C.length ≤ N) : MarkQ C S N x ↔ (x : Int) ∈ S := by
  unfold MarkQ
  refine ⟨fun h => h.elim id ?_, Or.inl⟩
  rintro ⟨y, d, h1, _, h2, _⟩
  have := (List.getElem?_eq_some_iff.1 h2).1
  omega
theorem MarkQ.step {k x : Nat} {d : CT} (hd : C[k]? = some d) : MarkQ C S k x ↔ MarkQ C S (k + 1) x ∨ (An C S k ∧ (x : Int) ∈ d.1) := by
  unfold MarkQ
  constructor
  · rintro (h | ⟨y, e, h1, h2, h3, h4⟩)
    · exact Or.inl (Or.inl h)
    · by_cases c : y = k
      · subst c
        rw [hd] at h3
        cases h3
        exact Or.inr ⟨h2, h4⟩
      · exact Or.inl (Or.inr ⟨y, e, by omega, h2, h3, h4⟩)
  · rintro ((h | ⟨y, e, h1, h2⟩) | ⟨h1, h2⟩)
    · exact Or.inl h
    · exact Or.inr ⟨y, e, by omega, h2⟩
    · exact Or.inr ⟨k, d, Nat.le_refl _, h1, hd, h2⟩

theorem compact_Keep_spec (G : Gh Ω a b c g csl cs C) (R : Rt Ω a' b' t r m) (s : Sp w0 Ω w) (hw : WFC C) (hC : C.length ≤ 60000) (hm : m.length ≤ 2000000) (hS : ∀ z : Int, z ∈ S ↔ ∃ p ∈ m, p.2.1 = z) (hSb : ∀ z ∈ S, 0 ≤ z ∧ z < (C.length : Int)) {K : Sl × Value → World → Prop}
    (h : ∀ sl w', Sp w0 (own (.int .i64) sl (kl C S 0 C.length) :: Ω) w' → K (sl, .nilIface) w') : C_compact_Keep (some ⟨g, 0, none⟩) (some ⟨t, 0, none⟩) K w := by
  apply S_compact_Keep
  unfold F_compact_Keep
  refine JoinP.inl (gd_f rfl ?_)
  intro _
  refine gd_f rfl (history_Len_spec G s ⟨by omega, by omega, by omega, by omega, s.mkS .bool false C.length C.length (Nat.le_refl _) (fun a4 w1 s => ?_) rfl (by rw [Int.toNat_natCast]; rfl)⟩)
  rw [Int.toNat_natCast]
  refine refs_Targets_spec R.cons s hm fun sl5 ys w2 hys hyl s => ?_
  have hyS : ∀ z : Int, z ∈ ys ↔ z ∈ S := fun z => (hys z).trans (hS z).symm
  have hyl5 := (s.vw_ 0 rfl).len
  refine loop_by (fun x => x.1) ys.length (fun n _ w => ∃ inl, MK C.length inl (fun x => (x : Int) ∈ ys.take n) ∧ Sp w0 (vw (.int .i64) sl5 ys :: own .bool ⟨some ⟨a4, 0, none⟩, C.length, C.length⟩ inl :: Ω) w) rfl ⟨_, (MK.none _).iff fun x hx => by simp, s⟩ ?_
  clear s
  rintro n ⟨x, _⟩ w3 hn hx ⟨inl, mk, s⟩ _
  dsimp only at hx ⊢
  subst hx
  have hil := mk.1
  refine gd_dec (fun hlt => ?_) (fun hge => ?_)
  · have hn' : n < ys.length := by omega
    have hget := List.getElem?_eq_getElem hn'
    have hzb := hSb _ ((hyS _).1 (List.getElem_mem hn'))
    generalize ys[n] = z at hget hzb
    have htk : ys.take (n + 1) = ys.take n ++ [z] := by rw [List.take_add_one, hget]; rfl
    refine (s.vw_ 0 rfl).idx rfl hget rfl fun q hq => ⟨z, hq, gd_f (decide_eq_false (by omega)) (s.setI 1 rfl (n := z.toNat) (y := true) (by omega) (by omega) fun w4 s => arith_i64 (by omega) (by omega) (loop_nx hn' ⟨_, (mk.put (show z.toNat < C.length by omega)).iff fun x hx => ?_, s⟩))⟩
    rw [htk, List.mem_append, List.mem_singleton]
    constructor
    · rintro (h | h)
      · exact Or.inl h
      · right; omega
    · rintro (h | h)
      · exact Or.inl h
      · right; omega
  have en : n = ys.length := by omega
  subst en
  rw [List.take_length] at mk
  have mk := mk.iff (q' := MarkQ C S C.length) fun x hx => (hyS x).trans (MarkQ.top (Nat.le_refl _)).symm
  refine arith_i64 (by omega) (by omega) ?_
  have s : Sp w0 (own .bool ⟨some ⟨a4, 0, none⟩, C.length, C.length⟩ inl :: Ω) w3 := s.pop
  refine ⟨fun x w => ∃ (k : Nat) (inl : List Ty.bool.T), x.2.1 = (k : Int) - 1 ∧ k ≤ C.length ∧ MK C.length inl (MarkQ C S k) ∧ Sp w0 (own (.int .i64) x.1 (kl C S k C.length).reverse :: own .bool ⟨some ⟨a4, 0, none⟩, C.length, C.length⟩ inl :: Ω) w, fun x _ => (x.2.1 + 1).toNat, ⟨C.length, inl, rfl, Nat.le_refl _, mk, by rw [kl_top]; exact s.nil _⟩, ?_⟩
  rintro ⟨out, x, _⟩ w4 ⟨k, inl, hx, hk, mk, s⟩ _
  dsimp only at hx s ⊢
  subst hx
  have hil := mk.1
  refine gd_dec (fun hp => ?_) (fun hp => ?_)
  rotate_left
  · have : k = 0 := by omega
    subst this
    refine slices_Reverse_spec s 0 rfl (by have := kl_len (C := C) (S := S) 0 C.length; rw [List.length_reverse]; omega) fun w5 s => ?_
    have s : Sp w0 (own (.int .i64) out (kl C S 0 C.length).reverse.reverse :: own .bool ⟨some ⟨a4, 0, none⟩, C.length, C.length⟩ inl :: Ω) w5 := s
    rw [List.reverse_reverse] at s
    exact h out w5 (s.pick [0] 2 rfl (by decide))
  obtain ⟨n, rfl⟩ : ∃ n, k = n + 1 := ⟨k - 1, by omega⟩
  have hnC : n < C.length := by omega
  obtain ⟨d, hd⟩ : ∃ d, C[n]? = some d := ⟨_, List.getElem?_eq_getElem hnC⟩
  obtain ⟨hd8, hdp⟩ := hw n d hd
  obtain ⟨bb, hb1, hb2⟩ := mk.2 n hnC
  rw [MarkQ.at_ hw] at hb2
  have hkl := kl_len (C := C) (S := S) (n + 1) C.length
  refine ⟨fun x w => ∃ inl' : List Ty.bool.T, MK C.length inl' (MarkQ C S n) ∧ Sp w0 (own (.int .i64) x.1 (kl C S n C.length).reverse :: own .bool ⟨some ⟨a4, 0, none⟩, C.length, C.length⟩ inl' :: Ω) w, ?_, ?_⟩
  · refine (s.view 1 rfl).idx (n := n) (by omega) hb1 rfl fun q hq => ⟨bb, hq, ?_⟩
    cases bb with
    | false =>
      have hno : ¬ An C S n := fun h => by have := hb2.2 h; cases this
      refine gd_t rfl ⟨inl, mk.iff fun x hx => ?_, ?_⟩
      · rw [MarkQ.step hd]
        exact ⟨Or.inl, fun h => h.elim id fun h => absurd h.1 hno⟩
      · rw [(kl_step hnC).2 hno]; exact s
    | true =>
      have hyes : An C S n := hb2.1 rfl
      have e1 : ((n + 1 : Nat) : Int) - 1 = (n : Int) := by omega
      rw [e1]
      refine gd_f rfl (s.allocK fun a19 w5 s => s.app 1 rfl ((s.lit (ty := .int .i64) 0 rfl [(n : Int)] 1 rfl rfl).view 0 rfl) (by simp only [List.length_reverse, List.length_cons, List.length_nil]; omega) fun s20 w6 s => ?_)
      have s : Sp w0 (own (.int .i64) s20 ((kl C S (n + 1) C.length).reverse ++ [(n : Int)]) :: own .bool ⟨some ⟨a4, 0, none⟩, C.length, C.length⟩ inl :: Ω) w6 := s.pop
      have e2 : (kl C S (n + 1) C.length).reverse ++ [(n : Int)] = (kl C S n C.length).reverse := by rw [(kl_step hnC).1 hyes, List.reverse_cons]
      rw [e2] at s
      refine history_Get_spec G.cons.cons s rfl hd (by omega) fun ps w7 s => s.allocK fun a22 w8 s => s.st0 0 rfl rfl rfl fun w9 s => nilIfc_nil (gd_f rfl (s.lds (x := ps) 0 0 rfl rfl ?_))
      have hpsl := (s.view 1 rfl).len
      refine loop_by (fun x => x.1) d.1.length (fun l _ w => ∃ inl' : List Ty.bool.T, MK C.length inl' (fun x => MarkQ C S (n + 1) x ∨ (x : Int) ∈ d.1.take l) ∧ Sp w0 (own (.int .i64) ps d.1 :: own (.int .i64) s20 (kl C S n C.length).reverse :: own .bool ⟨some ⟨a4, 0, none⟩, C.length, C.length⟩ inl' :: Ω) w) rfl ⟨inl, mk.iff fun x hx => by simp, s.pop⟩ ?_
      clear s
      rintro l ⟨y, _⟩ w10 hl hy ⟨inl', mk', s⟩ _
      dsimp only at hy ⊢
      subst hy
      have hil' := mk'.1
      refine gd_dec (fun hlt => ?_) (fun hge => ?_)
      · have hl' : l < d.1.length := by omega
        have hget := List.getElem?_eq_getElem hl'
        have hzb := hdp _ (List.getElem_mem hl')
        generalize d.1[l] = z at hget hzb
        have htk : d.1.take (l + 1) = d.1.take l ++ [z] := by rw [List.take_add_one, hget]; rfl
        refine (s.view 0 rfl).idx rfl hget rfl fun q hq => ⟨z, hq, s.setI 2 rfl (n := z.toNat) (y := true) (by omega) (by omega) fun w11 s => arith_i64 (by omega) (by omega) (loop_nx hl' ⟨_, (mk'.put (show z.toNat < C.length by omega)).iff fun x hx => ?_, s⟩)⟩
        rw [htk, List.mem_append, List.mem_singleton]
        constructor
        · rintro ((h | h) | h)
          · exact Or.inl h
          · exact Or.inr (Or.inl h)
          · right; right; omega
        · rintro (h | h | h)
          · exact Or.inl (Or.inl h)
          · exact Or.inl (Or.inr h)
          · right; omega
      · have e : l = d.1.length := by omega
        subst e
        rw [List.take_length] at mk'
        refine ⟨inl', mk'.iff fun x hx => ?_, s.pop⟩
        rw [MarkQ.step hd]
        exact ⟨fun h => h.elim Or.inl fun h => Or.inr ⟨hyes, h⟩, fun h => h.elim Or.inl fun h => Or.inr h.2⟩
  · rintro ⟨out2, _⟩ w11 ⟨inl', mk', s⟩ _
    dsimp only at s ⊢
    exact arith_i64 (by omega) (by omega) ⟨⟨n, inl', by omega, by omega, mk', s⟩, by omega⟩

end Go.Proofs.YtnmgjpcooncjlaaGreat

/- law51: the specification's Keep; the fixed example. -/
set_option linter.unusedVariables false
set_option linter.unusedSimpArgs false
namespace Go.Proofs.YtnmgjpcooncjlaaGreat
open Go.Den

variable {w0 w : World} {Ω : List Ob} {i j a b c g a' b' t r : Nat} {csl : Sl} {cs : List CM} {C : List CT} {m : List (ByteArray × TG)} {S : List Int}

theorem kl_grow (n : Nat) : (An C S n → kl C S 0 (n + 1) = kl C S 0 n ++ [(n : Int)]) ∧ (¬ An C S n → kl C S 0 (n + 1) = kl C S 0 n) := by
  unfold kl
  rw [List.range_succ, List.filter_append, List.map_append]
  constructor
  · intro h
    congr 1
    rw [List.filter_cons_of_pos (by exact @decide_eq_true _ (Classical.propDecidable _) ⟨Nat.zero_le _, h⟩)]
    rfl
  · intro h
    rw [List.filter_cons_of_neg (by
      intro e
      exact h (@of_decide_eq_true _ (Classical.propDecidable _) e).2)]
    simp
theorem ref51_Keep_spec {psl tsl : Sl} {ts : List Sl} {TS : List (Ty.int .i64).T} (s : Sp w0 Ω w) (j1 j2 : Nat) (h1 : Ω[j1]? = some (own .slice psl ts)) (h2 : Ω[j2]? = some (ivs ts (C.map fun x => x.1))) (hv : ∀ w', Sp w0 Ω w' → View (.int .i64) w' tsl TS) (hw : WFC C) (hC : C.length ≤ 60000) (hT : TS.length ≤ 1000000) (hSb : ∀ z : Int, z ∈ TS → 0 ≤ z ∧ z < (C.length : Int)) {K : Sl × Bool → World → Prop}
    (h : ∀ sl inl w', MK C.length inl (An C TS) → Sp w0 (own .bool sl inl :: Ω) w' → K (sl, true) w') : C_ref51_Keep psl tsl K w := by
  apply S_ref51_Keep
  unfold F_ref51_Keep
  have hpl := (s.view j1 h1).len
  have htl := (hv _ s).len
  have hts : ts.length = C.length := by have := (Sp.ivs_ s j2 h2).1; simpa using this
  have hNt : ((psl.len : Int)).toNat = C.length := by omega
  refine ⟨by omega, by omega, by omega, by omega, s.mkS .bool false C.length C.length (Nat.le_refl _) (fun a1 w1 s => ?_) rfl (by rw [hNt]; rfl)⟩
  rw [hNt]
  refine loop_by (fun x => x.1) TS.length (fun n _ w => ∃ inl, MK C.length inl (fun x => (x : Int) ∈ TS.take n) ∧ Sp w0 (own .bool ⟨some ⟨a1, 0, none⟩, C.length, C.length⟩ inl :: Ω) w) rfl ⟨_, (MK.none _).iff fun x hx => by simp, s⟩ ?_
  clear s
  rintro n ⟨x, _⟩ w3 hn hx ⟨inl, mk, s⟩ _
  dsimp only at hx ⊢
  subst hx
  have hil := mk.1
  refine gd_dec (fun hlt => ?_) (fun hge => ?_)
  · have hn' : n < TS.length := by omega
    have hget := List.getElem?_eq_getElem hn'
    have hzb := hSb _ (List.getElem_mem hn')
    generalize TS[n] = z at hget hzb
    have htk : TS.take (n + 1) = TS.take n ++ [z] := by rw [List.take_add_one, hget]; rfl
    refine JoinP.inl ((hv _ s.pop).idx rfl hget rfl fun q hq => ⟨z, hq, gd_f (decide_eq_false (by omega)) ((hv _ s.pop).idx rfl hget rfl fun q2 hq2 => ⟨z, hq2, ?_⟩)⟩)
    intro _
    refine gd_f (decide_eq_false (by omega)) ((hv _ s.pop).idx rfl hget rfl fun q3 hq3 => ⟨z, hq3, s.setI 0 rfl (n := z.toNat) (y := true) (by omega) (by omega) fun w4 s => arith_i64 (by omega) (by omega) (loop_nx hn' ⟨_, (mk.put (show z.toNat < C.length by omega)).iff fun x hx => ?_, s⟩)⟩)
    rw [htk, List.mem_append, List.mem_singleton]
    constructor
    · rintro (h | h)
      · exact Or.inl h
      · right; omega
    · rintro (h | h)
      · exact Or.inl h
      · right; omega
  have en : n = TS.length := by omega
  subst en
  rw [List.take_length] at mk
  have mk := mk.iff (q' := MarkQ C TS C.length) fun x hx => (MarkQ.top (Nat.le_refl _)).symm
  refine arith_i64 (by omega) (by omega) ?_
  refine ⟨fun x w => ∃ (k : Nat) (inl : List Ty.bool.T), x.1 = (k : Int) - 1 ∧ k ≤ C.length ∧ MK C.length inl (MarkQ C TS k) ∧ Sp w0 (own .bool ⟨some ⟨a1, 0, none⟩, C.length, C.length⟩ inl :: Ω) w, fun x _ => (x.1 + 1).toNat, ⟨C.length, inl, by dsimp only; omega, Nat.le_refl _, mk, s⟩, ?_⟩
  rintro ⟨x, _⟩ w4 ⟨k, inl, hx, hk, mk, s⟩ _
  dsimp only at hx ⊢
  subst hx
  have hil := mk.1
  refine gd_dec (fun hp => ?_) (fun hp => ?_)
  rotate_left
  · have : k = 0 := by omega
    subst this
    exact h _ inl _ (mk.iff fun x hx => MarkQ.zero) s
  obtain ⟨n, rfl⟩ : ∃ n, k = n + 1 := ⟨k - 1, by omega⟩
  have e1 : ((n + 1 : Nat) : Int) - 1 = (n : Int) := by omega
  rw [e1]
  have hnC : n < C.length := by omega
  obtain ⟨d, hd⟩ : ∃ d, C[n]? = some d := ⟨_, List.getElem?_eq_getElem hnC⟩
  obtain ⟨hd8, hdp⟩ := hw n d hd
  obtain ⟨u, hu⟩ : ∃ u, ts[n]? = some u := ⟨_, List.getElem?_eq_getElem (by omega)⟩
  have hcd : (C.map fun x => x.1)[n]? = some d.1 := by rw [List.getElem?_map, hd]; rfl
  have vu : ∀ inl' w', Sp w0 (own .bool ⟨some ⟨a1, 0, none⟩, C.length, C.length⟩ inl' :: Ω) w' → View (.int .i64) w' u d.1 := fun inl' w' s => ((Sp.ivs_ s (j2 + 1) h2).2 n u d.1 hu hcd).1
  have hul := (vu _ _ s).len
  refine ⟨fun _ w => ∃ inl' : List Ty.bool.T, MK C.length inl' (MarkQ C TS n) ∧ Sp w0 (own .bool ⟨some ⟨a1, 0, none⟩, C.length, C.length⟩ inl' :: Ω) w, ?_, ?_⟩
  · refine loop_by (fun x => x.1) d.1.length (fun l _ w => ∃ inl' : List Ty.bool.T, MK C.length inl' (fun x => MarkQ C TS (n + 1) x ∨ (An C TS n ∧ (x : Int) ∈ d.1.take l)) ∧ Sp w0 (own .bool ⟨some ⟨a1, 0, none⟩, C.length, C.length⟩ inl' :: Ω) w) rfl ⟨inl, mk.iff fun x hx => by simp, s⟩ ?_
    rintro l ⟨y, _⟩ w10 hl hy ⟨inl', mk', s⟩ _
    dsimp only at hy ⊢
    subst hy
    have hil' := mk'.1
    obtain ⟨bb, hb1, hb2⟩ := mk'.2 n hnC
    have hb2 : bb = true ↔ (MarkQ C TS (n + 1) n ∨ (An C TS n ∧ (n : Int) ∈ d.1.take l)) := hb2
    rw [MarkQ.at_ hw] at hb2
    have hb2 : bb = true ↔ An C TS n := hb2.trans ⟨fun h => h.elim id fun h => h.1, Or.inl⟩
    refine ⟨fun _ w => l < d.1.length ∧ An C TS n ∧ Sp w0 (own .bool ⟨some ⟨a1, 0, none⟩, C.length, C.length⟩ inl' :: Ω) w, ?_, ?_⟩
    · refine (s.view (j1 + 1) h1).idx rfl hu rfl fun q hq => ⟨u, hq, gd_dec (fun hlt => ?_) (fun hge => ?_)⟩
      · refine (s.view 0 rfl).idx (n := n) rfl hb1 rfl fun q2 hq2 => ⟨bb, hq2, gd_mk (fun e => ⟨by omega, hb2.1 e, s⟩) (fun e => ?_)⟩
        have hno : ¬ An C TS n := fun h => by rw [hb2.2 h] at e; cases e
        refine ⟨inl', mk'.iff fun x hx => ?_, s⟩
        rw [MarkQ.step hd]
        exact ⟨fun h => h.elim Or.inl fun h => absurd h.1 hno, fun h => h.elim Or.inl fun h => absurd h.1 hno⟩
      · have e : l = d.1.length := by omega
        subst e
        rw [List.take_length] at mk'
        exact ⟨inl', mk'.iff fun x hx => (MarkQ.step hd).symm, s⟩
    · rintro _ w11 ⟨hl', han, s⟩ _
      have hget := List.getElem?_eq_getElem hl'
      have hzb := hdp _ (List.getElem_mem hl')
      generalize d.1[l] = z at hget hzb
      have htk : d.1.take (l + 1) = d.1.take l ++ [z] := by rw [List.take_add_one, hget]; rfl
      refine (s.view (j1 + 1) h1).idx rfl hu rfl fun q hq => ⟨u, hq, (vu _ _ s).idx rfl hget rfl fun q2 hq2 => ⟨z, hq2, s.setI 0 rfl (n := z.toNat) (y := true) (by omega) (by omega) fun w12 s => arith_i64 (by omega) (by omega) (loop_nx hl' ⟨_, (mk'.put (show z.toNat < C.length by omega)).iff fun x hx => ?_, s⟩)⟩⟩
      rw [htk, List.mem_append, List.mem_singleton]
      constructor
      · rintro ((h | h) | h)
        · exact Or.inl h
        · exact Or.inr ⟨han, Or.inl h.2⟩
        · exact Or.inr ⟨han, Or.inr (by omega)⟩
      · rintro (h | ⟨_, h | h⟩)
        · exact Or.inl (Or.inl h)
        · exact Or.inl (Or.inr ⟨han, h⟩)
        · right; omega
  · rintro _ w11 ⟨inl', mk', s⟩ _
    exact arith_i64 (by omega) (by omega) ⟨⟨n, inl', rfl, by omega, mk', s⟩, by omega⟩
theorem base_Ints_same {x y : Sl} {xs : List (Ty.int .i64).T} (s : Sp w0 Ω w) (hv : ∀ w', Sp w0 Ω w' → View (.int .i64) w' x xs) (hv' : ∀ w', Sp w0 Ω w' → View (.int .i64) w' y xs) (hl : xs.length ≤ 1000000000) {K : Bool → World → Prop} (h : ∀ w', Sp w0 Ω w' → K true w') : C_base_Ints x y K w := by
  apply S_base_Ints
  unfold F_base_Ints
  have la := (hv _ s).len
  have lb := (hv' _ s).len
  refine gd_f (by simp; omega) ?_
  refine loop_by (fun x => x.1) xs.length (fun n _ w => Sp w0 Ω w) rfl s ?_
  clear s
  rintro n ⟨z, _⟩ w1 hn hz s _
  dsimp only at hz ⊢
  subst hz
  refine gd_dec (fun hlt => ?_) (fun hge => h _ s)
  have hn' : n < xs.length := by omega
  have hget := List.getElem?_eq_getElem hn'
  generalize xs[n] = u at hget
  refine s.drawK fun w2 s => (hv _ s).idx rfl hget rfl fun q1 hq1 => ⟨u, hq1, (hv' _ s).idx rfl hget rfl fun q2 hq2 => ⟨u, hq2, gd_f (by simp) (arith_i64 (by omega) (by omega) (loop_nx hn' s))⟩⟩

/-! ### The fixed example -/
theorem law51_alive_spec (s : Sp w0 Ω w) {K : Bool → World → Prop} (h : ∀ w', Sp w0 Ω w' → K true w') : C_law51_alive K w := by
  apply S_law51_alive
  unfold F_law51_alive
  refine history_New_spec s fun g w1 s => refs_New_spec s fun t r w2 s => ?_
  have G0 : Gh (cel t [.map (some r)] :: ms yrefs_target r [] :: cel g [.slice none 0 0] :: own yapi_Commit ⟨none, 0, 0⟩ [] :: ivs [] [] :: Ω) 2 3 4 g ⟨none, 0, 0⟩ [] [] := ⟨rfl, rfl, rfl, rfl⟩
  refine history_Add_spec (psl := ⟨none, 0, 0⟩) (d := ([], ((0 : Int), (⟨#[]⟩ : ByteArray)))) G0 s (by decide) (by decide) (by decide) ⟨by simp, by show (0 : Nat) ≤ 200; omega, Int.le_refl _, by simp, List.nodup_nil⟩ (by simp) (fun w' s => .nil) (Nat.le_refl _) fun csl' cs' ts w3 s hts hcs => ?_
  subst hts
  have s : Sp w0 (ivs (cs'.map fun x => x.1) [[]] :: cel t [.map (some r)] :: ms yrefs_target r [] :: cel g [.slice csl'.a csl'.len csl'.cap] :: own yapi_Commit csl' cs' :: ivs [] [] :: Ω) w3 := s
  have R1 : Rt (ivs (cs'.map fun x => x.1) [[]] :: cel t [.map (some r)] :: ms yrefs_target r [] :: cel g [.slice csl'.a csl'.len csl'.cap] :: own yapi_Commit csl' cs' :: ivs [] [] :: Ω) 1 2 t r [] := ⟨rfl, rfl⟩
  have hmain : NameOK (⟨#[109, 97, 105, 110]⟩ : ByteArray) := by
    refine ⟨by decide, by decide, fun k hk => ?_⟩
    have hk4 : k < 4 := hk
    match k, hk4 with
    | 0, _ => exact Or.inl (by show 97 ≤ 109 ∧ 109 ≤ 122; decide)
    | 1, _ => exact Or.inl (by show 97 ≤ 97 ∧ 97 ≤ 122; decide)
    | 2, _ => exact Or.inl (by show 97 ≤ 105 ∧ 105 ≤ 122; decide)
    | 3, _ => exact Or.inl (by show 97 ≤ 110 ∧ 110 ≤ 122; decide)
  refine refs_Branch_spec R1 s hmain (Int.le_refl _) rfl fun w4 s => ?_
  have s : Sp w0 (ivs (cs'.map fun x => x.1) [[]] :: cel t [.map (some r)] :: ms yrefs_target r [((⟨#[109, 97, 105, 110]⟩ : ByteArray), ((0 : Int), false))] :: cel g [.slice csl'.a csl'.len csl'.cap] :: own yapi_Commit csl' cs' :: ivs [] [] :: Ω) w4 := s
  have G2 : Gh (ivs (cs'.map fun x => x.1) [[]] :: cel t [.map (some r)] :: ms yrefs_target r [((⟨#[109, 97, 105, 110]⟩ : ByteArray), ((0 : Int), false))] :: cel g [.slice csl'.a csl'.len csl'.cap] :: own yapi_Commit csl' cs' :: ivs [] [] :: Ω) 3 4 0 g csl' cs' [([], ((0 : Int), (⟨#[]⟩ : ByteArray)))] := ⟨rfl, rfl, rfl, hcs⟩
  have R2 : Rt (ivs (cs'.map fun x => x.1) [[]] :: cel t [.map (some r)] :: ms yrefs_target r [((⟨#[109, 97, 105, 110]⟩ : ByteArray), ((0 : Int), false))] :: cel g [.slice csl'.a csl'.len csl'.cap] :: own yapi_Commit csl' cs' :: ivs [] [] :: Ω) 1 2 t r [((⟨#[109, 97, 105, 110]⟩ : ByteArray), ((0 : Int), false))] := ⟨rfl, rfl⟩
  refine compact_Keep_spec (S := [0]) G2 R2 s (fun k d hd => ?_) (by decide) (by decide) (fun z => ?_) (fun z hz => ?_) fun sl w5 s => ?_
  · have : k = 0 := by have := (List.getElem?_eq_some_iff.1 hd).1; simp at this; omega
    subst this
    simp at hd
    subst hd
    exact ⟨by simp, by simp⟩
  · simp [eq_comm]
  · simp at hz; subst hz; exact ⟨Int.le_refl _, by simp⟩
  · have hkl : kl [([], ((0 : Int), (⟨#[]⟩ : ByteArray)))] [0] 0 1 = [0] := by
      rw [(kl_grow 0).1 (.root (by simp)), kl_top]; rfl
    have s : Sp w0 (own (.int .i64) sl (kl [([], ((0 : Int), (⟨#[]⟩ : ByteArray)))] [0] 0 1) :: ivs (cs'.map fun x => x.1) [[]] :: cel t [.map (some r)] :: ms yrefs_target r [((⟨#[109, 97, 105, 110]⟩ : ByteArray), ((0 : Int), false))] :: cel g [.slice csl'.a csl'.len csl'.cap] :: own yapi_Commit csl' cs' :: ivs [] [] :: Ω) w5 := s
    rw [hkl] at s
    have hl := (s.view 0 rfl).len
    refine nilIfc_nil (gd_t rfl (nilIfc_nil (gd_t rfl (nilIfc_nil (gd_t rfl (gd_t (by rw [hl]; rfl) ((s.view 0 rfl).idx (n := 0) rfl rfl rfl fun q hq => ⟨0, hq, h _ (s.drop 7)⟩)))))))

end Go.Proofs.YtnmgjpcooncjlaaGreat

/- law51: the kept commits and their new numbers, in plain lists. -/
set_option linter.unusedVariables false
set_option linter.unusedSimpArgs false
namespace Go.Proofs.YtnmgjpcooncjlaaGreat
open Go.Den

variable {C : List CT} {S : List Int}

/-! ### Ranks -/
theorem kl_in {k N : Nat} (hk : k ≤ N) : kl C S 0 N = kl C S 0 k ++ kl C S k N := by
  refine sorted_unique (kl_sorted 0 N) ?_ fun x => ?_
  · rw [List.pairwise_append]
    refine ⟨kl_sorted _ _, kl_sorted _ _, fun x hx y hy => ?_⟩
    obtain ⟨n, rfl, h1, _, _⟩ := kl_mem.1 hx
    obtain ⟨m, rfl, _, h2, _⟩ := kl_mem.1 hy
    omega
  · rw [List.mem_append, kl_mem, kl_mem, kl_mem]
    constructor
    · rintro ⟨n, rfl, h1, _, h3⟩
      by_cases c : n < k
      · exact Or.inl ⟨n, rfl, c, Nat.zero_le _, h3⟩
      · exact Or.inr ⟨n, rfl, h1, by omega, h3⟩
    · rintro (⟨n, rfl, h1, _, h3⟩ | ⟨n, rfl, h1, _, h3⟩)
      · exact ⟨n, rfl, by omega, Nat.zero_le _, h3⟩
      · exact ⟨n, rfl, h1, Nat.zero_le _, h3⟩
noncomputable def rk (C : List CT) (S : List Int) (n : Nat) : Int := (((kl C S 0 n).length : Nat) : Int)
theorem rk_zero : rk C S 0 = 0 := by unfold rk; rw [kl_top]; rfl
theorem rk_nn (n : Nat) : 0 ≤ rk C S n := by unfold rk; omega
theorem rk_yes {n : Nat} (h : An C S n) : rk C S (n + 1) = rk C S n + 1 := by
  unfold rk
  rw [(kl_grow n).1 h, List.length_append]; simp
theorem rk_no {n : Nat} (h : ¬ An C S n) : rk C S (n + 1) = rk C S n := by
  unfold rk
  rw [(kl_grow n).2 h]
theorem rk_mono {n m : Nat} (h : n ≤ m) : rk C S n ≤ rk C S m := by
  unfold rk
  rw [kl_in h, List.length_append]; omega
theorem rk_lt {n m : Nat} (h : n < m) (a : An C S n) : rk C S n < rk C S m := by
  have := rk_yes a
  have := rk_mono (C := C) (S := S) (show n + 1 ≤ m by omega)
  omega
theorem rk_at {n N : Nat} (h : n < N) (a : An C S n) : (kl C S 0 N)[(kl C S 0 n).length]? = some (n : Int) := by
  rw [kl_in (show n ≤ N by omega), (kl_step h).1 a, List.getElem?_append_right (Nat.le_refl _), Nat.sub_self]; rfl
theorem rk_of {N k : Nat} {z : Int} (h : (kl C S 0 N)[k]? = some z) : ∃ n : Nat, z = n ∧ n < N ∧ An C S n ∧ rk C S n = k := by
  have hm := List.mem_of_getElem? h
  obtain ⟨n, rfl, h1, _, h3⟩ := kl_mem.1 hm
  refine ⟨n, rfl, h1, h3, ?_⟩
  have h4 := rk_at h1 h3
  have hn : (kl C S 0 N).Nodup := (kl_sorted 0 N).imp fun {a b} (h : (a : Int) < b) => Int.ne_of_lt h
  have l1 := (List.getElem?_eq_some_iff.1 h).1
  have l2 := (List.getElem?_eq_some_iff.1 h4).1
  have e1 := (List.getElem?_eq_some_iff.1 h).2
  have e2 := (List.getElem?_eq_some_iff.1 h4).2
  have := (List.getElem_inj (h₀ := l1) (h₁ := l2) hn).1 (e1.trans e2.symm)
  unfold rk
  omega
/-- the new number of a commit -/
noncomputable def nu (C : List CT) (S : List Int) (n : Nat) : Int := @ite _ (An C S n) (Classical.propDecidable _) (rk C S n) (-1)
theorem nu_yes {n : Nat} (h : An C S n) : nu C S n = rk C S n := by unfold nu; rw [if_pos h]
theorem nu_no {n : Nat} (h : ¬ An C S n) : nu C S n = -1 := by unfold nu; rw [if_neg h]
theorem nu_inj {n m : Nat} (hn : An C S n) (hm : An C S m) (e : nu C S n = nu C S m) : n = m := by
  rw [nu_yes hn, nu_yes hm] at e
  rcases Nat.lt_trichotomy n m with c | c | c
  · have := rk_lt c hn; omega
  · exact c
  · have := rk_lt c hm; omega
noncomputable def nuL (C : List CT) (S : List Int) (N : Nat) : List (Ty.int .i64).T := (List.range N).map (nu C S)
theorem nuL_len (N : Nat) : (nuL C S N).length = N := by simp [nuL]
theorem nuL_get {n N : Nat} (h : n < N) : (nuL C S N)[n]? = some (nu C S n) := by
  unfold nuL
  rw [List.getElem?_map, List.getElem?_range h]; rfl
theorem nuL_succ (N : Nat) : nuL C S (N + 1) = nuL C S N ++ [nu C S N] := by
  unfold nuL
  rw [List.range_succ, List.map_append]; rfl

/-! ### The kept commits -/
/-- every commit may be added at its place -/
def COK (C : List CT) : Prop := ∀ (k : Nat) (d : CT), C[k]? = some d → AddOK k d
theorem COK.wf (h : COK C) : WFC C := fun k d hd => ⟨(h k d hd).few, (h k d hd).par⟩
noncomputable def rn (f : Int → Int) (C : List CT) (S : List Int) (d : CT) : CT := (d.1.map (fun p => nu C S p.toNat), f d.2.1, d.2.2)
def cz : CT := ([], (0 : Int), (⟨#[]⟩ : ByteArray))
noncomputable def kC (f : Int → Int) (C : List CT) (S : List Int) (n : Nat) : List CT := (kl C S 0 n).map fun z => rn f C S (C.getD z.toNat cz)
variable {f : Int → Int}
theorem kC_len (n : Nat) : (kC f C S n).length = (kl C S 0 n).length := by simp [kC]
theorem kC_rk (n : Nat) : ((kC f C S n).length : Int) = rk C S n := by rw [kC_len]; rfl
theorem kC_zero : kC f C S 0 = [] := by unfold kC; rw [kl_top]; rfl
theorem kC_yes {n : Nat} {d : CT} (h : An C S n) (hd : C[n]? = some d) : kC f C S (n + 1) = kC f C S n ++ [rn f C S d] := by
  unfold kC
  rw [(kl_grow n).1 h, List.map_append, List.map_singleton, Int.toNat_natCast, List.getD_eq_getElem?_getD, hd]; rfl
theorem kC_no {n : Nat} (h : ¬ An C S n) : kC f C S (n + 1) = kC f C S n := by
  unfold kC
  rw [(kl_grow n).2 h]
theorem kC_get {n N : Nat} {d : CT} (h : n < N) (a : An C S n) (hd : C[n]? = some d) : (kC f C S N)[(kl C S 0 n).length]? = some (rn f C S d) := by
  unfold kC
  rw [List.getElem?_map, rk_at h a, Option.map_some, Int.toNat_natCast, List.getD_eq_getElem?_getD, hd]; rfl
theorem kC_of {N k : Nat} {x : CT} (hN : N ≤ C.length) (h : (kC f C S N)[k]? = some x) : ∃ (n : Nat) (d : CT), n < N ∧ An C S n ∧ rk C S n = k ∧ C[n]? = some d ∧ x = rn f C S d := by
  unfold kC at h
  rw [List.getElem?_map] at h
  cases hz : (kl C S 0 N)[k]? with
  | none => rw [hz] at h; cases h
  | some z =>
    rw [hz] at h
    obtain ⟨n, rfl, h1, h2, h3⟩ := rk_of hz
    have hd := List.getElem?_eq_getElem (l := C) (i := n) (by omega)
    refine ⟨n, _, h1, h2, h3, hd, ?_⟩
    simp only [Option.map_some, Option.some.injEq, Int.toNat_natCast] at h
    rw [← h, List.getD_eq_getElem?_getD, hd]; rfl
theorem par_kept (hw : WFC C) {n : Nat} {d : CT} (a : An C S n) (hd : C[n]? = some d) {p : Int} (hp : p ∈ d.1) : 0 ≤ p ∧ p.toNat < n ∧ An C S p.toNat ∧ nu C S p.toNat = rk C S p.toNat ∧ 0 ≤ nu C S p.toNat ∧ nu C S p.toNat < rk C S n := by
  have h1 := (hw n d hd).2 p hp
  have e : ((p.toNat : Nat) : Int) = p := by omega
  have h2 : An C S p.toNat := .ref a hd (by rw [e]; exact hp)
  have h3 := rk_lt (show p.toNat < n by omega) h2
  have h4 := rk_nn (C := C) (S := S) p.toNat
  have h5 := nu_yes h2
  exact ⟨h1.1, by omega, h2, h5, by omega, by omega⟩
theorem rn_ok (hw : COK C) (hf : ∀ x, 0 ≤ f x) {n : Nat} {d : CT} (a : An C S n) (hd : C[n]? = some d) : AddOK (kC f C S n).length (rn f C S d) := by
  have h := hw n d hd
  have hr := kC_rk (f := f) (C := C) (S := S) n
  refine ⟨?_, h.note, hf _, fun p hp => ?_, ?_⟩
  · show (d.1.map _).length ≤ 8
    rw [List.length_map]; exact h.few
  · have hp : p ∈ d.1.map (fun p => nu C S p.toNat) := hp
    obtain ⟨q, hq, rfl⟩ := List.mem_map.1 hp
    have := par_kept hw.wf a hd hq
    omega
  · show (d.1.map _).Nodup
    have hn := h.nodup
    have hk : ∀ q ∈ d.1, 0 ≤ q ∧ An C S q.toNat := fun q hq => ⟨(par_kept hw.wf a hd hq).1, (par_kept hw.wf a hd hq).2.2.1⟩
    generalize d.1 = L at hn hk
    induction L with
    | nil => exact List.nodup_nil
    | cons x L ih =>
      rw [List.nodup_cons] at hn
      rw [List.map_cons, List.nodup_cons]
      refine ⟨fun hm => ?_, ih hn.2 fun q hq => hk q (List.mem_cons_of_mem _ hq)⟩
      obtain ⟨y, hy, e⟩ := List.mem_map.1 hm
      have h1 := hk x (by simp)
      have h2 := hk y (List.mem_cons_of_mem _ hy)
      have := nu_inj h2.2 h1.2 e
      have : y = x := by omega
      subst this
      exact hn.1 hy
theorem kC_ok (hw : COK C) (hf : ∀ x, 0 ≤ f x) {N : Nat} (hN : N ≤ C.length) : COK (kC f C S N) := fun k x hx => by
  obtain ⟨n, d, h1, h2, h3, h4, rfl⟩ := kC_of hN hx
  have := rn_ok (f := f) hw hf h2 h4
  have e : (kC f C S n).length = k := by have := kC_rk (f := f) (C := C) (S := S) n; omega
  rw [e] at this
  exact this

/-! ### Ancestors among the kept -/
/-- what the kept ones lead to: the new numbers of the old targets -/
theorem An_new (hw : WFC C) {S' : List Int} {N : Nat} (hN : N = C.length) (hS : ∀ x : Nat, (x : Int) ∈ S' → An C S x ∧ x < N) {x : Nat} (hx : An C S' x) : An C S x ∧ (x < N → An (kC f C S N) (S'.map fun z => nu C S z.toNat) (rk C S x).toNat) := by
  induction hx with
  | @root x h1 =>
    have := hS x h1
    refine ⟨this.1, fun _ => .root ?_⟩
    have e := nu_yes this.1
    have hnn := rk_nn (C := C) (S := S) x
    rw [show (((rk C S x).toNat : Nat) : Int) = nu C S x by omega]
    refine List.mem_map.2 ⟨_, h1, ?_⟩
    rw [Int.toNat_natCast]
  | @ref y x d h1 h2 h3 ih =>
    obtain ⟨ha, hb⟩ := ih
    have hy := (List.getElem?_eq_some_iff.1 h2).1
    have hp := par_kept hw ha h2 h3
    rw [Int.toNat_natCast] at hp
    refine ⟨hp.2.2.1, fun _ => .ref (hb (by omega)) (d := rn f C S d) ?_ ?_⟩
    · have := kC_get (f := f) (show y < N by omega) ha h2
      have e : (rk C S y).toNat = (kl C S 0 y).length := by unfold rk; omega
      rw [e]; exact this
    · show _ ∈ d.1.map _
      have hnn := rk_nn (C := C) (S := S) x
      refine List.mem_map.2 ⟨_, h3, ?_⟩
      rw [Int.toNat_natCast]
      omega
theorem An_old (hw : WFC C) {S' : List Int} {N : Nat} (hN : N = C.length) (hS : ∀ z : Int, z ∈ S' → 0 ≤ z ∧ An C S z.toNat) {k : Nat} (hk : An (kC f C S N) (S'.map fun z => nu C S z.toNat) k) : ∀ x : Nat, An C S x → rk C S x = k → An C S' x := by
  induction hk with
  | @root k h1 =>
    intro x hx e
    obtain ⟨z, hz, e2⟩ := List.mem_map.1 h1
    have h2 := hS z hz
    have : z.toNat = x := nu_inj h2.2 hx (by rw [nu_yes hx, e]; exact e2)
    refine .root ?_
    rw [← this, show ((z.toNat : Nat) : Int) = z by omega]; exact hz
  | @ref j k d' h1 h2 h3 ih =>
    intro x hx e
    obtain ⟨n, d, g1, g2, g3, g4, rfl⟩ := kC_of (by omega) h2
    have g5 := ih n g2 g3
    have h3 : (k : Int) ∈ d.1.map (fun p => nu C S p.toNat) := h3
    obtain ⟨p, hp, e2⟩ := List.mem_map.1 h3
    have g6 := par_kept hw g2 g4 hp
    have : p.toNat = x := nu_inj g6.2.2.1 hx (by rw [nu_yes hx, e]; exact e2)
    refine .ref g5 g4 ?_
    rw [← this, show ((p.toNat : Nat) : Int) = p by omega]; exact hp

end Go.Proofs.YtnmgjpcooncjlaaGreat

/- law51: the graph of the kept commits (history.Keep). -/
set_option linter.unusedVariables false
set_option linter.unusedSimpArgs false
namespace Go.Proofs.YtnmgjpcooncjlaaGreat
open Go.Den

variable {w0 w : World} {Ω : List Ob} {i j a b c g : Nat} {csl : Sl} {cs : List CM} {C : List CT} {S : List Int}

theorem toZ_get {C : List CT} {S : List Int} {n N k : Nat} (hk : k < n) (v : Int) : (nuL C S n ++ v :: List.replicate (N - n - 1) (0 : Int))[k]? = some (nu C S k) := by
  rw [List.getElem?_append_left (by rw [nuL_len]; exact hk), nuL_get hk]
theorem toZ_set {C : List CT} {S : List Int} {n N : Nat} (u v : Int) : (nuL C S n ++ v :: List.replicate (N - n - 1) (0 : Int)).set n u = nuL C S n ++ u :: List.replicate (N - n - 1) (0 : Int) := by
  have h := nuL_len (C := C) (S := S) n
  rw [List.set_append_right _ _ (by omega), h, Nat.sub_self]; rfl
theorem toZ_next {C : List CT} {S : List Int} {n N : Nat} : nuL C S n ++ nu C S n :: List.replicate (N - n - 1) (0 : Int) = nuL C S (n + 1) ++ List.replicate (N - (n + 1)) (0 : Int) := by
  rw [nuL_succ, List.append_assoc]; rfl
theorem toZ_first {C : List CT} {S : List Int} {n N : Nat} (h : n < N) (v : Int) : (nuL C S n ++ List.replicate (N - n) (0 : Int)).set n v = nuL C S n ++ v :: List.replicate (N - n - 1) (0 : Int) := by
  have h1 := nuL_len (C := C) (S := S) n
  rw [List.set_append_right _ _ (by omega), h1, Nat.sub_self]
  obtain ⟨k, hk⟩ : ∃ k, N - n = k + 1 := ⟨N - n - 1, by omega⟩
  rw [hk, show k + 1 - 1 = k by omega]; rfl
theorem mapZ_set {α : Type} {f : α → α} {L : List α} {i : Nat} {p : α} (h : L[i]? = some p) : ((L.take i).map f ++ L.drop i).set i (f p) = (L.take (i + 1)).map f ++ L.drop (i + 1) := by
  have hi := (List.getElem?_eq_some_iff.1 h).1
  have hl : ((L.take i).map f).length = i := by rw [List.length_map, List.length_take]; omega
  have hd : L.drop i = p :: L.drop (i + 1) := by
    rw [List.drop_eq_getElem_cons hi]
    congr 1
    exact (List.getElem?_eq_some_iff.1 h).2
  rw [List.set_append_right _ _ (by omega), hl, Nat.sub_self, hd, List.take_add_one, h]
  simp
theorem mapZ_get {α : Type} {f : α → α} {L : List α} {i : Nat} {p : α} (h : L[i]? = some p) : ((L.take i).map f ++ L.drop i)[i]? = some p := by
  have hi := (List.getElem?_eq_some_iff.1 h).1
  have hl : ((L.take i).map f).length = i := by rw [List.length_map, List.length_take]; omega
  rw [List.getElem?_append_right (by omega), hl, Nat.sub_self, List.getElem?_drop]
  exact h

theorem history_Keep_spec {lsl : Sl} (G : Gh Ω a b c g csl cs C) (s : Sp w0 Ω w) (hw : COK C) (hC : C.length ≤ 60000) (hv : ∀ w', Sp w0 Ω w' → View (.int .i64) w' lsl (kl C S 0 C.length)) {K : Option Addr × Sl × Value → World → Prop}
    (h : ∀ g2 csl2 cs2 tosl w', cs2.map (fun x => x.2) = (kC id C S C.length).map (fun x => x.2) → Sp w0 (own (.int .i64) tosl (nuL C S C.length) :: cel g2 [.slice csl2.a csl2.len csl2.cap] :: own yapi_Commit csl2 cs2 :: ivs (cs2.map fun x => x.1) ((kC id C S C.length).map fun x => x.1) :: Ω) w' → K (some ⟨g2, 0, none⟩, tosl, .nilIface) w') : C_history_Graph_Keep (some ⟨g, 0, none⟩) lsl K w := by
  apply S_history_Graph_Keep
  unfold F_history_Graph_Keep
  have hll := (hv _ s).len
  have hlC := G.len
  have hkl := kl_len (C := C) (S := S) 0 C.length
  have hmem : ∀ (n : Nat) (z : Int), (kl C S 0 C.length)[n]? = some z → 0 ≤ z ∧ z < (C.length : Int) := fun n z hz => by
    obtain ⟨k, rfl, h1, _⟩ := kl_mem.1 (List.mem_of_getElem? hz)
    omega
  have hnd : (kl C S 0 C.length).Nodup := (kl_sorted 0 C.length).imp fun {a b} (h : (a : Int) < b) => Int.ne_of_lt h
  refine gd_f rfl ?_
  refine loop_by (fun x => x.1) (kl C S 0 C.length).length (fun n _ w => Sp w0 Ω w) rfl s ?_
  clear s
  rintro n ⟨x, _⟩ w1 hn hx s _
  dsimp only at hx ⊢
  subst hx
  refine gd_dec (fun hlt => ?_) (fun hge => ?_)
  · have hn' : n < (kl C S 0 C.length).length := by omega
    have hget := List.getElem?_eq_getElem hn'
    have hb := hmem _ _ hget
    generalize (kl C S 0 C.length)[n] = z at hget hb
    refine (hv _ s).idx rfl hget rfl fun q hq => ⟨z, hq, history_has_spec G s ?_⟩
    rw [decide_eq_true hb]
    exact gd_f rfl (arith_i64 (by omega) (by omega) (loop_nx hn' s))
  have hcl := (s.view b G.com).len
  have hNt : ((csl.len : Int)).toNat = C.length := by omega
  refine nonNil_some (s.lds (x := csl) a 0 G.cell rfl ⟨by omega, by omega, by omega, by omega, s.mkS .bool false C.length C.length (Nat.le_refl _) (fun a9 w3 s => ?_) rfl (by rw [hNt]; rfl)⟩)
  rw [hNt]
  refine loop_by (fun x => x.1) (kl C S 0 C.length).length (fun n _ w => ∃ inl, MK C.length inl (fun x => (x : Int) ∈ (kl C S 0 C.length).take n) ∧ Sp w0 (own .bool ⟨some ⟨a9, 0, none⟩, C.length, C.length⟩ inl :: Ω) w) rfl ⟨_, (MK.none _).iff fun x hx => by simp, s⟩ ?_
  clear s
  rintro n2 ⟨x, _⟩ w4 hn2 hx ⟨inl, mk, s⟩ _
  dsimp only at hx ⊢
  subst hx
  have hil := mk.1
  refine gd_dec (fun hlt => ?_) (fun hge2 => ?_)
  · have hn' : n2 < (kl C S 0 C.length).length := by omega
    have hget := List.getElem?_eq_getElem hn'
    have hb := hmem _ _ hget
    have hno : (kl C S 0 C.length)[n2] ∉ (kl C S 0 C.length).take n2 := fun hm => by
      obtain ⟨j, hj, e⟩ := List.getElem_of_mem hm
      rw [List.length_take] at hj
      rw [List.getElem_take] at e
      have := (List.getElem_inj (i := j) (j := n2) (h₀ := by omega) (h₁ := hn') hnd).1 e
      omega
    have htk : (kl C S 0 C.length).take (n2 + 1) = (kl C S 0 C.length).take n2 ++ [(kl C S 0 C.length)[n2]] := by rw [List.take_add_one, hget]; rfl
    generalize (kl C S 0 C.length)[n2] = z at hget hb hno htk
    obtain ⟨bb, hb1, hb2⟩ := mk.2 z.toNat (by omega)
    have hbf : bb = false := by
      cases bb with
      | false => rfl
      | true =>
        have : ((z.toNat : Nat) : Int) ∈ (kl C S 0 C.length).take n2 := hb2.1 rfl
        rw [show ((z.toNat : Nat) : Int) = z by omega] at this
        exact absurd this hno
    subst hbf
    refine (hv _ s.pop).idx rfl hget rfl fun q hq => ⟨z, hq, (s.view 0 rfl).idx (n := z.toNat) (by omega) hb1 rfl fun q2 hq2 => ⟨false, hq2, gd_f rfl (s.setI 0 rfl (n := z.toNat) (y := true) (by omega) (by omega) fun w5 s => arith_i64 (by omega) (by omega) (loop_nx hn' ⟨_, (mk.put (show z.toNat < C.length by omega)).iff fun x hx => ?_, s⟩))⟩⟩
    rw [htk, List.mem_append, List.mem_singleton]
    constructor
    · rintro (h | h)
      · exact Or.inl h
      · right; omega
    · rintro (h | h)
      · exact Or.inl h
      · right; omega
  have en : n2 = (kl C S 0 C.length).length := by omega
  subst en
  rw [List.take_length] at mk
  have mk := mk.iff (q' := An C S) fun x hx => by
    show (x : Int) ∈ kl C S 0 C.length ↔ An C S x
    rw [kl_mem]
    constructor
    · rintro ⟨m, e, _, _, h⟩
      have : x = m := by omega
      exact this ▸ h
    · intro h
      exact ⟨x, rfl, hx, Nat.zero_le _, h⟩
  refine history_New_spec s fun g2 w6 s => nonNil_some (s.lds (x := csl) (a + 4) 0 G.cell rfl ⟨by omega, by omega, by omega, by omega, s.mkS (.int .i64) (0 : Int) C.length C.length (Nat.le_refl _) (fun a21 w7 s => ?_) rfl (by rw [hNt]; rfl)⟩)
  rw [hNt]
  refine nonNil_some (s.lds (x := csl) (a + 5) 0 G.cell rfl ?_)
  refine loop_by (fun x => x.1) C.length (fun n _ w => ∃ (csl2 : Sl) (cs2 : List CM), cs2.map (fun x => x.2) = (kC id C S n).map (fun x => x.2) ∧ Sp w0 (own (.int .i64) ⟨some ⟨a21, 0, none⟩, C.length, C.length⟩ (nuL C S n ++ List.replicate (C.length - n) (0 : Int)) :: cel g2 [.slice csl2.a csl2.len csl2.cap] :: own yapi_Commit csl2 cs2 :: ivs (cs2.map fun x => x.1) ((kC id C S n).map fun x => x.1) :: own .bool ⟨some ⟨a9, 0, none⟩, C.length, C.length⟩ inl :: Ω) w) rfl ⟨⟨none, 0, 0⟩, [], by rw [kC_zero]; rfl, ?_⟩ ?_
  · rw [kC_zero]; exact s
  clear s
  rintro n ⟨x, _⟩ w8 hn hx ⟨csl2, cs2, hcs2, s⟩ _
  dsimp only at hx ⊢
  subst hx
  refine gd_dec (fun hlt => ?_) (fun hge3 => ?_)
  rotate_left
  · have en : n = C.length := by omega
    subst en
    rw [Nat.sub_self] at s
    have e : nuL C S C.length ++ List.replicate 0 (0 : Int) = nuL C S C.length := by simp
    rw [e] at s
    exact h g2 csl2 cs2 _ w8 hcs2 (s.pick [0, 1, 2, 3] 5 rfl (by decide))
  have hn' : n < C.length := by omega
  obtain ⟨d, hd⟩ : ∃ d, C[n]? = some d := ⟨_, List.getElem?_eq_getElem hn'⟩
  obtain ⟨x, hx, hx2⟩ := G.at_ hd
  have hdo := hw n d hd
  have hd8 := hdo.few
  have hnl := nuL_len (C := C) (S := S) n
  have hkn := kl_len (C := C) (S := S) 0 n
  have hkc := kC_len (f := id) (C := C) (S := S) n
  have hts : (cs.map fun x => x.1)[n]? = some x.1 := by rw [List.getElem?_map, hx]; rfl
  have hvs : (C.map fun x => x.1)[n]? = some d.1 := by rw [List.getElem?_map, hd]; rfl
  refine ⟨fun _ w => ∃ (csl2 : Sl) (cs2 : List CM), cs2.map (fun x => x.2) = (kC id C S (n + 1)).map (fun x => x.2) ∧ Sp w0 (own (.int .i64) ⟨some ⟨a21, 0, none⟩, C.length, C.length⟩ (nuL C S (n + 1) ++ List.replicate (C.length - (n + 1)) (0 : Int)) :: cel g2 [.slice csl2.a csl2.len csl2.cap] :: own yapi_Commit csl2 cs2 :: ivs (cs2.map fun x => x.1) ((kC id C S (n + 1)).map fun x => x.1) :: own .bool ⟨some ⟨a9, 0, none⟩, C.length, C.length⟩ inl :: Ω) w, ?_, fun _ w h _ => arith_i64 (by omega) (by omega) (loop_nx hn' h)⟩
  refine (s.view (b + 5) G.com).idx rfl hx rfl fun q1 hq1 => ⟨x, hq1, s.allocK fun a30 w10 s => s.st0 0 rfl rfl rfl fun w11 s => s.setI 1 rfl (n := n) (y := (-1 : Int)) rfl (by rw [List.length_append, List.length_replicate]; omega) fun w12 s => ?_⟩
  rw [toZ_first hn'] at s
  have s : Sp w0 (cel a30 (cells yapi_Commit x) :: own (.int .i64) ⟨some ⟨a21, 0, none⟩, C.length, C.length⟩ (nuL C S n ++ (-1 : Int) :: List.replicate (C.length - n - 1) (0 : Int)) :: cel g2 [.slice csl2.a csl2.len csl2.cap] :: own yapi_Commit csl2 cs2 :: ivs (cs2.map fun x => x.1) ((kC id C S n).map fun x => x.1) :: own .bool ⟨some ⟨a9, 0, none⟩, C.length, C.length⟩ inl :: Ω) w12 := s
  obtain ⟨bb, hb1, hb2⟩ := mk.2 n hn'
  refine (s.view 5 rfl).idx (n := n) rfl hb1 rfl fun q2 hq2 => ⟨bb, hq2, ?_⟩
  cases bb with
  | false =>
    have hno : ¬ An C S n := fun h => by have := hb2.2 h; cases this
    refine gd_t rfl ⟨csl2, cs2, ?_, ?_⟩
    · rw [kC_no hno]; exact hcs2
    · rw [kC_no hno, ← toZ_next, nu_no hno]
      exact s.pop
  | true =>
  have hyes : An C S n := hb2.1 rfl
  refine gd_f rfl (s.lds (x := x.1) 0 0 rfl rfl ?_)
  refine slices_Clone_spec s (fun w' s => ((Sp.ivs_ s (c + 6) G.par).2 n x.1 d.1 hts hvs).1) (by omega) fun ps w13 s => ?_
  refine s.st 1 0 rfl rfl rfl fun w14 s => s.lds (x := ps) 1 0 rfl rfl ?_
  have s : Sp w0 (own (.int .i64) ps d.1 :: cel a30 (cells yapi_Commit (ps, x.2)) :: own (.int .i64) ⟨some ⟨a21, 0, none⟩, C.length, C.length⟩ (nuL C S n ++ (-1 : Int) :: List.replicate (C.length - n - 1) (0 : Int)) :: cel g2 [.slice csl2.a csl2.len csl2.cap] :: own yapi_Commit csl2 cs2 :: ivs (cs2.map fun x => x.1) ((kC id C S n).map fun x => x.1) :: own .bool ⟨some ⟨a9, 0, none⟩, C.length, C.length⟩ inl :: Ω) w14 := s
  have hpl := (s.view 0 rfl).len
  refine loop_by (fun x => x.1) d.1.length (fun i _ w => Sp w0 (own (.int .i64) ps ((d.1.take i).map (fun p : Int => nu C S p.toNat) ++ d.1.drop i) :: cel a30 (cells yapi_Commit (ps, x.2)) :: own (.int .i64) ⟨some ⟨a21, 0, none⟩, C.length, C.length⟩ (nuL C S n ++ (-1 : Int) :: List.replicate (C.length - n - 1) (0 : Int)) :: cel g2 [.slice csl2.a csl2.len csl2.cap] :: own yapi_Commit csl2 cs2 :: ivs (cs2.map fun x => x.1) ((kC id C S n).map fun x => x.1) :: own .bool ⟨some ⟨a9, 0, none⟩, C.length, C.length⟩ inl :: Ω) w) rfl (by rw [List.take_zero, List.drop_zero]; exact s) ?_
  clear s
  rintro i ⟨y, _⟩ w15 hi hy s _
  dsimp only at hy ⊢
  subst hy
  refine gd_dec (fun hlt2 => ?_) (fun hge4 => ?_)
  · have hi' : i < d.1.length := by omega
    have hget := List.getElem?_eq_getElem hi'
    have hpm := List.getElem_mem hi'
    generalize d.1[i] = p at hget hpm
    obtain ⟨k1, k2, k3, k4, k5, k6⟩ := par_kept hw.wf hyes hd hpm
    have hg1 := mapZ_get (f := fun p : Int => nu C S p.toNat) hget
    have hg2 := toZ_get (C := C) (S := S) (N := C.length) k2 (-1)
    refine (s.view 0 rfl).idx rfl hg1 rfl fun q3 hq3 => ⟨p, hq3, (s.view 2 rfl).idx (n := p.toNat) (by omega) hg2 rfl fun q4 hq4 => ⟨_, hq4, gd_f (decide_eq_false (by omega)) (s.drawK fun w16 s => s.lds (x := ps) 1 0 rfl rfl ((s.view 2 rfl).idx (n := p.toNat) (by omega) hg2 rfl fun q5 hq5 => ⟨_, hq5, s.setI 0 rfl (n := i) (y := nu C S p.toNat) rfl (by rw [List.length_append, List.length_map, List.length_take, List.length_drop]; omega) fun w17 s => ?_⟩))⟩⟩
    rw [mapZ_set (f := fun p : Int => nu C S p.toNat) hget] at s
    exact arith_i64 (by omega) (by omega) (loop_nx hi' s)
  have ei : i = d.1.length := by omega
  subst ei
  rw [List.take_length, List.drop_length, List.append_nil] at s
  have hl2 : csl2.len = (kl C S 0 n).length := by
    have h1 := (s.view 4 rfl).len
    have h2 := congrArg List.length hcs2
    rw [List.length_map, List.length_map] at h2
    omega
  refine nonNil_some (s.lds (x := csl2) 3 0 rfl rfl (s.setI 2 rfl (n := n) (y := (csl2.len : Int)) rfl (by rw [List.length_append, List.length_cons, List.length_replicate]; omega) fun w18 s => ?_))
  rw [toZ_set, show ((csl2.len : Nat) : Int) = nu C S n by rw [nu_yes hyes, hl2]; rfl, toZ_next] at s
  refine s.drawK fun w19 s => nonNil_some (s.lds (x := csl2) 3 0 rfl rfl (s.ld0 (ty := yapi_Commit) (x := (ps, x.2)) 1 rfl rfl (s.allocK fun a54 w20 s => ⟨s.still 4 0 rfl rfl, ?_⟩)))
  have hlen2 := (s.view 5 rfl).len
  refine s.app (ty := yapi_Commit) (xs := cs2) (ys := [(ps, x.2)]) 5 rfl ((s.lit (ty := yapi_Commit) 0 rfl [(ps, x.2)] 1 rfl rfl).view 0 rfl) (by simp only [List.length_cons, List.length_nil]; omega) fun s55 w21 s => nonNil_some (s.st0 4 rfl rfl rfl fun w22 s => ⟨s55, cs2 ++ [(ps, x.2)], ?_, ?_⟩)
  · rw [kC_yes hyes hd, List.map_append, List.map_append, hcs2, hx2]; rfl
  · have s1 := s.pick [1, 3, 4, 5, 6, 7] 8 rfl (by decide)
    have s2 := Sp.ivs_add s1 3 rfl
    have s3 := s2.pick [1, 2, 3, 0, 5] 6 rfl (by decide)
    have e1 : (kC id C S (n + 1)).map (fun x => x.1) = (kC id C S n).map (fun x => x.1) ++ [d.1.map fun p : Int => nu C S p.toNat] := by rw [kC_yes hyes hd, List.map_append]; rfl
    have e2 : (cs2 ++ [(ps, x.2)]).map (fun x : CM => x.1) = cs2.map (fun x => x.1) ++ [ps] := by simp
    rw [e1, e2]
    exact s3

end Go.Proofs.YtnmgjpcooncjlaaGreat

/- The contract of slices.Sort at this program's numbers: the kit's laying, as plain text printed by a program. No conditions. -/
namespace Go.Proofs.YtnmgjpcooncjlaaGreat
open Go.Shelf

def sortRenS : Go.Shelf.Ren := ⟨fun | 6 => 54 | 8 => 80 | 9 => 79 | 19 => 110 | 20 => 111 | 21 => 101 | 22 => 102 | 23 => 103 | 24 => 104 | 25 => 105 | 26 => 106 | 27 => 107 | 28 => 108 | 29 => 109 | 36 => 121 | 31 => 122 | 32 => 123 | 37 => 124 | 38 => 125 | 39 => 126 | 41 => 149 | n => n, fun | 27 => 43 | 29 => 9 | 3 => 3 | 32 => 174 | 26 => 43 | 0 => 0 | 44 => 203 | 46 => 121 | 4 => 4 | 36 => 195 | 35 => 194 | 41 => 200 | 5 => 5 | 9 => 9 | 53 => 213 | 57 => 217 | 63 => 233 | 64 => 234 | n => n, fun n => n⟩
theorem sortLayS : SlLaysM.n6 Tryz.prog sortRenS := {
  mixed := by kernel_rfl,
  f6 := ⟨Tryz.f54.name, by decide, Tryz.func54.trans (congrArg some (by kernel_rfl))⟩,
  f8 := Tryz.func80.trans (congrArg some (by kernel_rfl)),
  f9 := ⟨Tryz.f79.name, by decide, Tryz.func79.trans (congrArg some (by kernel_rfl))⟩,
  f19 := Tryz.func110.trans (congrArg some (by kernel_rfl)),
  f20 := Tryz.func111.trans (congrArg some (by kernel_rfl)),
  f21 := ⟨Tryz.f101.name, by decide, Tryz.func101.trans (congrArg some (by kernel_rfl))⟩,
  f22 := ⟨Tryz.f102.name, by decide, Tryz.func102.trans (congrArg some (by kernel_rfl))⟩,
  f23 := ⟨Tryz.f103.name, by decide, Tryz.func103.trans (congrArg some (by kernel_rfl))⟩,
  f24 := ⟨Tryz.f104.name, by decide, Tryz.func104.trans (congrArg some (by kernel_rfl))⟩,
  f25 := ⟨Tryz.f105.name, by decide, Tryz.func105.trans (congrArg some (by kernel_rfl))⟩,
  f26 := ⟨Tryz.f106.name, by decide, Tryz.func106.trans (congrArg some (by kernel_rfl))⟩,
  f27 := ⟨Tryz.f107.name, by decide, Tryz.func107.trans (congrArg some (by kernel_rfl))⟩,
  f28 := ⟨Tryz.f108.name, by decide, Tryz.func108.trans (congrArg some (by kernel_rfl))⟩,
  f29 := ⟨Tryz.f109.name, by decide, Tryz.func109.trans (congrArg some (by kernel_rfl))⟩,
  f31 := Tryz.func122.trans (congrArg some (by kernel_rfl)),
  f32 := Tryz.func123.trans (congrArg some (by kernel_rfl)),
  f36 := ⟨Tryz.f121.name, by decide, Tryz.func121.trans (congrArg some (by kernel_rfl))⟩,
  f37 := ⟨Tryz.f124.name, by decide, Tryz.func124.trans (congrArg some (by kernel_rfl))⟩,
  f38 := ⟨Tryz.f125.name, by decide, Tryz.func125.trans (congrArg some (by kernel_rfl))⟩,
  f39 := ⟨Tryz.f126.name, by decide, Tryz.func126.trans (congrArg some (by kernel_rfl))⟩,
  f41 := ⟨Tryz.f149.name, by decide, Tryz.func149.trans (congrArg some (by kernel_rfl))⟩,
  t0 := Tryz.underlying0,
  a0 := Tryz.isAgg0,
  z0 := Tryz.sizeOf0,
  v0 := Tryz.zeroValue0,
  t3 := Tryz.underlying3,
  a3 := Tryz.isAgg3,
  z3 := Tryz.sizeOf3,
  v3 := Tryz.zeroValue3,
  t4 := Tryz.underlying4,
  a4 := Tryz.isAgg4,
  z4 := Tryz.sizeOf4,
  v4 := Tryz.zeroValue4,
  t5 := Tryz.underlying5,
  a5 := Tryz.isAgg5,
  z5 := Tryz.sizeOf5,
  v5 := Tryz.zeroValue5,
  t9 := Tryz.underlying9,
  a9 := Tryz.isAgg9,
  z9 := Tryz.sizeOf9,
  v9 := Tryz.zeroValue9,
  t26 := Tryz.underlying43,
  a26 := Tryz.isAgg43,
  z26 := Tryz.sizeOf43,
  v26 := Tryz.zeroValue43,
  t27 := Tryz.underlying43,
  a27 := Tryz.isAgg43,
  z27 := Tryz.sizeOf43,
  v27 := Tryz.zeroValue43,
  t29 := Tryz.underlying9,
  a29 := Tryz.isAgg9,
  z29 := Tryz.sizeOf9,
  v29 := Tryz.zeroValue9,
  t32 := Tryz.underlying174,
  a32 := Tryz.isAgg174,
  z32 := Tryz.sizeOf174,
  v32 := Tryz.zeroValue174,
  t35 := Tryz.underlying194,
  a35 := Tryz.isAgg194,
  z35 := Tryz.sizeOf194,
  v35 := Tryz.zeroValue194,
  t36 := Tryz.underlying195,
  a36 := Tryz.isAgg195,
  z36 := Tryz.sizeOf195,
  v36 := Tryz.zeroValue195,
  t41 := Tryz.underlying200,
  a41 := Tryz.isAgg200,
  z41 := Tryz.sizeOf200,
  v41 := Tryz.zeroValue200,
  t44 := Tryz.underlying203,
  a44 := Tryz.isAgg203,
  z44 := Tryz.sizeOf203,
  v44 := Tryz.zeroValue203,
  t46 := Tryz.underlying121,
  a46 := Tryz.isAgg121,
  z46 := Tryz.sizeOf121,
  v46 := Tryz.zeroValue121,
  t53 := Tryz.underlying213,
  a53 := Tryz.isAgg213,
  z53 := Tryz.sizeOf213,
  v53 := Tryz.zeroValue213,
  t57 := Tryz.underlying217,
  a57 := Tryz.isAgg217,
  z57 := Tryz.sizeOf217,
  v57 := Tryz.zeroValue217,
  t63 := Tryz.underlying233,
  a63 := Tryz.isAgg233,
  z63 := Tryz.sizeOf233,
  v63 := Tryz.zeroValue233,
  t64 := Tryz.underlying234,
  a64 := Tryz.isAgg234,
  z64 := Tryz.sizeOf234,
  v64 := Tryz.zeroValue234 }

end Go.Proofs.YtnmgjpcooncjlaaGreat

/- What slices.Sort leaves of strings: the same strings, in order. -/
set_option linter.unusedVariables false
set_option linter.unusedSimpArgs false
namespace Go.Proofs.YtnmgjpcooncjlaaGreat
open Go.Den

variable {w0 w : World} {Ω : List Ob} {sl : Sl}

def ofL (l : List UInt8) : Ty.str.T := (⟨l.toArray⟩ : ByteArray)
def toLS (x : ByteArray) : List UInt8 := x.data.toList
theorem ofL_toLS (x : ByteArray) : ofL (toLS x) = x := by
  cases x; simp [ofL, toLS]
theorem toLS_ofL (l : List UInt8) : toLS (ofL l) = l := by simp [ofL, toLS]
theorem map_ofL (xs : List Ty.str.T) : (xs.map toLS).map ofL = xs := by
  rw [List.map_map]
  have : ofL ∘ toLS = id := by funext x; exact ofL_toLS x
  rw [this, List.map_id]
def srtS (xs : List Ty.str.T) : List Ty.str.T := ((xs.map toLS).mergeSort fun x y => decide (x ≤ y)).map ofL
theorem srtS_len (xs : List Ty.str.T) : (srtS xs).length = xs.length := by simp [srtS, List.length_mergeSort]
theorem srtS_perm (xs : List Ty.str.T) : (srtS xs).Perm xs := by
  have h := (List.mergeSort_perm (xs.map toLS) (fun x y => decide (x ≤ y))).map ofL
  rw [map_ofL] at h
  exact h
theorem leL_trans : ∀ a b c : List UInt8, decide (a ≤ b) = true → decide (b ≤ c) = true → decide (a ≤ c) = true := fun a b c h1 h2 => by
  rw [decide_eq_true_eq] at *; exact List.le_trans h1 h2
theorem leL_total : ∀ a b : List UInt8, (decide (a ≤ b) || decide (b ≤ a)) = true := fun a b => by
  simp only [Bool.or_eq_true, decide_eq_true_eq]; exact List.le_total a b
theorem srtS_congr {xs ys : List Ty.str.T} (h : xs.Perm ys) : srtS xs = srtS ys := by
  unfold srtS
  congr 1
  refine List.Perm.eq_of_pairwise (le := fun a b : List UInt8 => decide (a ≤ b) = true) (fun a b _ _ h1 h2 => ?_) (List.pairwise_mergeSort leL_trans leL_total _) (List.pairwise_mergeSort leL_trans leL_total _) (((List.mergeSort_perm _ _).trans (h.map toLS)).trans (List.mergeSort_perm _ _).symm)
  rw [decide_eq_true_eq] at h1 h2
  exact List.le_antisymm h1 h2
theorem srtS_sorted {xs : List Ty.str.T} (h : xs.Pairwise (fun a b => toLS a ≤ toLS b)) : srtS xs = xs := by
  have e : (xs.map toLS).mergeSort (fun x y => decide (x ≤ y)) = xs.map toLS := by
    refine List.Perm.eq_of_pairwise (le := fun a b : List UInt8 => decide (a ≤ b) = true) (fun a b _ _ h1 h2 => ?_) (List.pairwise_mergeSort leL_trans leL_total _) ?_ (List.mergeSort_perm _ _)
    · rw [decide_eq_true_eq] at h1 h2
      exact List.le_antisymm h1 h2
    · rw [List.pairwise_map]
      exact h.imp fun h => decide_eq_true h
  unfold srtS
  rw [e, map_ofL]

/-- a row of a slice of one-cell elements, sorted in place -/
theorem sort_ownG {α : Type} [Inhabited α] {ty : Ty} (enc : α → Value) (u : α → ty.T) (he : ∀ a, cells ty (u a) = [enc a]) (h1 : ty.size = 1) {zs : List α} (o : Own ty w sl (zs.map u)) {q : Addr} (hq : sl.a = some q) (n : Nat) (os : Array Obj) (ys : List α) (hl : ys.length = zs.length) :
    Go.Sort.Holds enc w q.block q.off zs.toArray ∧ Own ty (Go.Sort.grow (Go.Sort.putRow enc (Go.Sort.ahead w n) q.block q.off ys.toArray) os) sl (ys.map u) ∧
    Fr (fun b => b = q.block) w (Go.Sort.grow (Go.Sort.putRow enc (Go.Sort.ahead w n) q.block q.off ys.toArray) os) := by
  have flatG : ∀ zs : List α, flat ty (zs.map u) = zs.map enc := fun zs => by
    induction zs with
    | nil => rfl
    | cons x xs ih => simp only [flat, List.map_cons, List.flatMap_cons] at ih ⊢; rw [ih, he]; rfl
  have hs := addr_mk q (o.spot q hq)
  have hlt : q.block < w.heap.size := o.lt _ ⟨q, hq, rfl⟩
  have hlen := o.view.len
  rw [List.length_map] at hlen
  have hcap := o.cap
  have hwr := o.wr q hq
  rw [h1, Nat.mul_one] at hwr
  have hat := o.view.mem q hq
  rw [flatG] at hat
  have e1 : ∀ j, Addr.add q j = ⟨q.block, q.off + j, none⟩ := fun j => by
    conv => lhs; rw [hs]
    exact add_mk _ _ _
  have holds : Go.Sort.Holds enc w q.block q.off zs.toArray := fun j hj => by
    have hj' : j < zs.length := by simpa using hj
    constructor
    · have := hat j (enc zs[j]) (by rw [List.getElem?_map, List.getElem?_eq_getElem hj']; rfl)
      rw [e1] at this
      rw [this]
      congr 2
      simp [hj']
    · have := (hwr j (by omega)).2
      rw [e1] at this
      exact this
  refine ⟨holds, ?_, ?_⟩
  · have hh : Go.Sort.Holds enc (Go.Sort.ahead w n) q.block q.off zs.toArray := Go.Sort.holds_ahead _ _ _ _ _ _ holds
    have g1 := Go.Sort.holds_putRow enc (Go.Sort.ahead w n) q.block q.off zs.toArray ys.toArray hh (by simp [hl])
    have hsz : (Go.Sort.putRow enc (Go.Sort.ahead w n) q.block q.off ys.toArray).heap.size = w.heap.size := by simp
    have g2 := Go.Sort.holds_grow enc _ os q.block q.off ys.toArray (by rw [hsz]; exact hlt) g1
    refine ⟨⟨by rw [List.length_map, hl]; exact hlen, fun q' hq' => ?_, fun _ => ⟨q, hq⟩⟩, hcap, fun q' hq' => ?_, fun h => (by rw [hq] at h; cases h), fun b hb => ?_, o.spot⟩
    · rw [hq] at hq'; cases hq'
      rw [flatG]
      intro i v hi
      rw [List.getElem?_map] at hi
      have hil : i < ys.length := by
        cases h : ys[i]? with
        | none => rw [h] at hi; cases hi
        | some y => exact (List.getElem?_eq_some_iff.1 h).1
      rw [List.getElem?_eq_getElem hil] at hi
      have := (g2 i (by simpa using hil)).1
      rw [e1, this]
      simp only [Option.map_some] at hi
      rw [← hi]
      congr 2
      simp [hil]
    · rw [hq] at hq'; cases hq'
      rw [h1, Nat.mul_one]
      intro i hi
      obtain ⟨⟨v, hv⟩, hf⟩ := hwr i hi
      have c1 : ∃ v, (Go.Sort.putRow enc (Go.Sort.ahead w n) q.block q.off ys.toArray).cell? (q.add i) = some v := by
        by_cases c : i < ys.length
        · have := (g1 i (by simpa using c)).1
          exact ⟨_, by rw [e1]; exact this⟩
        · refine ⟨v, ?_⟩
          rw [Go.Sort.cell?_putRow_other _ _ _ _ _ _ (by right; right; rw [e1]; simp; omega)]
          exact hv
      obtain ⟨v', hv'⟩ := c1
      refine ⟨⟨v', ?_⟩, ?_⟩
      · rw [Go.Sort.cell?_grow _ _ _ (by rw [hsz, e1]; exact hlt)]; exact hv'
      · rw [Go.Sort.frozen?_grow _ _ _ (by rw [hsz, e1]; exact hlt), Go.Sort.frozen?_putRow]; exact hf
    · have := o.lt b hb
      rw [Go.Sort.size_grow, hsz]; omega
  · refine ⟨by rw [Go.Sort.size_grow]; simp, fun b hb hne => ?_, rfl, rfl, rfl⟩
    have hsz : (Go.Sort.putRow enc (Go.Sort.ahead w n) q.block q.off ys.toArray).heap.size = w.heap.size := by simp
    rw [Go.Sort.heap_grow_old _ _ (by rw [hsz]; exact hb)]
    unfold Go.Sort.putRow Go.Sort.mapBlock
    simp only [Array.getElem?_modify, Go.Sort.heap_ahead]
    rw [if_neg (Ne.symm hne)]

theorem slices_SortS_sp {xs : List Ty.str.T} (s : Sp w0 Ω w) (i : Nat) (hi : Ω[i]? = some (own .str sl xs)) (hl : xs.length ≤ 1000000000) {K : Unit → World → Prop} (h : ∀ w', Sp w0 (Ω.set i (own .str sl (srtS xs))) w' → K () w') : C_slices_SortS sl K w := by
  obtain ⟨B, ⟨o, hB⟩, hlt, back⟩ := s.open i hi rfl
  have hlen := o.view.len
  cases hq : sl.a with
  | none =>
    have h0 := o.nil hq
    have hcap := o.cap
    have hx : xs = [] := List.eq_nil_of_length_eq_zero (by omega)
    have hn : sl.len = 0 := by omega
    have := AnyM.slices_Sort_string_none sortLayS none sl.cap w
    unfold C_slices_SortS
    rw [hq, hn]
    refine Calls.mono this fun e w' ⟨he, hw⟩ => ⟨(), he, ?_⟩
    subst hw
    refine h _ ?_
    subst hx
    have : srtS [] = [] := by simp [srtS]
    rw [this]
    exact (setSame hi).symm ▸ s
  | some q =>
    have hs := addr_mk q (o.spot q hq)
    have ho : Own .str w sl ((xs.map toLS).map ofL) := by rw [map_ofL]; exact o
    have key := sort_ownG encStr ofL (fun a => rfl) rfl ho hq
    have := AnyM.slices_Sort_string sortLayS q.block q.off sl.cap (xs.map toLS) w (key 0 #[] (xs.map toLS) rfl).1 (o.lt _ ⟨q, hq, rfl⟩) (by rw [List.length_map]; omega)
    unfold C_slices_SortS
    rw [List.length_map] at this
    rw [hq, hlen]
    rw [← hs] at this
    refine Calls.mono this fun e w' ⟨he, n, os, hw⟩ => ⟨(), he, ?_⟩
    obtain ⟨_, o', f⟩ := key n os ((xs.map toLS).mergeSort fun x y => decide (x ≤ y)) (List.length_mergeSort _)
    subst hw
    exact h _ (back _ B _ ⟨o', hB⟩ (f.mono fun b _ hb => hb ▸ hB _ ⟨q, hq, rfl⟩) (fun _ h => Or.inl h) fun b hb => Nat.lt_of_lt_of_le (hlt b hb).2 f.size)

end Go.Proofs.YtnmgjpcooncjlaaGreat

/- law51: the names of a table in order (refs.Names), and a table moved (refs.Move). -/
set_option linter.unusedVariables false
set_option linter.unusedSimpArgs false
namespace Go.Proofs.YtnmgjpcooncjlaaGreat
open Go.Den

variable {w0 w : World} {Ω : List Ob} {i j a b t r : Nat} {m : List (ByteArray × TG)}

/-! ### What a range over the table has seen -/
structure Vs (m : List (ByteArray × TG)) (arr : Array MapEntry) (sel : List MapEntry) (ps : List (ByteArray × TG)) : Prop where
  nb : (sel.map (·.born)).Nodup
  sub : ∀ e ∈ sel, e ∈ arr.toList
  kv : sel.map (fun e => (e.key, e.val)) = PairS yrefs_target ps
  mem : ∀ p ∈ ps, p ∈ m
  keys : (ps.map (·.1)).Nodup
theorem Vs.nil {arr : Array MapEntry} : Vs m arr [] [] := ⟨List.nodup_nil, by simp, rfl, by simp, List.nodup_nil⟩
theorem keyS_nodup {arr : Array MapEntry} {clock : Nat} (tt : ToldS yrefs_target m arr clock) : (arr.toList.map (·.key)).Nodup := by
  have h : arr.toList.map (·.key) = m.map fun p => Value.string p.1 := by
    have := congrArg (List.map Prod.fst) tt.eq
    simpa [PairS, Function.comp_def] using this
  rw [h]
  have hn := tt.keys
  generalize m = l at hn
  induction l with
  | nil => exact List.nodup_nil
  | cons x l ih =>
    rw [List.map_cons, List.nodup_cons] at hn ⊢
    refine ⟨fun hm => ?_, ih hn.2⟩
    obtain ⟨y, hy, e⟩ := List.mem_map.1 hm
    have : y.1 = x.1 := by simpa using e
    exact hn.1 (this ▸ List.mem_map.2 ⟨y, hy, rfl⟩)
theorem Vs.snoc {arr : Array MapEntry} {clock : Nat} {sel : List MapEntry} {ps : List (ByteArray × TG)} {e : MapEntry} {k : ByteArray} {v : TG} (tt : ToldS yrefs_target m arr clock) (h : Vs m arr sel ps) (he : e ∈ arr.toList) (hen : e.born ∉ ((sel.map (·.born)).toArray).toList) (hek : e.key = .string k) (hev : e.val = val yrefs_target v) (hkv : (k, v) ∈ m) : Vs m arr (sel ++ [e]) (ps ++ [(k, v)]) := by
  rw [List.toList_toArray] at hen
  refine ⟨?_, fun e' he' => ?_, ?_, fun p hp => ?_, ?_⟩
  · rw [List.map_append, List.nodup_append]
    refine ⟨h.nb, by simp, fun x hx y hy => ?_⟩
    simp at hy
    subst hy
    exact fun e' => hen (e' ▸ hx)
  · rcases List.mem_append.1 he' with h' | h'
    · exact h.sub e' h'
    · simp at h'; subst h'; exact he
  · rw [List.map_append, h.kv]; simp [PairS, hek, hev]
  · rcases List.mem_append.1 hp with h' | h'
    · exact h.mem p h'
    · simp at h'; subst h'; exact hkv
  · rw [List.map_append, List.nodup_append]
    refine ⟨h.keys, by simp, fun x hx y hy => ?_⟩
    simp at hy
    subst hy
    rintro rfl
    obtain ⟨p, hp, e1⟩ := List.mem_map.1 hx
    have h1 : (Value.string p.1, val yrefs_target p.2) ∈ PairS yrefs_target ps := List.mem_map.2 ⟨p, hp, rfl⟩
    rw [← h.kv] at h1
    obtain ⟨e', he', e2⟩ := List.mem_map.1 h1
    have e3 : e'.key = e.key := by
      have := congrArg Prod.fst e2
      rw [hek]
      simpa [e1] using this
    have := injS (keyS_nodup tt) (h.sub e' he') he e3
    subst this
    exact hen (List.mem_map.2 ⟨_, he', rfl⟩)
theorem Vs.len {arr : Array MapEntry} {clock : Nat} {sel : List MapEntry} {ps : List (ByteArray × TG)} (tt : ToldS yrefs_target m arr clock) (h : Vs m arr sel ps) : ps.length ≤ m.length := by
  have := lenS (L := ps.map (·.1)) (M := m.map (·.1)) h.keys fun x hx => by
    obtain ⟨p, hp, rfl⟩ := List.mem_map.1 hx
    exact List.mem_map.2 ⟨p, h.mem p hp, rfl⟩
  simpa using this
theorem nodup_of_map {α β : Type} {f : α → β} : ∀ {L : List α}, (L.map f).Nodup → L.Nodup
  | [], _ => List.nodup_nil
  | x :: L, h => by
    rw [List.map_cons, List.nodup_cons] at h
    rw [List.nodup_cons]
    exact ⟨fun hm => h.1 (List.mem_map.2 ⟨x, hm, rfl⟩), nodup_of_map h.2⟩
theorem Vs.all {arr : Array MapEntry} {clock : Nat} {sel : List MapEntry} {ps : List (ByteArray × TG)} (tt : ToldS yrefs_target m arr clock) (h : Vs m arr sel ps) (hall : ∀ e ∈ arr.toList, e.born ∈ ((sel.map (·.born)).toArray).toList) : ps.Perm m := by
  refine (List.perm_ext_iff_of_nodup (nodup_of_map h.keys) (nodup_of_map tt.keys)).2 fun p => ⟨h.mem p, fun hp => ?_⟩
  have h1 : (Value.string p.1, val yrefs_target p.2) ∈ PairS yrefs_target m := List.mem_map.2 ⟨p, hp, rfl⟩
  rw [← tt.eq] at h1
  obtain ⟨en, hen, hee⟩ := List.mem_map.1 h1
  have hb := hall en hen
  rw [List.toList_toArray] at hb
  obtain ⟨e', he', hb'⟩ := List.mem_map.1 hb
  have e1 : e' = en := injS tt.born (h.sub e' he') hen hb'
  subst e1
  have h2 : (e'.key, e'.val) ∈ PairS yrefs_target ps := by rw [← h.kv]; exact List.mem_map.2 ⟨e', he', rfl⟩
  obtain ⟨p', hp', hpp⟩ := List.mem_map.1 h2
  rw [hee] at hpp
  have hkey : p'.1 = p.1 := by
    have := congrArg Prod.fst hpp
    simpa using this
  have : p' = p := injS tt.keys (h.mem p' hp') hp hkey
  subst this
  exact hp'

/-! ### Names -/
theorem refs_Names_spec (R : Rt Ω a b t r m) (s : Sp w0 Ω w) (hN : m.length ≤ 2000000) {K : Sl → World → Prop}
    (h : ∀ sl w', Sp w0 (own .str sl (srtS (m.map (·.1))) :: Ω) w' → K sl w') : C_refs_Table_Names (some ⟨t, 0, none⟩) K w := by
  apply S_refs_Table_Names
  unfold F_refs_Table_Names
  refine gd_f rfl (nonNil_some (s.ldm (x := some r) a 0 R.cell rfl ?_))
  obtain ⟨arr, clock, tt, s⟩ := Sp.tellS s b R.map
  have hmx : (Ω.set b (mx r arr clock))[b]? = some (mx r arr clock) := setGet R.map
  have hback : (Ω.set b (mx r arr clock)).set b (ms yrefs_target r m) = Ω := by rw [List.set_set, setSame R.map]
  refine s.rangeC b hmx mapST fun rr w3 s => ?_
  have s : Sp w0 (own .str ⟨none, 0, 0⟩ [] :: itr rr r clock #[] :: Ω.set b (mx r arr clock)) w3 := s.nil _
  refine ⟨fun x w => ∃ (sel : List MapEntry) (ps : List (ByteArray × TG)), Vs m arr sel ps ∧ Sp w0 (own .str x.1 (ps.map fun p => p.1) :: itr rr r clock (sel.map (·.born)).toArray :: Ω.set b (mx r arr clock)) w, fun x _ => m.length - x.1.len, ⟨[], [], Vs.nil, s⟩, ?_⟩
  clear s
  rintro ⟨sl, _⟩ w4 ⟨sel, ps, vs, s⟩ _
  dsimp only at s ⊢
  have hsl := (s.view 0 rfl).len
  rw [List.length_map] at hsl
  have hpl := vs.len tt
  refine Sp.roundS tt s 1 (b + 2) rfl hmx (fun hall => ?_) (fun e k v w5 he hen hek hev hkv s => ?_)
  · refine slices_SortS_sp s 0 rfl (by rw [List.length_map]; omega) fun w6 s => ?_
    have s2 : Sp w0 (own .str sl (srtS (ps.map fun p => p.1)) :: itr rr r clock (sel.map (·.born)).toArray :: Ω.set b (mx r arr clock)) w6 := s
    have s3 := Sp.untellS tt (s2.era 1) (b + 1) hmx
    have s4 : Sp w0 (own .str sl (srtS (ps.map fun p => p.1)) :: (Ω.set b (mx r arr clock)).set b (ms yrefs_target r m)) w6 := s3
    rw [hback, srtS_congr ((vs.all tt hall).map _)] at s4
    exact h sl w6 s4
  · have vs2 := vs.snoc tt he hen hek hev hkv
    have hpl2 := vs2.len tt
    rw [List.length_append] at hpl2
    simp only [List.length_cons, List.length_nil] at hpl2
    refine s.allocK fun a10 w6 s => s.app 1 rfl ((s.lit (ty := .str) 0 rfl [k] 1 rfl rfl).view 0 rfl) (by simp only [List.length_cons, List.length_nil, List.length_map]; omega) fun s13 w9 s => ?_
    have s2 := s.drop 1
    have hl2 := (s2.view 0 rfl).len
    simp only [List.length_append, List.length_cons, List.length_nil, List.length_map] at hl2
    refine ⟨⟨sel ++ [e], ps ++ [(k, v)], vs2, ?_⟩, ?_⟩
    · have e2 : ((sel ++ [e]).map (·.born)).toArray = (sel.map (·.born)).toArray.push e.born := by simp
      rw [e2, List.map_append]
      exact s2
    · omega

/-! ### Move -/
def mapSz (w : World) (r : Nat) : Nat := match w.heap[r]? with
  | some (.map es _) => es.size
  | _ => 0
theorem MapS.sz {vt : Ty} {r : Nat} {m : List (ByteArray × vt.T)} (h : MapS vt w r m) : mapSz w r = m.length := by
  obtain ⟨arr, clock, h1, h2, _⟩ := h
  unfold mapSz
  rw [h1]
  have := congrArg List.length h2
  simpa [PairS] using this
theorem mupdS_perm {α : Type} {m ps : List (ByteArray × α)} {x : ByteArray} {v : α} (hp : m.Perm ps) (hx : x ∉ ps.map (·.1)) : (mupdS m x v).Perm (ps ++ [(x, v)]) := by
  have key : ∀ m : List (ByteArray × α), x ∉ m.map (·.1) → mupdS m x v = m ++ [(x, v)] := by
    intro m
    induction m with
    | nil => intro _; rfl
    | cons p m ih =>
      intro h
      rw [List.map_cons, List.mem_cons, not_or] at h
      unfold mupdS
      rw [if_neg (fun e => h.1 e.symm), ih h.2]; rfl
  rw [key m fun h => hx ((hp.map _).mem_iff.1 h)]
  exact hp.append_right _
theorem refs_Move_spec {tsl : Sl} {to : List (Ty.int .i64).T} (f : Int → Int) (R : Rt Ω a b t r m) (s : Sp w0 Ω w) (hN : m.length ≤ 2000000) (hv : ∀ w', Sp w0 Ω w' → View (.int .i64) w' tsl to) (hto : ∀ p ∈ m, 0 ≤ p.2.1 ∧ to[p.2.1.toNat]? = some (f p.2.1) ∧ 0 ≤ f p.2.1) {K : Option Addr × Value → World → Prop}
    (h : ∀ t2 r2 m2 w', m2.Perm (m.map fun p => (p.1, (f p.2.1, p.2.2))) → Sp w0 (cel t2 [.map (some r2)] :: ms yrefs_target r2 m2 :: Ω) w' → K (some ⟨t2, 0, none⟩, .nilIface) w') : C_refs_Table_Move (some ⟨t, 0, none⟩) tsl K w := by
  apply S_refs_Table_Move
  unfold F_refs_Table_Move
  refine gd_f rfl (refs_New_spec s fun t2 r2 w1 s => nonNil_some (s.ldm (x := some r) (a + 2) 0 R.cell rfl ?_))
  obtain ⟨arr, clock, tt, s⟩ := Sp.tellS s (b + 2) R.map
  have s : Sp w0 (cel t2 [.map (some r2)] :: ms yrefs_target r2 [] :: Ω.set b (mx r arr clock)) w1 := s
  have hmx : (Ω.set b (mx r arr clock))[b]? = some (mx r arr clock) := setGet R.map
  have hback : (Ω.set b (mx r arr clock)).set b (ms yrefs_target r m) = Ω := by rw [List.set_set, setSame R.map]
  refine s.rangeC (b + 2) hmx mapST fun rr w3 s => ?_
  have hv' : ∀ w', Sp w0 (Ω.set b (mx r arr clock)) w' → View (.int .i64) w' tsl to := fun w' s => hv w' (by
    have := Sp.untellS tt s b hmx
    rw [hback] at this
    exact this)
  refine ⟨fun x w => ∃ (sel : List MapEntry) (ps m2 : List (ByteArray × TG)), Vs m arr sel ps ∧ m2.Perm (ps.map fun p => (p.1, (f p.2.1, p.2.2))) ∧ Sp w0 (itr rr r clock (sel.map (·.born)).toArray :: cel t2 [.map (some r2)] :: ms yrefs_target r2 m2 :: Ω.set b (mx r arr clock)) w, fun x w => m.length - mapSz w r2, ⟨[], [], [], Vs.nil, List.Perm.refl _, s⟩, ?_⟩
  clear s
  rintro _ w4 ⟨sel, ps, m2, vs, hp2, s⟩ _
  have hsz := MapS.sz (s.ms_ 2 rfl)
  have hpl2 := hp2.length_eq
  rw [List.length_map] at hpl2
  refine Sp.roundS tt s 0 (b + 3) rfl hmx (fun hall => ?_) (fun e k v w5 he hen hek hev hkv s => ?_)
  · have s3 := Sp.untellS tt s.pop (b + 2) hmx
    have s4 : Sp w0 (cel t2 [.map (some r2)] :: ms yrefs_target r2 m2 :: (Ω.set b (mx r arr clock)).set b (ms yrefs_target r m)) w4 := s3
    rw [hback] at s4
    exact h t2 r2 m2 w4 (hp2.trans ((vs.all tt hall).map _)) s4
  · have vs2 := vs.snoc tt he hen hek hev hkv
    have hl2 := vs2.len tt
    rw [List.length_append] at hl2
    simp only [List.length_cons, List.length_nil] at hl2
    have h3 := hto (k, v) hkv
    dsimp only at h3
    obtain ⟨h3, h4, h5⟩ := h3
    have h3 : (0 : Int) ≤ v.1 := h3
    have hkn : k ∉ ps.map (·.1) := fun hm => by
      have := vs2.keys
      rw [List.map_append, List.nodup_append] at this
      exact this.2.2 k hm k (by simp) rfl
    have hlt := (List.getElem?_eq_some_iff.1 h4).1
    have htl := (hv' _ (s.drop 3)).len
    refine s.allocK fun a11 w6 s => s.st0 0 rfl rfl rfl fun w7 s => ?_
    have s : Sp w0 (cel a11 (cells yrefs_target v) :: itr rr r clock ((sel.map (·.born)).toArray.push e.born) :: cel t2 [.map (some r2)] :: ms yrefs_target r2 m2 :: Ω.set b (mx r arr clock)) w7 := s
    refine JoinP.inl (s.ldi (x := v.1) 0 0 rfl rfl (gd_f (decide_eq_false (by omega)) (s.ldi (x := v.1) 0 0 rfl rfl ((hv' _ (s.drop 4)).idx (n := v.1.toNat) (by omega) h4 rfl fun q hq => ⟨_, hq, ?_⟩))))
    intro _
    refine gd_f (decide_eq_false (by omega)) (s.drawK fun w9 s => nonNil_some (s.ldm (x := some r2) 2 0 rfl rfl (s.ldi (x := v.1) 0 0 rfl rfl ((hv' _ (s.drop 4)).idx (n := v.1.toNat) (by omega) h4 rfl fun q2 hq2 => ⟨_, hq2, s.ldb (x := v.2) 0 1 rfl rfl ?_⟩))))
    refine s.upS (vt := yrefs_target) 3 rfl (d := 1) (by decide) mapST eqSt k (f v.1, v.2) fun w10 s => ?_
    have s : Sp w0 (itr rr r clock ((sel.map (·.born)).toArray.push e.born) :: cel t2 [.map (some r2)] :: ms yrefs_target r2 (mupdS m2 k (f v.1, v.2)) :: Ω.set b (mx r arr clock)) w10 := s.pop
    have hp3 : (mupdS m2 k (f v.1, v.2)).Perm ((ps ++ [(k, v)]).map fun p => (p.1, (f p.2.1, p.2.2))) := by
      rw [List.map_append]
      refine mupdS_perm hp2 fun hm => hkn ?_
      rw [List.map_map] at hm
      exact hm
    refine ⟨⟨sel ++ [e], ps ++ [(k, v)], _, vs2, hp3, ?_⟩, ?_⟩
    · have e2 : ((sel ++ [e]).map (·.born)).toArray = (sel.map (·.born)).toArray.push e.born := by simp
      rw [e2]
      exact s
    · have hsz2 := MapS.sz (s.ms_ 2 rfl)
      have hpl3 := hp3.length_eq
      rw [List.length_map, List.length_append] at hpl3
      simp only [List.length_cons, List.length_nil] at hpl3
      show m.length - mapSz w10 r2 < m.length - mapSz w4 r2
      omega

end Go.Proofs.YtnmgjpcooncjlaaGreat

/- The walk of InternWeights. -/
set_option linter.unusedVariables false
set_option linter.unusedSimpArgs false
namespace Go.Proofs.YtnmgjpcooncjlaaGreat
open Go.Den

variable {w0 w : World} {T : List ET}

theorem shape_refs {id : Int} (h : Shape T id) (h1 : 1 ≤ id) (h2 : id ≤ T.length) : (0 ≤ (eAt T id).1.2.2.1 ∧ (eAt T id).1.2.2.1 < id) ∧ (0 ≤ (eAt T id).1.2.2.2.1 ∧ (eAt T id).1.2.2.2.1 < id) := by
  cases h with
  | letter b _ _ e => rw [e]; simp only [mkLetter]; omega
  | pair l r _ _ _ _ _ e => rw [e]; simp only [mkPair]; omega
  | power x k _ _ _ _ e => rw [e]; simp only [mkPower]; omega

end Go.Proofs.YtnmgjpcooncjlaaGreat

/- What the store's reach and Export compute. -/
set_option linter.unusedVariables false
set_option linter.unusedSimpArgs false
namespace Go.Proofs.YtnmgjpcooncjlaaGreat
open Go.Den

variable {w0 w : World} {Ω : List Ob} {most : Int} {T : List ET} {i : Nat} {p : Addr}

theorem eqID : eqOK P 1 t_api_ID (.int .i64) = true := by kernel_rfl
theorem mapIB : P.underlying t_map_api_ID_bool = some (.map t_api_ID (mapElem t_map_api_ID_bool)) := by kernel_rfl
theorem zeroIB : zeroOf P (mapElem t_map_api_ID_bool) = some (val .bool false) := by kernel_rfl
theorem mapII : P.underlying t_map_api_ID_api_ID = some (.map t_api_ID (mapElem t_map_api_ID_api_ID)) := by kernel_rfl
theorem zeroII : zeroOf P (mapElem t_map_api_ID_api_ID) = some (val (.int .i64) (0 : Int)) := by kernel_rfl

def seenE (ids : List (Ty.int .i64).T) : List ((Ty.int .i64).T × Ty.bool.T) := ids.map fun x => (x, true)
theorem seenE_append (ids : List (Ty.int .i64).T) (x : Int) : seenE (ids ++ [x]) = seenE ids ++ [(x, true)] := by simp [seenE]
theorem lk_seen {ids : List (Ty.int .i64).T} {y : Int} : lk (kt := .int .i64) (vt := .bool) (seenE ids) y = if y ∈ ids then some true else none := by
  induction ids with
  | nil => rfl
  | cons x ids ih =>
    have e : seenE (x :: ids) = [(x, true)] ++ seenE ids := rfl
    rw [e, lk_append, lk_one rfl, ih]
    by_cases h : y = x
    · subst h; simp
    · rw [if_neg h]
      simp only [Option.none_or, List.mem_cons]
      by_cases h2 : y ∈ ids
      · rw [if_pos h2, if_pos (Or.inr h2)]
      · rw [if_neg h2, if_neg (by rintro (h3 | h3) <;> contradiction)]

theorem intern_reach_sp {id : Int} (s : Sp w0 Ω w) (i : Nat) (hi : Ω[i]? = some (sto p most T)) (h0 : 0 ≤ id) (h1 : id ≤ T.length) {K : Sl → World → Prop} (h : ∀ sl w', Sp w0 (own (.int .i64) sl (rlist T [id]) :: Ω) w' → K sl w') : C_intern_Store_reach (some p) id K w := by
  apply S_intern_Store_reach
  unfold F_intern_Store_reach
  obtain ⟨_, _, _, hb0, hb1, hb2, hg⟩ := Sp.entry s i hi
  have hS : ∀ x ∈ [id], 0 ≤ x ∧ x ≤ (T.length : Int) := fun x hx => by simp at hx; subst hx; exact ⟨h0, h1⟩
  refine gd_eq (fun c => ?_) (fun c => s.allocK fun a1 w1 s => s.allocMap (.int .i64) .bool fun r w2 s => ?_)
  · subst c
    rw [rlist_zero] at h
    exact h _ _ (s.nil (.int .i64))
  refine s.upNew 0 rfl (by decide) mapIB eqID (by simp) id true rfl fun w3 s => ?_
  have s' : Sp w0 (mp (.int .i64) .bool r (seenE [id]) :: own (.int .i64) ⟨some ⟨a1, 0, none⟩, 1, 1⟩ [id] :: Ω) w3 := s.lit (ty := .int .i64) 1 rfl [id] 1 rfl rfl
  clear s
  refine ⟨fun x w => ∃ (ids : List (Ty.int .i64).T) (k : Nat), x.2.1 = (k : Int) ∧ k ≤ ids.length ∧ ids.Nodup ∧ (∀ y ∈ ids, Rch T [id] y) ∧ id ∈ ids ∧ (∀ j, j < k → ∀ y : Int, ids[j]? = some y → ∀ z ∈ refs (eAt T y).1, z ∈ ids) ∧
      Sp w0 (mp (.int .i64) .bool r (seenE ids) :: own (.int .i64) x.1 ids :: Ω) w, fun x _ => ((T.length : Int) - x.2.1).toNat,
    ⟨[id], 0, rfl, Nat.zero_le _, by simp, fun y hy => by simp at hy; subst hy; exact .root (by simp) c, by simp, fun j hj => by omega, s'⟩, ?_⟩
  rintro ⟨sl, x, _⟩ w4 ⟨ids, k, hx, hk, hnd, hrch, hid, hcl, s⟩ _
  dsimp only at hx s ⊢
  subst hx
  have hlen := (s.view 1 rfl).len
  have hbd : ∀ y ∈ ids, 1 ≤ (y : Int) ∧ (y : Int) ≤ (T.length : Nat) := fun y hy => (hrch y hy).bound hg hS
  have hnb := nodup_bound hnd hbd
  refine gd_dec (fun hlt => ?_) (fun hge => ?_)
  · have hk' : k < ids.length := by omega
    obtain ⟨y, hy⟩ : ∃ y : Int, ids[k]? = some y := ⟨_, List.getElem?_eq_getElem hk'⟩
    have hyb : 1 ≤ y ∧ y ≤ (T.length : Int) := hbd y (List.mem_of_getElem? hy)
    refine s.drawK fun w5 s => nonNil_some ?_
    obtain ⟨lsl, hl, hv, _⟩ := Sp.entry s (i + 2) hi
    refine ⟨lsl, hl, (s.view 1 rfl).idx rfl hy rfl fun q hq => ⟨y, hq, arith_i64 (by omega) (by omega) ?_⟩⟩
    refine hv.idx (n := (y - 1).toNat) (by omega) (eAt_get hyb.1 hyb.2) rfl fun q hq => ⟨(eAt T y).1, hq.sub 0 rfl, rule_Refs_spec s fun rsl w6 s => ?_⟩
    have hrl := refs_len (eAt T y).1
    refine loop_by (fun x => x.2.1) (refs (eAt T y).1).length (fun n x w => ∃ more : List (Ty.int .i64).T, (ids ++ more).Nodup ∧ (∀ y ∈ ids ++ more, Rch T [id] y) ∧ (∀ j, j < n → ∀ z : Int, (refs (eAt T y).1)[j]? = some z → z ∈ ids ++ more) ∧
      Sp w0 (own (.int .i64) rsl (refs (eAt T y).1) :: mp (.int .i64) .bool r (seenE (ids ++ more)) :: own (.int .i64) x.1 (ids ++ more) :: Ω) w) rfl ⟨[], by simpa using hnd, by simpa using hrch, fun j hj => by omega, by simpa using s⟩ ?_
    rintro n ⟨sl2, x, _⟩ w7 hn hx ⟨more, hnd2, hrch2, hin, s⟩ _
    dsimp only at hx s ⊢
    subst hx
    have hrlen := (s.view 0 rfl).len
    refine gd_dec (fun hlt2 => ?_) (fun hge2 => ?_)
    · have hn' : n < (refs (eAt T y).1).length := by omega
      obtain ⟨z, hz⟩ : ∃ z : Int, (refs (eAt T y).1)[n]? = some z := ⟨_, List.getElem?_eq_getElem hn'⟩
      have hzr : Rch T [id] z := .ref (hrch y (List.mem_of_getElem? hy)) (List.mem_of_getElem? hz)
      refine JoinP.inl ((s.view 0 rfl).idx rfl hz rfl fun q hq => ⟨z, hq, ?_⟩)
      refine ⟨_, lk1_run (by decide) mapIB eqID (by simp) zeroIB (s.mp_ 1 rfl) z, ?_⟩
      rw [lk_seen]
      by_cases hm : z ∈ ids ++ more
      · rw [if_pos hm]
        refine gd_f rfl fun _ => arith_i64 (by omega) (by omega) (loop_nx hn' ⟨more, hnd2, hrch2, fun j hj u hu => ?_, s⟩)
        by_cases hjn : j < n
        · exact hin j hjn u hu
        · have : j = n := by omega
          subst this
          rw [hz] at hu; cases hu; exact hm
      · rw [if_neg hm]
        have hbd2 : ∀ y ∈ ids ++ more, 1 ≤ (y : Int) ∧ (y : Int) ≤ (T.length : Nat) := fun y hy => (hrch2 y hy).bound hg hS
        have hnb2 := nodup_bound hnd2 hbd2
        refine gd_t rfl (s.upNew 1 rfl (by decide) mapIB eqID (by simp) z true (by rw [lk_seen, if_neg hm]) fun w8 s => s.allocK fun a20 w9 s => s.app 3 rfl ((s.lit (ty := .int .i64) 0 rfl [z] 1 rfl rfl).view 0 rfl) (by simp only [List.length_cons, List.length_nil]; omega) fun s21 w10 s => ?_)
        have hnd3 : (ids ++ (more ++ [z])).Nodup := by
          rw [← List.append_assoc, List.nodup_append]
          exact ⟨hnd2, by simp, fun a ha b hb => by simp at hb; subst hb; exact fun e => hm (e ▸ ha)⟩
        intro _
        refine arith_i64 (by omega) (by omega) (loop_nx hn' ⟨more ++ [z], hnd3, fun u hu => ?_, fun j hj u hu => ?_, ?_⟩)
        · rw [← List.append_assoc] at hu
          rcases List.mem_append.1 hu with h | h
          · exact hrch2 u h
          · simp at h; subst h; exact hzr
        · rw [← List.append_assoc]
          by_cases hjn : j < n
          · exact List.mem_append_left _ (hin j hjn u hu)
          · have : j = n := by omega
            subst this
            rw [hz] at hu; cases hu; simp
        · have s' := s.pop
          rw [← List.append_assoc, seenE_append]
          exact s'
    · have hn' : n = (refs (eAt T y).1).length := by omega
      have hyT : k < T.length := by omega
      refine arith_i64 (by omega) (by omega) ⟨⟨ids ++ more, k + 1, rfl, by simp; omega, hnd2, hrch2, List.mem_append_left _ hid, fun j hj u hu z hz => ?_, s.pop⟩, by omega⟩
      by_cases hjk : j < k
      · rw [List.getElem?_append_left (by omega)] at hu
        exact List.mem_append_left _ (hcl j hjk u hu z hz)
      · have : j = k := by omega
        subst this
        rw [List.getElem?_append_left (by omega), hy] at hu
        cases hu
        obtain ⟨j2, hj2⟩ := List.getElem?_of_mem hz
        exact hin j2 (by have := (List.getElem?_eq_some_iff.1 hj2).1; omega) z hj2
  · have hk' : k = ids.length := by omega
    refine slices_Sort_sp s 1 rfl (by omega) fun w5 s => ?_
    have hmem : ∀ x : Int, x ∈ ids ↔ Rch T [id] x := fun x => by
      refine ⟨fun hx => hrch x hx, fun hx => ?_⟩
      induction hx with
      | root h1 _ => simp at h1; subst h1; exact hid
      | ref _ h2 ih =>
        obtain ⟨j, hj⟩ := List.getElem?_of_mem ih
        exact hcl j (by have := (List.getElem?_eq_some_iff.1 hj).1; omega) _ hj _ h2
    rw [srt_rlist hg hS hnd hmem] at s
    exact h _ _ s.pop

theorem intern_Export_sp {id : Int} (s : Sp w0 Ω w) (i : Nat) (hi : Ω[i]? = some (sto p most T)) {K : Sl × Value → World → Prop} (h1 : 0 ≤ id ∧ id ≤ T.length → ∀ sl w', Sp w0 (own yapi_Rule sl (exp T (rlist T [id])) :: Ω) w' → K (sl, .nilIface) w')
    (h2 : ¬ (0 ≤ id ∧ id ≤ T.length) → K (⟨none, 0, 0⟩, errV 1) w) : C_intern_Store_Export (some p) id K w := by
  apply S_intern_Store_Export
  unfold F_intern_Store_Export
  refine gd_f rfl (intern_known_sp s i hi ?_)
  by_cases hk : 0 ≤ id ∧ id ≤ T.length
  rotate_left
  · have : known T id = false := decide_eq_false hk
    rw [this]
    exact gd_t rfl (h2 hk)
  have hkn : known T id = true := decide_eq_true hk
  rw [hkn]
  replace h1 := h1 hk
  obtain ⟨_, _, _, hb0, hb1, hb2, hg⟩ := Sp.entry s i hi
  have hS : ∀ x ∈ [id], 0 ≤ x ∧ x ≤ (T.length : Int) := fun x hx => by simp at hx; subst hx; exact hk
  have hc := rlist_closed hg hS
  have hrl := rlist_len T [id]
  refine gd_f rfl (intern_reach_sp s i hi hk.1 hk.2 fun sl w2 s => s.allocMap (.int .i64) (.int .i64) fun r w3 s => ?_)
  generalize rlist T [id] = ids at *
  have hlen := (s.view 1 rfl).len
  refine ⟨by omega, by omega, by omega, by omega, s.mkS yapi_Rule (0, 0, 0, 0, 0) 0 sl.len (Nat.zero_le _) (fun a4 w4 s => ?_) rfl (by simp; rfl)⟩
  refine loop_by (fun x => x.2.1) ids.length (fun n x w => Sp w0 (own yapi_Rule x.1 ((exp T ids).take n) :: mp (.int .i64) (.int .i64) r (ent (ids.take n)) :: own (.int .i64) sl ids :: Ω) w) rfl s ?_
  rintro n ⟨out, x, _⟩ w5 hn hx s _
  dsimp only at hx s ⊢
  subst hx
  refine gd_dec (fun hlt => ?_) (fun hge => ?_)
  · have hn' : n < ids.length := by omega
    obtain ⟨y, hy⟩ : ∃ y : Int, ids[n]? = some y := ⟨_, List.getElem?_eq_getElem hn'⟩
    have hyb := hc.bound y (List.mem_of_getElem? hy)
    have hty : ids.take (n + 1) = ids.take n ++ [y] := by rw [List.take_add_one, hy]; rfl
    have hnt : (ids.take (n + 1)).Nodup := hc.nodup.sublist (List.take_sublist _ _)
    have hny : y ∉ ids.take n := fun hm => by
      rw [hty, List.nodup_append] at hnt
      exact hnt.2.2 y hm y (by simp) rfl
    have hln : (ids.take n).length = n := by rw [List.length_take]; omega
    have hex : (exp T ids)[n]? = some (mvr ids (eAt T y).1) := by unfold exp; rw [List.getElem?_map, hy]; rfl
    have hpos : ∀ z : Int, (z ∈ ids → z < y) → (lk (ent (ids.take (n + 1))) z).getD (0 : Int) = pos ids z := fun z hz => by
      by_cases hm : z ∈ ids
      · obtain ⟨j, hj⟩ := List.getElem?_of_mem hm
        have hjn : j < n := (sorted_lt hc.sorted hj hy).1 (hz hm)
        have hj' : (ids.take (n + 1))[j]? = some z := by rw [List.getElem?_take_of_lt (by omega)]; exact hj
        rw [lk_ent_some hnt hj', pos_some hc.nodup hj]; rfl
      · rw [pos_none hm, lk_ent_none fun h => hm (List.mem_of_mem_take h)]; rfl
    refine (s.view 2 rfl).idx rfl hy rfl fun q hq => ⟨y, hq, arith_i64 (by omega) (by omega) (s.upNew 1 rfl (by decide) mapII eqID (by simp) y ((n : Int) + 1) (lk_ent_none hny) fun w6 s => nonNil_some ?_)⟩
    have e : ent (ids.take n) ++ [(y, (n : Int) + 1)] = ent (ids.take (n + 1)) := by rw [hty, ent_append, hln]
    rw [e] at s
    obtain ⟨lsl, hl, hv, _⟩ := Sp.entry s (i + 3) hi
    refine ⟨lsl, hl, arith_i64 (by omega) (by omega) (hv.idx (n := (y - 1).toNat) (by omega) (eAt_get hyb.1 hyb.2) rfl fun q hq => ⟨(eAt T y).1, hq.sub 0 rfl, s.allocK fun a15 w7 s => s.st0 0 rfl rfl rfl fun w8 s => s.drawK fun w9 s => ?_⟩)⟩
    have hrefs : ((eAt T y).1.2.2.1 ∈ ids → (eAt T y).1.2.2.1 < y) ∧ ((eAt T y).1.2.2.2.1 ∈ ids → (eAt T y).1.2.2.2.1 < y) := by
      have := shape_refs (hg.shape hyb.1 hyb.2) hyb.1 hyb.2
      exact ⟨fun _ => this.1.2, fun _ => this.2.2⟩
    refine s.ldi (x := (eAt T y).1.2.2.1) 0 2 rfl rfl ⟨_, lk1_run (by decide) mapII eqID (by simp) zeroII (s.mp_ 2 rfl) (eAt T y).1.2.2.1, s.ldi (x := (eAt T y).1.2.2.2.1) 0 3 rfl rfl ⟨_, lk1_run (by decide) mapII eqID (by simp) zeroII (s.mp_ 2 rfl) (eAt T y).1.2.2.2.1, ?_⟩⟩
    rw [hpos _ hrefs.1, hpos _ hrefs.2]
    refine s.st 0 2 rfl rfl rfl fun w10 s => ⟨?_, s.st 0 3 rfl rfl rfl fun w11 s => s.ld0 (ty := yapi_Rule) (x := mvr ids (eAt T y).1) 0 rfl rfl (s.allocK fun a21 w12 s => ?_)⟩
    · have := lk1_run (P := P) (w := w10) (kt := .int .i64) (vt := .int .i64) (d := 1) (by decide) mapII eqID (by simp) zeroII (s.mp_ 2 rfl) (eAt T y).1.2.2.2.1
      rw [hpos _ hrefs.2] at this
      exact this
    refine s.app 2 rfl ((s.lit (ty := yapi_Rule) 0 rfl [mvr ids (eAt T y).1] 1 (by simp [flat]) rfl).view 0 rfl) (by
      have := exp_len T ids
      simp only [List.length_take, List.length_cons, List.length_nil]; omega) fun s22 w13 s => arith_i64 (by omega) (by omega) (loop_nx hn' ?_)
    have ht : (exp T ids).take (n + 1) = (exp T ids).take n ++ [mvr ids (eAt T y).1] := by rw [List.take_add_one, hex]; rfl
    rw [ht]
    exact s.drop 2
  · have hn' : n = ids.length := by omega
    subst hn'
    have e1 : (exp T ids).take ids.length = exp T ids := by rw [← exp_len T ids, List.take_length]
    rw [e1] at s
    exact h1 _ _ (s.pick [0] 3 rfl (by decide))

end Go.Proofs.YtnmgjpcooncjlaaGreat

/- What collect's Reach returns: the list of what the roots reach, in order. -/
set_option linter.unusedVariables false
set_option linter.unusedSimpArgs false
namespace Go.Proofs.YtnmgjpcooncjlaaGreat
open Go.Den

variable {w0 w : World} {Ω : List Ob} {most : Int} {T : List ET} {i : Nat} {p : Addr}

theorem collect_known_sp {id : Int} (s : Sp w0 Ω w) (i : Nat) (hi : Ω[i]? = some (sto p most T)) {K : Bool → World → Prop} (h : K (known T id) w) : C_collect_known (some p) id K w := by
  apply S_collect_known
  unfold F_collect_known
  refine gd_dec (fun h1 => intern_Len_sp s i hi ?_) (fun h1 => ?_)
  · have : decide (id ≤ (T.length : Int)) = known T id := by rw [known]; exact decide_eq_decide.2 (by omega)
    rw [this]; exact h
  · have : false = known T id := by simp [known]; omega
    rw [this]; exact h

/-- what a visit leaves -/
def vis (ids : List Int) (x : Int) : List Int := if x ∈ (0 : Int) :: ids then ids else ids ++ [x]
def St4 (a3 a1 r : Nat) (sl : Sl) (ids : List Int) (Ω : List Ob) : List Ob :=
  cel a3 [.map (some r)] :: cel a1 [.slice sl.a sl.len sl.cap] :: own (.int .i64) sl ids :: mp (.int .i64) .bool r (seenE ((0 : Int) :: ids)) :: Ω
theorem collect_visit_sp {a3 a1 r : Nat} {sl : Sl} {ids : List Int} {x : Int} (s : Sp w0 (St4 a3 a1 r sl ids Ω) w) (hN : ids.length ≤ 1000000000) {K : Unit → World → Prop}
    (h : ∀ sl' w', Sp w0 (St4 a3 a1 r sl' (vis ids x) Ω) w' → K () w') : C_collect_Reach_1 x ⟨a3, 0, none⟩ ⟨a1, 0, none⟩ K w := by
  apply S_collect_Reach_1
  unfold F_collect_Reach_1
  unfold St4 at s
  refine s.ldm0 (x := some r) 0 rfl rfl ⟨_, lk1_run (by decide) mapIB eqID (by simp) zeroIB (s.mp_ 3 rfl) x, ?_⟩
  rw [lk_seen]
  by_cases hm : x ∈ (0 : Int) :: ids
  · rw [if_pos hm]
    have hv : vis ids x = ids := if_pos hm
    rw [hv] at h
    exact gd_f rfl (h sl w s)
  · rw [if_neg hm]
    have hv : vis ids x = ids ++ [x] := if_neg hm
    rw [hv] at h
    refine gd_t rfl (s.ldm0 (x := some r) 0 rfl rfl (s.upNew 3 rfl (by decide) mapIB eqID (by simp) x true (by rw [lk_seen, if_neg hm]) fun w1 s => s.lds0 (x := sl) 1 rfl rfl ?_))
    refine s.allocK fun a5 w2 s => s.app 3 rfl ((s.lit (ty := .int .i64) 0 rfl [x] 1 rfl rfl).view 0 rfl) (by simp only [List.length_cons, List.length_nil]; omega) fun s6 w3 s => s.st0 2 rfl rfl rfl fun w4 s => h s6 _ ?_
    have s' := s.pop
    unfold St4
    rw [show ((0 : Int) :: (ids ++ [x])) = ((0 : Int) :: ids) ++ [x] from rfl, seenE_append]
    exact s'

/-- what is known of the list, while it grows -/
structure Vis (T : List ET) (S ids : List Int) : Prop where
  nodup : ids.Nodup
  rch : ∀ y ∈ ids, Rch T S y
theorem Vis.step {S ids : List Int} {x : Int} (v : Vis T S ids) (hx : x ≠ 0 → Rch T S x) : Vis T S (vis ids x) ∧ ids <+: vis ids x ∧ (x ≠ 0 → x ∈ vis ids x) := by
  unfold vis
  by_cases hm : x ∈ (0 : Int) :: ids
  · rw [if_pos hm]
    refine ⟨v, List.prefix_refl _, fun h => ?_⟩
    rcases List.mem_cons.1 hm with h' | h'
    · exact absurd h' h
    · exact h'
  · rw [if_neg hm]
    have h0 : x ≠ 0 := fun e => hm (by rw [e]; simp)
    have hn : x ∉ ids := fun e => hm (List.mem_cons_of_mem _ e)
    refine ⟨⟨?_, fun y hy => ?_⟩, List.prefix_append _ _, fun _ => by simp⟩
    · rw [List.nodup_append]
      exact ⟨v.nodup, by simp, fun a ha b hb => by simp at hb; subst hb; exact fun e => hn (e ▸ ha)⟩
    · rcases List.mem_append.1 hy with h | h
      · exact v.rch y h
      · simp at h; subst h; exact hx h0
theorem Vis.bound {S ids : List Int} (g : Grow T) (hS : ∀ x ∈ S, 0 ≤ x ∧ x ≤ (T.length : Int)) (v : Vis T S ids) : (∀ y ∈ ids, 1 ≤ y ∧ y ≤ (T.length : Int)) ∧ ids.length ≤ T.length := by
  have h : ∀ y ∈ ids, 1 ≤ y ∧ y ≤ (T.length : Int) := fun y hy => (v.rch y hy).bound g hS
  exact ⟨h, nodup_bound v.nodup h⟩

theorem Rch.mono {S S' : List Int} (h : ∀ x ∈ S, x ∈ S') {x : Int} (r : Rch T S x) : Rch T S' x := by
  induction r with
  | root h1 h2 => exact .root (h _ h1) h2
  | ref _ h2 ih => exact .ref ih h2

theorem collect_Reach_sp {rsl : Sl} {S : List Int} (s : Sp w0 Ω w) (i : Nat) (hi : Ω[i]? = some (sto p most T)) (hv : ∀ w', Sp w0 Ω w' → View (.int .i64) w' rsl S) (hSN : S.length ≤ 1000000000) {K : Sl × Value → World → Prop}
    (h : (∀ x ∈ S, 0 ≤ x ∧ x ≤ (T.length : Int)) → ∀ sl w', Sp w0 (own (.int .i64) sl (rlist T S) :: Ω) w' → K (sl, .nilIface) w')
    (hbad : ¬ (∀ x ∈ S, 0 ≤ x ∧ x ≤ (T.length : Int)) → ∀ w', Sp w0 Ω w' → K (⟨none, 0, 0⟩, errV 1) w') : C_collect_Reach (some p) rsl K w := by
  apply S_collect_Reach
  unfold F_collect_Reach
  obtain ⟨_, _, _, hb0, hb1, hb2, hg⟩ := Sp.entry s i hi
  have hlen := (hv _ s).len
  refine gd_f rfl (s.allocK fun a1 w1 s => s.allocMap (.int .i64) .bool fun r w2 s => s.upNew 0 rfl (by decide) mapIB eqID (by simp) (0 : Int) true rfl fun w3 s => s.allocK fun a3 w4 s => s.st0 0 rfl rfl rfl fun w5 s => ?_)
  have s : Sp w0 (St4 a3 a1 r ⟨none, 0, 0⟩ [] Ω) w5 := (s.nil (.int .i64)).pick [1, 3, 0, 2] 4 rfl (by decide)
  refine loop_by (fun x => x.1) S.length (fun n _ w => (∀ x ∈ S.take n, 0 ≤ x ∧ x ≤ (T.length : Int)) ∧ ∃ sl ids, Vis T (S.take n) ids ∧ (∀ x ∈ S.take n, x ≠ 0 → x ∈ ids) ∧ Sp w0 (St4 a3 a1 r sl ids Ω) w) rfl ⟨by simp, ⟨none, 0, 0⟩, [], ⟨by simp, by simp⟩, by simp, s⟩ ?_
  rintro n ⟨x, _⟩ w6 hn hx ⟨hkn, sl, ids, hvis, hin, s⟩ _
  dsimp only at hx ⊢
  subst hx
  have hvb := hvis.bound hg hkn
  refine gd_dec (fun hlt => ?_) (fun hge => ?_)
  · have hn' : n < S.length := by omega
    have hget := List.getElem?_eq_getElem hn'
    have htk : S.take (n + 1) = S.take n ++ [S[n]] := by rw [List.take_add_one, hget]; rfl
    have hmem := List.getElem_mem hn'
    generalize S[n] = z at hget htk hmem
    refine (hv _ (s.drop 4)).idx rfl hget rfl fun q hq => ⟨z, hq, collect_known_sp s (i + 4) hi ?_⟩
    by_cases hz : 0 ≤ z ∧ z ≤ (T.length : Int)
    · rw [show known T z = true from decide_eq_true hz]
      refine gd_f rfl (collect_visit_sp s (by omega) fun sl' w7 s => arith_i64 (by omega) (by omega) (loop_nx hn' ?_))
      have v2 : Vis T (S.take (n + 1)) ids := ⟨hvis.nodup, fun y hy => (hvis.rch y hy).mono fun u hu => by rw [htk]; exact List.mem_append_left _ hu⟩
      obtain ⟨v3, v4, v5⟩ := v2.step (x := z) fun h0 => .root (by rw [htk]; simp) h0
      refine ⟨fun u hu => ?_, sl', vis ids z, v3, fun u hu h0 => ?_, s⟩
      · rw [htk] at hu
        rcases List.mem_append.1 hu with h | h
        · exact hkn u h
        · simp at h; subst h; exact hz
      · rw [htk] at hu
        rcases List.mem_append.1 hu with h | h
        · exact v4.subset (hin u h h0)
        · simp at h; subst h; exact v5 h0
    · rw [show known T z = false from decide_eq_false hz]
      exact gd_t rfl (hbad (fun h => hz (h z hmem)) _ (s.drop 4))
  have hn' : n = S.length := by omega
  subst hn'
  rw [List.take_length] at hkn hvis hin
  refine ⟨fun x w => ∃ (sl : Sl) (ids : List Int) (k : Nat), x.1 = (k : Int) ∧ k ≤ ids.length ∧ Vis T S ids ∧ (∀ x ∈ S, x ≠ 0 → x ∈ ids) ∧ (∀ j, j < k → ∀ y : Int, ids[j]? = some y → ∀ z ∈ refs (eAt T y).1, z ∈ ids) ∧ Sp w0 (St4 a3 a1 r sl ids Ω) w,
    fun x _ => ((T.length : Int) - x.1).toNat, ⟨sl, ids, 0, rfl, Nat.zero_le _, hvis, hin, fun j hj => by omega, s⟩, ?_⟩
  clear hvb hvis hin
  rintro ⟨x, _⟩ w7 ⟨sl, ids, k, hx, hk, hvis, hin, hcl, s⟩ _
  dsimp only at hx ⊢
  subst hx
  have hvb := hvis.bound hg hkn
  have hlen2 := (s.view 2 rfl).len
  refine s.lds0 (x := sl) 1 rfl rfl (gd_dec (fun hlt => ?_) (fun hge => ?_))
  · have hk' : k < ids.length := by omega
    obtain ⟨y, hy⟩ : ∃ y : Int, ids[k]? = some y := ⟨_, List.getElem?_eq_getElem hk'⟩
    have hyb := hvb.1 y (List.mem_of_getElem? hy)
    refine s.lds0 (x := sl) 1 rfl rfl ((s.view 2 rfl).idx rfl hy rfl fun q hq => ⟨y, hq, intern_Rule_k s (i + 4) hi hyb fun w8 s => s.allocK fun a18 w9 s => s.st0 0 rfl rfl rfl fun w10 s => nilIfc_nil (gd_f rfl (s.ld0 (ty := yapi_Rule) (x := (eAt T y).1) 0 rfl rfl (rule_Refs_spec s fun rl w11 s => ?_)))⟩)
    have hrl := refs_len (eAt T y).1
    have s : Sp w0 (St4 a3 a1 r sl ids (own (.int .i64) rl (refs (eAt T y).1) :: Ω)) w11 := s.pick [2, 3, 4, 5, 0] 6 rfl (by decide)
    refine loop_by (fun x => x.1) (refs (eAt T y).1).length (fun n _ w => ∃ sl' ids', Vis T S ids' ∧ ids <+: ids' ∧ (∀ j, j < n → ∀ z : Int, (refs (eAt T y).1)[j]? = some z → z ∈ ids') ∧
      Sp w0 (St4 a3 a1 r sl' ids' (own (.int .i64) rl (refs (eAt T y).1) :: Ω)) w) rfl ⟨sl, ids, hvis, List.prefix_refl _, fun j hj => by omega, s⟩ ?_
    rintro n ⟨x, _⟩ w12 hn hx ⟨sl', ids', hvis', hpre, hr, s⟩ _
    dsimp only at hx ⊢
    subst hx
    have hvb' := hvis'.bound hg hkn
    have hrlen := (s.view 4 rfl).len
    refine gd_dec (fun hlt2 => ?_) (fun hge2 => ?_)
    · have hn' : n < (refs (eAt T y).1).length := by omega
      obtain ⟨z, hz⟩ : ∃ z : Int, (refs (eAt T y).1)[n]? = some z := ⟨_, List.getElem?_eq_getElem hn'⟩
      have hzm := List.mem_of_getElem? hz
      have hzb := refs_in hg hyb.1 hyb.2 hzm
      refine (s.view 4 rfl).idx rfl hz rfl fun q hq => ⟨z, hq, collect_visit_sp s (by omega) fun sl3 w13 s => arith_i64 (by omega) (by omega) (loop_nx hn' ?_)⟩
      obtain ⟨v3, v4, v5⟩ := hvis'.step (x := z) fun _ => .ref (hvis.rch y (List.mem_of_getElem? hy)) hzm
      refine ⟨sl3, vis ids' z, v3, hpre.trans v4, fun j hj u hu => ?_, s⟩
      by_cases hjn : j < n
      · exact v4.subset (hr j hjn u hu)
      · have : j = n := by omega
        subst this
        rw [hz] at hu; cases hu; exact v5 (by omega)
    · refine arith_i64 (by omega) (by omega) ⟨⟨sl', ids', k + 1, rfl, ?_, hvis', fun u hu h0 => hpre.subset (hin u hu h0), fun j hj u hu z hz => ?_, s.pick [0, 1, 2, 3] 5 rfl (by decide)⟩, by omega⟩
      · have := hpre.length_le; omega
      · have hju : ids[j]? = some u := by
          obtain ⟨t, rfl⟩ := hpre
          rwa [List.getElem?_append_left (by omega)] at hu
        by_cases hjk : j < k
        · exact hpre.subset (hcl j hjk u hju z hz)
        · have : j = k := by omega
          subst this
          rw [hy] at hju
          cases hju
          obtain ⟨j2, hj2⟩ := List.getElem?_of_mem hz
          exact hr j2 (by have := (List.getElem?_eq_some_iff.1 hj2).1; omega) z hj2
  · refine s.lds0 (x := sl) 1 rfl rfl (slices_Sort_sp s 2 rfl (by omega) fun w8 s => s.lds0 (x := sl) 1 rfl rfl ?_)
    have hmem : ∀ x : Int, x ∈ ids ↔ Rch T S x := fun x => by
      refine ⟨fun hx => hvis.rch x hx, fun hx => ?_⟩
      induction hx with
      | root h1 h2 => exact hin _ h1 h2
      | ref _ h2 ih =>
        obtain ⟨j, hj⟩ := List.getElem?_of_mem ih
        exact hcl j (by have := (List.getElem?_eq_some_iff.1 hj).1; omega) _ hj _ h2
    have s' : Sp w0 (cel a3 [.map (some r)] :: cel a1 [.slice sl.a sl.len sl.cap] :: own (.int .i64) sl (srt ids) :: mp (.int .i64) .bool r (seenE ((0 : Int) :: ids)) :: Ω) w8 := s
    rw [srt_rlist hg hkn hvis.nodup hmem] at s'
    exact h hkn sl _ (s'.pick [2] 4 rfl (by decide))

end Go.Proofs.YtnmgjpcooncjlaaGreat

/- What the specification's Reached and Export compute, and the walk of InternExports. -/
set_option linter.unusedVariables false
set_option linter.unusedSimpArgs false
namespace Go.Proofs.YtnmgjpcooncjlaaGreat
open Go.Den

variable {w0 w : World} {Ω : List Ob} {most : Int} {T : List ET} {j : Nat}  {p : Addr}

theorem refs_iff (g : Grow T) {y x : Int} (h1 : 1 ≤ y) (h2 : y ≤ T.length) (hx : 1 ≤ x) : x ∈ refs (eAt T y).1 ↔ x = (eAt T y).1.2.2.1 ∨ x = (eAt T y).1.2.2.2.1 := by
  cases g.shape h1 h2 with
  | letter b _ _ e => rw [e]; simp [refs, mkLetter]; omega
  | pair l r _ _ _ _ _ e => rw [e]; simp [refs, mkPair]
  | power a k _ _ _ _ e => rw [e]; simp [refs, mkPower]; omega
theorem Rch.iff {S : List Int} (g : Grow T) (hS : ∀ x ∈ S, 0 ≤ x ∧ x ≤ (T.length : Int)) {x : Int} (hx : 1 ≤ x) : Rch T S x ↔ x ∈ S ∨ ∃ y, x < y ∧ Rch T S y ∧ x ∈ refs (eAt T y).1 := by
  constructor
  · intro h
    cases h with
    | root h1 _ => exact Or.inl h1
    | ref h1 h2 =>
      have b := h1.bound g hS
      exact Or.inr ⟨_, (refs_in g b.1 b.2 h2).2, h1, h2⟩
  · rintro (h | ⟨y, _, h1, h2⟩)
    · exact .root h (by omega)
    · exact .ref h1 h2

end Go.Proofs.YtnmgjpcooncjlaaGreat
