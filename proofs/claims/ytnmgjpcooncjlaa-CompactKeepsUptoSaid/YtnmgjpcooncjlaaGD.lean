/- Texts that belong together, joined: RefA, RefB, RefC, LawAA, LawBA, LawCA, Shape, LawDA, ImpA, Rch, Keep, KeepB, RefK, RefL, RefM, Beg, BegB, CompA, CompB, InpR. No conditions. -/
import Derived.Test.YtnmgjpcooncjlaaRows
import Derived.Deep.Strs
import Derived.JoinedCond
import Derived.ProofKit
import Derived.Test.YtnmgjpcooncjlaaGC
import Derived.Test.YtnmgjpcooncjlaaGB
/- The specification of the layer (evergreenref10): its store is the same list. -/
set_option linter.unusedVariables false
set_option linter.unusedSimpArgs false
namespace Go.Proofs.Ytnmgjpcooncjlaa
open Go.Den

variable {w0 w : World} {Ω : List Ob} {most : Int} {T : List ET} {j : Nat} 

def rulesOf (T : List ET) : List yapi_Rule.T := T.map fun e => e.1
def lensOf (T : List ET) : List (Ty.int .i64).T := T.map fun e => e.2.1.1
def depsOf (T : List ET) : List (Ty.int .i64).T := T.map fun e => e.2.2.1
theorem rulesOf_len (T : List ET) : (rulesOf T).length = T.length := List.length_map _

theorem blk_none {b : Nat} (h : blk ⟨none, 0, 0⟩ b) : False := by
  obtain ⟨q, h, _⟩ := h
  cases h

theorem clip_form (n : Int) : (if (0 : Int) < (if 1048576 < n then 1048576 else n) then (if 1048576 < n then 1048576 else n) else 0) = if n < 0 then 0 else if 1048576 < n then 1048576 else n := by grind
theorem known_get {id : Int} (hk : known T id = true) (hne : id ≠ 0) : 1 ≤ id ∧ id ≤ T.length ∧ T[(id - 1).toNat]? = some (eAt T id) := by
  have := of_decide_eq_true hk
  exact ⟨by omega, this.2, eAt_get (by omega) this.2⟩
theorem lkR_first : ∀ (T : List ET) (r : RT) (n : Nat) (k : Nat), (∀ i, i < n → ∀ e, T[i]? = some e → e.1 ≠ r) → (∀ e, T[n]? = some e → e.1 = r) → n < T.length →
    ((T.zipIdx k).map fun p => (p.1.1, (p.2 : Int) + 1)).find? (fun p => beqT yapi_Rule r p.1) = some (r, ((k + n : Nat) : Int) + 1)
  | [], _, _, _, _, _, h => by simp at h
  | e :: T, r, 0, k, _, h2, _ => by
    have := h2 e rfl
    rw [List.zipIdx_cons, List.map_cons, List.find?_cons]
    simp only [this, (beqT_iff yapi_Rule rfl r r).2 rfl, Nat.add_zero]
  | e :: T, r, n + 1, k, h1, h2, h3 => by
    have h0 := h1 0 (by omega) e rfl
    have hb : beqT yapi_Rule r e.1 = false := by
      cases hb : beqT yapi_Rule r e.1
      · rfl
      · exact absurd ((beqT_iff yapi_Rule rfl _ _).1 hb).symm h0
    rw [List.zipIdx_cons, List.map_cons, List.find?_cons]
    simp only [hb]
    have := lkR_first T r n (k + 1) (fun i hi e' he => h1 (i + 1) (by omega) e' (by simpa using he)) (fun e' he => h2 e' (by simpa using he)) (by simpa using h3)
    rw [this]
    congr 2
    omega
theorem lkR_at {r : RT} {n : Nat} {e : ET} (h1 : ∀ i, i < n → ∀ e, T[i]? = some e → e.1 ≠ r) (he : T[n]? = some e) (h2 : e.1 = r) : lkR T r = some ((n : Int) + 1) := by
  unfold lkR lk idx
  rw [lkR_first T r n 0 h1 (fun e' he' => by rw [he] at he'; cases he'; exact h2) (List.getElem?_eq_some_iff.1 he).1]
  simp
end Go.Proofs.Ytnmgjpcooncjlaa

/- The specification of the layer (evergreenref10): its calls answer as the store's list. -/
set_option linter.unusedVariables false
set_option linter.unusedSimpArgs false
namespace Go.Proofs.Ytnmgjpcooncjlaa
open Go.Den

variable {w0 w : World} {Ω : List Ob} {most : Int} {T : List ET} {j : Nat} 

theorem View.at_nil {ty : Ty} {s : Sl} {xs : List ty.T} {w : World} (v : View ty w s xs) : s.len = xs.length := v.len
theorem rulesOf_append (T : List ET) (e : ET) : rulesOf (T ++ [e]) = rulesOf T ++ [e.1] := by simp [rulesOf]
theorem lensOf_append (T : List ET) (e : ET) : lensOf (T ++ [e]) = lensOf T ++ [e.2.1.1] := by simp [lensOf]
theorem depsOf_append (T : List ET) (e : ET) : depsOf (T ++ [e]) = depsOf T ++ [e.2.2.1] := by simp [depsOf]
theorem lensOf_len (T : List ET) : (lensOf T).length = T.length := List.length_map _
theorem depsOf_len (T : List ET) : (depsOf T).length = T.length := List.length_map _

end Go.Proofs.Ytnmgjpcooncjlaa

/- The specification of the layer (evergreenref10): Letter, Pair, Power. -/
set_option linter.unusedVariables false
set_option linter.unusedSimpArgs false
namespace Go.Proofs.Ytnmgjpcooncjlaa
open Go.Den

variable {w0 w : World} {Ω : List Ob} {most : Int} {T : List ET} {j : Nat} 

theorem known_false_or {l r : Int} (hu : ¬(known T l = false ∨ known T r = false)) : known T l = true ∧ known T r = true := by
  cases h1 : known T l <;> cases h2 : known T r <;> simp_all
end Go.Proofs.Ytnmgjpcooncjlaa

/- The fixed example of the layer, and the calls of no store. -/
set_option linter.unusedVariables false
set_option linter.unusedSimpArgs false
namespace Go.Proofs.Ytnmgjpcooncjlaa
open Go.Den

variable {w0 : World}

theorem ext_fresh {B B' : Nat → Prop} {w1 w' : World} (e : Ext w0 w1) (k : Step B B' w1 w') (hB : ∀ b, B b → w0.heap.size ≤ b) : Ext w0 w' :=
  ⟨Nat.le_trans e.size k.fr.size, fun b hb _ => by
    rw [k.fr.same b (Nat.lt_of_lt_of_le hb e.size) (fun h => by have := hB b h; omega), e.same b hb (fun h => h)], k.fr.pub.1.trans e.pub.1, k.fr.pub.2.1.trans e.pub.2.1, k.fr.pub.2.2.trans e.pub.2.2⟩

def aw1 : List ET := [mkLetter 97]
def aw2 : List ET := aw1 ++ [mkLetter 98]
def aw3 : List ET := aw2 ++ [mkPair aw2 1 2]
def aw4 : List ET := aw3 ++ [mkPower aw3 3 5]
theorem aw_1 : pLetter [] 4 97 = (aw1, (1, .nilIface)) := by kernel_rfl
theorem aw_2 : pLetter aw1 4 98 = (aw2, (2, .nilIface)) := by kernel_rfl
theorem aw_3 : pPair aw2 4 1 2 = (aw3, (3, .nilIface)) := by kernel_rfl
theorem aw_4 : pPower aw3 4 3 5 = (aw4, (4, .nilIface)) := by kernel_rfl
theorem aw_5 : pPower aw4 4 3 6 = (aw4, (0, errV 3)) := by kernel_rfl

theorem partV_int (cs : Array Value) (off : Nat) : partV P t_int cs off = cs[off]? := by
  have h1 : (P.underlying t_int).isSome = true := by kernel_rfl
  have h2 : isAggP P t_int = false := by kernel_rfl
  unfold partV
  rw [h2]
  cases hu : P.underlying t_int with
  | none => rw [hu] at h1; cases h1
  | some d => rfl
theorem nil_part {x : Int} (h0 : 0 ≤ x) (h8 : x < 8) : partV P t_int #[.int .i64 5, .int .i64 5, .int .i64 5, .int .i64 5, .int .i64 5, .int .i64 5, .int .i64 5, .int .i64 5] (x.toNat * 1) = some (val (.int .i64) (5 : Int)) := by
  rw [partV_int, Nat.mul_one]
  have hn : x.toNat < 8 := by omega
  generalize x.toNat = n at hn
  rcases n with _ | _ | _ | _ | _ | _ | _ | _ | n
  all_goals first | rfl | omega

end Go.Proofs.Ytnmgjpcooncjlaa

/- The calls of the layer's statements as one function of lists, and that a second call changes nothing. -/
set_option linter.unusedVariables false
set_option linter.unusedSimpArgs false
namespace Go.Proofs.Ytnmgjpcooncjlaa
open Go.Den

variable {w0 : World}

abbrev OT := Int × Int × Int × Int × Int
def pOp (L : List ET) (most : Int) (o : OT) : List ET × (Int × Value) :=
  if o.1 % 3 = 0 then pLetter L most o.2.1 else if o.1 % 3 = 1 then pPair L most o.2.2.1 o.2.2.2.1 else pPower L most o.2.2.1 o.2.2.2.2
structure OpOK (o : OT) : Prop where
  kind : 0 ≤ o.1
  b : 0 ≤ o.2.1 ∧ o.2.1 < 256
  k : o.2.2.2.2 ≤ 9223372036854775807

theorem pAdd_twice {L : List ET} {most : Int} {e : ET} : (pAdd L most e).1 = L ∨ ((pAdd L most e) = (L ++ [e], ((L.length : Int) + 1, .nilIface)) ∧ ∀ e' : ET, e'.1 = e.1 → pAdd (L ++ [e]) most e' = (L ++ [e], ((L.length : Int) + 1, .nilIface))) := by
  cases hl : lkR L e.1 with
  | some i => left; rw [(pAdd_some (most := most) hl).2.1]
  | none =>
    by_cases hm : most ≤ L.length
    · left; rw [(pAdd_full (most := most) hl hm).2]
    · right
      refine ⟨(pAdd_new (most := most) hl hm).2, fun e' he => ?_⟩
      unfold pAdd
      rw [he, lkR_append_none hl, if_pos rfl]
theorem twice_of {L : List ET} {f : List ET → List ET × (Int × Value)} (h : (f L).1 = L ∨ f (f L).1 = f L) : f (f L).1 = f L := by
  rcases h with h | h
  · rw [h]
  · exact h
theorem pOp_twice {L : List ET} {most : Int} {o : OT} : pOp (pOp L most o).1 most o = pOp L most o := by
  refine twice_of (f := fun L => pOp L most o) ?_
  simp only [pOp]
  by_cases h0 : o.1 % 3 = 0
  · simp only [if_pos h0]
    rcases pAdd_twice (L := L) (most := most) (e := mkLetter o.2.1) with h | ⟨h, h'⟩
    · exact Or.inl h
    · right
      unfold pLetter
      rw [h]
      exact h' _ rfl
  · simp only [if_neg h0]
    by_cases h1 : o.1 % 3 = 1
    · simp only [if_pos h1]
      generalize o.2.2.1 = l
      generalize o.2.2.2.1 = r
      unfold pPair
      by_cases c1 : known L l = false ∨ known L r = false
      · left; rw [if_pos c1]
      · rw [if_neg c1]
        by_cases c2 : l = 0
        · left; rw [if_pos c2]
        · rw [if_neg c2]
          by_cases c3 : r = 0
          · left; rw [if_pos c3]
          · rw [if_neg c3]
            by_cases c4 : 1152921504606846976 < (eAt L l).2.1.1 + (eAt L r).2.1.1
            · left; rw [if_pos c4]
            · rw [if_neg c4]
              rcases pAdd_twice (L := L) (most := most) (e := mkPair L l r) with h | ⟨h, h'⟩
              · exact Or.inl h
              · right
                have kl : known L l = true := by
                  cases e : known L l
                  · exact absurd (Or.inl e) c1
                  · rfl
                have kr : known L r = true := by
                  cases e : known L r
                  · exact absurd (Or.inr e) c1
                  · rfl
                have bl := of_decide_eq_true kl
                have br := of_decide_eq_true kr
                rw [h]
                simp only
                rw [known_append kl, known_append kr, if_neg (by simp), if_neg c2, if_neg c3, eAt_append bl.1 bl.2, eAt_append br.1 br.2, if_neg c4]
                exact h' _ rfl
    · simp only [if_neg h1]
      generalize o.2.2.1 = x
      generalize o.2.2.2.2 = k
      unfold pPower
      by_cases c1 : known L x = false ∨ k < 0
      · left; rw [if_pos c1]
      · rw [if_neg c1]
        by_cases c2 : k = 0 ∨ x = 0
        · left; rw [if_pos c2]
        · rw [if_neg c2]
          by_cases c3 : k = 1
          · left; rw [if_pos c3]
          · rw [if_neg c3]
            by_cases c4 : 1152921504606846976 < (eAt L x).2.1.1 * k
            · left; rw [if_pos c4]
            · rw [if_neg c4]
              rcases pAdd_twice (L := L) (most := most) (e := mkPower L x k) with h | ⟨h, h'⟩
              · exact Or.inl h
              · right
                have kx : known L x = true := by
                  cases e : known L x
                  · exact absurd (Or.inl e) c1
                  · rfl
                have bx := of_decide_eq_true kx
                rw [h]
                simp only
                rw [known_append kx, if_neg (fun c => c1 (Or.inr (c.resolve_left (by simp)))), if_neg c2, if_neg c3, eAt_append bx.1 bx.2, if_neg c4]
                exact h' _ rfl

theorem pOp_err {L : List ET} {most : Int} {o : OT} : IsErr (pOp L most o).2.2 := by
  unfold pOp
  split
  · exact pLetter_err
  split
  · exact pPair_err
  · exact pPower_err

variable {B : Nat → Prop} {p : Addr} {most : Int} {L : List ET}
end Go.Proofs.Ytnmgjpcooncjlaa

/- The layer's calls of the store and of the specification side by side: do, Built. -/
set_option linter.unusedVariables false
set_option linter.unusedSimpArgs false
namespace Go.Proofs.Ytnmgjpcooncjlaa
open Go.Den

variable {w0 w : World} {Ω : List Ob} {most most' : Int} {T R : List ET} {i j : Nat}  {p : Addr}

theorem pAdd_grow {e : ET} (g : Grow T) (hg : lkR T e.1 = none → (T.length : Int) < most → Grow (T ++ [e])) (hl : (T.length : Int) ≤ most) : Grow (pAdd T most e).1 ∧ ((pAdd T most e).1.length : Int) ≤ most := by
  cases hf : lkR T e.1 with
  | some i => rw [(pAdd_some (most := most) hf).2.1]; exact ⟨g, hl⟩
  | none =>
    by_cases hm : most ≤ T.length
    · rw [(pAdd_full (most := most) hf hm).2]; exact ⟨g, hl⟩
    · rw [(pAdd_new (most := most) hf hm).2]
      refine ⟨hg hf (by omega), ?_⟩
      simp only [List.length_append, List.length_cons, List.length_nil]; omega
theorem pLetter_grow {b : Int} (g : Grow T) (hl : (T.length : Int) ≤ most) (hb : 0 ≤ b ∧ b < 256) : Grow (pLetter T most b).1 ∧ ((pLetter T most b).1.length : Int) ≤ most :=
  pAdd_grow g (fun h _ => .letter g hb.1 hb.2 h) hl
theorem pPair_grow {l r : Int} (g : Grow T) (hl : (T.length : Int) ≤ most) : Grow (pPair T most l r).1 ∧ ((pPair T most l r).1.length : Int) ≤ most := by
  unfold pPair
  split
  · exact ⟨g, hl⟩
  rename_i hu
  obtain ⟨kl, kr⟩ := known_false_or hu
  have bl := of_decide_eq_true kl
  have br := of_decide_eq_true kr
  split
  · exact ⟨g, hl⟩
  split
  · exact ⟨g, hl⟩
  split
  · exact ⟨g, hl⟩
  · exact pAdd_grow g (fun h _ => .pair g (by omega) bl.2 (by omega) br.2 (by omega) h) hl
theorem pPower_grow {x k : Int} (g : Grow T) (hl : (T.length : Int) ≤ most) : Grow (pPower T most x k).1 ∧ ((pPower T most x k).1.length : Int) ≤ most := by
  unfold pPower
  split
  · exact ⟨g, hl⟩
  rename_i hu
  have kx : known T x = true := by
    cases e : known T x
    · exact absurd (Or.inl e) hu
    · rfl
  have hk : ¬ k < 0 := fun h => hu (Or.inr h)
  have bx := of_decide_eq_true kx
  split
  · exact ⟨g, hl⟩
  split
  · exact ⟨g, hl⟩
  split
  · exact ⟨g, hl⟩
  · exact pAdd_grow g (fun h _ => .power g (by omega) bx.2 (by omega) (by omega) h) hl
theorem pOp_grow {o : OT} (g : Grow T) (hl : (T.length : Int) ≤ most) (ho : OpOK o) : Grow (pOp T most o).1 ∧ ((pOp T most o).1.length : Int) ≤ most := by
  unfold pOp
  split
  · exact pLetter_grow g hl ho.b
  split
  · exact pPair_grow g hl
  · exact pPower_grow g hl

def clip20 (n : Int) : Int := if n < 0 then 0 else if 1048576 < n then 1048576 else n
theorem clip20_bound (n : Int) : 0 ≤ clip20 n ∧ clip20 n ≤ 1048576 := by unfold clip20; grind
end Go.Proofs.Ytnmgjpcooncjlaa

/- What a list of rules is made of: each rule is of earlier ones; no rule stands there twice. -/
set_option linter.unusedVariables false
set_option linter.unusedSimpArgs false
namespace Go.Proofs.Ytnmgjpcooncjlaa
open Go.Den

inductive Shape (T : List ET) (id : Int) : Prop
  | letter (b : Int) : 0 ≤ b → b < 256 → eAt T id = mkLetter b → Shape T id
  | pair (l r : Int) : 1 ≤ l → l < id → 1 ≤ r → r < id → (eAt T l).2.1.1 + (eAt T r).2.1.1 ≤ 1152921504606846976 → eAt T id = mkPair T l r → Shape T id
  | power (x k : Int) : 1 ≤ x → x < id → 2 ≤ k → (eAt T x).2.1.1 * k ≤ 1152921504606846976 → eAt T id = mkPower T x k → Shape T id

theorem mkPair_append {T : List ET} {e : ET} {l r : Int} (hl : 0 ≤ l ∧ l ≤ T.length) (hr : 0 ≤ r ∧ r ≤ T.length) : mkPair (T ++ [e]) l r = mkPair T l r := by
  unfold mkPair
  rw [eAt_append hl.1 hl.2, eAt_append hr.1 hr.2]
theorem mkPower_append {T : List ET} {e : ET} {x k : Int} (hx : 0 ≤ x ∧ x ≤ T.length) : mkPower (T ++ [e]) x k = mkPower T x k := by
  unfold mkPower
  rw [eAt_append hx.1 hx.2]
theorem Shape.append {T : List ET} {e : ET} {id : Int} (h : Shape T id) (h1 : 1 ≤ id) (h2 : id ≤ T.length) : Shape (T ++ [e]) id := by
  have e1 := eAt_append (e := e) (by omega) h2
  cases h with
  | letter b h3 h4 h5 => exact .letter b h3 h4 (e1.trans h5)
  | pair l r h3 h4 h5 h6 h7 h8 =>
    refine .pair l r h3 h4 h5 h6 ?_ ?_
    · rw [eAt_append (by omega) (by omega), eAt_append (by omega) (by omega)]; exact h7
    · rw [e1, h8, mkPair_append (by omega) (by omega)]
  | power x k h3 h4 h5 h6 h7 =>
    refine .power x k h3 h4 h5 ?_ ?_
    · rw [eAt_append (by omega) (by omega)]; exact h6
    · rw [e1, h7, mkPower_append (by omega)]
theorem Grow.last {T : List ET} {e : ET} (h : Grow (T ++ [e])) : Grow T ∧ lkR T e.1 = none ∧ Shape (T ++ [e]) ((T.length : Int) + 1) := by
  generalize hL : T ++ [e] = L at h
  cases h with
  | nil => simp at hL
  | @letter L' b g h0 h1 hn =>
    obtain ⟨rfl, e1⟩ := List.append_inj' hL rfl
    cases e1
    exact ⟨g, hn, .letter b h0 h1 (eAt_last _ _)⟩
  | @pair L' l r g a1 a2 a3 a4 a5 hn =>
    obtain ⟨rfl, e1⟩ := List.append_inj' hL rfl
    cases e1
    refine ⟨g, hn, .pair l r a1 (by omega) a3 (by omega) ?_ ?_⟩
    · rw [eAt_append (by omega) (by omega), eAt_append (by omega) (by omega)]; exact a5
    · rw [eAt_last, mkPair_append (by omega) (by omega)]
  | @power L' x k g a1 a2 a3 a4 hn =>
    obtain ⟨rfl, e1⟩ := List.append_inj' hL rfl
    cases e1
    refine ⟨g, hn, .power x k a1 (by omega) a3 ?_ ?_⟩
    · rw [eAt_append (by omega) (by omega)]; exact a4
    · rw [eAt_last, mkPower_append (by omega)]
/-- from the empty list, rule by rule -/
theorem Grow.rec_ {M : List ET → Prop} (h0 : M []) (h1 : ∀ T e, Grow T → Grow (T ++ [e]) → M T → M (T ++ [e])) : ∀ {T : List ET}, Grow T → M T := by
  have key : ∀ n (T : List ET), T.length = n → Grow T → M T := by
    intro n
    induction n with
    | zero => intro T h g; rw [List.eq_nil_of_length_eq_zero h]; exact h0
    | succ n ih =>
      intro T h g
      obtain ⟨T', e, rfl⟩ : ∃ T' e, T = T' ++ [e] := ⟨T.dropLast, T.getLast (by intro h'; rw [h'] at h; simp at h), (List.dropLast_concat_getLast _).symm⟩
      exact h1 T' e g.last.1 g (ih T' (by simpa using h) g.last.1)
  exact fun {T} g => key _ T rfl g
theorem Grow.shape {T : List ET} (g : Grow T) : ∀ {id : Int}, 1 ≤ id → id ≤ T.length → Shape T id := by
  refine Grow.rec_ (M := fun T => ∀ {id : Int}, 1 ≤ id → id ≤ T.length → Shape T id) (fun h1 h2 => by simp at h2; omega) (fun T e _ g ih => ?_) g
  intro id h1 h2
  simp only [List.length_append, List.length_cons, List.length_nil] at h2
  by_cases h : id ≤ T.length
  · exact (ih h1 h).append h1 h
  · have : id = (T.length : Int) + 1 := by omega
    subst this
    exact g.last.2.2
theorem Grow.find {T : List ET} (g : Grow T) : ∀ {id : Int}, 1 ≤ id → id ≤ T.length → lkR T (eAt T id).1 = some id := by
  refine Grow.rec_ (M := fun T => ∀ {id : Int}, 1 ≤ id → id ≤ T.length → lkR T (eAt T id).1 = some id) (fun h1 h2 => by simp at h2; omega) (fun T e _ g ih => ?_) g
  intro id h1 h2
  simp only [List.length_append, List.length_cons, List.length_nil] at h2
  by_cases h : id ≤ T.length
  · rw [eAt_append (by omega) h]
    exact lkR_append_some (ih h1 h)
  · have : id = (T.length : Int) + 1 := by omega
    subst this
    rw [eAt_last, lkR_append_none g.last.2.1, if_pos rfl]
theorem lkR_rule {T : List ET} {r : RT} {i : Int} (h : lkR T r = some i) : (eAt T i).1 = r := by
  have hb := lkR_pos h
  unfold lkR lk at h
  cases hf : (Go.Proofs.Ytnmgjpcooncjlaa.idx T).find? (fun p => beqT yapi_Rule r p.1) with
  | none => rw [hf] at h; cases h
  | some p =>
    rw [hf] at h
    simp only [Option.map_some, Option.some.injEq] at h
    have hm := List.mem_of_find?_eq_some hf
    have hb := List.find?_some hf
    have hr := (beqT_iff yapi_Rule rfl _ _).1 hb
    unfold Go.Proofs.Ytnmgjpcooncjlaa.idx at hm
    obtain ⟨⟨a, n⟩, hq, rfl⟩ := List.mem_map.1 hm
    obtain ⟨_, h2, h3⟩ := List.mem_zipIdx hq
    have h' : (n : Int) + 1 = i := h
    have := eAt_get (L := T) (id := i) (by omega) (by omega)
    have e1 : (i - 1).toNat = n := by omega
    rw [e1] at this
    simp only [Nat.sub_zero] at h3
    have h4 : T[n]? = some a := by rw [h3]; exact List.getElem?_eq_getElem _
    rw [h4] at this
    cases this
    exact hr.symm

end Go.Proofs.Ytnmgjpcooncjlaa

/- The walk of InternAsks. -/
set_option linter.unusedVariables false
set_option linter.unusedSimpArgs false
namespace Go.Proofs.Ytnmgjpcooncjlaa
open Go.Den

variable {w0 w : World} {T : List ET}

theorem rulesOf_get {n : Nat} (h : n < T.length) : (rulesOf T)[n]? = some (eAt T ((n : Int) + 1)).1 := by
  have := eAt_get (L := T) (id := (n : Int) + 1) (by omega) (by omega)
  rw [show ((n : Int) + 1 - 1).toNat = n by omega] at this
  rw [rulesOf, List.getElem?_map, this]; rfl
theorem lensOf_get {n : Nat} (h : n < T.length) : (lensOf T)[n]? = some (eAt T ((n : Int) + 1)).2.1.1 := by
  have := eAt_get (L := T) (id := (n : Int) + 1) (by omega) (by omega)
  rw [show ((n : Int) + 1 - 1).toNat = n by omega] at this
  rw [lensOf, List.getElem?_map, this]; rfl
theorem depsOf_get {n : Nat} (h : n < T.length) : (depsOf T)[n]? = some (eAt T ((n : Int) + 1)).2.2.1 := by
  have := eAt_get (L := T) (id := (n : Int) + 1) (by omega) (by omega)
  rw [show ((n : Int) + 1 - 1).toNat = n by omega] at this
  rw [depsOf, List.getElem?_map, this]; rfl

end Go.Proofs.Ytnmgjpcooncjlaa

/- The check of rules, and the import of a list of rules: package rule, package intern, and the specification. -/
set_option linter.unusedVariables false
set_option linter.unusedSimpArgs false
namespace Go.Proofs.Ytnmgjpcooncjlaa
open Go.Den

variable {w0 w : World} {Ω : List Ob} {most : Int} {T : List ET} {i j : Nat}  {p : Addr}

/-! ### The check -/
def refs (r : RT) : List (Ty.int .i64).T := if r.1 = 2 then [r.2.2.1, r.2.2.2.1] else if r.1 = 3 then [r.2.2.1] else []
def formB (r : RT) : Bool :=
  if r.1 = 1 then decide (r.2.2.1 = 0 ∧ r.2.2.2.1 = 0 ∧ r.2.2.2.2 = 0) else
  if r.1 = 2 then decide (r.2.1 = 0 ∧ r.2.2.2.2 = 0) else
  if r.1 = 3 then decide (r.2.1 = 0 ∧ r.2.2.2.1 = 0 ∧ 2 ≤ r.2.2.2.2) else false
def placeB (r : RT) (n : Int) : Bool := decide (1 ≤ n ∧ ∀ x ∈ refs r, 1 ≤ x ∧ x < n)
def chk (r : RT) (n : Int) : Int := if formB r then (if placeB r n then 0 else 1) else 4
def chkV (r : RT) (n : Int) : Value := if chk r n = 0 then .nilIface else errV (chk r n)

theorem refs_len (r : RT) : (refs r).length ≤ 2 := by
  unfold refs
  split
  · exact Nat.le_refl 2
  split
  · exact (by decide : 1 ≤ 2)
  · exact Nat.zero_le 2
theorem placeB_1 {r : RT} {n : Int} (h : r.1 = 1) : placeB r n = decide (1 ≤ n) := by simp [placeB, refs, h]
theorem placeB_2 {r : RT} {n : Int} (h : r.1 = 2) : placeB r n = decide (1 ≤ n ∧ (1 ≤ r.2.2.1 ∧ r.2.2.1 < n) ∧ (1 ≤ r.2.2.2.1 ∧ r.2.2.2.1 < n)) := by simp [placeB, refs, h]
theorem placeB_3 {r : RT} {n : Int} (h : r.1 = 3) : placeB r n = decide (1 ≤ n ∧ 1 ≤ r.2.2.1 ∧ r.2.2.1 < n) := by simp [placeB, refs, h]

end Go.Proofs.Ytnmgjpcooncjlaa

/- What rules reach, and the list of that in order. -/
set_option linter.unusedVariables false
set_option linter.unusedSimpArgs false
namespace Go.Proofs.Ytnmgjpcooncjlaa
open Go.Den

variable {T : List ET} {S : List Int}

inductive Rch (T : List ET) (S : List Int) : Int → Prop
  | root {x : Int} : x ∈ S → x ≠ 0 → Rch T S x
  | ref {y x : Int} : Rch T S y → x ∈ refs (eAt T y).1 → Rch T S x

theorem refs_in (g : Grow T) {y x : Int} (h1 : 1 ≤ y) (h2 : y ≤ T.length) (h : x ∈ refs (eAt T y).1) : 1 ≤ x ∧ x < y := by
  cases g.shape h1 h2 with
  | letter b _ _ e => rw [e] at h; simp [refs, mkLetter] at h
  | pair l r _ _ _ _ _ e =>
    rw [e] at h
    have : x = l ∨ x = r := by simpa [refs, mkPair] using h
    rcases this with rfl | rfl <;> omega
  | power a k _ _ _ _ e =>
    rw [e] at h
    have : x = a := by simpa [refs, mkPower] using h
    subst this; omega
theorem Rch.bound (g : Grow T) (hS : ∀ x ∈ S, 0 ≤ x ∧ x ≤ T.length) {x : Int} (h : Rch T S x) : 1 ≤ x ∧ x ≤ T.length := by
  induction h with
  | root h1 h2 => have := hS _ h1; omega
  | ref h1 h2 ih =>
    have := refs_in g ih.1 ih.2 h2
    omega
noncomputable def rlist (T : List ET) (S : List Int) : List Int := ((List.range T.length).map fun i : Nat => (i : Int) + 1).filter fun x => @decide (Rch T S x) (Classical.propDecidable _)
theorem mem_rlist {x : Int} : x ∈ rlist T S ↔ (1 ≤ x ∧ x ≤ T.length) ∧ Rch T S x := by
  unfold rlist
  rw [List.mem_filter]
  have : x ∈ ((List.range T.length).map fun i : Nat => (i : Int) + 1) ↔ 1 ≤ x ∧ x ≤ T.length := by
    rw [List.mem_map]
    constructor
    · rintro ⟨i, hi, rfl⟩
      have := List.mem_range.1 hi
      omega
    · intro h
      exact ⟨(x - 1).toNat, List.mem_range.2 (by omega), by omega⟩
  rw [this]
  simp
theorem rlist_sorted : (rlist T S).Pairwise (fun x y => x < y) := by
  unfold rlist
  refine List.Pairwise.filter _ ?_
  rw [List.pairwise_map]
  exact List.pairwise_lt_range.imp fun h => by omega
theorem rlist_nodup : (rlist T S).Nodup := rlist_sorted.imp fun h => by omega
theorem rlist_mem (g : Grow T) (hS : ∀ x ∈ S, 0 ≤ x ∧ x ≤ T.length) {x : Int} : x ∈ rlist T S ↔ Rch T S x := by
  rw [mem_rlist]
  exact ⟨fun h => h.2, fun h => ⟨h.bound g hS, h⟩⟩
theorem sorted_unique {L M : List Int} (hL : L.Pairwise (fun x y => x < y)) (hM : M.Pairwise (fun x y => x < y)) (h : ∀ x, x ∈ L ↔ x ∈ M) : L = M := by
  induction L generalizing M with
  | nil =>
    cases M with
    | nil => rfl
    | cons y M => have := (h y).2 (by simp); cases this
  | cons x L ih =>
    cases M with
    | nil => have := (h x).1 (by simp); cases this
    | cons y M =>
      rw [List.pairwise_cons] at hL hM
      have hxy : x = y := by
        have h1 := (h x).1 (by simp)
        have h2 := (h y).2 (by simp)
        rcases List.mem_cons.1 h1 with h1 | h1
        · exact h1
        · rcases List.mem_cons.1 h2 with h2 | h2
          · exact h2.symm
          · have := hM.1 x h1; have := hL.1 y h2; omega
      subst hxy
      congr 1
      refine ih hL.2 hM.2 fun z => ?_
      have := h z
      simp only [List.mem_cons] at this
      constructor
      · intro hz
        rcases this.1 (Or.inr hz) with rfl | h'
        · have := hL.1 z hz; omega
        · exact h'
      · intro hz
        rcases this.2 (Or.inr hz) with rfl | h'
        · have := hM.1 z hz; omega
        · exact h'
theorem srt_lt {L : List Int} (hn : L.Nodup) : (srt L).Pairwise (fun x y => x < y) := by
  have h1 := srt_sorted L
  have h2 : (srt L).Nodup := (srt_perm L).nodup_iff.2 hn
  exact (h1.and h2).imp fun ⟨a, b⟩ => by omega
theorem srt_rlist (g : Grow T) (hS : ∀ x ∈ S, 0 ≤ x ∧ x ≤ T.length) {L : List Int} (hn : L.Nodup) (h : ∀ x, x ∈ L ↔ Rch T S x) : srt L = rlist T S :=
  sorted_unique (srt_lt hn) rlist_sorted fun x => by rw [(srt_perm L).mem_iff, h, rlist_mem g hS]
theorem rlist_zero : rlist T [0] = [] := by
  apply List.eq_nil_iff_forall_not_mem.2
  intro x hx
  have h := (mem_rlist.1 hx).2
  have key : ∀ x, Rch T [0] x → False := by
    intro x h
    induction h with
    | root h1 h2 => simp at h1; exact h2 h1
    | ref _ _ ih => exact ih
  exact key x h
theorem rlist_len (T : List ET) (S : List Int) : (rlist T S).length ≤ T.length := by
  unfold rlist
  refine Nat.le_trans (List.length_filter_le _ _) ?_
  simp

/-- a list of different numbers from 1 to n is no longer than n -/
theorem nodup_bound {L : List Int} {n : Nat} (hn : L.Nodup) (h : ∀ x ∈ L, 1 ≤ x ∧ x ≤ n) : L.length ≤ n := by
  have hp : srt L = ((List.range n).map fun i : Nat => (i : Int) + 1).filter (fun x => decide (x ∈ L)) := by
    refine sorted_unique (srt_lt hn) (List.Pairwise.filter _ (by rw [List.pairwise_map]; exact List.pairwise_lt_range.imp fun h => by omega)) fun x => ?_
    rw [(srt_perm L).mem_iff, List.mem_filter, List.mem_map]
    constructor
    · intro hx
      have := h x hx
      exact ⟨⟨(x - 1).toNat, List.mem_range.2 (by omega), by omega⟩, decide_eq_true hx⟩
    · intro hx
      exact of_decide_eq_true hx.2
  have h1 := srt_len L
  rw [hp] at h1
  rw [← h1]
  refine Nat.le_trans (List.length_filter_le _ _) ?_
  simp

/-! ### Positions -/
def ent (ids : List Int) : List ((Ty.int .i64).T × (Ty.int .i64).T) := ids.zipIdx.map fun p => (p.1, (p.2 : Int) + 1)
theorem ent_append (ids : List Int) (x : Int) : ent (ids ++ [x]) = ent ids ++ [(x, (ids.length : Int) + 1)] := by
  simp [ent, List.zipIdx_append]
theorem lk_append {kt vt : Ty} {es fs : List (kt.T × vt.T)} {x : kt.T} : lk (es ++ fs) x = (lk es x).or (lk fs x) := by
  unfold lk
  rw [List.find?_append]
  cases es.find? (fun p => beqT kt x p.1) <;> rfl
theorem lk_one {kt vt : Ty} (hk : leafT kt = true) {k x : kt.T} {v : vt.T} [DecidableEq kt.T] : lk [(k, v)] x = if x = k then some v else none := by
  unfold lk
  by_cases h : x = k
  · rw [if_pos h]
    have : beqT kt x k = true := (beqT_iff kt hk _ _).2 h
    simp [this]
  · rw [if_neg h]
    have : beqT kt x k = false := by
      cases hb : beqT kt x k
      · rfl
      · exact absurd ((beqT_iff kt hk _ _).1 hb) h
    simp [this]
theorem lk_ent_none {ids : List Int} {y : Int} (h : y ∉ ids) : lk (ent ids) y = none := by
  unfold lk
  have : (ent ids).find? (fun p => beqT (.int .i64) y p.1) = none := by
    rw [List.find?_eq_none]
    intro p hp hb
    have e := (beqT_iff (.int .i64) rfl _ _).1 hb
    unfold ent at hp
    obtain ⟨⟨a, i⟩, hq, rfl⟩ := List.mem_map.1 hp
    have := (List.mem_zipIdx hq).2.2
    exact h (by rw [show y = a from e, this]; exact List.getElem_mem _)
  rw [this]; rfl
theorem snoc_ind {α : Type} {M : List α → Prop} (h0 : M []) (h1 : ∀ L x, M L → M (L ++ [x])) (L : List α) : M L := by
  have key : ∀ (n : Nat) (L : List α), L.length = n → M L := by
    intro n
    induction n with
    | zero => intro L h; rw [List.eq_nil_of_length_eq_zero h]; exact h0
    | succ n ih =>
      intro L h
      obtain ⟨L', e, rfl⟩ : ∃ L' e, L = L' ++ [e] := ⟨L.dropLast, L.getLast (by intro h'; rw [h'] at h; simp at h), (List.dropLast_concat_getLast _).symm⟩
      exact h1 L' e (ih L' (by simpa using h))
  exact key _ L rfl
theorem lk_ent_some : ∀ {ids : List Int} {y : Int} {k : Nat}, ids.Nodup → ids[k]? = some y → lk (ent ids) y = some ((k : Int) + 1) := by
  intro ids
  refine snoc_ind (M := fun ids => ∀ {y : Int} {k : Nat}, ids.Nodup → ids[k]? = some y → lk (ent ids) y = some ((k : Int) + 1)) ?_ ?_ ids
  · intro y k _ h; simp at h
  · intro L x ih y k hn h
    rw [List.nodup_append] at hn
    rw [ent_append, lk_append]
    by_cases hk : k < L.length
    · rw [List.getElem?_append_left hk] at h
      rw [ih hn.1 h]; rfl
    · have hk' : k = L.length := by
        have := (List.getElem?_eq_some_iff.1 h).1
        simp at this; omega
      subst hk'
      have hx : x = y := by simpa using h
      subst hx
      rw [lk_ent_none (fun hm => (hn.2.2 x hm x (by simp)) rfl), lk_one rfl, if_pos rfl]
      rfl
def pos (ids : List Int) (y : Int) : Int := (lk (ent ids) y).getD (0 : Int)
theorem pos_none {ids : List Int} {y : Int} (h : y ∉ ids) : pos ids y = 0 := by unfold pos; rw [lk_ent_none h]; rfl
theorem pos_some {ids : List Int} {y : Int} {k : Nat} (hn : ids.Nodup) (h : ids[k]? = some y) : pos ids y = (k : Int) + 1 := by unfold pos; rw [lk_ent_some hn h]; rfl

/-! ### The grammar of a list of rules -/
def mvr (ids : List Int) (r : RT) : RT := (r.1, r.2.1, pos ids r.2.2.1, pos ids r.2.2.2.1, r.2.2.2.2)
def exp (T : List ET) (ids : List Int) : List yapi_Rule.T := ids.map fun x => mvr ids (eAt T x).1
theorem exp_len (T : List ET) (ids : List Int) : (exp T ids).length = ids.length := List.length_map _
structure Closed (T : List ET) (ids : List Int) : Prop where
  sorted : ids.Pairwise (fun x y => x < y)
  bound : ∀ x ∈ ids, 1 ≤ x ∧ x ≤ T.length
  refs : ∀ y ∈ ids, ∀ x ∈ refs (eAt T y).1, x ∈ ids
theorem Closed.nodup {ids : List Int} (h : Closed T ids) : ids.Nodup := h.sorted.imp fun h => by omega
theorem rlist_closed (g : Grow T) (hS : ∀ x ∈ S, 0 ≤ x ∧ x ≤ T.length) : Closed T (rlist T S) :=
  ⟨rlist_sorted, fun x hx => (mem_rlist.1 hx).1, fun y hy x hx => (rlist_mem g hS).2 (.ref (mem_rlist.1 hy).2 hx)⟩
theorem sorted_lt {ids : List Int} (hs : ids.Pairwise (fun x y => x < y)) {i j : Nat} {x y : Int} (hi : ids[i]? = some x) (hj : ids[j]? = some y) : x < y ↔ i < j := by
  have key : ∀ {i j : Nat} {x y : Int}, ids[i]? = some x → ids[j]? = some y → i < j → x < y := by
    intro i j x y hi hj h
    have := (List.pairwise_iff_getElem.1 hs) i j (List.getElem?_eq_some_iff.1 hi).1 (List.getElem?_eq_some_iff.1 hj).1 h
    rwa [(List.getElem?_eq_some_iff.1 hi).2, (List.getElem?_eq_some_iff.1 hj).2] at this
  constructor
  · intro h
    rcases Nat.lt_trichotomy i j with h' | h' | h'
    · exact h'
    · subst h'; rw [hi] at hj; cases hj; omega
    · have := key hj hi h'; omega
  · exact key hi hj

end Go.Proofs.Ytnmgjpcooncjlaa

/- law51: which commits are kept (compact.Keep). -/
set_option linter.unusedVariables false
set_option linter.unusedSimpArgs false
namespace Go.Proofs.Ytnmgjpcooncjlaa
open Go.Den

variable {w0 w : World} {Ω : List Ob} {i j a b c g a' b' t r : Nat} {csl : Sl} {cs : List CM} {C : List CT} {m : List (ByteArray × TG)} {S : List Int}

/-- parents come before their children -/
def WFC (C : List CT) : Prop := ∀ (k : Nat) (d : CT), C[k]? = some d → d.1.length ≤ 8 ∧ ∀ p ∈ d.1, 0 ≤ p ∧ p < (k : Int)
inductive An (C : List CT) (S : List Int) : Nat → Prop
  | root {x : Nat} : (x : Int) ∈ S → An C S x
  | ref {y x : Nat} {d : CT} : An C S y → C[y]? = some d → (x : Int) ∈ d.1 → An C S x
theorem An.iff {x : Nat} : An C S x ↔ (x : Int) ∈ S ∨ ∃ (y : Nat) (d : CT), An C S y ∧ C[y]? = some d ∧ (x : Int) ∈ d.1 := by
  constructor
  · intro h
    cases h with
    | root h => exact Or.inl h
    | @ref y _ d h1 h2 h3 => exact Or.inr ⟨y, d, h1, h2, h3⟩
  · rintro (h | ⟨y, d, h1, h2, h3⟩)
    · exact .root h
    · exact .ref h1 h2 h3
theorem An.congr {S' : List Int} (h : ∀ z, z ∈ S ↔ z ∈ S') {x : Nat} (hx : An C S x) : An C S' x := by
  induction hx with
  | root h1 => exact .root ((h _).1 h1)
  | ref _ h2 h3 ih => exact .ref ih h2 h3
/-- marks -/
def MK (N : Nat) (inl : List Ty.bool.T) (q : Nat → Prop) : Prop := inl.length = N ∧ ∀ x : Nat, x < N → ∃ b : Bool, inl[x]? = some b ∧ (b = true ↔ q x)
theorem MK.iff {N : Nat} {inl : List Ty.bool.T} {q q' : Nat → Prop} (h : MK N inl q) (e : ∀ x, x < N → (q x ↔ q' x)) : MK N inl q' :=
  ⟨h.1, fun x hx => by obtain ⟨b, h1, h2⟩ := h.2 x hx; exact ⟨b, h1, h2.trans (e x hx)⟩⟩
theorem MK.put {N k : Nat} {inl : List Ty.bool.T} {q : Nat → Prop} (h : MK N inl q) (hk : k < N) : MK N (inl.set k true) (fun x => q x ∨ x = k) := by
  have hl := h.1
  refine ⟨by rw [List.length_set]; exact hl, fun x hx => ?_⟩
  rw [List.getElem?_set]
  by_cases c : k = x
  · subst c
    exact ⟨true, by rw [if_pos rfl, if_pos (by omega)], by simp⟩
  · obtain ⟨b, h1, h2⟩ := h.2 x hx
    exact ⟨b, by rw [if_neg c]; exact h1, by rw [h2]; simp [Ne.symm c]⟩
theorem MK.none (N : Nat) : MK N (List.replicate N false) (fun _ => False) :=
  ⟨by simp, fun x hx => ⟨false, by rw [List.getElem?_replicate, if_pos hx], by simp⟩⟩
/-- the kept numbers from k on -/
noncomputable def kl (C : List CT) (S : List Int) (k N : Nat) : List Int := ((List.range N).filter fun i => @decide (k ≤ i ∧ An C S i) (Classical.propDecidable _)).map fun i : Nat => (i : Int)
theorem kl_mem {k N : Nat} {x : Int} : x ∈ kl C S k N ↔ ∃ n : Nat, x = n ∧ n < N ∧ k ≤ n ∧ An C S n := by
  unfold kl
  rw [List.mem_map]
  constructor
  · rintro ⟨n, hn, rfl⟩
    obtain ⟨h1, h2⟩ := List.mem_filter.1 hn
    exact ⟨n, rfl, List.mem_range.1 h1, @of_decide_eq_true _ (Classical.propDecidable _) h2⟩
  · rintro ⟨n, rfl, h1, h2⟩
    exact ⟨n, List.mem_filter.2 ⟨List.mem_range.2 h1, @decide_eq_true _ (Classical.propDecidable _) h2⟩, rfl⟩
theorem kl_sorted (k N : Nat) : (kl C S k N).Pairwise (fun x y => x < y) := by
  unfold kl
  rw [List.pairwise_map]
  exact (List.pairwise_lt_range.filter _).imp fun h => by omega
theorem kl_len (k N : Nat) : (kl C S k N).length ≤ N := by
  unfold kl
  rw [List.length_map]
  exact Nat.le_trans (List.length_filter_le _ _) (by simp)
theorem kl_top (N : Nat) : kl C S N N = [] := by
  apply List.eq_nil_iff_forall_not_mem.2
  intro x hx
  obtain ⟨n, _, h1, h2, _⟩ := kl_mem.1 hx
  omega
theorem kl_step {k N : Nat} (hk : k < N) : (An C S k → kl C S k N = (k : Int) :: kl C S (k + 1) N) ∧ (¬ An C S k → kl C S k N = kl C S (k + 1) N) := by
  constructor
  · intro h
    refine sorted_unique (kl_sorted k N) (List.pairwise_cons.2 ⟨fun y hy => ?_, kl_sorted _ _⟩) fun x => ?_
    · obtain ⟨n, rfl, _, h2, _⟩ := kl_mem.1 hy
      omega
    · rw [List.mem_cons, kl_mem, kl_mem]
      constructor
      · rintro ⟨n, rfl, h1, h2, h3⟩
        by_cases c : n = k
        · exact Or.inl (by rw [c])
        · exact Or.inr ⟨n, rfl, h1, by omega, h3⟩
      · rintro (rfl | ⟨n, rfl, h1, h2, h3⟩)
        · exact ⟨k, rfl, hk, Nat.le_refl _, h⟩
        · exact ⟨n, rfl, h1, by omega, h3⟩
  · intro h
    refine sorted_unique (kl_sorted k N) (kl_sorted _ _) fun x => ?_
    rw [kl_mem, kl_mem]
    constructor
    · rintro ⟨n, rfl, h1, h2, h3⟩
      have : n ≠ k := fun e => h (e ▸ h3)
      exact ⟨n, rfl, h1, by omega, h3⟩
    · rintro ⟨n, rfl, h1, h2, h3⟩
      exact ⟨n, rfl, h1, by omega, h3⟩
/-- what is marked when the commits from k on have marked their parents -/
def MarkQ (C : List CT) (S : List Int) (k : Nat) (x : Nat) : Prop := (x : Int) ∈ S ∨ ∃ (y : Nat) (d : CT), k ≤ y ∧ An C S y ∧ C[y]? = some d ∧ (x : Int) ∈ d.1
theorem MarkQ.zero {x : Nat} : MarkQ C S 0 x ↔ An C S x := by
  rw [An.iff]
  unfold MarkQ
  constructor
  · rintro (h | ⟨y, d, _, h⟩)
    · exact Or.inl h
    · exact Or.inr ⟨y, d, h⟩
  · rintro (h | ⟨y, d, h⟩)
    · exact Or.inl h
    · exact Or.inr ⟨y, d, Nat.zero_le _, h⟩
theorem MarkQ.at_ (hw : WFC C) {k : Nat} : MarkQ C S (k + 1) k ↔ An C S k := by
  rw [An.iff]
  unfold MarkQ
  constructor
  · rintro (h | ⟨y, d, _, h⟩)
    · exact Or.inl h
    · exact Or.inr ⟨y, d, h⟩
  · rintro (h | ⟨y, d, h1, h2, h3⟩)
    · exact Or.inl h
    · exact Or.inr ⟨y, d, by have := (hw y d h2).2 _ h3; omega, h1, h2, h3⟩
theorem MarkQ.top {N x : Nat} (hN : C.length ≤ N) : MarkQ C S N x ↔ (x : Int) ∈ S := by
  unfold MarkQ
  refine ⟨fun h => h.elim id ?_, Or.inl⟩
  rintro ⟨y, d, h1, _, h2, _⟩
  have := (List.getElem?_eq_some_iff.1 h2).1
  omega
theorem MarkQ.step {k x : Nat} {d : CT} (hd : C[k]? = some d) : MarkQ C S k x ↔ MarkQ C S (k + 1) x ∨ (An C S k ∧ (x : Int) ∈ d.1) := by
  unfold MarkQ
  constructor
  · rintro (h | ⟨y, e, h1, h2, h3, h4⟩)
    · exact Or.inl (Or.inl h)
    · by_cases c : y = k
      · subst c
        rw [hd] at h3
        cases h3
        exact Or.inr ⟨h2, h4⟩
      · exact Or.inl (Or.inr ⟨y, e, by omega, h2, h3, h4⟩)
  · rintro ((h | ⟨y, e, h1, h2⟩) | ⟨h1, h2⟩)
    · exact Or.inl h
    · exact Or.inr ⟨y, e, by omega, h2⟩
    · exact Or.inr ⟨k, d, Nat.le_refl _, h1, hd, h2⟩

theorem compact_Keep_spec (G : Gh Ω a b c g csl cs C) (R : Rt Ω a' b' t r m) (s : Sp w0 Ω w) (hw : WFC C) (hC : C.length ≤ 60000) (hm : m.length ≤ 2000000) (hS : ∀ z : Int, z ∈ S ↔ ∃ p ∈ m, p.2.1 = z) (hSb : ∀ z ∈ S, 0 ≤ z ∧ z < (C.length : Int)) {K : Sl × Value → World → Prop}
    (h : ∀ sl w', Sp w0 (own (.int .i64) sl (kl C S 0 C.length) :: Ω) w' → K (sl, .nilIface) w') : C_compact_Keep (some ⟨g, 0, none⟩) (some ⟨t, 0, none⟩) K w := by
  apply S_compact_Keep
  unfold F_compact_Keep
  refine JoinP.inl (gd_f rfl ?_)
  intro _
  refine gd_f rfl (history_Len_spec G s ⟨by omega, by omega, by omega, by omega, s.mkS .bool false C.length C.length (Nat.le_refl _) (fun a4 w1 s => ?_) rfl (by rw [Int.toNat_natCast]; rfl)⟩)
  rw [Int.toNat_natCast]
  refine refs_Targets_spec R.cons s hm fun sl5 ys w2 hys hyl s => ?_
  have hyS : ∀ z : Int, z ∈ ys ↔ z ∈ S := fun z => (hys z).trans (hS z).symm
  have hyl5 := (s.vw_ 0 rfl).len
  refine loop_by (fun x => x.1) ys.length (fun n _ w => ∃ inl, MK C.length inl (fun x => (x : Int) ∈ ys.take n) ∧ Sp w0 (vw (.int .i64) sl5 ys :: own .bool ⟨some ⟨a4, 0, none⟩, C.length, C.length⟩ inl :: Ω) w) rfl ⟨_, (MK.none _).iff fun x hx => by simp, s⟩ ?_
  clear s
  rintro n ⟨x, _⟩ w3 hn hx ⟨inl, mk, s⟩ _
  dsimp only at hx ⊢
  subst hx
  have hil := mk.1
  refine gd_dec (fun hlt => ?_) (fun hge => ?_)
  · have hn' : n < ys.length := by omega
    have hget := List.getElem?_eq_getElem hn'
    have hzb := hSb _ ((hyS _).1 (List.getElem_mem hn'))
    generalize ys[n] = z at hget hzb
    have htk : ys.take (n + 1) = ys.take n ++ [z] := by rw [List.take_add_one, hget]; rfl
    refine (s.vw_ 0 rfl).idx rfl hget rfl fun q hq => ⟨z, hq, gd_f (decide_eq_false (by omega)) (s.setI 1 rfl (n := z.toNat) (y := true) (by omega) (by omega) fun w4 s => arith_i64 (by omega) (by omega) (loop_nx hn' ⟨_, (mk.put (show z.toNat < C.length by omega)).iff fun x hx => ?_, s⟩))⟩
    rw [htk, List.mem_append, List.mem_singleton]
    constructor
    · rintro (h | h)
      · exact Or.inl h
      · right; omega
    · rintro (h | h)
      · exact Or.inl h
      · right; omega
  have en : n = ys.length := by omega
  subst en
  rw [List.take_length] at mk
  have mk := mk.iff (q' := MarkQ C S C.length) fun x hx => (hyS x).trans (MarkQ.top (Nat.le_refl _)).symm
  refine arith_i64 (by omega) (by omega) ?_
  have s : Sp w0 (own .bool ⟨some ⟨a4, 0, none⟩, C.length, C.length⟩ inl :: Ω) w3 := s.pop
  refine ⟨fun x w => ∃ (k : Nat) (inl : List Ty.bool.T), x.2.1 = (k : Int) - 1 ∧ k ≤ C.length ∧ MK C.length inl (MarkQ C S k) ∧ Sp w0 (own (.int .i64) x.1 (kl C S k C.length).reverse :: own .bool ⟨some ⟨a4, 0, none⟩, C.length, C.length⟩ inl :: Ω) w, fun x _ => (x.2.1 + 1).toNat, ⟨C.length, inl, rfl, Nat.le_refl _, mk, by rw [kl_top]; exact s.nil _⟩, ?_⟩
  rintro ⟨out, x, _⟩ w4 ⟨k, inl, hx, hk, mk, s⟩ _
  dsimp only at hx s ⊢
  subst hx
  have hil := mk.1
  refine gd_dec (fun hp => ?_) (fun hp => ?_)
  rotate_left
  · have : k = 0 := by omega
    subst this
    refine slices_Reverse_spec s 0 rfl (by have := kl_len (C := C) (S := S) 0 C.length; rw [List.length_reverse]; omega) fun w5 s => ?_
    have s : Sp w0 (own (.int .i64) out (kl C S 0 C.length).reverse.reverse :: own .bool ⟨some ⟨a4, 0, none⟩, C.length, C.length⟩ inl :: Ω) w5 := s
    rw [List.reverse_reverse] at s
    exact h out w5 (s.pick [0] 2 rfl (by decide))
  obtain ⟨n, rfl⟩ : ∃ n, k = n + 1 := ⟨k - 1, by omega⟩
  have hnC : n < C.length := by omega
  obtain ⟨d, hd⟩ : ∃ d, C[n]? = some d := ⟨_, List.getElem?_eq_getElem hnC⟩
  obtain ⟨hd8, hdp⟩ := hw n d hd
  obtain ⟨bb, hb1, hb2⟩ := mk.2 n hnC
  rw [MarkQ.at_ hw] at hb2
  have hkl := kl_len (C := C) (S := S) (n + 1) C.length
  refine ⟨fun x w => ∃ inl' : List Ty.bool.T, MK C.length inl' (MarkQ C S n) ∧ Sp w0 (own (.int .i64) x.1 (kl C S n C.length).reverse :: own .bool ⟨some ⟨a4, 0, none⟩, C.length, C.length⟩ inl' :: Ω) w, ?_, ?_⟩
  · refine (s.view 1 rfl).idx (n := n) (by omega) hb1 rfl fun q hq => ⟨bb, hq, ?_⟩
    cases bb with
    | false =>
      have hno : ¬ An C S n := fun h => by have := hb2.2 h; cases this
      refine gd_t rfl ⟨inl, mk.iff fun x hx => ?_, ?_⟩
      · rw [MarkQ.step hd]
        exact ⟨Or.inl, fun h => h.elim id fun h => absurd h.1 hno⟩
      · rw [(kl_step hnC).2 hno]; exact s
    | true =>
      have hyes : An C S n := hb2.1 rfl
      have e1 : ((n + 1 : Nat) : Int) - 1 = (n : Int) := by omega
      rw [e1]
      refine gd_f rfl (s.allocK fun a19 w5 s => s.app 1 rfl ((s.lit (ty := .int .i64) 0 rfl [(n : Int)] 1 rfl rfl).view 0 rfl) (by simp only [List.length_reverse, List.length_cons, List.length_nil]; omega) fun s20 w6 s => ?_)
      have s : Sp w0 (own (.int .i64) s20 ((kl C S (n + 1) C.length).reverse ++ [(n : Int)]) :: own .bool ⟨some ⟨a4, 0, none⟩, C.length, C.length⟩ inl :: Ω) w6 := s.pop
      have e2 : (kl C S (n + 1) C.length).reverse ++ [(n : Int)] = (kl C S n C.length).reverse := by rw [(kl_step hnC).1 hyes, List.reverse_cons]
      rw [e2] at s
      refine history_Get_spec G.cons.cons s rfl hd (by omega) fun ps w7 s => s.allocK fun a22 w8 s => s.st0 0 rfl rfl rfl fun w9 s => nilIfc_nil (gd_f rfl (s.lds (x := ps) 0 0 rfl rfl ?_))
      have hpsl := (s.view 1 rfl).len
      refine loop_by (fun x => x.1) d.1.length (fun l _ w => ∃ inl' : List Ty.bool.T, MK C.length inl' (fun x => MarkQ C S (n + 1) x ∨ (x : Int) ∈ d.1.take l) ∧ Sp w0 (own (.int .i64) ps d.1 :: own (.int .i64) s20 (kl C S n C.length).reverse :: own .bool ⟨some ⟨a4, 0, none⟩, C.length, C.length⟩ inl' :: Ω) w) rfl ⟨inl, mk.iff fun x hx => by simp, s.pop⟩ ?_
      clear s
      rintro l ⟨y, _⟩ w10 hl hy ⟨inl', mk', s⟩ _
      dsimp only at hy ⊢
      subst hy
      have hil' := mk'.1
      refine gd_dec (fun hlt => ?_) (fun hge => ?_)
      · have hl' : l < d.1.length := by omega
        have hget := List.getElem?_eq_getElem hl'
        have hzb := hdp _ (List.getElem_mem hl')
        generalize d.1[l] = z at hget hzb
        have htk : d.1.take (l + 1) = d.1.take l ++ [z] := by rw [List.take_add_one, hget]; rfl
        refine (s.view 0 rfl).idx rfl hget rfl fun q hq => ⟨z, hq, s.setI 2 rfl (n := z.toNat) (y := true) (by omega) (by omega) fun w11 s => arith_i64 (by omega) (by omega) (loop_nx hl' ⟨_, (mk'.put (show z.toNat < C.length by omega)).iff fun x hx => ?_, s⟩)⟩
        rw [htk, List.mem_append, List.mem_singleton]
        constructor
        · rintro ((h | h) | h)
          · exact Or.inl h
          · exact Or.inr (Or.inl h)
          · right; right; omega
        · rintro (h | h | h)
          · exact Or.inl (Or.inl h)
          · exact Or.inl (Or.inr h)
          · right; omega
      · have e : l = d.1.length := by omega
        subst e
        rw [List.take_length] at mk'
        refine ⟨inl', mk'.iff fun x hx => ?_, s.pop⟩
        rw [MarkQ.step hd]
        exact ⟨fun h => h.elim Or.inl fun h => Or.inr ⟨hyes, h⟩, fun h => h.elim Or.inl fun h => Or.inr h.2⟩
  · rintro ⟨out2, _⟩ w11 ⟨inl', mk', s⟩ _
    dsimp only at s ⊢
    exact arith_i64 (by omega) (by omega) ⟨⟨n, inl', by omega, by omega, mk', s⟩, by omega⟩

end Go.Proofs.Ytnmgjpcooncjlaa

/- law51: the specification's Keep; the fixed example. -/
set_option linter.unusedVariables false
set_option linter.unusedSimpArgs false
namespace Go.Proofs.Ytnmgjpcooncjlaa
open Go.Den

variable {w0 w : World} {Ω : List Ob} {i j a b c g a' b' t r : Nat} {csl : Sl} {cs : List CM} {C : List CT} {m : List (ByteArray × TG)} {S : List Int}

theorem kl_grow (n : Nat) : (An C S n → kl C S 0 (n + 1) = kl C S 0 n ++ [(n : Int)]) ∧ (¬ An C S n → kl C S 0 (n + 1) = kl C S 0 n) := by
  unfold kl
  rw [List.range_succ, List.filter_append, List.map_append]
  constructor
  · intro h
    congr 1
    rw [List.filter_cons_of_pos (by exact @decide_eq_true _ (Classical.propDecidable _) ⟨Nat.zero_le _, h⟩)]
    rfl
  · intro h
    rw [List.filter_cons_of_neg (by
      intro e
      exact h (@of_decide_eq_true _ (Classical.propDecidable _) e).2)]
    simp
theorem ref51_Keep_spec {psl tsl : Sl} {ts : List Sl} {TS : List (Ty.int .i64).T} (s : Sp w0 Ω w) (j1 j2 : Nat) (h1 : Ω[j1]? = some (own .slice psl ts)) (h2 : Ω[j2]? = some (ivs ts (C.map fun x => x.1))) (hv : ∀ w', Sp w0 Ω w' → View (.int .i64) w' tsl TS) (hw : WFC C) (hC : C.length ≤ 60000) (hT : TS.length ≤ 1000000) (hSb : ∀ z : Int, z ∈ TS → 0 ≤ z ∧ z < (C.length : Int)) {K : Sl × Bool → World → Prop}
    (h : ∀ sl inl w', MK C.length inl (An C TS) → Sp w0 (own .bool sl inl :: Ω) w' → K (sl, true) w') : C_ref51_Keep psl tsl K w := by
  apply S_ref51_Keep
  unfold F_ref51_Keep
  have hpl := (s.view j1 h1).len
  have htl := (hv _ s).len
  have hts : ts.length = C.length := by have := (Sp.ivs_ s j2 h2).1; simpa using this
  have hNt : ((psl.len : Int)).toNat = C.length := by omega
  refine ⟨by omega, by omega, by omega, by omega, s.mkS .bool false C.length C.length (Nat.le_refl _) (fun a1 w1 s => ?_) rfl (by rw [hNt]; rfl)⟩
  rw [hNt]
  refine loop_by (fun x => x.1) TS.length (fun n _ w => ∃ inl, MK C.length inl (fun x => (x : Int) ∈ TS.take n) ∧ Sp w0 (own .bool ⟨some ⟨a1, 0, none⟩, C.length, C.length⟩ inl :: Ω) w) rfl ⟨_, (MK.none _).iff fun x hx => by simp, s⟩ ?_
  clear s
  rintro n ⟨x, _⟩ w3 hn hx ⟨inl, mk, s⟩ _
  dsimp only at hx ⊢
  subst hx
  have hil := mk.1
  refine gd_dec (fun hlt => ?_) (fun hge => ?_)
  · have hn' : n < TS.length := by omega
    have hget := List.getElem?_eq_getElem hn'
    have hzb := hSb _ (List.getElem_mem hn')
    generalize TS[n] = z at hget hzb
    have htk : TS.take (n + 1) = TS.take n ++ [z] := by rw [List.take_add_one, hget]; rfl
    refine JoinP.inl ((hv _ s.pop).idx rfl hget rfl fun q hq => ⟨z, hq, gd_f (decide_eq_false (by omega)) ((hv _ s.pop).idx rfl hget rfl fun q2 hq2 => ⟨z, hq2, ?_⟩)⟩)
    intro _
    refine gd_f (decide_eq_false (by omega)) ((hv _ s.pop).idx rfl hget rfl fun q3 hq3 => ⟨z, hq3, s.setI 0 rfl (n := z.toNat) (y := true) (by omega) (by omega) fun w4 s => arith_i64 (by omega) (by omega) (loop_nx hn' ⟨_, (mk.put (show z.toNat < C.length by omega)).iff fun x hx => ?_, s⟩)⟩)
    rw [htk, List.mem_append, List.mem_singleton]
    constructor
    · rintro (h | h)
      · exact Or.inl h
      · right; omega
    · rintro (h | h)
      · exact Or.inl h
      · right; omega
  have en : n = TS.length := by omega
  subst en
  rw [List.take_length] at mk
  have mk := mk.iff (q' := MarkQ C TS C.length) fun x hx => (MarkQ.top (Nat.le_refl _)).symm
  refine arith_i64 (by omega) (by omega) ?_
  refine ⟨fun x w => ∃ (k : Nat) (inl : List Ty.bool.T), x.1 = (k : Int) - 1 ∧ k ≤ C.length ∧ MK C.length inl (MarkQ C TS k) ∧ Sp w0 (own .bool ⟨some ⟨a1, 0, none⟩, C.length, C.length⟩ inl :: Ω) w, fun x _ => (x.1 + 1).toNat, ⟨C.length, inl, by dsimp only; omega, Nat.le_refl _, mk, s⟩, ?_⟩
  rintro ⟨x, _⟩ w4 ⟨k, inl, hx, hk, mk, s⟩ _
  dsimp only at hx ⊢
  subst hx
  have hil := mk.1
  refine gd_dec (fun hp => ?_) (fun hp => ?_)
  rotate_left
  · have : k = 0 := by omega
    subst this
    exact h _ inl _ (mk.iff fun x hx => MarkQ.zero) s
  obtain ⟨n, rfl⟩ : ∃ n, k = n + 1 := ⟨k - 1, by omega⟩
  have e1 : ((n + 1 : Nat) : Int) - 1 = (n : Int) := by omega
  rw [e1]
  have hnC : n < C.length := by omega
  obtain ⟨d, hd⟩ : ∃ d, C[n]? = some d := ⟨_, List.getElem?_eq_getElem hnC⟩
  obtain ⟨hd8, hdp⟩ := hw n d hd
  obtain ⟨u, hu⟩ : ∃ u, ts[n]? = some u := ⟨_, List.getElem?_eq_getElem (by omega)⟩
  have hcd : (C.map fun x => x.1)[n]? = some d.1 := by rw [List.getElem?_map, hd]; rfl
  have vu : ∀ inl' w', Sp w0 (own .bool ⟨some ⟨a1, 0, none⟩, C.length, C.length⟩ inl' :: Ω) w' → View (.int .i64) w' u d.1 := fun inl' w' s => ((Sp.ivs_ s (j2 + 1) h2).2 n u d.1 hu hcd).1
  have hul := (vu _ _ s).len
  refine ⟨fun _ w => ∃ inl' : List Ty.bool.T, MK C.length inl' (MarkQ C TS n) ∧ Sp w0 (own .bool ⟨some ⟨a1, 0, none⟩, C.length, C.length⟩ inl' :: Ω) w, ?_, ?_⟩
  · refine loop_by (fun x => x.1) d.1.length (fun l _ w => ∃ inl' : List Ty.bool.T, MK C.length inl' (fun x => MarkQ C TS (n + 1) x ∨ (An C TS n ∧ (x : Int) ∈ d.1.take l)) ∧ Sp w0 (own .bool ⟨some ⟨a1, 0, none⟩, C.length, C.length⟩ inl' :: Ω) w) rfl ⟨inl, mk.iff fun x hx => by simp, s⟩ ?_
    rintro l ⟨y, _⟩ w10 hl hy ⟨inl', mk', s⟩ _
    dsimp only at hy ⊢
    subst hy
    have hil' := mk'.1
    obtain ⟨bb, hb1, hb2⟩ := mk'.2 n hnC
    have hb2 : bb = true ↔ (MarkQ C TS (n + 1) n ∨ (An C TS n ∧ (n : Int) ∈ d.1.take l)) := hb2
    rw [MarkQ.at_ hw] at hb2
    have hb2 : bb = true ↔ An C TS n := hb2.trans ⟨fun h => h.elim id fun h => h.1, Or.inl⟩
    refine ⟨fun _ w => l < d.1.length ∧ An C TS n ∧ Sp w0 (own .bool ⟨some ⟨a1, 0, none⟩, C.length, C.length⟩ inl' :: Ω) w, ?_, ?_⟩
    · refine (s.view (j1 + 1) h1).idx rfl hu rfl fun q hq => ⟨u, hq, gd_dec (fun hlt => ?_) (fun hge => ?_)⟩
      · refine (s.view 0 rfl).idx (n := n) rfl hb1 rfl fun q2 hq2 => ⟨bb, hq2, gd_mk (fun e => ⟨by omega, hb2.1 e, s⟩) (fun e => ?_)⟩
        have hno : ¬ An C TS n := fun h => by rw [hb2.2 h] at e; cases e
        refine ⟨inl', mk'.iff fun x hx => ?_, s⟩
        rw [MarkQ.step hd]
        exact ⟨fun h => h.elim Or.inl fun h => absurd h.1 hno, fun h => h.elim Or.inl fun h => absurd h.1 hno⟩
      · have e : l = d.1.length := by omega
        subst e
        rw [List.take_length] at mk'
        exact ⟨inl', mk'.iff fun x hx => (MarkQ.step hd).symm, s⟩
    · rintro _ w11 ⟨hl', han, s⟩ _
      have hget := List.getElem?_eq_getElem hl'
      have hzb := hdp _ (List.getElem_mem hl')
      generalize d.1[l] = z at hget hzb
      have htk : d.1.take (l + 1) = d.1.take l ++ [z] := by rw [List.take_add_one, hget]; rfl
      refine (s.view (j1 + 1) h1).idx rfl hu rfl fun q hq => ⟨u, hq, (vu _ _ s).idx rfl hget rfl fun q2 hq2 => ⟨z, hq2, s.setI 0 rfl (n := z.toNat) (y := true) (by omega) (by omega) fun w12 s => arith_i64 (by omega) (by omega) (loop_nx hl' ⟨_, (mk'.put (show z.toNat < C.length by omega)).iff fun x hx => ?_, s⟩)⟩⟩
      rw [htk, List.mem_append, List.mem_singleton]
      constructor
      · rintro ((h | h) | h)
        · exact Or.inl h
        · exact Or.inr ⟨han, Or.inl h.2⟩
        · exact Or.inr ⟨han, Or.inr (by omega)⟩
      · rintro (h | ⟨_, h | h⟩)
        · exact Or.inl (Or.inl h)
        · exact Or.inl (Or.inr ⟨han, h⟩)
        · right; omega
  · rintro _ w11 ⟨inl', mk', s⟩ _
    exact arith_i64 (by omega) (by omega) ⟨⟨n, inl', rfl, by omega, mk', s⟩, by omega⟩
theorem base_Ints_same {x y : Sl} {xs : List (Ty.int .i64).T} (s : Sp w0 Ω w) (hv : ∀ w', Sp w0 Ω w' → View (.int .i64) w' x xs) (hv' : ∀ w', Sp w0 Ω w' → View (.int .i64) w' y xs) (hl : xs.length ≤ 1000000000) {K : Bool → World → Prop} (h : ∀ w', Sp w0 Ω w' → K true w') : C_base_Ints x y K w := by
  apply S_base_Ints
  unfold F_base_Ints
  have la := (hv _ s).len
  have lb := (hv' _ s).len
  refine gd_f (by simp; omega) ?_
  refine loop_by (fun x => x.1) xs.length (fun n _ w => Sp w0 Ω w) rfl s ?_
  clear s
  rintro n ⟨z, _⟩ w1 hn hz s _
  dsimp only at hz ⊢
  subst hz
  refine gd_dec (fun hlt => ?_) (fun hge => h _ s)
  have hn' : n < xs.length := by omega
  have hget := List.getElem?_eq_getElem hn'
  generalize xs[n] = u at hget
  refine s.drawK fun w2 s => (hv _ s).idx rfl hget rfl fun q1 hq1 => ⟨u, hq1, (hv' _ s).idx rfl hget rfl fun q2 hq2 => ⟨u, hq2, gd_f (by simp) (arith_i64 (by omega) (by omega) (loop_nx hn' s))⟩⟩

/-! ### The fixed example -/
theorem law51_alive_spec (s : Sp w0 Ω w) {K : Bool → World → Prop} (h : ∀ w', Sp w0 Ω w' → K true w') : C_law51_alive K w := by
  apply S_law51_alive
  unfold F_law51_alive
  refine history_New_spec s fun g w1 s => refs_New_spec s fun t r w2 s => ?_
  have G0 : Gh (cel t [.map (some r)] :: ms yrefs_target r [] :: cel g [.slice none 0 0] :: own yapi_Commit ⟨none, 0, 0⟩ [] :: ivs [] [] :: Ω) 2 3 4 g ⟨none, 0, 0⟩ [] [] := ⟨rfl, rfl, rfl, rfl⟩
  refine history_Add_spec (psl := ⟨none, 0, 0⟩) (d := ([], ((0 : Int), (⟨#[]⟩ : ByteArray)))) G0 s (by decide) (by decide) (by decide) ⟨by simp, by show (0 : Nat) ≤ 200; omega, Int.le_refl _, by simp, List.nodup_nil⟩ (by simp) (fun w' s => .nil) (Nat.le_refl _) fun csl' cs' ts w3 s hts hcs => ?_
  subst hts
  have s : Sp w0 (ivs (cs'.map fun x => x.1) [[]] :: cel t [.map (some r)] :: ms yrefs_target r [] :: cel g [.slice csl'.a csl'.len csl'.cap] :: own yapi_Commit csl' cs' :: ivs [] [] :: Ω) w3 := s
  have R1 : Rt (ivs (cs'.map fun x => x.1) [[]] :: cel t [.map (some r)] :: ms yrefs_target r [] :: cel g [.slice csl'.a csl'.len csl'.cap] :: own yapi_Commit csl' cs' :: ivs [] [] :: Ω) 1 2 t r [] := ⟨rfl, rfl⟩
  have hmain : NameOK (⟨#[109, 97, 105, 110]⟩ : ByteArray) := by
    refine ⟨by decide, by decide, fun k hk => ?_⟩
    have hk4 : k < 4 := hk
    match k, hk4 with
    | 0, _ => exact Or.inl (by show 97 ≤ 109 ∧ 109 ≤ 122; decide)
    | 1, _ => exact Or.inl (by show 97 ≤ 97 ∧ 97 ≤ 122; decide)
    | 2, _ => exact Or.inl (by show 97 ≤ 105 ∧ 105 ≤ 122; decide)
    | 3, _ => exact Or.inl (by show 97 ≤ 110 ∧ 110 ≤ 122; decide)
  refine refs_Branch_spec R1 s hmain (Int.le_refl _) rfl fun w4 s => ?_
  have s : Sp w0 (ivs (cs'.map fun x => x.1) [[]] :: cel t [.map (some r)] :: ms yrefs_target r [((⟨#[109, 97, 105, 110]⟩ : ByteArray), ((0 : Int), false))] :: cel g [.slice csl'.a csl'.len csl'.cap] :: own yapi_Commit csl' cs' :: ivs [] [] :: Ω) w4 := s
  have G2 : Gh (ivs (cs'.map fun x => x.1) [[]] :: cel t [.map (some r)] :: ms yrefs_target r [((⟨#[109, 97, 105, 110]⟩ : ByteArray), ((0 : Int), false))] :: cel g [.slice csl'.a csl'.len csl'.cap] :: own yapi_Commit csl' cs' :: ivs [] [] :: Ω) 3 4 0 g csl' cs' [([], ((0 : Int), (⟨#[]⟩ : ByteArray)))] := ⟨rfl, rfl, rfl, hcs⟩
  have R2 : Rt (ivs (cs'.map fun x => x.1) [[]] :: cel t [.map (some r)] :: ms yrefs_target r [((⟨#[109, 97, 105, 110]⟩ : ByteArray), ((0 : Int), false))] :: cel g [.slice csl'.a csl'.len csl'.cap] :: own yapi_Commit csl' cs' :: ivs [] [] :: Ω) 1 2 t r [((⟨#[109, 97, 105, 110]⟩ : ByteArray), ((0 : Int), false))] := ⟨rfl, rfl⟩
  refine compact_Keep_spec (S := [0]) G2 R2 s (fun k d hd => ?_) (by decide) (by decide) (fun z => ?_) (fun z hz => ?_) fun sl w5 s => ?_
  · have : k = 0 := by have := (List.getElem?_eq_some_iff.1 hd).1; simp at this; omega
    subst this
    simp at hd
    subst hd
    exact ⟨by simp, by simp⟩
  · simp [eq_comm]
  · simp at hz; subst hz; exact ⟨Int.le_refl _, by simp⟩
  · have hkl : kl [([], ((0 : Int), (⟨#[]⟩ : ByteArray)))] [0] 0 1 = [0] := by
      rw [(kl_grow 0).1 (.root (by simp)), kl_top]; rfl
    have s : Sp w0 (own (.int .i64) sl (kl [([], ((0 : Int), (⟨#[]⟩ : ByteArray)))] [0] 0 1) :: ivs (cs'.map fun x => x.1) [[]] :: cel t [.map (some r)] :: ms yrefs_target r [((⟨#[109, 97, 105, 110]⟩ : ByteArray), ((0 : Int), false))] :: cel g [.slice csl'.a csl'.len csl'.cap] :: own yapi_Commit csl' cs' :: ivs [] [] :: Ω) w5 := s
    rw [hkl] at s
    have hl := (s.view 0 rfl).len
    refine nilIfc_nil (gd_t rfl (nilIfc_nil (gd_t rfl (nilIfc_nil (gd_t rfl (gd_t (by rw [hl]; rfl) ((s.view 0 rfl).idx (n := 0) rfl rfl rfl fun q hq => ⟨0, hq, h _ (s.drop 7)⟩)))))))

end Go.Proofs.Ytnmgjpcooncjlaa

/- The specification's stores (evergreenref12): Known, Length, Add. The walk of Add's orders of evaluation is printed by wip/gen/walk12.py. -/
set_option linter.unusedVariables false
set_option linter.unusedSimpArgs false
namespace Go.Proofs.Ytnmgjpcooncjlaa
open Go.Den

variable {w0 w : World} {Ω : List Ob} {most : Int} {T : List ET} {j : Nat} {m : yevergreenref12_Store.T}

/-- the specification's store of the rules T -/
def rf2 (m : yevergreenref12_Store.T) (T : List ET) : Ob :=
  ⟨true, fun B w => View yapi_Rule w m.1 (rulesOf T) ∧ View (.int .i64) w m.2 (lensOf T) ∧ @LE.le Nat _ m.1.len m.1.cap ∧ ∀ b, blk m.1 b ∨ blk m.2 b → B b,
    fun h f hB => ⟨h.1.fr f fun b hb => hB b (h.2.2.2 b (Or.inl hb)), h.2.1.fr f fun b hb => hB b (h.2.2.2 b (Or.inr hb)), h.2.2.1, h.2.2.2⟩⟩
theorem Sp.rf2_ (s : Sp w0 Ω w) (j : Nat) (h : Ω[j]? = some (rf2 m T)) : View yapi_Rule w m.1 (rulesOf T) ∧ View (.int .i64) w m.2 (lensOf T) := by
  obtain ⟨B, h, _⟩ := s.get j h
  exact ⟨h.1, h.2.1⟩
theorem Sp.rf2c (s : Sp w0 Ω w) (j : Nat) (h : Ω[j]? = some (rf2 m T)) : @LE.le Nat _ m.1.len m.1.cap := by
  obtain ⟨B, h, _⟩ := s.get j h
  exact h.2.2.1
theorem Sp.rf20 (s : Sp w0 Ω w) : Sp w0 (rf2 ((⟨none, 0, 0⟩ : Sl), (⟨none, 0, 0⟩ : Sl)) [] :: Ω) w := by
  refine s.push (B := fun _ => False) (.refl _ _) ⟨.nil, .nil, Nat.le_refl _, ?_⟩ (fun _ h => h.elim)
  rintro b (h | h) <;> exact blk_none h
theorem ref12_Length_spec {id : Int} (s : Sp w0 Ω w) (j : Nat) (hj : Ω[j]? = some (rf2 m T)) (hk : known T id = true) (hl : T.length ≤ 1048576) {K : Int → World → Prop} (h : ∀ w', Sp w0 Ω w' → K (eAt T id).2.1.1 w') : C_ref12_Length m id K w := by
  apply S_ref12_Length
  unfold F_ref12_Length
  refine s.allocK fun b w1 s1 => gd_eq (fun e => ?_) (fun e => ?_)
  · subst e; exact h _ s1.pop
  · have hk' := of_decide_eq_true hk
    have h3 := eAt_get (L := T) (id := id) (by omega) hk'.2
    have hv := (Sp.rf2_ s1 (j + 1) hj).2
    exact s1.lds (x := m.2) 0 1 rfl rfl (arith_i64 (by omega) (by omega) (hv.idx (n := (id - 1).toNat) (x := (eAt T id).2.1.1) (by omega) (by rw [lensOf, List.getElem?_map, h3]; rfl) rfl fun q hq => ⟨_, hq, h _ s1.pop⟩))

theorem lkR_no {L : List ET} {r : RT} (h : lkR L r = none) : ∀ e ∈ L, e.1 ≠ r := by
  intro e he hr
  unfold lkR lk at h
  rw [Option.map_eq_none_iff, List.find?_eq_none] at h
  obtain ⟨n, hn⟩ := List.getElem?_of_mem he
  have hm : (e.1, (n : Int) + 1) ∈ idx L := by unfold idx; exact List.mem_map.2 ⟨(e, n), List.mem_zipIdx_iff_getElem?.2 hn, rfl⟩
  exact h _ hm ((beqT_iff yapi_Rule rfl _ _).2 hr.symm)
set_option maxHeartbeats 0 in
theorem ref12_Add_new {e : ET} {len : Int} (hlen : len = e.2.1.1) (s : Sp w0 Ω w) (j : Nat) (hj : Ω[j]? = some (rf2 m T)) (hl : T.length < 1048576) (hn : lkR T e.1 = none) {K : yevergreenref12_Store.T × Int → World → Prop}
    (h0 : ∀ m' w', Sp w0 (rf2 m' (T ++ [e]) :: Ω) w' → K (m', (T.length : Int) + 1) w') : C_ref12_Add m e.1 len K w := by
  apply S_ref12_Add
  unfold F_ref12_Add
  refine s.allocK fun a1 w1 s => s.allocK fun a2 w2 s => s.allocK fun a3 w3 s => ?_
  have hlr := (Sp.rf2_ s (j + 3) hj).1.len
  rw [rulesOf_len] at hlr
  have hrl := rulesOf_len T
  have hll := lensOf_len T
  refine loop_by (fun x => x.1) T.length (fun n _ w => Sp w0 (cel a3 [.slice none 0 0, .slice none 0 0] :: cel a2 (cells yapi_Rule e.1) :: cel a1 (cells yevergreenref12_Store m) :: Ω) w) rfl s ?_
  rintro n ⟨x, _⟩ w4 hnn hx s _
  dsimp only at hx ⊢
  subst hx
  refine s.lds (x := m.1) 2 0 rfl rfl (gd_dec (fun hlt => s.drawK fun w5 s => s.lds (x := m.1) 2 0 rfl rfl ?_) (fun hge => ?_))
  · have hn' : n < T.length := by omega
    have he : T[n]? = some T[n] := List.getElem?_eq_getElem hn'
    refine (Sp.rf2_ s (j + 3) hj).1.idx rfl (x := T[n].1) (by rw [rulesOf, List.getElem?_map, he]; rfl) rfl fun q hq => ⟨_, hq, s.ld0 1 rfl rfl (rule_eql (gd_dec (fun e1 => ?_) (fun e1 => arith_i64 (by omega) (by omega) (loop_nx hn' s))))⟩
    exact absurd e1 (lkR_no hn _ (List.getElem_mem hn'))
  · have h : ∀ (sA sB : Sl) w', Sp w0 (own yapi_Rule sA (rulesOf T ++ [e.1]) :: own (.int .i64) sB (lensOf T ++ [len]) :: Ω) w' → K ((sA, sB), (m.1.len : Int) + 1) w' := fun sA sB w' s => by
      rw [hlr]
      refine h0 (sA, sB) _ (s.fold 2 _ (Or.inl rfl) fun f hP _ => ?_)
      have o1 := (hP 0 _ (by decide) rfl).1
      have o2 := (hP 1 _ (by decide) rfl).1
      refine ⟨?_, ?_, o1.1.cap, ?_⟩
      · rw [rulesOf_append]; exact o1.1.view
      · rw [lensOf_append, ← hlen]; exact o2.1.view
      · rintro b (hb | hb)
        · exact ⟨0, by decide, by simp, o1.2 b hb⟩
        · exact ⟨1, by decide, by simp, o2.2 b hb⟩
    have b1 : (([] : List yapi_Rule.T).length + (rulesOf T).length) * 40 ≤ 140737488355328 := by simp only [List.length_nil]; omega
    have b2 : ((([] : List yapi_Rule.T) ++ rulesOf T).length + [e.1].length) * 40 ≤ 140737488355328 := by simp only [List.nil_append, List.length_cons, List.length_nil]; omega
    have b3 : (([] : List (Ty.int .i64).T).length + (lensOf T).length) * 8 ≤ 140737488355328 := by simp only [List.length_nil]; omega
    have b4 : ((([] : List (Ty.int .i64).T) ++ lensOf T).length + [len].length) * 8 ≤ 140737488355328 := by simp only [List.nil_append, List.length_cons, List.length_nil]; omega
    refine s.drawK fun w7 s => s.lds (x := m.1) 2 0 rfl rfl (s.ld0 (ty := yapi_Rule) (x := e.1) 1 rfl rfl (s.lds (x := m.2) 2 1 rfl rfl (s.lds (x := m.1) 2 0 rfl rfl (arith_i64 (by omega) (by omega) ?_))))
    exact
⟨s.allocK fun a21 w8 s => ⟨s.still 3 0 rfl rfl, ⟨s.still 3 1 rfl rfl, ⟨s.at_ 2 rfl, ⟨s.still 3 0 rfl rfl, ⟨(s.lit (ty := yapi_Rule) 0 rfl [] 0 rfl rfl).app 0 rfl (Sp.rf2_ s (j + 4) hj).1 b1 fun s22 w9 s => ⟨s.still 3 0 rfl rfl, ⟨s.still 3 1 rfl rfl, ⟨s.at_ 2 rfl, ⟨s.allocK fun a23 w10 s => ⟨s.still 4 0 rfl rfl, ⟨s.still 4 1 rfl rfl, ⟨s.app 1 rfl ((s.lit (ty := yapi_Rule) 0 rfl [e.1] 1 (by simp [flat]) rfl).view 0 rfl) b2 fun s24 w11 s => ⟨s.still 4 0 rfl rfl, ⟨s.still 4 1 rfl rfl, ⟨s.allocK fun a25 w12 s => ⟨s.still 5 0 rfl rfl, ⟨s.still 5 1 rfl rfl, ⟨(s.lit (ty := .int .i64) 0 rfl [] 0 rfl rfl).app 0 rfl (Sp.rf2_ s (j + 6) hj).2 b3 fun s26 w13 s => ⟨s.still 5 0 rfl rfl, s.allocK fun a27 w14 s => ⟨s.still 6 0 rfl rfl, s.app 1 rfl ((s.lit (ty := .int .i64) 0 rfl [len] 1 rfl rfl).view 0 rfl) b4 fun s28 w15 s => ⟨s.still 6 0 rfl rfl, s.st0 4 rfl rfl rfl fun w16 s => ⟨s.still 6 0 rfl rfl, s.ld0 (ty := yevergreenref12_Store) (x := (s24, s28)) 4 rfl rfl (h _ _ _ (s.pick [3, 1] 7 rfl (by decide)))⟩⟩⟩⟩,
s.allocK fun a30 w17 s => ⟨s.still 6 0 rfl rfl, ⟨s.still 6 1 rfl rfl, (s.lit (ty := .int .i64) 1 rfl [] 0 rfl rfl).app 1 rfl (Sp.rf2_ s (j + 7) hj).2 b3 fun s31 w18 s => ⟨s.still 6 0 rfl rfl, s.app 1 rfl ((s.lit (ty := .int .i64) 0 rfl [len] 1 rfl rfl).view 0 rfl) b4 fun s32 w19 s => ⟨s.still 6 0 rfl rfl, s.st0 4 rfl rfl rfl fun w20 s => ⟨s.still 6 0 rfl rfl, s.ld0 (ty := yevergreenref12_Store) (x := (s24, s32)) 4 rfl rfl (h _ _ _ (s.pick [3, 1] 7 rfl (by decide)))⟩⟩⟩⟩⟩⟩⟩⟩,
s.allocK fun a34 w21 s => ⟨s.still 5 0 rfl rfl, ⟨s.still 5 1 rfl rfl, s.allocK fun a35 w22 s => ⟨s.still 6 0 rfl rfl, ⟨s.still 6 1 rfl rfl, (s.lit (ty := .int .i64) 0 rfl [] 0 rfl rfl).app 0 rfl (Sp.rf2_ s (j + 7) hj).2 b3 fun s36 w23 s => ⟨s.still 6 0 rfl rfl, s.app 0 rfl ((s.lit (ty := .int .i64) 1 rfl [len] 1 rfl rfl).view 1 rfl) b4 fun s37 w24 s => ⟨s.still 6 0 rfl rfl, s.st0 4 rfl rfl rfl fun w25 s => ⟨s.still 6 0 rfl rfl, s.ld0 (ty := yevergreenref12_Store) (x := (s24, s37)) 4 rfl rfl (h _ _ _ (s.pick [3, 0] 7 rfl (by decide)))⟩⟩⟩⟩⟩⟩⟩⟩⟩⟩,
⟨s.allocK fun a39 w26 s => ⟨s.still 5 0 rfl rfl, ⟨s.still 5 1 rfl rfl, ⟨s.app 2 rfl ((s.lit (ty := yapi_Rule) 1 rfl [e.1] 1 (by simp [flat]) rfl).view 1 rfl) b2 fun s40 w27 s => ⟨s.still 5 0 rfl rfl, ⟨s.still 5 1 rfl rfl, ⟨(s.lit (ty := .int .i64) 0 rfl [] 0 rfl rfl).app 0 rfl (Sp.rf2_ s (j + 6) hj).2 b3 fun s41 w28 s => ⟨s.still 5 0 rfl rfl, s.allocK fun a42 w29 s => ⟨s.still 6 0 rfl rfl, s.app 1 rfl ((s.lit (ty := .int .i64) 0 rfl [len] 1 rfl rfl).view 0 rfl) b4 fun s43 w30 s => ⟨s.still 6 0 rfl rfl, s.st0 4 rfl rfl rfl fun w31 s => ⟨s.still 6 0 rfl rfl, s.ld0 (ty := yevergreenref12_Store) (x := (s40, s43)) 4 rfl rfl (h _ _ _ (s.pick [3, 1] 7 rfl (by decide)))⟩⟩⟩⟩,
s.allocK fun a45 w32 s => ⟨s.still 6 0 rfl rfl, ⟨s.still 6 1 rfl rfl, (s.lit (ty := .int .i64) 1 rfl [] 0 rfl rfl).app 1 rfl (Sp.rf2_ s (j + 7) hj).2 b3 fun s46 w33 s => ⟨s.still 6 0 rfl rfl, s.app 1 rfl ((s.lit (ty := .int .i64) 0 rfl [len] 1 rfl rfl).view 0 rfl) b4 fun s47 w34 s => ⟨s.still 6 0 rfl rfl, s.st0 4 rfl rfl rfl fun w35 s => ⟨s.still 6 0 rfl rfl, s.ld0 (ty := yevergreenref12_Store) (x := (s40, s47)) 4 rfl rfl (h _ _ _ (s.pick [3, 1] 7 rfl (by decide)))⟩⟩⟩⟩⟩⟩⟩⟩,
s.allocK fun a49 w36 s => ⟨s.still 6 0 rfl rfl, ⟨s.still 6 1 rfl rfl, s.app 3 rfl ((s.lit (ty := yapi_Rule) 2 rfl [e.1] 1 (by simp [flat]) rfl).view 2 rfl) b2 fun s50 w37 s => ⟨s.still 6 0 rfl rfl, ⟨s.still 6 1 rfl rfl, (s.lit (ty := .int .i64) 1 rfl [] 0 rfl rfl).app 1 rfl (Sp.rf2_ s (j + 7) hj).2 b3 fun s51 w38 s => ⟨s.still 6 0 rfl rfl, s.app 1 rfl ((s.lit (ty := .int .i64) 0 rfl [len] 1 rfl rfl).view 0 rfl) b4 fun s52 w39 s => ⟨s.still 6 0 rfl rfl, s.st0 4 rfl rfl rfl fun w40 s => ⟨s.still 6 0 rfl rfl, s.ld0 (ty := yevergreenref12_Store) (x := (s50, s52)) 4 rfl rfl (h _ _ _ (s.pick [3, 1] 7 rfl (by decide)))⟩⟩⟩⟩⟩⟩⟩⟩⟩⟩,
s.allocK fun a54 w41 s => ⟨s.still 5 0 rfl rfl, ⟨s.still 5 1 rfl rfl, ⟨s.app 2 rfl ((s.lit (ty := yapi_Rule) 1 rfl [e.1] 1 (by simp [flat]) rfl).view 1 rfl) b2 fun s55 w42 s => ⟨s.still 5 0 rfl rfl, ⟨s.still 5 1 rfl rfl, s.allocK fun a56 w43 s => ⟨s.still 6 0 rfl rfl, ⟨s.still 6 1 rfl rfl, (s.lit (ty := .int .i64) 0 rfl [] 0 rfl rfl).app 0 rfl (Sp.rf2_ s (j + 7) hj).2 b3 fun s57 w44 s => ⟨s.still 6 0 rfl rfl, s.app 0 rfl ((s.lit (ty := .int .i64) 1 rfl [len] 1 rfl rfl).view 1 rfl) b4 fun s58 w45 s => ⟨s.still 6 0 rfl rfl, s.st0 4 rfl rfl rfl fun w46 s => ⟨s.still 6 0 rfl rfl, s.ld0 (ty := yevergreenref12_Store) (x := (s55, s58)) 4 rfl rfl (h _ _ _ (s.pick [3, 0] 7 rfl (by decide)))⟩⟩⟩⟩⟩⟩⟩,
s.allocK fun a60 w47 s => ⟨s.still 6 0 rfl rfl, ⟨s.still 6 1 rfl rfl, s.app 3 rfl ((s.lit (ty := yapi_Rule) 2 rfl [e.1] 1 (by simp [flat]) rfl).view 2 rfl) b2 fun s61 w48 s => ⟨s.still 6 0 rfl rfl, ⟨s.still 6 1 rfl rfl, (s.lit (ty := .int .i64) 0 rfl [] 0 rfl rfl).app 0 rfl (Sp.rf2_ s (j + 7) hj).2 b3 fun s62 w49 s => ⟨s.still 6 0 rfl rfl, s.app 0 rfl ((s.lit (ty := .int .i64) 1 rfl [len] 1 rfl rfl).view 1 rfl) b4 fun s63 w50 s => ⟨s.still 6 0 rfl rfl, s.st0 4 rfl rfl rfl fun w51 s => ⟨s.still 6 0 rfl rfl, s.ld0 (ty := yevergreenref12_Store) (x := (s61, s63)) 4 rfl rfl (h _ _ _ (s.pick [3, 0] 7 rfl (by decide)))⟩⟩⟩⟩⟩⟩⟩⟩⟩⟩⟩⟩⟩⟩,
⟨s.allocK fun a65 w52 s => ⟨s.still 4 0 rfl rfl, ⟨s.still 4 1 rfl rfl, ⟨s.at_ 3 rfl, ⟨s.allocK fun a66 w53 s => ⟨s.still 5 0 rfl rfl, ⟨s.still 5 1 rfl rfl, ⟨s.app 2 rfl ((s.lit (ty := yapi_Rule) 0 rfl [e.1] 1 (by simp [flat]) rfl).view 0 rfl) b2 fun s67 w54 s => ⟨s.still 5 0 rfl rfl, ⟨s.still 5 1 rfl rfl, ⟨(s.lit (ty := .int .i64) 1 rfl [] 0 rfl rfl).app 1 rfl (Sp.rf2_ s (j + 6) hj).2 b3 fun s68 w55 s => ⟨s.still 5 0 rfl rfl, s.allocK fun a69 w56 s => ⟨s.still 6 0 rfl rfl, s.app 2 rfl ((s.lit (ty := .int .i64) 0 rfl [len] 1 rfl rfl).view 0 rfl) b4 fun s70 w57 s => ⟨s.still 6 0 rfl rfl, s.st0 4 rfl rfl rfl fun w58 s => ⟨s.still 6 0 rfl rfl, s.ld0 (ty := yevergreenref12_Store) (x := (s67, s70)) 4 rfl rfl (h _ _ _ (s.pick [3, 2] 7 rfl (by decide)))⟩⟩⟩⟩,
s.allocK fun a72 w59 s => ⟨s.still 6 0 rfl rfl, ⟨s.still 6 1 rfl rfl, (s.lit (ty := .int .i64) 2 rfl [] 0 rfl rfl).app 2 rfl (Sp.rf2_ s (j + 7) hj).2 b3 fun s73 w60 s => ⟨s.still 6 0 rfl rfl, s.app 2 rfl ((s.lit (ty := .int .i64) 0 rfl [len] 1 rfl rfl).view 0 rfl) b4 fun s74 w61 s => ⟨s.still 6 0 rfl rfl, s.st0 4 rfl rfl rfl fun w62 s => ⟨s.still 6 0 rfl rfl, s.ld0 (ty := yevergreenref12_Store) (x := (s67, s74)) 4 rfl rfl (h _ _ _ (s.pick [3, 2] 7 rfl (by decide)))⟩⟩⟩⟩⟩⟩⟩⟩,
s.allocK fun a76 w63 s => ⟨s.still 6 0 rfl rfl, ⟨s.still 6 1 rfl rfl, s.app 3 rfl ((s.lit (ty := yapi_Rule) 1 rfl [e.1] 1 (by simp [flat]) rfl).view 1 rfl) b2 fun s77 w64 s => ⟨s.still 6 0 rfl rfl, ⟨s.still 6 1 rfl rfl, (s.lit (ty := .int .i64) 2 rfl [] 0 rfl rfl).app 2 rfl (Sp.rf2_ s (j + 7) hj).2 b3 fun s78 w65 s => ⟨s.still 6 0 rfl rfl, s.app 2 rfl ((s.lit (ty := .int .i64) 0 rfl [len] 1 rfl rfl).view 0 rfl) b4 fun s79 w66 s => ⟨s.still 6 0 rfl rfl, s.st0 4 rfl rfl rfl fun w67 s => ⟨s.still 6 0 rfl rfl, s.ld0 (ty := yevergreenref12_Store) (x := (s77, s79)) 4 rfl rfl (h _ _ _ (s.pick [3, 2] 7 rfl (by decide)))⟩⟩⟩⟩⟩⟩⟩⟩⟩⟩,
s.allocK fun a81 w68 s => ⟨s.still 5 0 rfl rfl, ⟨s.still 5 1 rfl rfl, ⟨s.at_ 4 rfl, s.allocK fun a82 w69 s => ⟨s.still 6 0 rfl rfl, ⟨s.still 6 1 rfl rfl, s.app 3 rfl ((s.lit (ty := yapi_Rule) 0 rfl [e.1] 1 (by simp [flat]) rfl).view 0 rfl) b2 fun s83 w70 s => ⟨s.still 6 0 rfl rfl, ⟨s.still 6 1 rfl rfl, (s.lit (ty := .int .i64) 2 rfl [] 0 rfl rfl).app 2 rfl (Sp.rf2_ s (j + 7) hj).2 b3 fun s84 w71 s => ⟨s.still 6 0 rfl rfl, s.app 2 rfl ((s.lit (ty := .int .i64) 1 rfl [len] 1 rfl rfl).view 1 rfl) b4 fun s85 w72 s => ⟨s.still 6 0 rfl rfl, s.st0 4 rfl rfl rfl fun w73 s => ⟨s.still 6 0 rfl rfl, s.ld0 (ty := yevergreenref12_Store) (x := (s83, s85)) 4 rfl rfl (h _ _ _ (s.pick [3, 2] 7 rfl (by decide)))⟩⟩⟩⟩⟩⟩⟩⟩⟩⟩⟩⟩⟩⟩,
s.allocK fun a87 w74 s => ⟨s.still 4 0 rfl rfl, ⟨s.still 4 1 rfl rfl, ⟨s.at_ 3 rfl, ⟨s.allocK fun a88 w75 s => ⟨s.still 5 0 rfl rfl, ⟨s.still 5 1 rfl rfl, ⟨s.app 2 rfl ((s.lit (ty := yapi_Rule) 0 rfl [e.1] 1 (by simp [flat]) rfl).view 0 rfl) b2 fun s89 w76 s => ⟨s.still 5 0 rfl rfl, ⟨s.still 5 1 rfl rfl, s.allocK fun a90 w77 s => ⟨s.still 6 0 rfl rfl, ⟨s.still 6 1 rfl rfl, (s.lit (ty := .int .i64) 0 rfl [] 0 rfl rfl).app 0 rfl (Sp.rf2_ s (j + 7) hj).2 b3 fun s91 w78 s => ⟨s.still 6 0 rfl rfl, s.app 0 rfl ((s.lit (ty := .int .i64) 2 rfl [len] 1 rfl rfl).view 2 rfl) b4 fun s92 w79 s => ⟨s.still 6 0 rfl rfl, s.st0 4 rfl rfl rfl fun w80 s => ⟨s.still 6 0 rfl rfl, s.ld0 (ty := yevergreenref12_Store) (x := (s89, s92)) 4 rfl rfl (h _ _ _ (s.pick [3, 0] 7 rfl (by decide)))⟩⟩⟩⟩⟩⟩⟩,
s.allocK fun a94 w81 s => ⟨s.still 6 0 rfl rfl, ⟨s.still 6 1 rfl rfl, s.app 3 rfl ((s.lit (ty := yapi_Rule) 1 rfl [e.1] 1 (by simp [flat]) rfl).view 1 rfl) b2 fun s95 w82 s => ⟨s.still 6 0 rfl rfl, ⟨s.still 6 1 rfl rfl, (s.lit (ty := .int .i64) 0 rfl [] 0 rfl rfl).app 0 rfl (Sp.rf2_ s (j + 7) hj).2 b3 fun s96 w83 s => ⟨s.still 6 0 rfl rfl, s.app 0 rfl ((s.lit (ty := .int .i64) 2 rfl [len] 1 rfl rfl).view 2 rfl) b4 fun s97 w84 s => ⟨s.still 6 0 rfl rfl, s.st0 4 rfl rfl rfl fun w85 s => ⟨s.still 6 0 rfl rfl, s.ld0 (ty := yevergreenref12_Store) (x := (s95, s97)) 4 rfl rfl (h _ _ _ (s.pick [3, 0] 7 rfl (by decide)))⟩⟩⟩⟩⟩⟩⟩⟩⟩⟩,
s.allocK fun a99 w86 s => ⟨s.still 5 0 rfl rfl, ⟨s.still 5 1 rfl rfl, ⟨s.at_ 4 rfl, s.allocK fun a100 w87 s => ⟨s.still 6 0 rfl rfl, ⟨s.still 6 1 rfl rfl, s.app 3 rfl ((s.lit (ty := yapi_Rule) 0 rfl [e.1] 1 (by simp [flat]) rfl).view 0 rfl) b2 fun s101 w88 s => ⟨s.still 6 0 rfl rfl, ⟨s.still 6 1 rfl rfl, (s.lit (ty := .int .i64) 1 rfl [] 0 rfl rfl).app 1 rfl (Sp.rf2_ s (j + 7) hj).2 b3 fun s102 w89 s => ⟨s.still 6 0 rfl rfl, s.app 1 rfl ((s.lit (ty := .int .i64) 2 rfl [len] 1 rfl rfl).view 2 rfl) b4 fun s103 w90 s => ⟨s.still 6 0 rfl rfl, s.st0 4 rfl rfl rfl fun w91 s => ⟨s.still 6 0 rfl rfl, s.ld0 (ty := yevergreenref12_Store) (x := (s101, s103)) 4 rfl rfl (h _ _ _ (s.pick [3, 1] 7 rfl (by decide)))⟩⟩⟩⟩⟩⟩⟩⟩⟩⟩⟩⟩⟩⟩⟩⟩⟩⟩⟩,
⟨s.allocK fun a105 w92 s => ⟨s.still 4 0 rfl rfl, ⟨s.still 4 1 rfl rfl, ⟨s.still 4 0 rfl rfl, ⟨(s.lit (ty := yapi_Rule) 1 rfl [] 0 rfl rfl).app 1 rfl (Sp.rf2_ s (j + 5) hj).1 b1 fun s106 w93 s => ⟨s.still 4 0 rfl rfl, ⟨s.still 4 1 rfl rfl, ⟨s.app 1 rfl ((s.lit (ty := yapi_Rule) 0 rfl [e.1] 1 (by simp [flat]) rfl).view 0 rfl) b2 fun s107 w94 s => ⟨s.still 4 0 rfl rfl, ⟨s.still 4 1 rfl rfl, ⟨s.allocK fun a108 w95 s => ⟨s.still 5 0 rfl rfl, ⟨s.still 5 1 rfl rfl, ⟨(s.lit (ty := .int .i64) 0 rfl [] 0 rfl rfl).app 0 rfl (Sp.rf2_ s (j + 6) hj).2 b3 fun s109 w96 s => ⟨s.still 5 0 rfl rfl, s.allocK fun a110 w97 s => ⟨s.still 6 0 rfl rfl, s.app 1 rfl ((s.lit (ty := .int .i64) 0 rfl [len] 1 rfl rfl).view 0 rfl) b4 fun s111 w98 s => ⟨s.still 6 0 rfl rfl, s.st0 4 rfl rfl rfl fun w99 s => ⟨s.still 6 0 rfl rfl, s.ld0 (ty := yevergreenref12_Store) (x := (s107, s111)) 4 rfl rfl (h _ _ _ (s.pick [3, 1] 7 rfl (by decide)))⟩⟩⟩⟩,
s.allocK fun a113 w100 s => ⟨s.still 6 0 rfl rfl, ⟨s.still 6 1 rfl rfl, (s.lit (ty := .int .i64) 1 rfl [] 0 rfl rfl).app 1 rfl (Sp.rf2_ s (j + 7) hj).2 b3 fun s114 w101 s => ⟨s.still 6 0 rfl rfl, s.app 1 rfl ((s.lit (ty := .int .i64) 0 rfl [len] 1 rfl rfl).view 0 rfl) b4 fun s115 w102 s => ⟨s.still 6 0 rfl rfl, s.st0 4 rfl rfl rfl fun w103 s => ⟨s.still 6 0 rfl rfl, s.ld0 (ty := yevergreenref12_Store) (x := (s107, s115)) 4 rfl rfl (h _ _ _ (s.pick [3, 1] 7 rfl (by decide)))⟩⟩⟩⟩⟩⟩⟩⟩,
s.allocK fun a117 w104 s => ⟨s.still 5 0 rfl rfl, ⟨s.still 5 1 rfl rfl, s.allocK fun a118 w105 s => ⟨s.still 6 0 rfl rfl, ⟨s.still 6 1 rfl rfl, (s.lit (ty := .int .i64) 0 rfl [] 0 rfl rfl).app 0 rfl (Sp.rf2_ s (j + 7) hj).2 b3 fun s119 w106 s => ⟨s.still 6 0 rfl rfl, s.app 0 rfl ((s.lit (ty := .int .i64) 1 rfl [len] 1 rfl rfl).view 1 rfl) b4 fun s120 w107 s => ⟨s.still 6 0 rfl rfl, s.st0 4 rfl rfl rfl fun w108 s => ⟨s.still 6 0 rfl rfl, s.ld0 (ty := yevergreenref12_Store) (x := (s107, s120)) 4 rfl rfl (h _ _ _ (s.pick [3, 0] 7 rfl (by decide)))⟩⟩⟩⟩⟩⟩⟩⟩⟩⟩,
⟨s.allocK fun a122 w109 s => ⟨s.still 5 0 rfl rfl, ⟨s.still 5 1 rfl rfl, ⟨s.app 2 rfl ((s.lit (ty := yapi_Rule) 1 rfl [e.1] 1 (by simp [flat]) rfl).view 1 rfl) b2 fun s123 w110 s => ⟨s.still 5 0 rfl rfl, ⟨s.still 5 1 rfl rfl, ⟨(s.lit (ty := .int .i64) 0 rfl [] 0 rfl rfl).app 0 rfl (Sp.rf2_ s (j + 6) hj).2 b3 fun s124 w111 s => ⟨s.still 5 0 rfl rfl, s.allocK fun a125 w112 s => ⟨s.still 6 0 rfl rfl, s.app 1 rfl ((s.lit (ty := .int .i64) 0 rfl [len] 1 rfl rfl).view 0 rfl) b4 fun s126 w113 s => ⟨s.still 6 0 rfl rfl, s.st0 4 rfl rfl rfl fun w114 s => ⟨s.still 6 0 rfl rfl, s.ld0 (ty := yevergreenref12_Store) (x := (s123, s126)) 4 rfl rfl (h _ _ _ (s.pick [3, 1] 7 rfl (by decide)))⟩⟩⟩⟩,
s.allocK fun a128 w115 s => ⟨s.still 6 0 rfl rfl, ⟨s.still 6 1 rfl rfl, (s.lit (ty := .int .i64) 1 rfl [] 0 rfl rfl).app 1 rfl (Sp.rf2_ s (j + 7) hj).2 b3 fun s129 w116 s => ⟨s.still 6 0 rfl rfl, s.app 1 rfl ((s.lit (ty := .int .i64) 0 rfl [len] 1 rfl rfl).view 0 rfl) b4 fun s130 w117 s => ⟨s.still 6 0 rfl rfl, s.st0 4 rfl rfl rfl fun w118 s => ⟨s.still 6 0 rfl rfl, s.ld0 (ty := yevergreenref12_Store) (x := (s123, s130)) 4 rfl rfl (h _ _ _ (s.pick [3, 1] 7 rfl (by decide)))⟩⟩⟩⟩⟩⟩⟩⟩,
s.allocK fun a132 w119 s => ⟨s.still 6 0 rfl rfl, ⟨s.still 6 1 rfl rfl, s.app 3 rfl ((s.lit (ty := yapi_Rule) 2 rfl [e.1] 1 (by simp [flat]) rfl).view 2 rfl) b2 fun s133 w120 s => ⟨s.still 6 0 rfl rfl, ⟨s.still 6 1 rfl rfl, (s.lit (ty := .int .i64) 1 rfl [] 0 rfl rfl).app 1 rfl (Sp.rf2_ s (j + 7) hj).2 b3 fun s134 w121 s => ⟨s.still 6 0 rfl rfl, s.app 1 rfl ((s.lit (ty := .int .i64) 0 rfl [len] 1 rfl rfl).view 0 rfl) b4 fun s135 w122 s => ⟨s.still 6 0 rfl rfl, s.st0 4 rfl rfl rfl fun w123 s => ⟨s.still 6 0 rfl rfl, s.ld0 (ty := yevergreenref12_Store) (x := (s133, s135)) 4 rfl rfl (h _ _ _ (s.pick [3, 1] 7 rfl (by decide)))⟩⟩⟩⟩⟩⟩⟩⟩⟩⟩,
s.allocK fun a137 w124 s => ⟨s.still 5 0 rfl rfl, ⟨s.still 5 1 rfl rfl, ⟨s.app 2 rfl ((s.lit (ty := yapi_Rule) 1 rfl [e.1] 1 (by simp [flat]) rfl).view 1 rfl) b2 fun s138 w125 s => ⟨s.still 5 0 rfl rfl, ⟨s.still 5 1 rfl rfl, s.allocK fun a139 w126 s => ⟨s.still 6 0 rfl rfl, ⟨s.still 6 1 rfl rfl, (s.lit (ty := .int .i64) 0 rfl [] 0 rfl rfl).app 0 rfl (Sp.rf2_ s (j + 7) hj).2 b3 fun s140 w127 s => ⟨s.still 6 0 rfl rfl, s.app 0 rfl ((s.lit (ty := .int .i64) 1 rfl [len] 1 rfl rfl).view 1 rfl) b4 fun s141 w128 s => ⟨s.still 6 0 rfl rfl, s.st0 4 rfl rfl rfl fun w129 s => ⟨s.still 6 0 rfl rfl, s.ld0 (ty := yevergreenref12_Store) (x := (s138, s141)) 4 rfl rfl (h _ _ _ (s.pick [3, 0] 7 rfl (by decide)))⟩⟩⟩⟩⟩⟩⟩,
s.allocK fun a143 w130 s => ⟨s.still 6 0 rfl rfl, ⟨s.still 6 1 rfl rfl, s.app 3 rfl ((s.lit (ty := yapi_Rule) 2 rfl [e.1] 1 (by simp [flat]) rfl).view 2 rfl) b2 fun s144 w131 s => ⟨s.still 6 0 rfl rfl, ⟨s.still 6 1 rfl rfl, (s.lit (ty := .int .i64) 0 rfl [] 0 rfl rfl).app 0 rfl (Sp.rf2_ s (j + 7) hj).2 b3 fun s145 w132 s => ⟨s.still 6 0 rfl rfl, s.app 0 rfl ((s.lit (ty := .int .i64) 1 rfl [len] 1 rfl rfl).view 1 rfl) b4 fun s146 w133 s => ⟨s.still 6 0 rfl rfl, s.st0 4 rfl rfl rfl fun w134 s => ⟨s.still 6 0 rfl rfl, s.ld0 (ty := yevergreenref12_Store) (x := (s144, s146)) 4 rfl rfl (h _ _ _ (s.pick [3, 0] 7 rfl (by decide)))⟩⟩⟩⟩⟩⟩⟩⟩⟩⟩⟩⟩⟩⟩,
⟨s.allocK fun a148 w135 s => ⟨s.still 5 0 rfl rfl, ⟨s.still 5 1 rfl rfl, ⟨s.still 5 0 rfl rfl, ⟨(s.lit (ty := yapi_Rule) 2 rfl [] 0 rfl rfl).app 2 rfl (Sp.rf2_ s (j + 6) hj).1 b1 fun s149 w136 s => ⟨s.still 5 0 rfl rfl, ⟨s.still 5 1 rfl rfl, ⟨s.app 2 rfl ((s.lit (ty := yapi_Rule) 1 rfl [e.1] 1 (by simp [flat]) rfl).view 1 rfl) b2 fun s150 w137 s => ⟨s.still 5 0 rfl rfl, ⟨s.still 5 1 rfl rfl, ⟨(s.lit (ty := .int .i64) 0 rfl [] 0 rfl rfl).app 0 rfl (Sp.rf2_ s (j + 6) hj).2 b3 fun s151 w138 s => ⟨s.still 5 0 rfl rfl, s.allocK fun a152 w139 s => ⟨s.still 6 0 rfl rfl, s.app 1 rfl ((s.lit (ty := .int .i64) 0 rfl [len] 1 rfl rfl).view 0 rfl) b4 fun s153 w140 s => ⟨s.still 6 0 rfl rfl, s.st0 4 rfl rfl rfl fun w141 s => ⟨s.still 6 0 rfl rfl, s.ld0 (ty := yevergreenref12_Store) (x := (s150, s153)) 4 rfl rfl (h _ _ _ (s.pick [3, 1] 7 rfl (by decide)))⟩⟩⟩⟩,
s.allocK fun a155 w142 s => ⟨s.still 6 0 rfl rfl, ⟨s.still 6 1 rfl rfl, (s.lit (ty := .int .i64) 1 rfl [] 0 rfl rfl).app 1 rfl (Sp.rf2_ s (j + 7) hj).2 b3 fun s156 w143 s => ⟨s.still 6 0 rfl rfl, s.app 1 rfl ((s.lit (ty := .int .i64) 0 rfl [len] 1 rfl rfl).view 0 rfl) b4 fun s157 w144 s => ⟨s.still 6 0 rfl rfl, s.st0 4 rfl rfl rfl fun w145 s => ⟨s.still 6 0 rfl rfl, s.ld0 (ty := yevergreenref12_Store) (x := (s150, s157)) 4 rfl rfl (h _ _ _ (s.pick [3, 1] 7 rfl (by decide)))⟩⟩⟩⟩⟩⟩⟩⟩,
s.allocK fun a159 w146 s => ⟨s.still 6 0 rfl rfl, ⟨s.still 6 1 rfl rfl, s.app 3 rfl ((s.lit (ty := yapi_Rule) 2 rfl [e.1] 1 (by simp [flat]) rfl).view 2 rfl) b2 fun s160 w147 s => ⟨s.still 6 0 rfl rfl, ⟨s.still 6 1 rfl rfl, (s.lit (ty := .int .i64) 1 rfl [] 0 rfl rfl).app 1 rfl (Sp.rf2_ s (j + 7) hj).2 b3 fun s161 w148 s => ⟨s.still 6 0 rfl rfl, s.app 1 rfl ((s.lit (ty := .int .i64) 0 rfl [len] 1 rfl rfl).view 0 rfl) b4 fun s162 w149 s => ⟨s.still 6 0 rfl rfl, s.st0 4 rfl rfl rfl fun w150 s => ⟨s.still 6 0 rfl rfl, s.ld0 (ty := yevergreenref12_Store) (x := (s160, s162)) 4 rfl rfl (h _ _ _ (s.pick [3, 1] 7 rfl (by decide)))⟩⟩⟩⟩⟩⟩⟩⟩⟩⟩,
s.allocK fun a164 w151 s => ⟨s.still 6 0 rfl rfl, ⟨s.still 6 1 rfl rfl, ⟨s.still 6 0 rfl rfl, (s.lit (ty := yapi_Rule) 3 rfl [] 0 rfl rfl).app 3 rfl (Sp.rf2_ s (j + 7) hj).1 b1 fun s165 w152 s => ⟨s.still 6 0 rfl rfl, ⟨s.still 6 1 rfl rfl, s.app 3 rfl ((s.lit (ty := yapi_Rule) 2 rfl [e.1] 1 (by simp [flat]) rfl).view 2 rfl) b2 fun s166 w153 s => ⟨s.still 6 0 rfl rfl, ⟨s.still 6 1 rfl rfl, (s.lit (ty := .int .i64) 1 rfl [] 0 rfl rfl).app 1 rfl (Sp.rf2_ s (j + 7) hj).2 b3 fun s167 w154 s => ⟨s.still 6 0 rfl rfl, s.app 1 rfl ((s.lit (ty := .int .i64) 0 rfl [len] 1 rfl rfl).view 0 rfl) b4 fun s168 w155 s => ⟨s.still 6 0 rfl rfl, s.st0 4 rfl rfl rfl fun w156 s => ⟨s.still 6 0 rfl rfl, s.ld0 (ty := yevergreenref12_Store) (x := (s166, s168)) 4 rfl rfl (h _ _ _ (s.pick [3, 1] 7 rfl (by decide)))⟩⟩⟩⟩⟩⟩⟩⟩⟩⟩⟩⟩⟩⟩,
s.allocK fun a170 w157 s => ⟨s.still 5 0 rfl rfl, ⟨s.still 5 1 rfl rfl, ⟨s.still 5 0 rfl rfl, ⟨(s.lit (ty := yapi_Rule) 2 rfl [] 0 rfl rfl).app 2 rfl (Sp.rf2_ s (j + 6) hj).1 b1 fun s171 w158 s => ⟨s.still 5 0 rfl rfl, ⟨s.still 5 1 rfl rfl, ⟨s.app 2 rfl ((s.lit (ty := yapi_Rule) 1 rfl [e.1] 1 (by simp [flat]) rfl).view 1 rfl) b2 fun s172 w159 s => ⟨s.still 5 0 rfl rfl, ⟨s.still 5 1 rfl rfl, s.allocK fun a173 w160 s => ⟨s.still 6 0 rfl rfl, ⟨s.still 6 1 rfl rfl, (s.lit (ty := .int .i64) 0 rfl [] 0 rfl rfl).app 0 rfl (Sp.rf2_ s (j + 7) hj).2 b3 fun s174 w161 s => ⟨s.still 6 0 rfl rfl, s.app 0 rfl ((s.lit (ty := .int .i64) 1 rfl [len] 1 rfl rfl).view 1 rfl) b4 fun s175 w162 s => ⟨s.still 6 0 rfl rfl, s.st0 4 rfl rfl rfl fun w163 s => ⟨s.still 6 0 rfl rfl, s.ld0 (ty := yevergreenref12_Store) (x := (s172, s175)) 4 rfl rfl (h _ _ _ (s.pick [3, 0] 7 rfl (by decide)))⟩⟩⟩⟩⟩⟩⟩,
s.allocK fun a177 w164 s => ⟨s.still 6 0 rfl rfl, ⟨s.still 6 1 rfl rfl, s.app 3 rfl ((s.lit (ty := yapi_Rule) 2 rfl [e.1] 1 (by simp [flat]) rfl).view 2 rfl) b2 fun s178 w165 s => ⟨s.still 6 0 rfl rfl, ⟨s.still 6 1 rfl rfl, (s.lit (ty := .int .i64) 0 rfl [] 0 rfl rfl).app 0 rfl (Sp.rf2_ s (j + 7) hj).2 b3 fun s179 w166 s => ⟨s.still 6 0 rfl rfl, s.app 0 rfl ((s.lit (ty := .int .i64) 1 rfl [len] 1 rfl rfl).view 1 rfl) b4 fun s180 w167 s => ⟨s.still 6 0 rfl rfl, s.st0 4 rfl rfl rfl fun w168 s => ⟨s.still 6 0 rfl rfl, s.ld0 (ty := yevergreenref12_Store) (x := (s178, s180)) 4 rfl rfl (h _ _ _ (s.pick [3, 0] 7 rfl (by decide)))⟩⟩⟩⟩⟩⟩⟩⟩⟩⟩,
s.allocK fun a182 w169 s => ⟨s.still 6 0 rfl rfl, ⟨s.still 6 1 rfl rfl, ⟨s.still 6 0 rfl rfl, (s.lit (ty := yapi_Rule) 3 rfl [] 0 rfl rfl).app 3 rfl (Sp.rf2_ s (j + 7) hj).1 b1 fun s183 w170 s => ⟨s.still 6 0 rfl rfl, ⟨s.still 6 1 rfl rfl, s.app 3 rfl ((s.lit (ty := yapi_Rule) 2 rfl [e.1] 1 (by simp [flat]) rfl).view 2 rfl) b2 fun s184 w171 s => ⟨s.still 6 0 rfl rfl, ⟨s.still 6 1 rfl rfl, (s.lit (ty := .int .i64) 0 rfl [] 0 rfl rfl).app 0 rfl (Sp.rf2_ s (j + 7) hj).2 b3 fun s185 w172 s => ⟨s.still 6 0 rfl rfl, s.app 0 rfl ((s.lit (ty := .int .i64) 1 rfl [len] 1 rfl rfl).view 1 rfl) b4 fun s186 w173 s => ⟨s.still 6 0 rfl rfl, s.st0 4 rfl rfl rfl fun w174 s => ⟨s.still 6 0 rfl rfl, s.ld0 (ty := yevergreenref12_Store) (x := (s184, s186)) 4 rfl rfl (h _ _ _ (s.pick [3, 0] 7 rfl (by decide)))⟩⟩⟩⟩⟩⟩⟩⟩⟩⟩⟩⟩⟩⟩⟩⟩⟩⟩⟩,
⟨s.allocK fun a188 w175 s => ⟨s.still 4 0 rfl rfl, ⟨s.still 4 1 rfl rfl, ⟨s.at_ 3 rfl, ⟨s.still 4 0 rfl rfl, ⟨(s.lit (ty := yapi_Rule) 1 rfl [] 0 rfl rfl).app 1 rfl (Sp.rf2_ s (j + 5) hj).1 b1 fun s189 w176 s => ⟨s.still 4 0 rfl rfl, ⟨s.still 4 1 rfl rfl, ⟨s.at_ 3 rfl, ⟨s.allocK fun a190 w177 s => ⟨s.still 5 0 rfl rfl, ⟨s.still 5 1 rfl rfl, ⟨s.app 2 rfl ((s.lit (ty := yapi_Rule) 0 rfl [e.1] 1 (by simp [flat]) rfl).view 0 rfl) b2 fun s191 w178 s => ⟨s.still 5 0 rfl rfl, ⟨s.still 5 1 rfl rfl, ⟨(s.lit (ty := .int .i64) 1 rfl [] 0 rfl rfl).app 1 rfl (Sp.rf2_ s (j + 6) hj).2 b3 fun s192 w179 s => ⟨s.still 5 0 rfl rfl, s.allocK fun a193 w180 s => ⟨s.still 6 0 rfl rfl, s.app 2 rfl ((s.lit (ty := .int .i64) 0 rfl [len] 1 rfl rfl).view 0 rfl) b4 fun s194 w181 s => ⟨s.still 6 0 rfl rfl, s.st0 4 rfl rfl rfl fun w182 s => ⟨s.still 6 0 rfl rfl, s.ld0 (ty := yevergreenref12_Store) (x := (s191, s194)) 4 rfl rfl (h _ _ _ (s.pick [3, 2] 7 rfl (by decide)))⟩⟩⟩⟩,
s.allocK fun a196 w183 s => ⟨s.still 6 0 rfl rfl, ⟨s.still 6 1 rfl rfl, (s.lit (ty := .int .i64) 2 rfl [] 0 rfl rfl).app 2 rfl (Sp.rf2_ s (j + 7) hj).2 b3 fun s197 w184 s => ⟨s.still 6 0 rfl rfl, s.app 2 rfl ((s.lit (ty := .int .i64) 0 rfl [len] 1 rfl rfl).view 0 rfl) b4 fun s198 w185 s => ⟨s.still 6 0 rfl rfl, s.st0 4 rfl rfl rfl fun w186 s => ⟨s.still 6 0 rfl rfl, s.ld0 (ty := yevergreenref12_Store) (x := (s191, s198)) 4 rfl rfl (h _ _ _ (s.pick [3, 2] 7 rfl (by decide)))⟩⟩⟩⟩⟩⟩⟩⟩,
s.allocK fun a200 w187 s => ⟨s.still 6 0 rfl rfl, ⟨s.still 6 1 rfl rfl, s.app 3 rfl ((s.lit (ty := yapi_Rule) 1 rfl [e.1] 1 (by simp [flat]) rfl).view 1 rfl) b2 fun s201 w188 s => ⟨s.still 6 0 rfl rfl, ⟨s.still 6 1 rfl rfl, (s.lit (ty := .int .i64) 2 rfl [] 0 rfl rfl).app 2 rfl (Sp.rf2_ s (j + 7) hj).2 b3 fun s202 w189 s => ⟨s.still 6 0 rfl rfl, s.app 2 rfl ((s.lit (ty := .int .i64) 0 rfl [len] 1 rfl rfl).view 0 rfl) b4 fun s203 w190 s => ⟨s.still 6 0 rfl rfl, s.st0 4 rfl rfl rfl fun w191 s => ⟨s.still 6 0 rfl rfl, s.ld0 (ty := yevergreenref12_Store) (x := (s201, s203)) 4 rfl rfl (h _ _ _ (s.pick [3, 2] 7 rfl (by decide)))⟩⟩⟩⟩⟩⟩⟩⟩⟩⟩,
s.allocK fun a205 w192 s => ⟨s.still 5 0 rfl rfl, ⟨s.still 5 1 rfl rfl, ⟨s.at_ 4 rfl, s.allocK fun a206 w193 s => ⟨s.still 6 0 rfl rfl, ⟨s.still 6 1 rfl rfl, s.app 3 rfl ((s.lit (ty := yapi_Rule) 0 rfl [e.1] 1 (by simp [flat]) rfl).view 0 rfl) b2 fun s207 w194 s => ⟨s.still 6 0 rfl rfl, ⟨s.still 6 1 rfl rfl, (s.lit (ty := .int .i64) 2 rfl [] 0 rfl rfl).app 2 rfl (Sp.rf2_ s (j + 7) hj).2 b3 fun s208 w195 s => ⟨s.still 6 0 rfl rfl, s.app 2 rfl ((s.lit (ty := .int .i64) 1 rfl [len] 1 rfl rfl).view 1 rfl) b4 fun s209 w196 s => ⟨s.still 6 0 rfl rfl, s.st0 4 rfl rfl rfl fun w197 s => ⟨s.still 6 0 rfl rfl, s.ld0 (ty := yevergreenref12_Store) (x := (s207, s209)) 4 rfl rfl (h _ _ _ (s.pick [3, 2] 7 rfl (by decide)))⟩⟩⟩⟩⟩⟩⟩⟩⟩⟩⟩⟩⟩⟩,
⟨s.allocK fun a211 w198 s => ⟨s.still 5 0 rfl rfl, ⟨s.still 5 1 rfl rfl, ⟨s.still 5 0 rfl rfl, ⟨(s.lit (ty := yapi_Rule) 2 rfl [] 0 rfl rfl).app 2 rfl (Sp.rf2_ s (j + 6) hj).1 b1 fun s212 w199 s => ⟨s.still 5 0 rfl rfl, ⟨s.still 5 1 rfl rfl, ⟨s.app 2 rfl ((s.lit (ty := yapi_Rule) 0 rfl [e.1] 1 (by simp [flat]) rfl).view 0 rfl) b2 fun s213 w200 s => ⟨s.still 5 0 rfl rfl, ⟨s.still 5 1 rfl rfl, ⟨(s.lit (ty := .int .i64) 1 rfl [] 0 rfl rfl).app 1 rfl (Sp.rf2_ s (j + 6) hj).2 b3 fun s214 w201 s => ⟨s.still 5 0 rfl rfl, s.allocK fun a215 w202 s => ⟨s.still 6 0 rfl rfl, s.app 2 rfl ((s.lit (ty := .int .i64) 0 rfl [len] 1 rfl rfl).view 0 rfl) b4 fun s216 w203 s => ⟨s.still 6 0 rfl rfl, s.st0 4 rfl rfl rfl fun w204 s => ⟨s.still 6 0 rfl rfl, s.ld0 (ty := yevergreenref12_Store) (x := (s213, s216)) 4 rfl rfl (h _ _ _ (s.pick [3, 2] 7 rfl (by decide)))⟩⟩⟩⟩,
s.allocK fun a218 w205 s => ⟨s.still 6 0 rfl rfl, ⟨s.still 6 1 rfl rfl, (s.lit (ty := .int .i64) 2 rfl [] 0 rfl rfl).app 2 rfl (Sp.rf2_ s (j + 7) hj).2 b3 fun s219 w206 s => ⟨s.still 6 0 rfl rfl, s.app 2 rfl ((s.lit (ty := .int .i64) 0 rfl [len] 1 rfl rfl).view 0 rfl) b4 fun s220 w207 s => ⟨s.still 6 0 rfl rfl, s.st0 4 rfl rfl rfl fun w208 s => ⟨s.still 6 0 rfl rfl, s.ld0 (ty := yevergreenref12_Store) (x := (s213, s220)) 4 rfl rfl (h _ _ _ (s.pick [3, 2] 7 rfl (by decide)))⟩⟩⟩⟩⟩⟩⟩⟩,
s.allocK fun a222 w209 s => ⟨s.still 6 0 rfl rfl, ⟨s.still 6 1 rfl rfl, s.app 3 rfl ((s.lit (ty := yapi_Rule) 1 rfl [e.1] 1 (by simp [flat]) rfl).view 1 rfl) b2 fun s223 w210 s => ⟨s.still 6 0 rfl rfl, ⟨s.still 6 1 rfl rfl, (s.lit (ty := .int .i64) 2 rfl [] 0 rfl rfl).app 2 rfl (Sp.rf2_ s (j + 7) hj).2 b3 fun s224 w211 s => ⟨s.still 6 0 rfl rfl, s.app 2 rfl ((s.lit (ty := .int .i64) 0 rfl [len] 1 rfl rfl).view 0 rfl) b4 fun s225 w212 s => ⟨s.still 6 0 rfl rfl, s.st0 4 rfl rfl rfl fun w213 s => ⟨s.still 6 0 rfl rfl, s.ld0 (ty := yevergreenref12_Store) (x := (s223, s225)) 4 rfl rfl (h _ _ _ (s.pick [3, 2] 7 rfl (by decide)))⟩⟩⟩⟩⟩⟩⟩⟩⟩⟩,
s.allocK fun a227 w214 s => ⟨s.still 6 0 rfl rfl, ⟨s.still 6 1 rfl rfl, ⟨s.still 6 0 rfl rfl, (s.lit (ty := yapi_Rule) 3 rfl [] 0 rfl rfl).app 3 rfl (Sp.rf2_ s (j + 7) hj).1 b1 fun s228 w215 s => ⟨s.still 6 0 rfl rfl, ⟨s.still 6 1 rfl rfl, s.app 3 rfl ((s.lit (ty := yapi_Rule) 1 rfl [e.1] 1 (by simp [flat]) rfl).view 1 rfl) b2 fun s229 w216 s => ⟨s.still 6 0 rfl rfl, ⟨s.still 6 1 rfl rfl, (s.lit (ty := .int .i64) 2 rfl [] 0 rfl rfl).app 2 rfl (Sp.rf2_ s (j + 7) hj).2 b3 fun s230 w217 s => ⟨s.still 6 0 rfl rfl, s.app 2 rfl ((s.lit (ty := .int .i64) 0 rfl [len] 1 rfl rfl).view 0 rfl) b4 fun s231 w218 s => ⟨s.still 6 0 rfl rfl, s.st0 4 rfl rfl rfl fun w219 s => ⟨s.still 6 0 rfl rfl, s.ld0 (ty := yevergreenref12_Store) (x := (s229, s231)) 4 rfl rfl (h _ _ _ (s.pick [3, 2] 7 rfl (by decide)))⟩⟩⟩⟩⟩⟩⟩⟩⟩⟩⟩⟩⟩⟩,
s.allocK fun a233 w220 s => ⟨s.still 5 0 rfl rfl, ⟨s.still 5 1 rfl rfl, ⟨s.at_ 4 rfl, ⟨s.still 5 0 rfl rfl, ⟨(s.lit (ty := yapi_Rule) 2 rfl [] 0 rfl rfl).app 2 rfl (Sp.rf2_ s (j + 6) hj).1 b1 fun s234 w221 s => ⟨s.still 5 0 rfl rfl, ⟨s.still 5 1 rfl rfl, ⟨s.at_ 4 rfl, s.allocK fun a235 w222 s => ⟨s.still 6 0 rfl rfl, ⟨s.still 6 1 rfl rfl, s.app 3 rfl ((s.lit (ty := yapi_Rule) 0 rfl [e.1] 1 (by simp [flat]) rfl).view 0 rfl) b2 fun s236 w223 s => ⟨s.still 6 0 rfl rfl, ⟨s.still 6 1 rfl rfl, (s.lit (ty := .int .i64) 2 rfl [] 0 rfl rfl).app 2 rfl (Sp.rf2_ s (j + 7) hj).2 b3 fun s237 w224 s => ⟨s.still 6 0 rfl rfl, s.app 2 rfl ((s.lit (ty := .int .i64) 1 rfl [len] 1 rfl rfl).view 1 rfl) b4 fun s238 w225 s => ⟨s.still 6 0 rfl rfl, s.st0 4 rfl rfl rfl fun w226 s => ⟨s.still 6 0 rfl rfl, s.ld0 (ty := yevergreenref12_Store) (x := (s236, s238)) 4 rfl rfl (h _ _ _ (s.pick [3, 2] 7 rfl (by decide)))⟩⟩⟩⟩⟩⟩⟩⟩⟩⟩,
s.allocK fun a240 w227 s => ⟨s.still 6 0 rfl rfl, ⟨s.still 6 1 rfl rfl, ⟨s.still 6 0 rfl rfl, (s.lit (ty := yapi_Rule) 3 rfl [] 0 rfl rfl).app 3 rfl (Sp.rf2_ s (j + 7) hj).1 b1 fun s241 w228 s => ⟨s.still 6 0 rfl rfl, ⟨s.still 6 1 rfl rfl, s.app 3 rfl ((s.lit (ty := yapi_Rule) 0 rfl [e.1] 1 (by simp [flat]) rfl).view 0 rfl) b2 fun s242 w229 s => ⟨s.still 6 0 rfl rfl, ⟨s.still 6 1 rfl rfl, (s.lit (ty := .int .i64) 2 rfl [] 0 rfl rfl).app 2 rfl (Sp.rf2_ s (j + 7) hj).2 b3 fun s243 w230 s => ⟨s.still 6 0 rfl rfl, s.app 2 rfl ((s.lit (ty := .int .i64) 1 rfl [len] 1 rfl rfl).view 1 rfl) b4 fun s244 w231 s => ⟨s.still 6 0 rfl rfl, s.st0 4 rfl rfl rfl fun w232 s => ⟨s.still 6 0 rfl rfl, s.ld0 (ty := yevergreenref12_Store) (x := (s242, s244)) 4 rfl rfl (h _ _ _ (s.pick [3, 2] 7 rfl (by decide)))⟩⟩⟩⟩⟩⟩⟩⟩⟩⟩⟩⟩⟩⟩⟩⟩⟩⟩⟩⟩⟩,
s.allocK fun a246 w233 s => ⟨s.still 4 0 rfl rfl, ⟨s.still 4 1 rfl rfl, ⟨s.at_ 3 rfl, ⟨s.still 4 0 rfl rfl, ⟨(s.lit (ty := yapi_Rule) 1 rfl [] 0 rfl rfl).app 1 rfl (Sp.rf2_ s (j + 5) hj).1 b1 fun s247 w234 s => ⟨s.still 4 0 rfl rfl, ⟨s.still 4 1 rfl rfl, ⟨s.at_ 3 rfl, ⟨s.allocK fun a248 w235 s => ⟨s.still 5 0 rfl rfl, ⟨s.still 5 1 rfl rfl, ⟨s.app 2 rfl ((s.lit (ty := yapi_Rule) 0 rfl [e.1] 1 (by simp [flat]) rfl).view 0 rfl) b2 fun s249 w236 s => ⟨s.still 5 0 rfl rfl, ⟨s.still 5 1 rfl rfl, s.allocK fun a250 w237 s => ⟨s.still 6 0 rfl rfl, ⟨s.still 6 1 rfl rfl, (s.lit (ty := .int .i64) 0 rfl [] 0 rfl rfl).app 0 rfl (Sp.rf2_ s (j + 7) hj).2 b3 fun s251 w238 s => ⟨s.still 6 0 rfl rfl, s.app 0 rfl ((s.lit (ty := .int .i64) 2 rfl [len] 1 rfl rfl).view 2 rfl) b4 fun s252 w239 s => ⟨s.still 6 0 rfl rfl, s.st0 4 rfl rfl rfl fun w240 s => ⟨s.still 6 0 rfl rfl, s.ld0 (ty := yevergreenref12_Store) (x := (s249, s252)) 4 rfl rfl (h _ _ _ (s.pick [3, 0] 7 rfl (by decide)))⟩⟩⟩⟩⟩⟩⟩,
s.allocK fun a254 w241 s => ⟨s.still 6 0 rfl rfl, ⟨s.still 6 1 rfl rfl, s.app 3 rfl ((s.lit (ty := yapi_Rule) 1 rfl [e.1] 1 (by simp [flat]) rfl).view 1 rfl) b2 fun s255 w242 s => ⟨s.still 6 0 rfl rfl, ⟨s.still 6 1 rfl rfl, (s.lit (ty := .int .i64) 0 rfl [] 0 rfl rfl).app 0 rfl (Sp.rf2_ s (j + 7) hj).2 b3 fun s256 w243 s => ⟨s.still 6 0 rfl rfl, s.app 0 rfl ((s.lit (ty := .int .i64) 2 rfl [len] 1 rfl rfl).view 2 rfl) b4 fun s257 w244 s => ⟨s.still 6 0 rfl rfl, s.st0 4 rfl rfl rfl fun w245 s => ⟨s.still 6 0 rfl rfl, s.ld0 (ty := yevergreenref12_Store) (x := (s255, s257)) 4 rfl rfl (h _ _ _ (s.pick [3, 0] 7 rfl (by decide)))⟩⟩⟩⟩⟩⟩⟩⟩⟩⟩,
s.allocK fun a259 w246 s => ⟨s.still 5 0 rfl rfl, ⟨s.still 5 1 rfl rfl, ⟨s.at_ 4 rfl, s.allocK fun a260 w247 s => ⟨s.still 6 0 rfl rfl, ⟨s.still 6 1 rfl rfl, s.app 3 rfl ((s.lit (ty := yapi_Rule) 0 rfl [e.1] 1 (by simp [flat]) rfl).view 0 rfl) b2 fun s261 w248 s => ⟨s.still 6 0 rfl rfl, ⟨s.still 6 1 rfl rfl, (s.lit (ty := .int .i64) 1 rfl [] 0 rfl rfl).app 1 rfl (Sp.rf2_ s (j + 7) hj).2 b3 fun s262 w249 s => ⟨s.still 6 0 rfl rfl, s.app 1 rfl ((s.lit (ty := .int .i64) 2 rfl [len] 1 rfl rfl).view 2 rfl) b4 fun s263 w250 s => ⟨s.still 6 0 rfl rfl, s.st0 4 rfl rfl rfl fun w251 s => ⟨s.still 6 0 rfl rfl, s.ld0 (ty := yevergreenref12_Store) (x := (s261, s263)) 4 rfl rfl (h _ _ _ (s.pick [3, 1] 7 rfl (by decide)))⟩⟩⟩⟩⟩⟩⟩⟩⟩⟩⟩⟩⟩⟩,
⟨s.allocK fun a265 w252 s => ⟨s.still 5 0 rfl rfl, ⟨s.still 5 1 rfl rfl, ⟨s.still 5 0 rfl rfl, ⟨(s.lit (ty := yapi_Rule) 2 rfl [] 0 rfl rfl).app 2 rfl (Sp.rf2_ s (j + 6) hj).1 b1 fun s266 w253 s => ⟨s.still 5 0 rfl rfl, ⟨s.still 5 1 rfl rfl, ⟨s.app 2 rfl ((s.lit (ty := yapi_Rule) 0 rfl [e.1] 1 (by simp [flat]) rfl).view 0 rfl) b2 fun s267 w254 s => ⟨s.still 5 0 rfl rfl, ⟨s.still 5 1 rfl rfl, s.allocK fun a268 w255 s => ⟨s.still 6 0 rfl rfl, ⟨s.still 6 1 rfl rfl, (s.lit (ty := .int .i64) 0 rfl [] 0 rfl rfl).app 0 rfl (Sp.rf2_ s (j + 7) hj).2 b3 fun s269 w256 s => ⟨s.still 6 0 rfl rfl, s.app 0 rfl ((s.lit (ty := .int .i64) 2 rfl [len] 1 rfl rfl).view 2 rfl) b4 fun s270 w257 s => ⟨s.still 6 0 rfl rfl, s.st0 4 rfl rfl rfl fun w258 s => ⟨s.still 6 0 rfl rfl, s.ld0 (ty := yevergreenref12_Store) (x := (s267, s270)) 4 rfl rfl (h _ _ _ (s.pick [3, 0] 7 rfl (by decide)))⟩⟩⟩⟩⟩⟩⟩,
s.allocK fun a272 w259 s => ⟨s.still 6 0 rfl rfl, ⟨s.still 6 1 rfl rfl, s.app 3 rfl ((s.lit (ty := yapi_Rule) 1 rfl [e.1] 1 (by simp [flat]) rfl).view 1 rfl) b2 fun s273 w260 s => ⟨s.still 6 0 rfl rfl, ⟨s.still 6 1 rfl rfl, (s.lit (ty := .int .i64) 0 rfl [] 0 rfl rfl).app 0 rfl (Sp.rf2_ s (j + 7) hj).2 b3 fun s274 w261 s => ⟨s.still 6 0 rfl rfl, s.app 0 rfl ((s.lit (ty := .int .i64) 2 rfl [len] 1 rfl rfl).view 2 rfl) b4 fun s275 w262 s => ⟨s.still 6 0 rfl rfl, s.st0 4 rfl rfl rfl fun w263 s => ⟨s.still 6 0 rfl rfl, s.ld0 (ty := yevergreenref12_Store) (x := (s273, s275)) 4 rfl rfl (h _ _ _ (s.pick [3, 0] 7 rfl (by decide)))⟩⟩⟩⟩⟩⟩⟩⟩⟩⟩,
s.allocK fun a277 w264 s => ⟨s.still 6 0 rfl rfl, ⟨s.still 6 1 rfl rfl, ⟨s.still 6 0 rfl rfl, (s.lit (ty := yapi_Rule) 3 rfl [] 0 rfl rfl).app 3 rfl (Sp.rf2_ s (j + 7) hj).1 b1 fun s278 w265 s => ⟨s.still 6 0 rfl rfl, ⟨s.still 6 1 rfl rfl, s.app 3 rfl ((s.lit (ty := yapi_Rule) 1 rfl [e.1] 1 (by simp [flat]) rfl).view 1 rfl) b2 fun s279 w266 s => ⟨s.still 6 0 rfl rfl, ⟨s.still 6 1 rfl rfl, (s.lit (ty := .int .i64) 0 rfl [] 0 rfl rfl).app 0 rfl (Sp.rf2_ s (j + 7) hj).2 b3 fun s280 w267 s => ⟨s.still 6 0 rfl rfl, s.app 0 rfl ((s.lit (ty := .int .i64) 2 rfl [len] 1 rfl rfl).view 2 rfl) b4 fun s281 w268 s => ⟨s.still 6 0 rfl rfl, s.st0 4 rfl rfl rfl fun w269 s => ⟨s.still 6 0 rfl rfl, s.ld0 (ty := yevergreenref12_Store) (x := (s279, s281)) 4 rfl rfl (h _ _ _ (s.pick [3, 0] 7 rfl (by decide)))⟩⟩⟩⟩⟩⟩⟩⟩⟩⟩⟩⟩⟩⟩,
s.allocK fun a283 w270 s => ⟨s.still 5 0 rfl rfl, ⟨s.still 5 1 rfl rfl, ⟨s.at_ 4 rfl, ⟨s.still 5 0 rfl rfl, ⟨(s.lit (ty := yapi_Rule) 2 rfl [] 0 rfl rfl).app 2 rfl (Sp.rf2_ s (j + 6) hj).1 b1 fun s284 w271 s => ⟨s.still 5 0 rfl rfl, ⟨s.still 5 1 rfl rfl, ⟨s.at_ 4 rfl, s.allocK fun a285 w272 s => ⟨s.still 6 0 rfl rfl, ⟨s.still 6 1 rfl rfl, s.app 3 rfl ((s.lit (ty := yapi_Rule) 0 rfl [e.1] 1 (by simp [flat]) rfl).view 0 rfl) b2 fun s286 w273 s => ⟨s.still 6 0 rfl rfl, ⟨s.still 6 1 rfl rfl, (s.lit (ty := .int .i64) 1 rfl [] 0 rfl rfl).app 1 rfl (Sp.rf2_ s (j + 7) hj).2 b3 fun s287 w274 s => ⟨s.still 6 0 rfl rfl, s.app 1 rfl ((s.lit (ty := .int .i64) 2 rfl [len] 1 rfl rfl).view 2 rfl) b4 fun s288 w275 s => ⟨s.still 6 0 rfl rfl, s.st0 4 rfl rfl rfl fun w276 s => ⟨s.still 6 0 rfl rfl, s.ld0 (ty := yevergreenref12_Store) (x := (s286, s288)) 4 rfl rfl (h _ _ _ (s.pick [3, 1] 7 rfl (by decide)))⟩⟩⟩⟩⟩⟩⟩⟩⟩⟩,
s.allocK fun a290 w277 s => ⟨s.still 6 0 rfl rfl, ⟨s.still 6 1 rfl rfl, ⟨s.still 6 0 rfl rfl, (s.lit (ty := yapi_Rule) 3 rfl [] 0 rfl rfl).app 3 rfl (Sp.rf2_ s (j + 7) hj).1 b1 fun s291 w278 s => ⟨s.still 6 0 rfl rfl, ⟨s.still 6 1 rfl rfl, s.app 3 rfl ((s.lit (ty := yapi_Rule) 0 rfl [e.1] 1 (by simp [flat]) rfl).view 0 rfl) b2 fun s292 w279 s => ⟨s.still 6 0 rfl rfl, ⟨s.still 6 1 rfl rfl, (s.lit (ty := .int .i64) 1 rfl [] 0 rfl rfl).app 1 rfl (Sp.rf2_ s (j + 7) hj).2 b3 fun s293 w280 s => ⟨s.still 6 0 rfl rfl, s.app 1 rfl ((s.lit (ty := .int .i64) 2 rfl [len] 1 rfl rfl).view 2 rfl) b4 fun s294 w281 s => ⟨s.still 6 0 rfl rfl, s.st0 4 rfl rfl rfl fun w282 s => ⟨s.still 6 0 rfl rfl, s.ld0 (ty := yevergreenref12_Store) (x := (s292, s294)) 4 rfl rfl (h _ _ _ (s.pick [3, 1] 7 rfl (by decide)))⟩⟩⟩⟩⟩⟩⟩⟩⟩⟩⟩⟩⟩⟩⟩⟩⟩⟩⟩⟩⟩⟩⟩⟩⟩⟩⟩⟩,
⟨s.allocK fun a296 w283 s => ⟨s.still 3 0 rfl rfl, ⟨s.still 3 1 rfl rfl, ⟨s.still 3 0 rfl rfl, ⟨s.allocK fun a297 w284 s => ⟨s.still 4 0 rfl rfl, ⟨s.still 4 1 rfl rfl, ⟨s.still 4 0 rfl rfl, ⟨(s.lit (ty := yapi_Rule) 0 rfl [] 0 rfl rfl).app 0 rfl (Sp.rf2_ s (j + 5) hj).1 b1 fun s298 w285 s => ⟨s.still 4 0 rfl rfl, ⟨s.still 4 1 rfl rfl, ⟨s.app 0 rfl ((s.lit (ty := yapi_Rule) 1 rfl [e.1] 1 (by simp [flat]) rfl).view 1 rfl) b2 fun s299 w286 s => ⟨s.still 4 0 rfl rfl, ⟨s.still 4 1 rfl rfl, ⟨s.allocK fun a300 w287 s => ⟨s.still 5 0 rfl rfl, ⟨s.still 5 1 rfl rfl, ⟨(s.lit (ty := .int .i64) 0 rfl [] 0 rfl rfl).app 0 rfl (Sp.rf2_ s (j + 6) hj).2 b3 fun s301 w288 s => ⟨s.still 5 0 rfl rfl, s.allocK fun a302 w289 s => ⟨s.still 6 0 rfl rfl, s.app 1 rfl ((s.lit (ty := .int .i64) 0 rfl [len] 1 rfl rfl).view 0 rfl) b4 fun s303 w290 s => ⟨s.still 6 0 rfl rfl, s.st0 4 rfl rfl rfl fun w291 s => ⟨s.still 6 0 rfl rfl, s.ld0 (ty := yevergreenref12_Store) (x := (s299, s303)) 4 rfl rfl (h _ _ _ (s.pick [2, 1] 7 rfl (by decide)))⟩⟩⟩⟩,
s.allocK fun a305 w292 s => ⟨s.still 6 0 rfl rfl, ⟨s.still 6 1 rfl rfl, (s.lit (ty := .int .i64) 1 rfl [] 0 rfl rfl).app 1 rfl (Sp.rf2_ s (j + 7) hj).2 b3 fun s306 w293 s => ⟨s.still 6 0 rfl rfl, s.app 1 rfl ((s.lit (ty := .int .i64) 0 rfl [len] 1 rfl rfl).view 0 rfl) b4 fun s307 w294 s => ⟨s.still 6 0 rfl rfl, s.st0 4 rfl rfl rfl fun w295 s => ⟨s.still 6 0 rfl rfl, s.ld0 (ty := yevergreenref12_Store) (x := (s299, s307)) 4 rfl rfl (h _ _ _ (s.pick [2, 1] 7 rfl (by decide)))⟩⟩⟩⟩⟩⟩⟩⟩,
s.allocK fun a309 w296 s => ⟨s.still 5 0 rfl rfl, ⟨s.still 5 1 rfl rfl, s.allocK fun a310 w297 s => ⟨s.still 6 0 rfl rfl, ⟨s.still 6 1 rfl rfl, (s.lit (ty := .int .i64) 0 rfl [] 0 rfl rfl).app 0 rfl (Sp.rf2_ s (j + 7) hj).2 b3 fun s311 w298 s => ⟨s.still 6 0 rfl rfl, s.app 0 rfl ((s.lit (ty := .int .i64) 1 rfl [len] 1 rfl rfl).view 1 rfl) b4 fun s312 w299 s => ⟨s.still 6 0 rfl rfl, s.st0 4 rfl rfl rfl fun w300 s => ⟨s.still 6 0 rfl rfl, s.ld0 (ty := yevergreenref12_Store) (x := (s299, s312)) 4 rfl rfl (h _ _ _ (s.pick [2, 0] 7 rfl (by decide)))⟩⟩⟩⟩⟩⟩⟩⟩⟩⟩,
⟨s.allocK fun a314 w301 s => ⟨s.still 5 0 rfl rfl, ⟨s.still 5 1 rfl rfl, ⟨s.app 1 rfl ((s.lit (ty := yapi_Rule) 2 rfl [e.1] 1 (by simp [flat]) rfl).view 2 rfl) b2 fun s315 w302 s => ⟨s.still 5 0 rfl rfl, ⟨s.still 5 1 rfl rfl, ⟨(s.lit (ty := .int .i64) 0 rfl [] 0 rfl rfl).app 0 rfl (Sp.rf2_ s (j + 6) hj).2 b3 fun s316 w303 s => ⟨s.still 5 0 rfl rfl, s.allocK fun a317 w304 s => ⟨s.still 6 0 rfl rfl, s.app 1 rfl ((s.lit (ty := .int .i64) 0 rfl [len] 1 rfl rfl).view 0 rfl) b4 fun s318 w305 s => ⟨s.still 6 0 rfl rfl, s.st0 4 rfl rfl rfl fun w306 s => ⟨s.still 6 0 rfl rfl, s.ld0 (ty := yevergreenref12_Store) (x := (s315, s318)) 4 rfl rfl (h _ _ _ (s.pick [2, 1] 7 rfl (by decide)))⟩⟩⟩⟩,
s.allocK fun a320 w307 s => ⟨s.still 6 0 rfl rfl, ⟨s.still 6 1 rfl rfl, (s.lit (ty := .int .i64) 1 rfl [] 0 rfl rfl).app 1 rfl (Sp.rf2_ s (j + 7) hj).2 b3 fun s321 w308 s => ⟨s.still 6 0 rfl rfl, s.app 1 rfl ((s.lit (ty := .int .i64) 0 rfl [len] 1 rfl rfl).view 0 rfl) b4 fun s322 w309 s => ⟨s.still 6 0 rfl rfl, s.st0 4 rfl rfl rfl fun w310 s => ⟨s.still 6 0 rfl rfl, s.ld0 (ty := yevergreenref12_Store) (x := (s315, s322)) 4 rfl rfl (h _ _ _ (s.pick [2, 1] 7 rfl (by decide)))⟩⟩⟩⟩⟩⟩⟩⟩,
s.allocK fun a324 w311 s => ⟨s.still 6 0 rfl rfl, ⟨s.still 6 1 rfl rfl, s.app 2 rfl ((s.lit (ty := yapi_Rule) 3 rfl [e.1] 1 (by simp [flat]) rfl).view 3 rfl) b2 fun s325 w312 s => ⟨s.still 6 0 rfl rfl, ⟨s.still 6 1 rfl rfl, (s.lit (ty := .int .i64) 1 rfl [] 0 rfl rfl).app 1 rfl (Sp.rf2_ s (j + 7) hj).2 b3 fun s326 w313 s => ⟨s.still 6 0 rfl rfl, s.app 1 rfl ((s.lit (ty := .int .i64) 0 rfl [len] 1 rfl rfl).view 0 rfl) b4 fun s327 w314 s => ⟨s.still 6 0 rfl rfl, s.st0 4 rfl rfl rfl fun w315 s => ⟨s.still 6 0 rfl rfl, s.ld0 (ty := yevergreenref12_Store) (x := (s325, s327)) 4 rfl rfl (h _ _ _ (s.pick [2, 1] 7 rfl (by decide)))⟩⟩⟩⟩⟩⟩⟩⟩⟩⟩,
s.allocK fun a329 w316 s => ⟨s.still 5 0 rfl rfl, ⟨s.still 5 1 rfl rfl, ⟨s.app 1 rfl ((s.lit (ty := yapi_Rule) 2 rfl [e.1] 1 (by simp [flat]) rfl).view 2 rfl) b2 fun s330 w317 s => ⟨s.still 5 0 rfl rfl, ⟨s.still 5 1 rfl rfl, s.allocK fun a331 w318 s => ⟨s.still 6 0 rfl rfl, ⟨s.still 6 1 rfl rfl, (s.lit (ty := .int .i64) 0 rfl [] 0 rfl rfl).app 0 rfl (Sp.rf2_ s (j + 7) hj).2 b3 fun s332 w319 s => ⟨s.still 6 0 rfl rfl, s.app 0 rfl ((s.lit (ty := .int .i64) 1 rfl [len] 1 rfl rfl).view 1 rfl) b4 fun s333 w320 s => ⟨s.still 6 0 rfl rfl, s.st0 4 rfl rfl rfl fun w321 s => ⟨s.still 6 0 rfl rfl, s.ld0 (ty := yevergreenref12_Store) (x := (s330, s333)) 4 rfl rfl (h _ _ _ (s.pick [2, 0] 7 rfl (by decide)))⟩⟩⟩⟩⟩⟩⟩,
s.allocK fun a335 w322 s => ⟨s.still 6 0 rfl rfl, ⟨s.still 6 1 rfl rfl, s.app 2 rfl ((s.lit (ty := yapi_Rule) 3 rfl [e.1] 1 (by simp [flat]) rfl).view 3 rfl) b2 fun s336 w323 s => ⟨s.still 6 0 rfl rfl, ⟨s.still 6 1 rfl rfl, (s.lit (ty := .int .i64) 0 rfl [] 0 rfl rfl).app 0 rfl (Sp.rf2_ s (j + 7) hj).2 b3 fun s337 w324 s => ⟨s.still 6 0 rfl rfl, s.app 0 rfl ((s.lit (ty := .int .i64) 1 rfl [len] 1 rfl rfl).view 1 rfl) b4 fun s338 w325 s => ⟨s.still 6 0 rfl rfl, s.st0 4 rfl rfl rfl fun w326 s => ⟨s.still 6 0 rfl rfl, s.ld0 (ty := yevergreenref12_Store) (x := (s336, s338)) 4 rfl rfl (h _ _ _ (s.pick [2, 0] 7 rfl (by decide)))⟩⟩⟩⟩⟩⟩⟩⟩⟩⟩⟩⟩⟩⟩,
⟨s.allocK fun a340 w327 s => ⟨s.still 5 0 rfl rfl, ⟨s.still 5 1 rfl rfl, ⟨s.still 5 0 rfl rfl, ⟨(s.lit (ty := yapi_Rule) 1 rfl [] 0 rfl rfl).app 1 rfl (Sp.rf2_ s (j + 6) hj).1 b1 fun s341 w328 s => ⟨s.still 5 0 rfl rfl, ⟨s.still 5 1 rfl rfl, ⟨s.app 1 rfl ((s.lit (ty := yapi_Rule) 2 rfl [e.1] 1 (by simp [flat]) rfl).view 2 rfl) b2 fun s342 w329 s => ⟨s.still 5 0 rfl rfl, ⟨s.still 5 1 rfl rfl, ⟨(s.lit (ty := .int .i64) 0 rfl [] 0 rfl rfl).app 0 rfl (Sp.rf2_ s (j + 6) hj).2 b3 fun s343 w330 s => ⟨s.still 5 0 rfl rfl, s.allocK fun a344 w331 s => ⟨s.still 6 0 rfl rfl, s.app 1 rfl ((s.lit (ty := .int .i64) 0 rfl [len] 1 rfl rfl).view 0 rfl) b4 fun s345 w332 s => ⟨s.still 6 0 rfl rfl, s.st0 4 rfl rfl rfl fun w333 s => ⟨s.still 6 0 rfl rfl, s.ld0 (ty := yevergreenref12_Store) (x := (s342, s345)) 4 rfl rfl (h _ _ _ (s.pick [2, 1] 7 rfl (by decide)))⟩⟩⟩⟩,
s.allocK fun a347 w334 s => ⟨s.still 6 0 rfl rfl, ⟨s.still 6 1 rfl rfl, (s.lit (ty := .int .i64) 1 rfl [] 0 rfl rfl).app 1 rfl (Sp.rf2_ s (j + 7) hj).2 b3 fun s348 w335 s => ⟨s.still 6 0 rfl rfl, s.app 1 rfl ((s.lit (ty := .int .i64) 0 rfl [len] 1 rfl rfl).view 0 rfl) b4 fun s349 w336 s => ⟨s.still 6 0 rfl rfl, s.st0 4 rfl rfl rfl fun w337 s => ⟨s.still 6 0 rfl rfl, s.ld0 (ty := yevergreenref12_Store) (x := (s342, s349)) 4 rfl rfl (h _ _ _ (s.pick [2, 1] 7 rfl (by decide)))⟩⟩⟩⟩⟩⟩⟩⟩,
s.allocK fun a351 w338 s => ⟨s.still 6 0 rfl rfl, ⟨s.still 6 1 rfl rfl, s.app 2 rfl ((s.lit (ty := yapi_Rule) 3 rfl [e.1] 1 (by simp [flat]) rfl).view 3 rfl) b2 fun s352 w339 s => ⟨s.still 6 0 rfl rfl, ⟨s.still 6 1 rfl rfl, (s.lit (ty := .int .i64) 1 rfl [] 0 rfl rfl).app 1 rfl (Sp.rf2_ s (j + 7) hj).2 b3 fun s353 w340 s => ⟨s.still 6 0 rfl rfl, s.app 1 rfl ((s.lit (ty := .int .i64) 0 rfl [len] 1 rfl rfl).view 0 rfl) b4 fun s354 w341 s => ⟨s.still 6 0 rfl rfl, s.st0 4 rfl rfl rfl fun w342 s => ⟨s.still 6 0 rfl rfl, s.ld0 (ty := yevergreenref12_Store) (x := (s352, s354)) 4 rfl rfl (h _ _ _ (s.pick [2, 1] 7 rfl (by decide)))⟩⟩⟩⟩⟩⟩⟩⟩⟩⟩,
s.allocK fun a356 w343 s => ⟨s.still 6 0 rfl rfl, ⟨s.still 6 1 rfl rfl, ⟨s.still 6 0 rfl rfl, (s.lit (ty := yapi_Rule) 2 rfl [] 0 rfl rfl).app 2 rfl (Sp.rf2_ s (j + 7) hj).1 b1 fun s357 w344 s => ⟨s.still 6 0 rfl rfl, ⟨s.still 6 1 rfl rfl, s.app 2 rfl ((s.lit (ty := yapi_Rule) 3 rfl [e.1] 1 (by simp [flat]) rfl).view 3 rfl) b2 fun s358 w345 s => ⟨s.still 6 0 rfl rfl, ⟨s.still 6 1 rfl rfl, (s.lit (ty := .int .i64) 1 rfl [] 0 rfl rfl).app 1 rfl (Sp.rf2_ s (j + 7) hj).2 b3 fun s359 w346 s => ⟨s.still 6 0 rfl rfl, s.app 1 rfl ((s.lit (ty := .int .i64) 0 rfl [len] 1 rfl rfl).view 0 rfl) b4 fun s360 w347 s => ⟨s.still 6 0 rfl rfl, s.st0 4 rfl rfl rfl fun w348 s => ⟨s.still 6 0 rfl rfl, s.ld0 (ty := yevergreenref12_Store) (x := (s358, s360)) 4 rfl rfl (h _ _ _ (s.pick [2, 1] 7 rfl (by decide)))⟩⟩⟩⟩⟩⟩⟩⟩⟩⟩⟩⟩⟩⟩,
s.allocK fun a362 w349 s => ⟨s.still 5 0 rfl rfl, ⟨s.still 5 1 rfl rfl, ⟨s.still 5 0 rfl rfl, ⟨(s.lit (ty := yapi_Rule) 1 rfl [] 0 rfl rfl).app 1 rfl (Sp.rf2_ s (j + 6) hj).1 b1 fun s363 w350 s => ⟨s.still 5 0 rfl rfl, ⟨s.still 5 1 rfl rfl, ⟨s.app 1 rfl ((s.lit (ty := yapi_Rule) 2 rfl [e.1] 1 (by simp [flat]) rfl).view 2 rfl) b2 fun s364 w351 s => ⟨s.still 5 0 rfl rfl, ⟨s.still 5 1 rfl rfl, s.allocK fun a365 w352 s => ⟨s.still 6 0 rfl rfl, ⟨s.still 6 1 rfl rfl, (s.lit (ty := .int .i64) 0 rfl [] 0 rfl rfl).app 0 rfl (Sp.rf2_ s (j + 7) hj).2 b3 fun s366 w353 s => ⟨s.still 6 0 rfl rfl, s.app 0 rfl ((s.lit (ty := .int .i64) 1 rfl [len] 1 rfl rfl).view 1 rfl) b4 fun s367 w354 s => ⟨s.still 6 0 rfl rfl, s.st0 4 rfl rfl rfl fun w355 s => ⟨s.still 6 0 rfl rfl, s.ld0 (ty := yevergreenref12_Store) (x := (s364, s367)) 4 rfl rfl (h _ _ _ (s.pick [2, 0] 7 rfl (by decide)))⟩⟩⟩⟩⟩⟩⟩,
s.allocK fun a369 w356 s => ⟨s.still 6 0 rfl rfl, ⟨s.still 6 1 rfl rfl, s.app 2 rfl ((s.lit (ty := yapi_Rule) 3 rfl [e.1] 1 (by simp [flat]) rfl).view 3 rfl) b2 fun s370 w357 s => ⟨s.still 6 0 rfl rfl, ⟨s.still 6 1 rfl rfl, (s.lit (ty := .int .i64) 0 rfl [] 0 rfl rfl).app 0 rfl (Sp.rf2_ s (j + 7) hj).2 b3 fun s371 w358 s => ⟨s.still 6 0 rfl rfl, s.app 0 rfl ((s.lit (ty := .int .i64) 1 rfl [len] 1 rfl rfl).view 1 rfl) b4 fun s372 w359 s => ⟨s.still 6 0 rfl rfl, s.st0 4 rfl rfl rfl fun w360 s => ⟨s.still 6 0 rfl rfl, s.ld0 (ty := yevergreenref12_Store) (x := (s370, s372)) 4 rfl rfl (h _ _ _ (s.pick [2, 0] 7 rfl (by decide)))⟩⟩⟩⟩⟩⟩⟩⟩⟩⟩,
s.allocK fun a374 w361 s => ⟨s.still 6 0 rfl rfl, ⟨s.still 6 1 rfl rfl, ⟨s.still 6 0 rfl rfl, (s.lit (ty := yapi_Rule) 2 rfl [] 0 rfl rfl).app 2 rfl (Sp.rf2_ s (j + 7) hj).1 b1 fun s375 w362 s => ⟨s.still 6 0 rfl rfl, ⟨s.still 6 1 rfl rfl, s.app 2 rfl ((s.lit (ty := yapi_Rule) 3 rfl [e.1] 1 (by simp [flat]) rfl).view 3 rfl) b2 fun s376 w363 s => ⟨s.still 6 0 rfl rfl, ⟨s.still 6 1 rfl rfl, (s.lit (ty := .int .i64) 0 rfl [] 0 rfl rfl).app 0 rfl (Sp.rf2_ s (j + 7) hj).2 b3 fun s377 w364 s => ⟨s.still 6 0 rfl rfl, s.app 0 rfl ((s.lit (ty := .int .i64) 1 rfl [len] 1 rfl rfl).view 1 rfl) b4 fun s378 w365 s => ⟨s.still 6 0 rfl rfl, s.st0 4 rfl rfl rfl fun w366 s => ⟨s.still 6 0 rfl rfl, s.ld0 (ty := yevergreenref12_Store) (x := (s376, s378)) 4 rfl rfl (h _ _ _ (s.pick [2, 0] 7 rfl (by decide)))⟩⟩⟩⟩⟩⟩⟩⟩⟩⟩⟩⟩⟩⟩⟩⟩⟩⟩⟩,
⟨s.allocK fun a380 w367 s => ⟨s.still 4 0 rfl rfl, ⟨s.still 4 1 rfl rfl, ⟨s.still 4 0 rfl rfl, ⟨s.allocK fun a381 w368 s => ⟨s.still 5 0 rfl rfl, ⟨s.still 5 1 rfl rfl, ⟨s.still 5 0 rfl rfl, ⟨(s.lit (ty := yapi_Rule) 0 rfl [] 0 rfl rfl).app 0 rfl (Sp.rf2_ s (j + 6) hj).1 b1 fun s382 w369 s => ⟨s.still 5 0 rfl rfl, ⟨s.still 5 1 rfl rfl, ⟨s.app 0 rfl ((s.lit (ty := yapi_Rule) 2 rfl [e.1] 1 (by simp [flat]) rfl).view 2 rfl) b2 fun s383 w370 s => ⟨s.still 5 0 rfl rfl, ⟨s.still 5 1 rfl rfl, ⟨(s.lit (ty := .int .i64) 1 rfl [] 0 rfl rfl).app 1 rfl (Sp.rf2_ s (j + 6) hj).2 b3 fun s384 w371 s => ⟨s.still 5 0 rfl rfl, s.allocK fun a385 w372 s => ⟨s.still 6 0 rfl rfl, s.app 2 rfl ((s.lit (ty := .int .i64) 0 rfl [len] 1 rfl rfl).view 0 rfl) b4 fun s386 w373 s => ⟨s.still 6 0 rfl rfl, s.st0 4 rfl rfl rfl fun w374 s => ⟨s.still 6 0 rfl rfl, s.ld0 (ty := yevergreenref12_Store) (x := (s383, s386)) 4 rfl rfl (h _ _ _ (s.pick [1, 2] 7 rfl (by decide)))⟩⟩⟩⟩,
s.allocK fun a388 w375 s => ⟨s.still 6 0 rfl rfl, ⟨s.still 6 1 rfl rfl, (s.lit (ty := .int .i64) 2 rfl [] 0 rfl rfl).app 2 rfl (Sp.rf2_ s (j + 7) hj).2 b3 fun s389 w376 s => ⟨s.still 6 0 rfl rfl, s.app 2 rfl ((s.lit (ty := .int .i64) 0 rfl [len] 1 rfl rfl).view 0 rfl) b4 fun s390 w377 s => ⟨s.still 6 0 rfl rfl, s.st0 4 rfl rfl rfl fun w378 s => ⟨s.still 6 0 rfl rfl, s.ld0 (ty := yevergreenref12_Store) (x := (s383, s390)) 4 rfl rfl (h _ _ _ (s.pick [1, 2] 7 rfl (by decide)))⟩⟩⟩⟩⟩⟩⟩⟩,
s.allocK fun a392 w379 s => ⟨s.still 6 0 rfl rfl, ⟨s.still 6 1 rfl rfl, s.app 1 rfl ((s.lit (ty := yapi_Rule) 3 rfl [e.1] 1 (by simp [flat]) rfl).view 3 rfl) b2 fun s393 w380 s => ⟨s.still 6 0 rfl rfl, ⟨s.still 6 1 rfl rfl, (s.lit (ty := .int .i64) 2 rfl [] 0 rfl rfl).app 2 rfl (Sp.rf2_ s (j + 7) hj).2 b3 fun s394 w381 s => ⟨s.still 6 0 rfl rfl, s.app 2 rfl ((s.lit (ty := .int .i64) 0 rfl [len] 1 rfl rfl).view 0 rfl) b4 fun s395 w382 s => ⟨s.still 6 0 rfl rfl, s.st0 4 rfl rfl rfl fun w383 s => ⟨s.still 6 0 rfl rfl, s.ld0 (ty := yevergreenref12_Store) (x := (s393, s395)) 4 rfl rfl (h _ _ _ (s.pick [1, 2] 7 rfl (by decide)))⟩⟩⟩⟩⟩⟩⟩⟩⟩⟩,
s.allocK fun a397 w384 s => ⟨s.still 6 0 rfl rfl, ⟨s.still 6 1 rfl rfl, ⟨s.still 6 0 rfl rfl, (s.lit (ty := yapi_Rule) 1 rfl [] 0 rfl rfl).app 1 rfl (Sp.rf2_ s (j + 7) hj).1 b1 fun s398 w385 s => ⟨s.still 6 0 rfl rfl, ⟨s.still 6 1 rfl rfl, s.app 1 rfl ((s.lit (ty := yapi_Rule) 3 rfl [e.1] 1 (by simp [flat]) rfl).view 3 rfl) b2 fun s399 w386 s => ⟨s.still 6 0 rfl rfl, ⟨s.still 6 1 rfl rfl, (s.lit (ty := .int .i64) 2 rfl [] 0 rfl rfl).app 2 rfl (Sp.rf2_ s (j + 7) hj).2 b3 fun s400 w387 s => ⟨s.still 6 0 rfl rfl, s.app 2 rfl ((s.lit (ty := .int .i64) 0 rfl [len] 1 rfl rfl).view 0 rfl) b4 fun s401 w388 s => ⟨s.still 6 0 rfl rfl, s.st0 4 rfl rfl rfl fun w389 s => ⟨s.still 6 0 rfl rfl, s.ld0 (ty := yevergreenref12_Store) (x := (s399, s401)) 4 rfl rfl (h _ _ _ (s.pick [1, 2] 7 rfl (by decide)))⟩⟩⟩⟩⟩⟩⟩⟩⟩⟩⟩⟩⟩⟩,
s.allocK fun a403 w390 s => ⟨s.still 5 0 rfl rfl, ⟨s.still 5 1 rfl rfl, ⟨s.still 5 0 rfl rfl, s.allocK fun a404 w391 s => ⟨s.still 6 0 rfl rfl, ⟨s.still 6 1 rfl rfl, ⟨s.still 6 0 rfl rfl, (s.lit (ty := yapi_Rule) 0 rfl [] 0 rfl rfl).app 0 rfl (Sp.rf2_ s (j + 7) hj).1 b1 fun s405 w392 s => ⟨s.still 6 0 rfl rfl, ⟨s.still 6 1 rfl rfl, s.app 0 rfl ((s.lit (ty := yapi_Rule) 3 rfl [e.1] 1 (by simp [flat]) rfl).view 3 rfl) b2 fun s406 w393 s => ⟨s.still 6 0 rfl rfl, ⟨s.still 6 1 rfl rfl, (s.lit (ty := .int .i64) 2 rfl [] 0 rfl rfl).app 2 rfl (Sp.rf2_ s (j + 7) hj).2 b3 fun s407 w394 s => ⟨s.still 6 0 rfl rfl, s.app 2 rfl ((s.lit (ty := .int .i64) 1 rfl [len] 1 rfl rfl).view 1 rfl) b4 fun s408 w395 s => ⟨s.still 6 0 rfl rfl, s.st0 4 rfl rfl rfl fun w396 s => ⟨s.still 6 0 rfl rfl, s.ld0 (ty := yevergreenref12_Store) (x := (s406, s408)) 4 rfl rfl (h _ _ _ (s.pick [0, 2] 7 rfl (by decide)))⟩⟩⟩⟩⟩⟩⟩⟩⟩⟩⟩⟩⟩⟩⟩⟩⟩,
s.allocK fun a410 w397 s => ⟨s.still 4 0 rfl rfl, ⟨s.still 4 1 rfl rfl, ⟨s.still 4 0 rfl rfl, ⟨s.allocK fun a411 w398 s => ⟨s.still 5 0 rfl rfl, ⟨s.still 5 1 rfl rfl, ⟨s.still 5 0 rfl rfl, ⟨(s.lit (ty := yapi_Rule) 0 rfl [] 0 rfl rfl).app 0 rfl (Sp.rf2_ s (j + 6) hj).1 b1 fun s412 w399 s => ⟨s.still 5 0 rfl rfl, ⟨s.still 5 1 rfl rfl, ⟨s.app 0 rfl ((s.lit (ty := yapi_Rule) 2 rfl [e.1] 1 (by simp [flat]) rfl).view 2 rfl) b2 fun s413 w400 s => ⟨s.still 5 0 rfl rfl, ⟨s.still 5 1 rfl rfl, s.allocK fun a414 w401 s => ⟨s.still 6 0 rfl rfl, ⟨s.still 6 1 rfl rfl, (s.lit (ty := .int .i64) 0 rfl [] 0 rfl rfl).app 0 rfl (Sp.rf2_ s (j + 7) hj).2 b3 fun s415 w402 s => ⟨s.still 6 0 rfl rfl, s.app 0 rfl ((s.lit (ty := .int .i64) 2 rfl [len] 1 rfl rfl).view 2 rfl) b4 fun s416 w403 s => ⟨s.still 6 0 rfl rfl, s.st0 4 rfl rfl rfl fun w404 s => ⟨s.still 6 0 rfl rfl, s.ld0 (ty := yevergreenref12_Store) (x := (s413, s416)) 4 rfl rfl (h _ _ _ (s.pick [1, 0] 7 rfl (by decide)))⟩⟩⟩⟩⟩⟩⟩,
s.allocK fun a418 w405 s => ⟨s.still 6 0 rfl rfl, ⟨s.still 6 1 rfl rfl, s.app 1 rfl ((s.lit (ty := yapi_Rule) 3 rfl [e.1] 1 (by simp [flat]) rfl).view 3 rfl) b2 fun s419 w406 s => ⟨s.still 6 0 rfl rfl, ⟨s.still 6 1 rfl rfl, (s.lit (ty := .int .i64) 0 rfl [] 0 rfl rfl).app 0 rfl (Sp.rf2_ s (j + 7) hj).2 b3 fun s420 w407 s => ⟨s.still 6 0 rfl rfl, s.app 0 rfl ((s.lit (ty := .int .i64) 2 rfl [len] 1 rfl rfl).view 2 rfl) b4 fun s421 w408 s => ⟨s.still 6 0 rfl rfl, s.st0 4 rfl rfl rfl fun w409 s => ⟨s.still 6 0 rfl rfl, s.ld0 (ty := yevergreenref12_Store) (x := (s419, s421)) 4 rfl rfl (h _ _ _ (s.pick [1, 0] 7 rfl (by decide)))⟩⟩⟩⟩⟩⟩⟩⟩⟩⟩,
s.allocK fun a423 w410 s => ⟨s.still 6 0 rfl rfl, ⟨s.still 6 1 rfl rfl, ⟨s.still 6 0 rfl rfl, (s.lit (ty := yapi_Rule) 1 rfl [] 0 rfl rfl).app 1 rfl (Sp.rf2_ s (j + 7) hj).1 b1 fun s424 w411 s => ⟨s.still 6 0 rfl rfl, ⟨s.still 6 1 rfl rfl, s.app 1 rfl ((s.lit (ty := yapi_Rule) 3 rfl [e.1] 1 (by simp [flat]) rfl).view 3 rfl) b2 fun s425 w412 s => ⟨s.still 6 0 rfl rfl, ⟨s.still 6 1 rfl rfl, (s.lit (ty := .int .i64) 0 rfl [] 0 rfl rfl).app 0 rfl (Sp.rf2_ s (j + 7) hj).2 b3 fun s426 w413 s => ⟨s.still 6 0 rfl rfl, s.app 0 rfl ((s.lit (ty := .int .i64) 2 rfl [len] 1 rfl rfl).view 2 rfl) b4 fun s427 w414 s => ⟨s.still 6 0 rfl rfl, s.st0 4 rfl rfl rfl fun w415 s => ⟨s.still 6 0 rfl rfl, s.ld0 (ty := yevergreenref12_Store) (x := (s425, s427)) 4 rfl rfl (h _ _ _ (s.pick [1, 0] 7 rfl (by decide)))⟩⟩⟩⟩⟩⟩⟩⟩⟩⟩⟩⟩⟩⟩,
s.allocK fun a429 w416 s => ⟨s.still 5 0 rfl rfl, ⟨s.still 5 1 rfl rfl, ⟨s.still 5 0 rfl rfl, s.allocK fun a430 w417 s => ⟨s.still 6 0 rfl rfl, ⟨s.still 6 1 rfl rfl, ⟨s.still 6 0 rfl rfl, (s.lit (ty := yapi_Rule) 0 rfl [] 0 rfl rfl).app 0 rfl (Sp.rf2_ s (j + 7) hj).1 b1 fun s431 w418 s => ⟨s.still 6 0 rfl rfl, ⟨s.still 6 1 rfl rfl, s.app 0 rfl ((s.lit (ty := yapi_Rule) 3 rfl [e.1] 1 (by simp [flat]) rfl).view 3 rfl) b2 fun s432 w419 s => ⟨s.still 6 0 rfl rfl, ⟨s.still 6 1 rfl rfl, (s.lit (ty := .int .i64) 1 rfl [] 0 rfl rfl).app 1 rfl (Sp.rf2_ s (j + 7) hj).2 b3 fun s433 w420 s => ⟨s.still 6 0 rfl rfl, s.app 1 rfl ((s.lit (ty := .int .i64) 2 rfl [len] 1 rfl rfl).view 2 rfl) b4 fun s434 w421 s => ⟨s.still 6 0 rfl rfl, s.st0 4 rfl rfl rfl fun w422 s => ⟨s.still 6 0 rfl rfl, s.ld0 (ty := yevergreenref12_Store) (x := (s432, s434)) 4 rfl rfl (h _ _ _ (s.pick [0, 1] 7 rfl (by decide)))⟩⟩⟩⟩⟩⟩⟩⟩⟩⟩⟩⟩⟩⟩⟩⟩⟩⟩⟩⟩⟩⟩,
⟨s.allocK fun a436 w423 s => ⟨s.still 3 0 rfl rfl, ⟨s.still 3 1 rfl rfl, ⟨s.at_ 2 rfl, ⟨s.still 3 0 rfl rfl, ⟨s.allocK fun a437 w424 s => ⟨s.still 4 0 rfl rfl, ⟨s.still 4 1 rfl rfl, ⟨s.at_ 3 rfl, ⟨s.still 4 0 rfl rfl, ⟨(s.lit (ty := yapi_Rule) 0 rfl [] 0 rfl rfl).app 0 rfl (Sp.rf2_ s (j + 5) hj).1 b1 fun s438 w425 s => ⟨s.still 4 0 rfl rfl, ⟨s.still 4 1 rfl rfl, ⟨s.at_ 3 rfl, ⟨s.allocK fun a439 w426 s => ⟨s.still 5 0 rfl rfl, ⟨s.still 5 1 rfl rfl, ⟨s.app 1 rfl ((s.lit (ty := yapi_Rule) 0 rfl [e.1] 1 (by simp [flat]) rfl).view 0 rfl) b2 fun s440 w427 s => ⟨s.still 5 0 rfl rfl, ⟨s.still 5 1 rfl rfl, ⟨(s.lit (ty := .int .i64) 2 rfl [] 0 rfl rfl).app 2 rfl (Sp.rf2_ s (j + 6) hj).2 b3 fun s441 w428 s => ⟨s.still 5 0 rfl rfl, s.allocK fun a442 w429 s => ⟨s.still 6 0 rfl rfl, s.app 3 rfl ((s.lit (ty := .int .i64) 0 rfl [len] 1 rfl rfl).view 0 rfl) b4 fun s443 w430 s => ⟨s.still 6 0 rfl rfl, s.st0 4 rfl rfl rfl fun w431 s => ⟨s.still 6 0 rfl rfl, s.ld0 (ty := yevergreenref12_Store) (x := (s440, s443)) 4 rfl rfl (h _ _ _ (s.pick [2, 3] 7 rfl (by decide)))⟩⟩⟩⟩,
s.allocK fun a445 w432 s => ⟨s.still 6 0 rfl rfl, ⟨s.still 6 1 rfl rfl, (s.lit (ty := .int .i64) 3 rfl [] 0 rfl rfl).app 3 rfl (Sp.rf2_ s (j + 7) hj).2 b3 fun s446 w433 s => ⟨s.still 6 0 rfl rfl, s.app 3 rfl ((s.lit (ty := .int .i64) 0 rfl [len] 1 rfl rfl).view 0 rfl) b4 fun s447 w434 s => ⟨s.still 6 0 rfl rfl, s.st0 4 rfl rfl rfl fun w435 s => ⟨s.still 6 0 rfl rfl, s.ld0 (ty := yevergreenref12_Store) (x := (s440, s447)) 4 rfl rfl (h _ _ _ (s.pick [2, 3] 7 rfl (by decide)))⟩⟩⟩⟩⟩⟩⟩⟩,
s.allocK fun a449 w436 s => ⟨s.still 6 0 rfl rfl, ⟨s.still 6 1 rfl rfl, s.app 2 rfl ((s.lit (ty := yapi_Rule) 1 rfl [e.1] 1 (by simp [flat]) rfl).view 1 rfl) b2 fun s450 w437 s => ⟨s.still 6 0 rfl rfl, ⟨s.still 6 1 rfl rfl, (s.lit (ty := .int .i64) 3 rfl [] 0 rfl rfl).app 3 rfl (Sp.rf2_ s (j + 7) hj).2 b3 fun s451 w438 s => ⟨s.still 6 0 rfl rfl, s.app 3 rfl ((s.lit (ty := .int .i64) 0 rfl [len] 1 rfl rfl).view 0 rfl) b4 fun s452 w439 s => ⟨s.still 6 0 rfl rfl, s.st0 4 rfl rfl rfl fun w440 s => ⟨s.still 6 0 rfl rfl, s.ld0 (ty := yevergreenref12_Store) (x := (s450, s452)) 4 rfl rfl (h _ _ _ (s.pick [2, 3] 7 rfl (by decide)))⟩⟩⟩⟩⟩⟩⟩⟩⟩⟩,
s.allocK fun a454 w441 s => ⟨s.still 5 0 rfl rfl, ⟨s.still 5 1 rfl rfl, ⟨s.at_ 4 rfl, s.allocK fun a455 w442 s => ⟨s.still 6 0 rfl rfl, ⟨s.still 6 1 rfl rfl, s.app 2 rfl ((s.lit (ty := yapi_Rule) 0 rfl [e.1] 1 (by simp [flat]) rfl).view 0 rfl) b2 fun s456 w443 s => ⟨s.still 6 0 rfl rfl, ⟨s.still 6 1 rfl rfl, (s.lit (ty := .int .i64) 3 rfl [] 0 rfl rfl).app 3 rfl (Sp.rf2_ s (j + 7) hj).2 b3 fun s457 w444 s => ⟨s.still 6 0 rfl rfl, s.app 3 rfl ((s.lit (ty := .int .i64) 1 rfl [len] 1 rfl rfl).view 1 rfl) b4 fun s458 w445 s => ⟨s.still 6 0 rfl rfl, s.st0 4 rfl rfl rfl fun w446 s => ⟨s.still 6 0 rfl rfl, s.ld0 (ty := yevergreenref12_Store) (x := (s456, s458)) 4 rfl rfl (h _ _ _ (s.pick [2, 3] 7 rfl (by decide)))⟩⟩⟩⟩⟩⟩⟩⟩⟩⟩⟩⟩⟩⟩,
⟨s.allocK fun a460 w447 s => ⟨s.still 5 0 rfl rfl, ⟨s.still 5 1 rfl rfl, ⟨s.still 5 0 rfl rfl, ⟨(s.lit (ty := yapi_Rule) 1 rfl [] 0 rfl rfl).app 1 rfl (Sp.rf2_ s (j + 6) hj).1 b1 fun s461 w448 s => ⟨s.still 5 0 rfl rfl, ⟨s.still 5 1 rfl rfl, ⟨s.app 1 rfl ((s.lit (ty := yapi_Rule) 0 rfl [e.1] 1 (by simp [flat]) rfl).view 0 rfl) b2 fun s462 w449 s => ⟨s.still 5 0 rfl rfl, ⟨s.still 5 1 rfl rfl, ⟨(s.lit (ty := .int .i64) 2 rfl [] 0 rfl rfl).app 2 rfl (Sp.rf2_ s (j + 6) hj).2 b3 fun s463 w450 s => ⟨s.still 5 0 rfl rfl, s.allocK fun a464 w451 s => ⟨s.still 6 0 rfl rfl, s.app 3 rfl ((s.lit (ty := .int .i64) 0 rfl [len] 1 rfl rfl).view 0 rfl) b4 fun s465 w452 s => ⟨s.still 6 0 rfl rfl, s.st0 4 rfl rfl rfl fun w453 s => ⟨s.still 6 0 rfl rfl, s.ld0 (ty := yevergreenref12_Store) (x := (s462, s465)) 4 rfl rfl (h _ _ _ (s.pick [2, 3] 7 rfl (by decide)))⟩⟩⟩⟩,
s.allocK fun a467 w454 s => ⟨s.still 6 0 rfl rfl, ⟨s.still 6 1 rfl rfl, (s.lit (ty := .int .i64) 3 rfl [] 0 rfl rfl).app 3 rfl (Sp.rf2_ s (j + 7) hj).2 b3 fun s468 w455 s => ⟨s.still 6 0 rfl rfl, s.app 3 rfl ((s.lit (ty := .int .i64) 0 rfl [len] 1 rfl rfl).view 0 rfl) b4 fun s469 w456 s => ⟨s.still 6 0 rfl rfl, s.st0 4 rfl rfl rfl fun w457 s => ⟨s.still 6 0 rfl rfl, s.ld0 (ty := yevergreenref12_Store) (x := (s462, s469)) 4 rfl rfl (h _ _ _ (s.pick [2, 3] 7 rfl (by decide)))⟩⟩⟩⟩⟩⟩⟩⟩,
s.allocK fun a471 w458 s => ⟨s.still 6 0 rfl rfl, ⟨s.still 6 1 rfl rfl, s.app 2 rfl ((s.lit (ty := yapi_Rule) 1 rfl [e.1] 1 (by simp [flat]) rfl).view 1 rfl) b2 fun s472 w459 s => ⟨s.still 6 0 rfl rfl, ⟨s.still 6 1 rfl rfl, (s.lit (ty := .int .i64) 3 rfl [] 0 rfl rfl).app 3 rfl (Sp.rf2_ s (j + 7) hj).2 b3 fun s473 w460 s => ⟨s.still 6 0 rfl rfl, s.app 3 rfl ((s.lit (ty := .int .i64) 0 rfl [len] 1 rfl rfl).view 0 rfl) b4 fun s474 w461 s => ⟨s.still 6 0 rfl rfl, s.st0 4 rfl rfl rfl fun w462 s => ⟨s.still 6 0 rfl rfl, s.ld0 (ty := yevergreenref12_Store) (x := (s472, s474)) 4 rfl rfl (h _ _ _ (s.pick [2, 3] 7 rfl (by decide)))⟩⟩⟩⟩⟩⟩⟩⟩⟩⟩,
s.allocK fun a476 w463 s => ⟨s.still 6 0 rfl rfl, ⟨s.still 6 1 rfl rfl, ⟨s.still 6 0 rfl rfl, (s.lit (ty := yapi_Rule) 2 rfl [] 0 rfl rfl).app 2 rfl (Sp.rf2_ s (j + 7) hj).1 b1 fun s477 w464 s => ⟨s.still 6 0 rfl rfl, ⟨s.still 6 1 rfl rfl, s.app 2 rfl ((s.lit (ty := yapi_Rule) 1 rfl [e.1] 1 (by simp [flat]) rfl).view 1 rfl) b2 fun s478 w465 s => ⟨s.still 6 0 rfl rfl, ⟨s.still 6 1 rfl rfl, (s.lit (ty := .int .i64) 3 rfl [] 0 rfl rfl).app 3 rfl (Sp.rf2_ s (j + 7) hj).2 b3 fun s479 w466 s => ⟨s.still 6 0 rfl rfl, s.app 3 rfl ((s.lit (ty := .int .i64) 0 rfl [len] 1 rfl rfl).view 0 rfl) b4 fun s480 w467 s => ⟨s.still 6 0 rfl rfl, s.st0 4 rfl rfl rfl fun w468 s => ⟨s.still 6 0 rfl rfl, s.ld0 (ty := yevergreenref12_Store) (x := (s478, s480)) 4 rfl rfl (h _ _ _ (s.pick [2, 3] 7 rfl (by decide)))⟩⟩⟩⟩⟩⟩⟩⟩⟩⟩⟩⟩⟩⟩,
s.allocK fun a482 w469 s => ⟨s.still 5 0 rfl rfl, ⟨s.still 5 1 rfl rfl, ⟨s.at_ 4 rfl, ⟨s.still 5 0 rfl rfl, ⟨(s.lit (ty := yapi_Rule) 1 rfl [] 0 rfl rfl).app 1 rfl (Sp.rf2_ s (j + 6) hj).1 b1 fun s483 w470 s => ⟨s.still 5 0 rfl rfl, ⟨s.still 5 1 rfl rfl, ⟨s.at_ 4 rfl, s.allocK fun a484 w471 s => ⟨s.still 6 0 rfl rfl, ⟨s.still 6 1 rfl rfl, s.app 2 rfl ((s.lit (ty := yapi_Rule) 0 rfl [e.1] 1 (by simp [flat]) rfl).view 0 rfl) b2 fun s485 w472 s => ⟨s.still 6 0 rfl rfl, ⟨s.still 6 1 rfl rfl, (s.lit (ty := .int .i64) 3 rfl [] 0 rfl rfl).app 3 rfl (Sp.rf2_ s (j + 7) hj).2 b3 fun s486 w473 s => ⟨s.still 6 0 rfl rfl, s.app 3 rfl ((s.lit (ty := .int .i64) 1 rfl [len] 1 rfl rfl).view 1 rfl) b4 fun s487 w474 s => ⟨s.still 6 0 rfl rfl, s.st0 4 rfl rfl rfl fun w475 s => ⟨s.still 6 0 rfl rfl, s.ld0 (ty := yevergreenref12_Store) (x := (s485, s487)) 4 rfl rfl (h _ _ _ (s.pick [2, 3] 7 rfl (by decide)))⟩⟩⟩⟩⟩⟩⟩⟩⟩⟩,
s.allocK fun a489 w476 s => ⟨s.still 6 0 rfl rfl, ⟨s.still 6 1 rfl rfl, ⟨s.still 6 0 rfl rfl, (s.lit (ty := yapi_Rule) 2 rfl [] 0 rfl rfl).app 2 rfl (Sp.rf2_ s (j + 7) hj).1 b1 fun s490 w477 s => ⟨s.still 6 0 rfl rfl, ⟨s.still 6 1 rfl rfl, s.app 2 rfl ((s.lit (ty := yapi_Rule) 0 rfl [e.1] 1 (by simp [flat]) rfl).view 0 rfl) b2 fun s491 w478 s => ⟨s.still 6 0 rfl rfl, ⟨s.still 6 1 rfl rfl, (s.lit (ty := .int .i64) 3 rfl [] 0 rfl rfl).app 3 rfl (Sp.rf2_ s (j + 7) hj).2 b3 fun s492 w479 s => ⟨s.still 6 0 rfl rfl, s.app 3 rfl ((s.lit (ty := .int .i64) 1 rfl [len] 1 rfl rfl).view 1 rfl) b4 fun s493 w480 s => ⟨s.still 6 0 rfl rfl, s.st0 4 rfl rfl rfl fun w481 s => ⟨s.still 6 0 rfl rfl, s.ld0 (ty := yevergreenref12_Store) (x := (s491, s493)) 4 rfl rfl (h _ _ _ (s.pick [2, 3] 7 rfl (by decide)))⟩⟩⟩⟩⟩⟩⟩⟩⟩⟩⟩⟩⟩⟩⟩⟩⟩⟩⟩⟩⟩,
⟨s.allocK fun a495 w482 s => ⟨s.still 4 0 rfl rfl, ⟨s.still 4 1 rfl rfl, ⟨s.still 4 0 rfl rfl, ⟨s.allocK fun a496 w483 s => ⟨s.still 5 0 rfl rfl, ⟨s.still 5 1 rfl rfl, ⟨s.still 5 0 rfl rfl, ⟨(s.lit (ty := yapi_Rule) 0 rfl [] 0 rfl rfl).app 0 rfl (Sp.rf2_ s (j + 6) hj).1 b1 fun s497 w484 s => ⟨s.still 5 0 rfl rfl, ⟨s.still 5 1 rfl rfl, ⟨s.app 0 rfl ((s.lit (ty := yapi_Rule) 1 rfl [e.1] 1 (by simp [flat]) rfl).view 1 rfl) b2 fun s498 w485 s => ⟨s.still 5 0 rfl rfl, ⟨s.still 5 1 rfl rfl, ⟨(s.lit (ty := .int .i64) 2 rfl [] 0 rfl rfl).app 2 rfl (Sp.rf2_ s (j + 6) hj).2 b3 fun s499 w486 s => ⟨s.still 5 0 rfl rfl, s.allocK fun a500 w487 s => ⟨s.still 6 0 rfl rfl, s.app 3 rfl ((s.lit (ty := .int .i64) 0 rfl [len] 1 rfl rfl).view 0 rfl) b4 fun s501 w488 s => ⟨s.still 6 0 rfl rfl, s.st0 4 rfl rfl rfl fun w489 s => ⟨s.still 6 0 rfl rfl, s.ld0 (ty := yevergreenref12_Store) (x := (s498, s501)) 4 rfl rfl (h _ _ _ (s.pick [1, 3] 7 rfl (by decide)))⟩⟩⟩⟩,
s.allocK fun a503 w490 s => ⟨s.still 6 0 rfl rfl, ⟨s.still 6 1 rfl rfl, (s.lit (ty := .int .i64) 3 rfl [] 0 rfl rfl).app 3 rfl (Sp.rf2_ s (j + 7) hj).2 b3 fun s504 w491 s => ⟨s.still 6 0 rfl rfl, s.app 3 rfl ((s.lit (ty := .int .i64) 0 rfl [len] 1 rfl rfl).view 0 rfl) b4 fun s505 w492 s => ⟨s.still 6 0 rfl rfl, s.st0 4 rfl rfl rfl fun w493 s => ⟨s.still 6 0 rfl rfl, s.ld0 (ty := yevergreenref12_Store) (x := (s498, s505)) 4 rfl rfl (h _ _ _ (s.pick [1, 3] 7 rfl (by decide)))⟩⟩⟩⟩⟩⟩⟩⟩,
s.allocK fun a507 w494 s => ⟨s.still 6 0 rfl rfl, ⟨s.still 6 1 rfl rfl, s.app 1 rfl ((s.lit (ty := yapi_Rule) 2 rfl [e.1] 1 (by simp [flat]) rfl).view 2 rfl) b2 fun s508 w495 s => ⟨s.still 6 0 rfl rfl, ⟨s.still 6 1 rfl rfl, (s.lit (ty := .int .i64) 3 rfl [] 0 rfl rfl).app 3 rfl (Sp.rf2_ s (j + 7) hj).2 b3 fun s509 w496 s => ⟨s.still 6 0 rfl rfl, s.app 3 rfl ((s.lit (ty := .int .i64) 0 rfl [len] 1 rfl rfl).view 0 rfl) b4 fun s510 w497 s => ⟨s.still 6 0 rfl rfl, s.st0 4 rfl rfl rfl fun w498 s => ⟨s.still 6 0 rfl rfl, s.ld0 (ty := yevergreenref12_Store) (x := (s508, s510)) 4 rfl rfl (h _ _ _ (s.pick [1, 3] 7 rfl (by decide)))⟩⟩⟩⟩⟩⟩⟩⟩⟩⟩,
s.allocK fun a512 w499 s => ⟨s.still 6 0 rfl rfl, ⟨s.still 6 1 rfl rfl, ⟨s.still 6 0 rfl rfl, (s.lit (ty := yapi_Rule) 1 rfl [] 0 rfl rfl).app 1 rfl (Sp.rf2_ s (j + 7) hj).1 b1 fun s513 w500 s => ⟨s.still 6 0 rfl rfl, ⟨s.still 6 1 rfl rfl, s.app 1 rfl ((s.lit (ty := yapi_Rule) 2 rfl [e.1] 1 (by simp [flat]) rfl).view 2 rfl) b2 fun s514 w501 s => ⟨s.still 6 0 rfl rfl, ⟨s.still 6 1 rfl rfl, (s.lit (ty := .int .i64) 3 rfl [] 0 rfl rfl).app 3 rfl (Sp.rf2_ s (j + 7) hj).2 b3 fun s515 w502 s => ⟨s.still 6 0 rfl rfl, s.app 3 rfl ((s.lit (ty := .int .i64) 0 rfl [len] 1 rfl rfl).view 0 rfl) b4 fun s516 w503 s => ⟨s.still 6 0 rfl rfl, s.st0 4 rfl rfl rfl fun w504 s => ⟨s.still 6 0 rfl rfl, s.ld0 (ty := yevergreenref12_Store) (x := (s514, s516)) 4 rfl rfl (h _ _ _ (s.pick [1, 3] 7 rfl (by decide)))⟩⟩⟩⟩⟩⟩⟩⟩⟩⟩⟩⟩⟩⟩,
s.allocK fun a518 w505 s => ⟨s.still 5 0 rfl rfl, ⟨s.still 5 1 rfl rfl, ⟨s.still 5 0 rfl rfl, s.allocK fun a519 w506 s => ⟨s.still 6 0 rfl rfl, ⟨s.still 6 1 rfl rfl, ⟨s.still 6 0 rfl rfl, (s.lit (ty := yapi_Rule) 0 rfl [] 0 rfl rfl).app 0 rfl (Sp.rf2_ s (j + 7) hj).1 b1 fun s520 w507 s => ⟨s.still 6 0 rfl rfl, ⟨s.still 6 1 rfl rfl, s.app 0 rfl ((s.lit (ty := yapi_Rule) 2 rfl [e.1] 1 (by simp [flat]) rfl).view 2 rfl) b2 fun s521 w508 s => ⟨s.still 6 0 rfl rfl, ⟨s.still 6 1 rfl rfl, (s.lit (ty := .int .i64) 3 rfl [] 0 rfl rfl).app 3 rfl (Sp.rf2_ s (j + 7) hj).2 b3 fun s522 w509 s => ⟨s.still 6 0 rfl rfl, s.app 3 rfl ((s.lit (ty := .int .i64) 1 rfl [len] 1 rfl rfl).view 1 rfl) b4 fun s523 w510 s => ⟨s.still 6 0 rfl rfl, s.st0 4 rfl rfl rfl fun w511 s => ⟨s.still 6 0 rfl rfl, s.ld0 (ty := yevergreenref12_Store) (x := (s521, s523)) 4 rfl rfl (h _ _ _ (s.pick [0, 3] 7 rfl (by decide)))⟩⟩⟩⟩⟩⟩⟩⟩⟩⟩⟩⟩⟩⟩⟩⟩⟩,
s.allocK fun a525 w512 s => ⟨s.still 4 0 rfl rfl, ⟨s.still 4 1 rfl rfl, ⟨s.at_ 3 rfl, ⟨s.still 4 0 rfl rfl, ⟨s.allocK fun a526 w513 s => ⟨s.still 5 0 rfl rfl, ⟨s.still 5 1 rfl rfl, ⟨s.at_ 4 rfl, ⟨s.still 5 0 rfl rfl, ⟨(s.lit (ty := yapi_Rule) 0 rfl [] 0 rfl rfl).app 0 rfl (Sp.rf2_ s (j + 6) hj).1 b1 fun s527 w514 s => ⟨s.still 5 0 rfl rfl, ⟨s.still 5 1 rfl rfl, ⟨s.at_ 4 rfl, s.allocK fun a528 w515 s => ⟨s.still 6 0 rfl rfl, ⟨s.still 6 1 rfl rfl, s.app 1 rfl ((s.lit (ty := yapi_Rule) 0 rfl [e.1] 1 (by simp [flat]) rfl).view 0 rfl) b2 fun s529 w516 s => ⟨s.still 6 0 rfl rfl, ⟨s.still 6 1 rfl rfl, (s.lit (ty := .int .i64) 3 rfl [] 0 rfl rfl).app 3 rfl (Sp.rf2_ s (j + 7) hj).2 b3 fun s530 w517 s => ⟨s.still 6 0 rfl rfl, s.app 3 rfl ((s.lit (ty := .int .i64) 2 rfl [len] 1 rfl rfl).view 2 rfl) b4 fun s531 w518 s => ⟨s.still 6 0 rfl rfl, s.st0 4 rfl rfl rfl fun w519 s => ⟨s.still 6 0 rfl rfl, s.ld0 (ty := yevergreenref12_Store) (x := (s529, s531)) 4 rfl rfl (h _ _ _ (s.pick [1, 3] 7 rfl (by decide)))⟩⟩⟩⟩⟩⟩⟩⟩⟩⟩,
s.allocK fun a533 w520 s => ⟨s.still 6 0 rfl rfl, ⟨s.still 6 1 rfl rfl, ⟨s.still 6 0 rfl rfl, (s.lit (ty := yapi_Rule) 1 rfl [] 0 rfl rfl).app 1 rfl (Sp.rf2_ s (j + 7) hj).1 b1 fun s534 w521 s => ⟨s.still 6 0 rfl rfl, ⟨s.still 6 1 rfl rfl, s.app 1 rfl ((s.lit (ty := yapi_Rule) 0 rfl [e.1] 1 (by simp [flat]) rfl).view 0 rfl) b2 fun s535 w522 s => ⟨s.still 6 0 rfl rfl, ⟨s.still 6 1 rfl rfl, (s.lit (ty := .int .i64) 3 rfl [] 0 rfl rfl).app 3 rfl (Sp.rf2_ s (j + 7) hj).2 b3 fun s536 w523 s => ⟨s.still 6 0 rfl rfl, s.app 3 rfl ((s.lit (ty := .int .i64) 2 rfl [len] 1 rfl rfl).view 2 rfl) b4 fun s537 w524 s => ⟨s.still 6 0 rfl rfl, s.st0 4 rfl rfl rfl fun w525 s => ⟨s.still 6 0 rfl rfl, s.ld0 (ty := yevergreenref12_Store) (x := (s535, s537)) 4 rfl rfl (h _ _ _ (s.pick [1, 3] 7 rfl (by decide)))⟩⟩⟩⟩⟩⟩⟩⟩⟩⟩⟩⟩⟩⟩⟩,
s.allocK fun a539 w526 s => ⟨s.still 5 0 rfl rfl, ⟨s.still 5 1 rfl rfl, ⟨s.still 5 0 rfl rfl, s.allocK fun a540 w527 s => ⟨s.still 6 0 rfl rfl, ⟨s.still 6 1 rfl rfl, ⟨s.still 6 0 rfl rfl, (s.lit (ty := yapi_Rule) 0 rfl [] 0 rfl rfl).app 0 rfl (Sp.rf2_ s (j + 7) hj).1 b1 fun s541 w528 s => ⟨s.still 6 0 rfl rfl, ⟨s.still 6 1 rfl rfl, s.app 0 rfl ((s.lit (ty := yapi_Rule) 1 rfl [e.1] 1 (by simp [flat]) rfl).view 1 rfl) b2 fun s542 w529 s => ⟨s.still 6 0 rfl rfl, ⟨s.still 6 1 rfl rfl, (s.lit (ty := .int .i64) 3 rfl [] 0 rfl rfl).app 3 rfl (Sp.rf2_ s (j + 7) hj).2 b3 fun s543 w530 s => ⟨s.still 6 0 rfl rfl, s.app 3 rfl ((s.lit (ty := .int .i64) 2 rfl [len] 1 rfl rfl).view 2 rfl) b4 fun s544 w531 s => ⟨s.still 6 0 rfl rfl, s.st0 4 rfl rfl rfl fun w532 s => ⟨s.still 6 0 rfl rfl, s.ld0 (ty := yevergreenref12_Store) (x := (s542, s544)) 4 rfl rfl (h _ _ _ (s.pick [0, 3] 7 rfl (by decide)))⟩⟩⟩⟩⟩⟩⟩⟩⟩⟩⟩⟩⟩⟩⟩⟩⟩⟩⟩⟩⟩⟩⟩⟩,
s.allocK fun a546 w533 s => ⟨s.still 3 0 rfl rfl, ⟨s.still 3 1 rfl rfl, ⟨s.at_ 2 rfl, ⟨s.still 3 0 rfl rfl, ⟨s.allocK fun a547 w534 s => ⟨s.still 4 0 rfl rfl, ⟨s.still 4 1 rfl rfl, ⟨s.at_ 3 rfl, ⟨s.still 4 0 rfl rfl, ⟨(s.lit (ty := yapi_Rule) 0 rfl [] 0 rfl rfl).app 0 rfl (Sp.rf2_ s (j + 5) hj).1 b1 fun s548 w535 s => ⟨s.still 4 0 rfl rfl, ⟨s.still 4 1 rfl rfl, ⟨s.at_ 3 rfl, ⟨s.allocK fun a549 w536 s => ⟨s.still 5 0 rfl rfl, ⟨s.still 5 1 rfl rfl, ⟨s.app 1 rfl ((s.lit (ty := yapi_Rule) 0 rfl [e.1] 1 (by simp [flat]) rfl).view 0 rfl) b2 fun s550 w537 s => ⟨s.still 5 0 rfl rfl, ⟨s.still 5 1 rfl rfl, s.allocK fun a551 w538 s => ⟨s.still 6 0 rfl rfl, ⟨s.still 6 1 rfl rfl, (s.lit (ty := .int .i64) 0 rfl [] 0 rfl rfl).app 0 rfl (Sp.rf2_ s (j + 7) hj).2 b3 fun s552 w539 s => ⟨s.still 6 0 rfl rfl, s.app 0 rfl ((s.lit (ty := .int .i64) 3 rfl [len] 1 rfl rfl).view 3 rfl) b4 fun s553 w540 s => ⟨s.still 6 0 rfl rfl, s.st0 4 rfl rfl rfl fun w541 s => ⟨s.still 6 0 rfl rfl, s.ld0 (ty := yevergreenref12_Store) (x := (s550, s553)) 4 rfl rfl (h _ _ _ (s.pick [2, 0] 7 rfl (by decide)))⟩⟩⟩⟩⟩⟩⟩,
s.allocK fun a555 w542 s => ⟨s.still 6 0 rfl rfl, ⟨s.still 6 1 rfl rfl, s.app 2 rfl ((s.lit (ty := yapi_Rule) 1 rfl [e.1] 1 (by simp [flat]) rfl).view 1 rfl) b2 fun s556 w543 s => ⟨s.still 6 0 rfl rfl, ⟨s.still 6 1 rfl rfl, (s.lit (ty := .int .i64) 0 rfl [] 0 rfl rfl).app 0 rfl (Sp.rf2_ s (j + 7) hj).2 b3 fun s557 w544 s => ⟨s.still 6 0 rfl rfl, s.app 0 rfl ((s.lit (ty := .int .i64) 3 rfl [len] 1 rfl rfl).view 3 rfl) b4 fun s558 w545 s => ⟨s.still 6 0 rfl rfl, s.st0 4 rfl rfl rfl fun w546 s => ⟨s.still 6 0 rfl rfl, s.ld0 (ty := yevergreenref12_Store) (x := (s556, s558)) 4 rfl rfl (h _ _ _ (s.pick [2, 0] 7 rfl (by decide)))⟩⟩⟩⟩⟩⟩⟩⟩⟩⟩,
s.allocK fun a560 w547 s => ⟨s.still 5 0 rfl rfl, ⟨s.still 5 1 rfl rfl, ⟨s.at_ 4 rfl, s.allocK fun a561 w548 s => ⟨s.still 6 0 rfl rfl, ⟨s.still 6 1 rfl rfl, s.app 2 rfl ((s.lit (ty := yapi_Rule) 0 rfl [e.1] 1 (by simp [flat]) rfl).view 0 rfl) b2 fun s562 w549 s => ⟨s.still 6 0 rfl rfl, ⟨s.still 6 1 rfl rfl, (s.lit (ty := .int .i64) 1 rfl [] 0 rfl rfl).app 1 rfl (Sp.rf2_ s (j + 7) hj).2 b3 fun s563 w550 s => ⟨s.still 6 0 rfl rfl, s.app 1 rfl ((s.lit (ty := .int .i64) 3 rfl [len] 1 rfl rfl).view 3 rfl) b4 fun s564 w551 s => ⟨s.still 6 0 rfl rfl, s.st0 4 rfl rfl rfl fun w552 s => ⟨s.still 6 0 rfl rfl, s.ld0 (ty := yevergreenref12_Store) (x := (s562, s564)) 4 rfl rfl (h _ _ _ (s.pick [2, 1] 7 rfl (by decide)))⟩⟩⟩⟩⟩⟩⟩⟩⟩⟩⟩⟩⟩⟩,
⟨s.allocK fun a566 w553 s => ⟨s.still 5 0 rfl rfl, ⟨s.still 5 1 rfl rfl, ⟨s.still 5 0 rfl rfl, ⟨(s.lit (ty := yapi_Rule) 1 rfl [] 0 rfl rfl).app 1 rfl (Sp.rf2_ s (j + 6) hj).1 b1 fun s567 w554 s => ⟨s.still 5 0 rfl rfl, ⟨s.still 5 1 rfl rfl, ⟨s.app 1 rfl ((s.lit (ty := yapi_Rule) 0 rfl [e.1] 1 (by simp [flat]) rfl).view 0 rfl) b2 fun s568 w555 s => ⟨s.still 5 0 rfl rfl, ⟨s.still 5 1 rfl rfl, s.allocK fun a569 w556 s => ⟨s.still 6 0 rfl rfl, ⟨s.still 6 1 rfl rfl, (s.lit (ty := .int .i64) 0 rfl [] 0 rfl rfl).app 0 rfl (Sp.rf2_ s (j + 7) hj).2 b3 fun s570 w557 s => ⟨s.still 6 0 rfl rfl, s.app 0 rfl ((s.lit (ty := .int .i64) 3 rfl [len] 1 rfl rfl).view 3 rfl) b4 fun s571 w558 s => ⟨s.still 6 0 rfl rfl, s.st0 4 rfl rfl rfl fun w559 s => ⟨s.still 6 0 rfl rfl, s.ld0 (ty := yevergreenref12_Store) (x := (s568, s571)) 4 rfl rfl (h _ _ _ (s.pick [2, 0] 7 rfl (by decide)))⟩⟩⟩⟩⟩⟩⟩,
s.allocK fun a573 w560 s => ⟨s.still 6 0 rfl rfl, ⟨s.still 6 1 rfl rfl, s.app 2 rfl ((s.lit (ty := yapi_Rule) 1 rfl [e.1] 1 (by simp [flat]) rfl).view 1 rfl) b2 fun s574 w561 s => ⟨s.still 6 0 rfl rfl, ⟨s.still 6 1 rfl rfl, (s.lit (ty := .int .i64) 0 rfl [] 0 rfl rfl).app 0 rfl (Sp.rf2_ s (j + 7) hj).2 b3 fun s575 w562 s => ⟨s.still 6 0 rfl rfl, s.app 0 rfl ((s.lit (ty := .int .i64) 3 rfl [len] 1 rfl rfl).view 3 rfl) b4 fun s576 w563 s => ⟨s.still 6 0 rfl rfl, s.st0 4 rfl rfl rfl fun w564 s => ⟨s.still 6 0 rfl rfl, s.ld0 (ty := yevergreenref12_Store) (x := (s574, s576)) 4 rfl rfl (h _ _ _ (s.pick [2, 0] 7 rfl (by decide)))⟩⟩⟩⟩⟩⟩⟩⟩⟩⟩,
s.allocK fun a578 w565 s => ⟨s.still 6 0 rfl rfl, ⟨s.still 6 1 rfl rfl, ⟨s.still 6 0 rfl rfl, (s.lit (ty := yapi_Rule) 2 rfl [] 0 rfl rfl).app 2 rfl (Sp.rf2_ s (j + 7) hj).1 b1 fun s579 w566 s => ⟨s.still 6 0 rfl rfl, ⟨s.still 6 1 rfl rfl, s.app 2 rfl ((s.lit (ty := yapi_Rule) 1 rfl [e.1] 1 (by simp [flat]) rfl).view 1 rfl) b2 fun s580 w567 s => ⟨s.still 6 0 rfl rfl, ⟨s.still 6 1 rfl rfl, (s.lit (ty := .int .i64) 0 rfl [] 0 rfl rfl).app 0 rfl (Sp.rf2_ s (j + 7) hj).2 b3 fun s581 w568 s => ⟨s.still 6 0 rfl rfl, s.app 0 rfl ((s.lit (ty := .int .i64) 3 rfl [len] 1 rfl rfl).view 3 rfl) b4 fun s582 w569 s => ⟨s.still 6 0 rfl rfl, s.st0 4 rfl rfl rfl fun w570 s => ⟨s.still 6 0 rfl rfl, s.ld0 (ty := yevergreenref12_Store) (x := (s580, s582)) 4 rfl rfl (h _ _ _ (s.pick [2, 0] 7 rfl (by decide)))⟩⟩⟩⟩⟩⟩⟩⟩⟩⟩⟩⟩⟩⟩,
s.allocK fun a584 w571 s => ⟨s.still 5 0 rfl rfl, ⟨s.still 5 1 rfl rfl, ⟨s.at_ 4 rfl, ⟨s.still 5 0 rfl rfl, ⟨(s.lit (ty := yapi_Rule) 1 rfl [] 0 rfl rfl).app 1 rfl (Sp.rf2_ s (j + 6) hj).1 b1 fun s585 w572 s => ⟨s.still 5 0 rfl rfl, ⟨s.still 5 1 rfl rfl, ⟨s.at_ 4 rfl, s.allocK fun a586 w573 s => ⟨s.still 6 0 rfl rfl, ⟨s.still 6 1 rfl rfl, s.app 2 rfl ((s.lit (ty := yapi_Rule) 0 rfl [e.1] 1 (by simp [flat]) rfl).view 0 rfl) b2 fun s587 w574 s => ⟨s.still 6 0 rfl rfl, ⟨s.still 6 1 rfl rfl, (s.lit (ty := .int .i64) 1 rfl [] 0 rfl rfl).app 1 rfl (Sp.rf2_ s (j + 7) hj).2 b3 fun s588 w575 s => ⟨s.still 6 0 rfl rfl, s.app 1 rfl ((s.lit (ty := .int .i64) 3 rfl [len] 1 rfl rfl).view 3 rfl) b4 fun s589 w576 s => ⟨s.still 6 0 rfl rfl, s.st0 4 rfl rfl rfl fun w577 s => ⟨s.still 6 0 rfl rfl, s.ld0 (ty := yevergreenref12_Store) (x := (s587, s589)) 4 rfl rfl (h _ _ _ (s.pick [2, 1] 7 rfl (by decide)))⟩⟩⟩⟩⟩⟩⟩⟩⟩⟩,
s.allocK fun a591 w578 s => ⟨s.still 6 0 rfl rfl, ⟨s.still 6 1 rfl rfl, ⟨s.still 6 0 rfl rfl, (s.lit (ty := yapi_Rule) 2 rfl [] 0 rfl rfl).app 2 rfl (Sp.rf2_ s (j + 7) hj).1 b1 fun s592 w579 s => ⟨s.still 6 0 rfl rfl, ⟨s.still 6 1 rfl rfl, s.app 2 rfl ((s.lit (ty := yapi_Rule) 0 rfl [e.1] 1 (by simp [flat]) rfl).view 0 rfl) b2 fun s593 w580 s => ⟨s.still 6 0 rfl rfl, ⟨s.still 6 1 rfl rfl, (s.lit (ty := .int .i64) 1 rfl [] 0 rfl rfl).app 1 rfl (Sp.rf2_ s (j + 7) hj).2 b3 fun s594 w581 s => ⟨s.still 6 0 rfl rfl, s.app 1 rfl ((s.lit (ty := .int .i64) 3 rfl [len] 1 rfl rfl).view 3 rfl) b4 fun s595 w582 s => ⟨s.still 6 0 rfl rfl, s.st0 4 rfl rfl rfl fun w583 s => ⟨s.still 6 0 rfl rfl, s.ld0 (ty := yevergreenref12_Store) (x := (s593, s595)) 4 rfl rfl (h _ _ _ (s.pick [2, 1] 7 rfl (by decide)))⟩⟩⟩⟩⟩⟩⟩⟩⟩⟩⟩⟩⟩⟩⟩⟩⟩⟩⟩⟩⟩,
⟨s.allocK fun a597 w584 s => ⟨s.still 4 0 rfl rfl, ⟨s.still 4 1 rfl rfl, ⟨s.still 4 0 rfl rfl, ⟨s.allocK fun a598 w585 s => ⟨s.still 5 0 rfl rfl, ⟨s.still 5 1 rfl rfl, ⟨s.still 5 0 rfl rfl, ⟨(s.lit (ty := yapi_Rule) 0 rfl [] 0 rfl rfl).app 0 rfl (Sp.rf2_ s (j + 6) hj).1 b1 fun s599 w586 s => ⟨s.still 5 0 rfl rfl, ⟨s.still 5 1 rfl rfl, ⟨s.app 0 rfl ((s.lit (ty := yapi_Rule) 1 rfl [e.1] 1 (by simp [flat]) rfl).view 1 rfl) b2 fun s600 w587 s => ⟨s.still 5 0 rfl rfl, ⟨s.still 5 1 rfl rfl, s.allocK fun a601 w588 s => ⟨s.still 6 0 rfl rfl, ⟨s.still 6 1 rfl rfl, (s.lit (ty := .int .i64) 0 rfl [] 0 rfl rfl).app 0 rfl (Sp.rf2_ s (j + 7) hj).2 b3 fun s602 w589 s => ⟨s.still 6 0 rfl rfl, s.app 0 rfl ((s.lit (ty := .int .i64) 3 rfl [len] 1 rfl rfl).view 3 rfl) b4 fun s603 w590 s => ⟨s.still 6 0 rfl rfl, s.st0 4 rfl rfl rfl fun w591 s => ⟨s.still 6 0 rfl rfl, s.ld0 (ty := yevergreenref12_Store) (x := (s600, s603)) 4 rfl rfl (h _ _ _ (s.pick [1, 0] 7 rfl (by decide)))⟩⟩⟩⟩⟩⟩⟩,
s.allocK fun a605 w592 s => ⟨s.still 6 0 rfl rfl, ⟨s.still 6 1 rfl rfl, s.app 1 rfl ((s.lit (ty := yapi_Rule) 2 rfl [e.1] 1 (by simp [flat]) rfl).view 2 rfl) b2 fun s606 w593 s => ⟨s.still 6 0 rfl rfl, ⟨s.still 6 1 rfl rfl, (s.lit (ty := .int .i64) 0 rfl [] 0 rfl rfl).app 0 rfl (Sp.rf2_ s (j + 7) hj).2 b3 fun s607 w594 s => ⟨s.still 6 0 rfl rfl, s.app 0 rfl ((s.lit (ty := .int .i64) 3 rfl [len] 1 rfl rfl).view 3 rfl) b4 fun s608 w595 s => ⟨s.still 6 0 rfl rfl, s.st0 4 rfl rfl rfl fun w596 s => ⟨s.still 6 0 rfl rfl, s.ld0 (ty := yevergreenref12_Store) (x := (s606, s608)) 4 rfl rfl (h _ _ _ (s.pick [1, 0] 7 rfl (by decide)))⟩⟩⟩⟩⟩⟩⟩⟩⟩⟩,
s.allocK fun a610 w597 s => ⟨s.still 6 0 rfl rfl, ⟨s.still 6 1 rfl rfl, ⟨s.still 6 0 rfl rfl, (s.lit (ty := yapi_Rule) 1 rfl [] 0 rfl rfl).app 1 rfl (Sp.rf2_ s (j + 7) hj).1 b1 fun s611 w598 s => ⟨s.still 6 0 rfl rfl, ⟨s.still 6 1 rfl rfl, s.app 1 rfl ((s.lit (ty := yapi_Rule) 2 rfl [e.1] 1 (by simp [flat]) rfl).view 2 rfl) b2 fun s612 w599 s => ⟨s.still 6 0 rfl rfl, ⟨s.still 6 1 rfl rfl, (s.lit (ty := .int .i64) 0 rfl [] 0 rfl rfl).app 0 rfl (Sp.rf2_ s (j + 7) hj).2 b3 fun s613 w600 s => ⟨s.still 6 0 rfl rfl, s.app 0 rfl ((s.lit (ty := .int .i64) 3 rfl [len] 1 rfl rfl).view 3 rfl) b4 fun s614 w601 s => ⟨s.still 6 0 rfl rfl, s.st0 4 rfl rfl rfl fun w602 s => ⟨s.still 6 0 rfl rfl, s.ld0 (ty := yevergreenref12_Store) (x := (s612, s614)) 4 rfl rfl (h _ _ _ (s.pick [1, 0] 7 rfl (by decide)))⟩⟩⟩⟩⟩⟩⟩⟩⟩⟩⟩⟩⟩⟩,
s.allocK fun a616 w603 s => ⟨s.still 5 0 rfl rfl, ⟨s.still 5 1 rfl rfl, ⟨s.still 5 0 rfl rfl, s.allocK fun a617 w604 s => ⟨s.still 6 0 rfl rfl, ⟨s.still 6 1 rfl rfl, ⟨s.still 6 0 rfl rfl, (s.lit (ty := yapi_Rule) 0 rfl [] 0 rfl rfl).app 0 rfl (Sp.rf2_ s (j + 7) hj).1 b1 fun s618 w605 s => ⟨s.still 6 0 rfl rfl, ⟨s.still 6 1 rfl rfl, s.app 0 rfl ((s.lit (ty := yapi_Rule) 2 rfl [e.1] 1 (by simp [flat]) rfl).view 2 rfl) b2 fun s619 w606 s => ⟨s.still 6 0 rfl rfl, ⟨s.still 6 1 rfl rfl, (s.lit (ty := .int .i64) 1 rfl [] 0 rfl rfl).app 1 rfl (Sp.rf2_ s (j + 7) hj).2 b3 fun s620 w607 s => ⟨s.still 6 0 rfl rfl, s.app 1 rfl ((s.lit (ty := .int .i64) 3 rfl [len] 1 rfl rfl).view 3 rfl) b4 fun s621 w608 s => ⟨s.still 6 0 rfl rfl, s.st0 4 rfl rfl rfl fun w609 s => ⟨s.still 6 0 rfl rfl, s.ld0 (ty := yevergreenref12_Store) (x := (s619, s621)) 4 rfl rfl (h _ _ _ (s.pick [0, 1] 7 rfl (by decide)))⟩⟩⟩⟩⟩⟩⟩⟩⟩⟩⟩⟩⟩⟩⟩⟩⟩,
s.allocK fun a623 w610 s => ⟨s.still 4 0 rfl rfl, ⟨s.still 4 1 rfl rfl, ⟨s.at_ 3 rfl, ⟨s.still 4 0 rfl rfl, ⟨s.allocK fun a624 w611 s => ⟨s.still 5 0 rfl rfl, ⟨s.still 5 1 rfl rfl, ⟨s.at_ 4 rfl, ⟨s.still 5 0 rfl rfl, ⟨(s.lit (ty := yapi_Rule) 0 rfl [] 0 rfl rfl).app 0 rfl (Sp.rf2_ s (j + 6) hj).1 b1 fun s625 w612 s => ⟨s.still 5 0 rfl rfl, ⟨s.still 5 1 rfl rfl, ⟨s.at_ 4 rfl, s.allocK fun a626 w613 s => ⟨s.still 6 0 rfl rfl, ⟨s.still 6 1 rfl rfl, s.app 1 rfl ((s.lit (ty := yapi_Rule) 0 rfl [e.1] 1 (by simp [flat]) rfl).view 0 rfl) b2 fun s627 w614 s => ⟨s.still 6 0 rfl rfl, ⟨s.still 6 1 rfl rfl, (s.lit (ty := .int .i64) 2 rfl [] 0 rfl rfl).app 2 rfl (Sp.rf2_ s (j + 7) hj).2 b3 fun s628 w615 s => ⟨s.still 6 0 rfl rfl, s.app 2 rfl ((s.lit (ty := .int .i64) 3 rfl [len] 1 rfl rfl).view 3 rfl) b4 fun s629 w616 s => ⟨s.still 6 0 rfl rfl, s.st0 4 rfl rfl rfl fun w617 s => ⟨s.still 6 0 rfl rfl, s.ld0 (ty := yevergreenref12_Store) (x := (s627, s629)) 4 rfl rfl (h _ _ _ (s.pick [1, 2] 7 rfl (by decide)))⟩⟩⟩⟩⟩⟩⟩⟩⟩⟩,
s.allocK fun a631 w618 s => ⟨s.still 6 0 rfl rfl, ⟨s.still 6 1 rfl rfl, ⟨s.still 6 0 rfl rfl, (s.lit (ty := yapi_Rule) 1 rfl [] 0 rfl rfl).app 1 rfl (Sp.rf2_ s (j + 7) hj).1 b1 fun s632 w619 s => ⟨s.still 6 0 rfl rfl, ⟨s.still 6 1 rfl rfl, s.app 1 rfl ((s.lit (ty := yapi_Rule) 0 rfl [e.1] 1 (by simp [flat]) rfl).view 0 rfl) b2 fun s633 w620 s => ⟨s.still 6 0 rfl rfl, ⟨s.still 6 1 rfl rfl, (s.lit (ty := .int .i64) 2 rfl [] 0 rfl rfl).app 2 rfl (Sp.rf2_ s (j + 7) hj).2 b3 fun s634 w621 s => ⟨s.still 6 0 rfl rfl, s.app 2 rfl ((s.lit (ty := .int .i64) 3 rfl [len] 1 rfl rfl).view 3 rfl) b4 fun s635 w622 s => ⟨s.still 6 0 rfl rfl, s.st0 4 rfl rfl rfl fun w623 s => ⟨s.still 6 0 rfl rfl, s.ld0 (ty := yevergreenref12_Store) (x := (s633, s635)) 4 rfl rfl (h _ _ _ (s.pick [1, 2] 7 rfl (by decide)))⟩⟩⟩⟩⟩⟩⟩⟩⟩⟩⟩⟩⟩⟩⟩,
s.allocK fun a637 w624 s => ⟨s.still 5 0 rfl rfl, ⟨s.still 5 1 rfl rfl, ⟨s.still 5 0 rfl rfl, s.allocK fun a638 w625 s => ⟨s.still 6 0 rfl rfl, ⟨s.still 6 1 rfl rfl, ⟨s.still 6 0 rfl rfl, (s.lit (ty := yapi_Rule) 0 rfl [] 0 rfl rfl).app 0 rfl (Sp.rf2_ s (j + 7) hj).1 b1 fun s639 w626 s => ⟨s.still 6 0 rfl rfl, ⟨s.still 6 1 rfl rfl, s.app 0 rfl ((s.lit (ty := yapi_Rule) 1 rfl [e.1] 1 (by simp [flat]) rfl).view 1 rfl) b2 fun s640 w627 s => ⟨s.still 6 0 rfl rfl, ⟨s.still 6 1 rfl rfl, (s.lit (ty := .int .i64) 2 rfl [] 0 rfl rfl).app 2 rfl (Sp.rf2_ s (j + 7) hj).2 b3 fun s641 w628 s => ⟨s.still 6 0 rfl rfl, s.app 2 rfl ((s.lit (ty := .int .i64) 3 rfl [len] 1 rfl rfl).view 3 rfl) b4 fun s642 w629 s => ⟨s.still 6 0 rfl rfl, s.st0 4 rfl rfl rfl fun w630 s => ⟨s.still 6 0 rfl rfl, s.ld0 (ty := yevergreenref12_Store) (x := (s640, s642)) 4 rfl rfl (h _ _ _ (s.pick [0, 2] 7 rfl (by decide)))⟩⟩⟩⟩⟩⟩⟩⟩⟩⟩⟩⟩⟩⟩⟩⟩⟩⟩⟩⟩⟩⟩⟩⟩⟩⟩⟩
theorem ref12_Add_spec {e : ET} {len : Int} (hlen : len = e.2.1.1) (s : Sp w0 Ω w) (j : Nat) (hj : Ω[j]? = some (rf2 m T)) (hl : T.length < 1048576) (hm : (T.length : Int) < most) {K : yevergreenref12_Store.T × Int → World → Prop}
    (h : ∀ m' w', Sp w0 (rf2 m' (pAdd T most e).1 :: Ω) w' → K (m', (pAdd T most e).2.1) w') : C_ref12_Add m e.1 len K w := by
  cases hf : lkR T e.1 with
  | none =>
    obtain ⟨_, q2⟩ := pAdd_new (most := most) hf (by omega)
    rw [q2] at h
    exact ref12_Add_new hlen s j hj hl hf h
  | some i =>
    obtain ⟨_, q2, _⟩ := pAdd_some (most := most) hf
    rw [q2] at h
    apply S_ref12_Add
    unfold F_ref12_Add
    refine s.allocK fun a1 w1 s => s.allocK fun a2 w2 s => s.allocK fun a3 w3 s => ?_
    have hlr := (Sp.rf2_ s (j + 3) hj).1.len
    rw [rulesOf_len] at hlr
    refine loop_by (fun x => x.1) T.length (fun n _ w => (∀ i, i < n → ∀ e', T[i]? = some e' → e'.1 ≠ e.1) ∧ Sp w0 (cel a3 [.slice none 0 0, .slice none 0 0] :: cel a2 (cells yapi_Rule e.1) :: cel a1 (cells yevergreenref12_Store m) :: Ω) w) rfl ⟨fun i hi => by omega, s⟩ ?_
    rintro n ⟨x, _⟩ w4 hnn hx ⟨hno, s⟩ _
    dsimp only at hx ⊢
    subst hx
    refine s.lds (x := m.1) 2 0 rfl rfl (gd_dec (fun hlt => s.drawK fun w5 s => s.lds (x := m.1) 2 0 rfl rfl ?_) (fun hge => ?_))
    · have hn' : n < T.length := by omega
      have he : T[n]? = some T[n] := List.getElem?_eq_getElem hn'
      refine (Sp.rf2_ s (j + 3) hj).1.idx rfl (x := T[n].1) (by rw [rulesOf, List.getElem?_map, he]; rfl) rfl fun q hq => ⟨_, hq, s.ld0 1 rfl rfl (rule_eql (gd_dec (fun e1 => ?_) (fun e1 => ?_)))⟩
      · refine s.ld0 (ty := yevergreenref12_Store) (x := m) 2 rfl rfl (arith_i64 (by omega) (by omega) (s.st0 0 rfl rfl rfl fun w6 s => s.ld0 (ty := yevergreenref12_Store) (x := m) 0 rfl rfl ?_))
        have := h m _ ((s.drop 3).dup j hj rfl)
        rw [lkR_at hno he e1] at hf
        cases hf
        exact this
      · refine arith_i64 (by omega) (by omega) (loop_nx hn' ⟨fun i hi e' he' => ?_, s⟩)
        by_cases c : i < n
        · exact hno i c e' he'
        · have : i = n := by omega
          subst this
          rw [he] at he'
          cases he'
          exact e1
    · exfalso
      have : lkR T e.1 = none := lkR_none fun e' he' => by
        obtain ⟨k, hk⟩ := List.getElem?_of_mem he'
        exact hno k (by have := (List.getElem?_eq_some_iff.1 hk).1; omega) e' hk
      rw [this] at hf; cases hf

end Go.Proofs.Ytnmgjpcooncjlaa

/- The specification's stores (evergreenref12): Pick, One, Build; the layer's Build. -/
set_option linter.unusedVariables false
set_option linter.unusedSimpArgs false
namespace Go.Proofs.Ytnmgjpcooncjlaa
open Go.Den

variable {w0 w : World} {Ω : List Ob} {most : Int} {T : List ET} {res : List Int} {i j : Nat} {m : yevergreenref12_Store.T} {p : Addr}

def pickN (n many : Int) : Int := if Int.tmod n many < 0 then Int.tmod n many + many else Int.tmod n many
theorem pickN_bound {n many : Int} (hm : 1 ≤ many) : 0 ≤ pickN n many ∧ pickN n many < many := by
  have h1 := Int.tmod_lt_of_pos n (show 0 < many by omega)
  have h2 := Int.lt_tmod_of_pos n (show 0 < many by omega)
  unfold pickN
  split <;> omega
theorem ref12_Pick_eq {n many : Int} (hm : 1 ≤ many) (hb : many ≤ 4611686018427387904) {K : Int → World → Prop} (h : K (pickN n many) w) : C_ref12_Pick n many K w := by
  apply S_ref12_Pick
  unfold F_ref12_Pick
  have h1 := Int.tmod_lt_of_pos n (show 0 < many by omega)
  have h2 := Int.lt_tmod_of_pos n (show 0 < many by omega)
  unfold pickN at h
  refine ⟨by omega, letZ_mk (JoinP.inl ?_)⟩
  refine gd_dec (fun c => arith_i64 (by omega) (by omega) fun _ => ?_) (fun c => fun _ => ?_)
  · rwa [if_pos c] at h
  · rwa [if_neg c] at h
def rsAt (res : List Int) (n : Int) : Int := res.getD (pickN n res.length).toNat 0
theorem rsAt_get (h : 1 ≤ res.length) (n : Int) : ∃ k : Nat, pickN n res.length = k ∧ res[k]? = some (rsAt res n) ∧ rsAt res n ∈ res := by
  have hb := pickN_bound (n := n) (many := res.length) (by omega)
  have hk : (pickN n res.length).toNat < res.length := by omega
  have e : rsAt res n = res[(pickN n res.length).toNat] := by unfold rsAt; rw [List.getD_eq_getElem?_getD, List.getElem?_eq_getElem hk]; rfl
  refine ⟨(pickN n res.length).toNat, by omega, ?_, ?_⟩
  · rw [e]; exact List.getElem?_eq_getElem hk
  · rw [e]; exact List.getElem_mem hk

abbrev MakeT := Int × Int × Int × Int × Int
def mKind (o : MakeT) : Int := o.1
def mLet (o : MakeT) : Int := o.2.1
def mLeft (o : MakeT) : Int := o.2.2.1
def mRight (o : MakeT) : Int := o.2.2.2.1
def mTimes (o : MakeT) : Int := o.2.2.2.2
structure MakeOK (o : MakeT) : Prop where
  b : 0 ≤ mLet o ∧ mLet o < 256
  k : -9223372036854775808 ≤ mTimes o ∧ mTimes o ≤ 9223372036854775807
theorem makeOK_of {o : MakeT} (h : wfT yevergreenref12_Make o) : MakeOK o := by
  obtain ⟨_, h2, _, _, h5⟩ := h
  exact ⟨u8_range h2, i64_range h5⟩
/-- what one Make makes -/
def mk1 (most : Int) (T : List ET) (res : List Int) (o : MakeT) : List ET × Int :=
  if pickN (mKind o) 4 = 0 then ((pLetter T most (mLet o)).1, (pLetter T most (mLet o)).2.1)
  else if pickN (mKind o) 4 = 3 then ((pPower T most (rsAt res (mLeft o)) (if mTimes o < 0 then 0 else mTimes o)).1, (pPower T most (rsAt res (mLeft o)) (if mTimes o < 0 then 0 else mTimes o)).2.1)
  else ((pPair T most (rsAt res (mLeft o)) (rsAt res (mRight o))).1, (pPair T most (rsAt res (mLeft o)) (rsAt res (mRight o))).2.1)
/-- what a list of Makes makes, from a store and results on -/
def bldF (most : Int) (T : List ET) (res : List Int) : List MakeT → List ET × List Int
  | [] => (T, res)
  | o :: ops => bldF most (mk1 most T res o).1 (res ++ [(mk1 most T res o).2]) ops
def bld (most : Int) (ops : List MakeT) : List ET × List Int := bldF most [] [0] ops
theorem bldF_append (ops ops' : List MakeT) : ∀ (T : List ET) (res : List Int), bldF most T res (ops ++ ops') = bldF most (bldF most T res ops).1 (bldF most T res ops).2 ops' := by
  induction ops with
  | nil => intro T res; rfl
  | cons o ops ih => intro T res; exact ih _ _
theorem bld_snoc (ops : List MakeT) (o : MakeT) : bld most (ops ++ [o]) = ((mk1 most (bld most ops).1 (bld most ops).2 o).1, (bld most ops).2 ++ [(mk1 most (bld most ops).1 (bld most ops).2 o).2]) := by
  unfold bld
  rw [bldF_append]; rfl
theorem bldF_pre (ops : List MakeT) : ∀ (T : List ET) (res : List Int), res <+: (bldF most T res ops).2 := by
  induction ops with
  | nil => intro T res; exact List.prefix_refl _
  | cons o ops ih => intro T res; exact (List.prefix_append _ _).trans (ih _ _)
theorem bld_pre (ops ops' : List MakeT) : (bld most ops).2 <+: (bld most (ops ++ ops')).2 := by
  unfold bld
  rw [bldF_append]
  exact bldF_pre _ _ _

def Facts (T : List ET) (x : List ET × Int) : Prop := T <+: x.1 ∧ x.1.length ≤ T.length + 1 ∧ 0 ≤ x.2 ∧ x.2 ≤ x.1.length
theorem Facts.same {x : Int} (h0 : 0 ≤ x) (h1 : x ≤ T.length) : Facts T (T, x) := ⟨List.prefix_refl _, Nat.le_succ _, h0, h1⟩
theorem pAdd_facts (T : List ET) (most : Int) (e : ET) : Facts T ((pAdd T most e).1, (pAdd T most e).2.1) := by
  cases hf : lkR T e.1 with
  | some i =>
    have := lkR_pos hf
    rw [(pAdd_some (most := most) hf).2.1]
    exact Facts.same (x := i) (by omega) this.2
  | none =>
    by_cases hm : most ≤ T.length
    · rw [(pAdd_full (most := most) hf hm).2]; exact Facts.same (x := 0) (Int.le_refl _) (by omega)
    · rw [(pAdd_new (most := most) hf hm).2]
      exact ⟨List.prefix_append _ _, by simp, by show (0 : Int) ≤ (T.length : Int) + 1; omega, by simp⟩
theorem pPower_facts {x k : Int} (hx : 0 ≤ x ∧ x ≤ T.length) : Facts T ((pPower T most x k).1, (pPower T most x k).2.1) := by
  unfold pPower
  have h0 : (0 : Int) ≤ T.length := by omega
  split
  · exact .same (Int.le_refl _) h0
  split
  · exact .same (Int.le_refl _) h0
  split
  · exact .same hx.1 hx.2
  split
  · exact .same (Int.le_refl _) h0
  · exact pAdd_facts _ _ _
theorem pPair_facts {x y : Int} (hx : 0 ≤ x ∧ x ≤ T.length) (hy : 0 ≤ y ∧ y ≤ T.length) : Facts T ((pPair T most x y).1, (pPair T most x y).2.1) := by
  unfold pPair
  have h0 : (0 : Int) ≤ T.length := by omega
  split
  · exact .same (Int.le_refl _) h0
  split
  · exact .same hy.1 hy.2
  split
  · exact .same hx.1 hx.2
  split
  · exact .same (Int.le_refl _) h0
  · exact pAdd_facts _ _ _
def KnownAll (T : List ET) (res : List Int) : Prop := ∀ y ∈ res, 0 ≤ y ∧ y ≤ T.length
theorem mk1_facts (h1 : 1 ≤ res.length) (hk : KnownAll T res) (o : MakeT) : Facts T (mk1 most T res o) := by
  obtain ⟨_, _, _, hl⟩ := rsAt_get h1 (mLeft o)
  obtain ⟨_, _, _, hr⟩ := rsAt_get h1 (mRight o)
  unfold mk1
  by_cases c0 : pickN (mKind o) 4 = 0
  · rw [if_pos c0]; exact pAdd_facts _ _ _
  rw [if_neg c0]
  by_cases c3 : pickN (mKind o) 4 = 3
  · rw [if_pos c3]; exact pPower_facts (hk _ hl)
  · rw [if_neg c3]; exact pPair_facts (hk _ hl) (hk _ hr)
theorem mk1_grow (g : Grow T) (hm : (T.length : Int) ≤ most) {o : MakeT} (ho : MakeOK o) : Grow (mk1 most T res o).1 ∧ ((mk1 most T res o).1.length : Int) ≤ most := by
  unfold mk1
  by_cases c0 : pickN (mKind o) 4 = 0
  · rw [if_pos c0]; exact pLetter_grow g hm ho.b
  rw [if_neg c0]
  by_cases c3 : pickN (mKind o) 4 = 3
  · rw [if_pos c3]; exact pPower_grow g hm
  · rw [if_neg c3]; exact pPair_grow g hm
/-- what holds of what was made -/
structure BldOK (most : Int) (T : List ET) (res : List Int) (n : Nat) : Prop where
  grow : Grow T
  cap : (T.length : Int) ≤ most
  len : T.length ≤ n
  cnt : res.length = n + 1
  known : KnownAll T res
theorem BldOK.step {n : Nat} (h : BldOK most T res n) {o : MakeT} (ho : MakeOK o) : BldOK most (mk1 most T res o).1 (res ++ [(mk1 most T res o).2]) (n + 1) := by
  have h1 := h.cnt
  obtain ⟨f1, f2, f3⟩ := mk1_facts (most := most) (by omega) h.known o
  have g := mk1_grow (res := res) h.grow h.cap ho
  have hl := h.len
  refine ⟨g.1, g.2, by omega, by simp; omega, fun y hy => ?_⟩
  rcases List.mem_append.1 hy with hy | hy
  · have := h.known y hy
    have := f1.length_le
    omega
  · rw [List.mem_singleton] at hy
    subst hy
    exact f3
theorem BldOK.init (hm : 0 ≤ most) : BldOK most [] [0] 0 := ⟨.nil, by simpa using hm, Nat.le_refl _, rfl, fun y hy => by
  rw [List.mem_singleton] at hy
  subst hy
  exact ⟨Int.le_refl _, Int.le_refl _⟩⟩
theorem bldF_ok : ∀ (ops : List MakeT) (T : List ET) (res : List Int) (n : Nat), BldOK most T res n → (∀ o ∈ ops, MakeOK o) → BldOK most (bldF most T res ops).1 (bldF most T res ops).2 (n + ops.length)
  | [], _, _, _, h, _ => h
  | o :: ops, T, res, n, h, ho => by
    have := bldF_ok ops _ _ _ (h.step (ho o (by simp))) fun o' ho' => ho o' (by simp [ho'])
    rw [List.length_cons, show n + (ops.length + 1) = n + 1 + ops.length by omega]
    exact this
theorem bld_ok (hm : 0 ≤ most) {ops : List MakeT} (ho : ∀ o ∈ ops, MakeOK o) : BldOK most (bld most ops).1 (bld most ops).2 ops.length := by
  have := bldF_ok ops _ _ _ (BldOK.init hm) ho
  rwa [Nat.zero_add] at this

theorem ref12_One_spec {o : MakeT} {rs : Sl} (ho : MakeOK o) (g : Grow T) (h1 : 1 ≤ res.length) (hN : res.length ≤ 1000000) (hk : KnownAll T res) (hl : T.length < 1048576) (hm : (T.length : Int) < most) (s : Sp w0 Ω w) (i : Nat) (hi : Ω[i]? = some (own (.int .i64) rs res)) (j : Nat) (hj : Ω[j]? = some (rf2 m T)) {K : yevergreenref12_Store.T × Int → World → Prop}
    (h : ∀ m' w', Sp w0 (rf2 m' (mk1 most T res o).1 :: Ω) w' → K (m', (mk1 most T res o).2) w') : C_ref12_One m o rs K w := by
  apply S_ref12_One
  unfold F_ref12_One
  have hlen := (s.view i hi).len
  obtain ⟨k1, e1, hg1, hm1⟩ := rsAt_get h1 (mLeft o)
  obtain ⟨k2, e2, hg2, hm2⟩ := rsAt_get h1 (mRight o)
  have bl := hk _ hm1
  have br := hk _ hm2
  have hkl : known T (rsAt res (mLeft o)) = true := decide_eq_true bl
  have hkr : known T (rsAt res (mRight o)) = true := decide_eq_true br
  have hp1 : mk1 most T res o = if pickN (mKind o) 4 = 0 then ((pLetter T most (mLet o)).1, (pLetter T most (mLet o)).2.1)
    else if pickN (mKind o) 4 = 3 then ((pPower T most (rsAt res (mLeft o)) (if mTimes o < 0 then 0 else mTimes o)).1, (pPower T most (rsAt res (mLeft o)) (if mTimes o < 0 then 0 else mTimes o)).2.1)
    else ((pPair T most (rsAt res (mLeft o)) (rsAt res (mRight o))).1, (pPair T most (rsAt res (mLeft o)) (rsAt res (mRight o))).2.1) := rfl
  refine s.allocK fun a1 w1 s => s.allocK fun a2 w2 s => s.allocK fun a3 w3 s => s.ldi (x := mLeft o) 1 2 rfl rfl (ref12_Pick_eq (by omega) (by omega) ?_)
  rw [show ((rs.len : Nat) : Int) = (res.length : Int) by omega]
  refine (s.view (i + 3) hi).idx e1 hg1 rfl fun q1 hq1 => ⟨_, hq1, s.ldi (x := mRight o) 1 3 rfl rfl (ref12_Pick_eq (by omega) (by omega) ?_)⟩
  refine (s.view (i + 3) hi).idx e2 hg2 rfl fun q2 hq2 => ⟨_, hq2, s.ldi (x := mKind o) 1 0 rfl rfl (ref12_Pick_eq (by decide) (by decide) ?_)⟩
  generalize rsAt res (mLeft o) = l at *
  generalize rsAt res (mRight o) = r at *
  have same : ∀ (x : Int), mk1 most T res o = (T, x) → ∀ w', Sp w0 (cel a3 (cells yevergreenref12_Store m) :: cel a2 (cells yevergreenref12_Make o) :: cel a1 (cells yevergreenref12_Store m) :: Ω) w' → K (m, x) w' := fun x e w' s => by
    rw [e] at h
    exact h _ _ ((s.drop 3).dup j hj rfl)
  refine gd_eq (fun c0 => ?_) (fun c0 => gd_eq (fun c3 => ?_) (fun c3 => ?_))
  · rw [if_pos c0] at hp1
    rw [hp1] at h
    refine s.ld0 (ty := yevergreenref12_Store) (x := m) 2 rfl rfl (s.ldi (x := mLet o) 1 1 rfl rfl (ref12_Add_spec (e := mkLetter (mLet o)) (wLetter_len _).symm s (j + 3) hj hl hm fun m' w4 s => s.st0 1 rfl rfl rfl fun w5 s => s.ld0 (ty := yevergreenref12_Store) (x := m') 1 rfl rfl ?_))
    exact h _ _ (s.pick [0] 4 rfl (by decide))
  · rw [if_neg c0, if_pos c3] at hp1
    obtain ⟨wx, dx0, dx1, px⟩ := g.at_ bl.1 bl.2
    have wxl := wx.len
    have hb : 0 ≤ 1152921504606846976 / (eAt T l).2.1.1 ∧ 1152921504606846976 / (eAt T l).2.1.1 ≤ 1152921504606846976 := ⟨Int.ediv_nonneg (by decide) (by omega), Int.ediv_le_self _ (by decide)⟩
    refine s.ld0 (ty := yevergreenref12_Store) (x := m) 2 rfl rfl (ref12_Length_spec s (j + 3) hj hkl (by omega) fun w4 s => ?_)
    have hk0 : known T l = false ∨ (if mTimes o < 0 then 0 else mTimes o) < 0 ↔ False := by
      rw [hkl]
      constructor
      · rintro (h | h)
        · cases h
        · split at h <;> omega
      · intro h; exact h.elim
    refine ⟨fun y v => y.1 = decide (l = 0 ∨ mTimes o ≤ 0 ∨ 1152921504606846976 < (eAt T l).2.1.1 * mTimes o) ∧ Sp w0 (cel a3 [.slice none 0 0, .slice none 0 0] :: cel a2 (cells yevergreenref12_Make o) :: cel a1 (cells yevergreenref12_Store m) :: Ω) v, ?_, ?_⟩
    · refine s.drawK fun w5 s => gd_eq (fun q1 => ⟨(decide_eq_true (Or.inl q1)).symm, s⟩) (fun q1 => s.ldi (x := mTimes o) 1 4 rfl rfl (gd_dec (fun q2 => ⟨(decide_eq_true (Or.inr (Or.inl q2))).symm, s⟩) (fun q2 => s.ldi (x := mTimes o) 1 4 rfl rfl ?_)))
      have hpos := px (by omega)
      have hd : Int.tdiv 1152921504606846976 (eAt T l).2.1.1 = 1152921504606846976 / (eAt T l).2.1.1 := Int.tdiv_eq_ediv_of_nonneg (by decide)
      have hiff : 1152921504606846976 / (eAt T l).2.1.1 < mTimes o ↔ 1152921504606846976 < (eAt T l).2.1.1 * mTimes o := by
        rw [Int.mul_comm]; exact Int.ediv_lt_iff_lt_mul (by omega)
      refine ⟨by omega, ?_⟩
      rw [hd]
      refine arith_i64 (by omega) (by omega) ⟨decide_eq_decide.2 ?_, s⟩
      rw [hiff]
      constructor
      · intro h; exact Or.inr (Or.inr h)
      · rintro (h | h | h)
        · exact absurd h q1
        · exact absurd h q2
        · exact h
    rintro ⟨y, _⟩ w5 ⟨hy, s⟩ _
    dsimp only at hy ⊢
    subst hy
    refine gd_dec (fun q => ?_) (fun q => ?_)
    · have hp : mk1 most T res o = (T, 0) := by
        rw [hp1]
        unfold pPower
        rw [if_neg (fun h => hk0.1 h)]
        by_cases q0 : (if mTimes o < 0 then (0 : Int) else mTimes o) = 0 ∨ l = 0
        · rw [if_pos q0]
        · have hl0 : l ≠ 0 := fun h => q0 (Or.inr h)
          have ht : 0 < mTimes o := by
            by_cases c : mTimes o < 0
            · exact absurd (Or.inl (if_pos c)) q0
            · rw [if_neg c] at q0
              have : mTimes o ≠ 0 := fun h => q0 (Or.inl h)
              omega
          have hgt : 1152921504606846976 < (eAt T l).2.1.1 * mTimes o := by
            rcases q with q | q | q
            · exact absurd q hl0
            · omega
            · exact q
          rw [if_neg q0, if_neg (show ¬ mTimes o < 0 by omega), if_neg (fun h => by rw [h, Int.mul_one] at hgt; omega), if_pos hgt]
      exact s.ld0 (ty := yevergreenref12_Store) (x := m) 2 rfl rfl (s.st0 0 rfl rfl rfl fun w6 s => s.ld0 (ty := yevergreenref12_Store) (x := m) 0 rfl rfl (same _ hp _ s))
    · have hl0 : l ≠ 0 := fun h => q (Or.inl h)
      have ht : 0 < mTimes o := by
        rcases Int.lt_or_le 0 (mTimes o) with h | h
        · exact h
        · exact absurd (Or.inr (Or.inl h)) q
      have hle : ¬ 1152921504606846976 < (eAt T l).2.1.1 * mTimes o := fun h => q (Or.inr (Or.inr h))
      have hpos := px (by omega)
      have hnn : 0 ≤ (eAt T l).2.1.1 * mTimes o := Int.mul_nonneg (by omega) (by omega)
      rw [if_neg (show ¬ mTimes o < 0 by omega)] at hp1 hk0
      refine s.ldi (x := mTimes o) 1 4 rfl rfl (gd_eq (fun q1 => ?_) (fun q1 => ?_))
      · have hp : mk1 most T res o = (T, l) := by
          rw [hp1]
          unfold pPower
          rw [if_neg (fun h => hk0.1 h), if_neg (by omega), if_pos q1]
        exact s.ld0 (ty := yevergreenref12_Store) (x := m) 2 rfl rfl (s.st0 0 rfl rfl rfl fun w6 s => s.ld0 (ty := yevergreenref12_Store) (x := m) 0 rfl rfl (same _ hp _ s))
      · have hp : mk1 most T res o = ((pAdd T most (mkPower T l (mTimes o))).1, (pAdd T most (mkPower T l (mTimes o))).2.1) := by
          rw [hp1]
          unfold pPower
          rw [if_neg (fun h => hk0.1 h), if_neg (by omega), if_neg q1, if_neg hle]
        rw [hp] at h
        refine s.ld0 (ty := yevergreenref12_Store) (x := m) 2 rfl rfl (s.ldi (x := mTimes o) 1 4 rfl rfl (s.ldi (x := mTimes o) 1 4 rfl rfl (arith_i64 (by omega) (by omega) ?_)))
        refine ref12_Add_spec (e := mkPower T l (mTimes o)) (wRep_len _ _).symm s (j + 3) hj hl hm fun m' w6 s => s.st0 1 rfl rfl rfl fun w7 s => s.ld0 (ty := yevergreenref12_Store) (x := m') 1 rfl rfl ?_
        exact h _ _ (s.pick [0] 4 rfl (by decide))
  · rw [if_neg c0, if_neg c3] at hp1
    have hu : ¬ (known T l = false ∨ known T r = false) := by rw [hkl, hkr]; simp
    refine gd_eq (fun q1 => ?_) (fun q1 => gd_eq (fun q2 => ?_) (fun q2 => ?_))
    · have hp : mk1 most T res o = (T, r) := by rw [hp1]; unfold pPair; rw [if_neg hu, if_pos q1]
      exact s.ld0 (ty := yevergreenref12_Store) (x := m) 2 rfl rfl (s.st0 0 rfl rfl rfl fun w6 s => s.ld0 (ty := yevergreenref12_Store) (x := m) 0 rfl rfl (same _ hp _ s))
    · have hp : mk1 most T res o = (T, l) := by rw [hp1]; unfold pPair; rw [if_neg hu, if_neg q1, if_pos q2]
      exact s.ld0 (ty := yevergreenref12_Store) (x := m) 2 rfl rfl (s.st0 0 rfl rfl rfl fun w6 s => s.ld0 (ty := yevergreenref12_Store) (x := m) 0 rfl rfl (same _ hp _ s))
    have wll := (g.at_ bl.1 bl.2).1.len
    have wrl := (g.at_ br.1 br.2).1.len
    refine s.drawK fun w4 s => s.ld0 (ty := yevergreenref12_Store) (x := m) 2 rfl rfl (s.ld0 (ty := yevergreenref12_Store) (x := m) 2 rfl rfl ?_)
    refine ref12_Length_spec s (j + 3) hj hkl (by omega) fun w5 s => ⟨s.at_ 2 rfl, ref12_Length_spec s (j + 3) hj hkr (by omega) fun w6 s => arith_i64 (by omega) (by omega) (gd_dec (fun q3 => ?_) (fun q3 => ?_))⟩
    · have hp : mk1 most T res o = (T, 0) := by rw [hp1]; unfold pPair; rw [if_neg hu, if_neg q1, if_neg q2, if_pos (by omega)]
      exact s.ld0 (ty := yevergreenref12_Store) (x := m) 2 rfl rfl (s.st0 0 rfl rfl rfl fun w6 s => s.ld0 (ty := yevergreenref12_Store) (x := m) 0 rfl rfl (same _ hp _ s))
    · have hp : mk1 most T res o = ((pAdd T most (mkPair T l r)).1, (pAdd T most (mkPair T l r)).2.1) := by rw [hp1]; unfold pPair; rw [if_neg hu, if_neg q1, if_neg q2, if_neg (by omega)]
      rw [hp] at h
      refine s.drawK fun w7 s => s.ld0 (ty := yevergreenref12_Store) (x := m) 2 rfl rfl (s.ld0 (ty := yevergreenref12_Store) (x := m) 2 rfl rfl (s.ld0 (ty := yevergreenref12_Store) (x := m) 2 rfl rfl ?_))
      refine ref12_Length_spec s (j + 3) hj hkl (by omega) fun w5 s => ⟨s.at_ 2 rfl, s.at_ 2 rfl, ref12_Length_spec s (j + 3) hj hkr (by omega) fun w6 s => ⟨s.at_ 2 rfl, arith_i64 (by omega) (by omega) ?_⟩⟩
      refine ref12_Add_spec (e := mkPair T l r) rfl s (j + 3) hj hl hm fun m' w6 s => s.st0 1 rfl rfl rfl fun w7 s => s.ld0 (ty := yevergreenref12_Store) (x := m') 1 rfl rfl ?_
      exact h _ _ (s.pick [0] 4 rfl (by decide))

end Go.Proofs.Ytnmgjpcooncjlaa

/- Build, of the specification (evergreenref12) and of the layer (evergreenlaw12): the walks. -/
set_option linter.unusedVariables false
set_option linter.unusedSimpArgs false
namespace Go.Proofs.Ytnmgjpcooncjlaa
open Go.Den

variable {w0 w : World} {Ω : List Ob} {most : Int} {T : List ET} {res : List Int} {i j : Nat} {m : yevergreenref12_Store.T} {p : Addr}

theorem take_snoc {α : Type} {l : List α} {n : Nat} (h : n < l.length) : l.take (n + 1) = l.take n ++ [l[n]] := by
  rw [List.take_add_one, List.getElem?_eq_getElem h]; rfl
theorem bld_take {ops : List MakeT} {n : Nat} (h : n < ops.length) : bld most (ops.take (n + 1)) = ((mk1 most (bld most (ops.take n)).1 (bld most (ops.take n)).2 ops[n]).1, (bld most (ops.take n)).2 ++ [(mk1 most (bld most (ops.take n)).1 (bld most (ops.take n)).2 ops[n]).2]) := by
  rw [take_snoc h, bld_snoc]
theorem bld_take_ok (hm : 0 ≤ most) {ops : List MakeT} (ho : ∀ o ∈ ops, MakeOK o) {n : Nat} (hn : n ≤ ops.length) : BldOK most (bld most (ops.take n)).1 (bld most (ops.take n)).2 n := by
  have := bld_ok (most := most) hm (ops := ops.take n) fun o h => ho o (List.mem_of_mem_take h)
  rwa [List.length_take, Nat.min_eq_left hn] at this
theorem bld_at {ops : List MakeT} (hm : 0 ≤ most) (ho : ∀ o ∈ ops, MakeOK o) {n : Nat} (h : n < ops.length) : (bld most ops).2[n + 1]? = some (mk1 most (bld most (ops.take n)).1 (bld most (ops.take n)).2 ops[n]).2 := by
  have hp := bld_pre (most := most) (ops.take (n + 1)) (ops.drop (n + 1))
  rw [List.take_append_drop] at hp
  obtain ⟨s, hs⟩ := hp
  have hc := (bld_take_ok (most := most) hm ho (n := n) (by omega)).cnt
  rw [← hs, bld_take h]
  dsimp only
  rw [List.getElem?_append_left (by simp; omega), List.getElem?_append_right (by omega), hc]
  simp

theorem ref12_Build_spec {sl : Sl} {ops : List MakeT} (s : Sp w0 Ω w) (hv : View yevergreenref12_Make w0 sl ops) (ho : ∀ o ∈ ops, MakeOK o) (hN : ops.length ≤ 900000) (hm : (ops.length : Int) < most) {K : yevergreenref12_Store.T × Sl → World → Prop}
    (h : ∀ m rs w', Sp w0 (own (.int .i64) rs (bld most ops).2 :: rf2 m (bld most ops).1 :: Ω) w' → K (m, rs) w') : C_ref12_Build sl K w := by
  apply S_ref12_Build
  unfold F_ref12_Build
  have hlen := hv.len
  refine s.allocK fun a1 w1 s => s.allocK fun a2 w2 s => s.st0 0 rfl rfl rfl fun w3 s => s.allocK fun a3 w4 s => ?_
  refine loop_by (fun x => x.2.1) ops.length (fun n x w => ∃ m, Sp w0 (own (.int .i64) x.1 (bld most (ops.take n)).2 :: rf2 m (bld most (ops.take n)).1 :: cel a2 (cells yevergreenref12_Store m) :: cel a1 [.slice none 0 0, .slice none 0 0] :: Ω) w) rfl ⟨((⟨none, 0, 0⟩ : Sl), (⟨none, 0, 0⟩ : Sl)), ?_⟩ ?_
  · have s' := Sp.rf20 (s.lit (ty := .int .i64) 0 rfl [(0 : Int)] 1 rfl rfl)
    exact s'.pick [1, 0] 2 rfl (by decide)
  rintro n ⟨rs, x, _⟩ w5 hn hx ⟨m, s⟩ _
  dsimp only at hx s ⊢
  subst hx
  refine gd_dec (fun hlt => ?_) (fun hge => ?_)
  rotate_left
  · have e : n = ops.length := by omega
    subst e
    rw [List.take_length] at s
    exact s.ld0 (ty := yevergreenref12_Store) (x := m) 2 rfl rfl (s.st0 3 rfl rfl rfl fun w6 s => s.ld0 (ty := yevergreenref12_Store) (x := m) 3 rfl rfl (h m rs _ (s.pick [0, 1] 4 rfl (by decide))))
  have hn' : n < ops.length := by omega
  have hget := List.getElem?_eq_getElem hn'
  have hok := ho _ (List.getElem_mem hn')
  have hb := bld_take_ok (most := most) (by omega) ho hn
  have hnext := bld_take (most := most) hn'
  generalize ops[n] = o at hget hok hnext
  generalize (bld most (ops.take n)).1 = T at *
  generalize (bld most (ops.take n)).2 = res at *
  have hc := hb.cnt
  have hT := hb.len
  refine ⟨fun x w => ∃ b m', x.1 = ⟨b, 0, none⟩ ∧ x.2.1 = (mk1 most T res o).2 ∧ Sp w0 (cel b (cells yevergreenref12_Store m') :: rf2 m' (mk1 most T res o).1 :: own (.int .i64) rs res :: cel a2 (cells yevergreenref12_Store m) :: cel a1 [.slice none 0 0, .slice none 0 0] :: Ω) w, ?_, ?_⟩
  · refine s.drawK fun w6 s => s.ld0 (ty := yevergreenref12_Store) (x := m) 2 rfl rfl ((hv.ext s.ext).idx2 rfl hget rfl fun q hq => ⟨o, hq _ (hv.ext s.ext), ?_, ?_⟩)
    · refine ref12_One_spec hok hb.grow (by omega) (by omega) hb.known (by omega) (by omega) s 0 rfl 1 rfl fun m' w7 s => s.allocK fun b w8 s => s.st0 0 rfl rfl rfl fun w9 s => ⟨b, m', rfl, rfl, s.pick [0, 1, 2, 4, 5] 6 rfl (by decide)⟩
    · refine s.allocK fun b w7 s => ⟨hq _ (hv.ext s.ext), s.at_ 3 rfl, ref12_One_spec hok hb.grow (by omega) (by omega) hb.known (by omega) (by omega) s 1 rfl 2 rfl fun m' w7 s => s.st0 1 rfl rfl rfl fun w9 s => ⟨b, m', rfl, rfl, s.pick [1, 0, 2, 4, 5] 6 rfl (by decide)⟩⟩
  rintro ⟨_, id, _⟩ w6 ⟨b, m', hb1, hb2, s⟩ _
  dsimp only at hb1 hb2 ⊢
  subst hb1 hb2
  refine s.ld0 (ty := yevergreenref12_Store) (x := m') 0 rfl rfl (s.st0 3 rfl rfl rfl fun w7 s => s.allocK fun a16 w8 s => s.app 3 rfl ((s.lit (ty := .int .i64) 0 rfl [(mk1 most T res o).2] 1 rfl rfl).view 0 rfl) (by simp only [List.length_cons, List.length_nil]; omega) fun s17 w9 s => arith_i64 (by omega) (by omega) (loop_nx hn' ⟨m', ?_⟩))
  rw [hnext]
  exact s.pick [3, 2, 4, 5] 6 rfl (by decide)

theorem law12_Build_spec {sl : Sl} {ops : List MakeT} (s : Sp w0 Ω w) (i : Nat) (hi : Ω[i]? = some (sto p most [])) (hv : View yevergreenref12_Make w0 sl ops) (ho : ∀ o ∈ ops, MakeOK o) (hN : ops.length ≤ 900000) (hm : (ops.length : Int) < most) {K : Sl × Bool → World → Prop}
    (h : ∀ rs w', Sp w0 (own (.int .i64) rs (bld most ops).2 :: Ω.set i (sto p most (bld most ops).1)) w' → K (rs, true) w') : C_law12_Build (some p) sl K w := by
  apply S_law12_Build
  unfold F_law12_Build
  have hlen := hv.len
  refine ref12_Build_spec s hv ho hN hm fun m ws w1 s => s.allocK fun a2 w2 s => s.st0 0 rfl rfl rfl fun w3 s => s.allocK fun a3 w4 s => ?_
  have hli : i < Ω.length := (List.getElem?_eq_some_iff.1 hi).1
  refine loop_by (fun x => x.2.1) ops.length (fun n x w => Sp w0 (own (.int .i64) x.1 (bld most (ops.take n)).2 :: own (.int .i64) ws (bld most ops).2 :: Ω.set i (sto p most (bld most (ops.take n)).1)) w) rfl ?_ ?_
  · have hs : Ω.set i (sto p most (bld most (ops.take 0)).1) = Ω := setSame hi
    dsimp only
    rw [hs]
    exact (s.lit (ty := .int .i64) 0 rfl [(0 : Int)] 1 rfl rfl).pick [0, 2] 4 rfl (by decide)
  rintro n ⟨rs, x, _⟩ w5 hn hx s _
  dsimp only at hx s ⊢
  subst hx
  refine gd_dec (fun hlt => ?_) (fun hge => ?_)
  rotate_left
  · have e : n = ops.length := by omega
    subst e
    rw [List.take_length] at s
    exact h rs _ (s.pick [0] 2 rfl (by decide))
  have hn' : n < ops.length := by omega
  have hget := List.getElem?_eq_getElem hn'
  have hok := ho _ (List.getElem_mem hn')
  have hb := bld_take_ok (most := most) (by omega) ho hn
  have hnext := bld_take (most := most) hn'
  have hat := bld_at (most := most) (by omega) ho hn'
  generalize ops[n] = o at hget hok hnext hat
  generalize (bld most (ops.take n)).1 = T at *
  generalize (bld most (ops.take n)).2 = res at *
  have hc := hb.cnt
  have hT := hb.len
  have hrl := (s.view 0 rfl).len
  have hi' : ∀ X, (Ω.set i X)[i]? = some X := fun X => by rw [List.getElem?_set]; simp [hli]
  obtain ⟨k1, e1, hg1, hm1⟩ := rsAt_get (show 1 ≤ res.length by omega) (mLeft o)
  obtain ⟨k2, e2, hg2, hm2⟩ := rsAt_get (show 1 ≤ res.length by omega) (mRight o)
  have hp1 : mk1 most T res o = if pickN (mKind o) 4 = 0 then ((pLetter T most (mLet o)).1, (pLetter T most (mLet o)).2.1)
    else if pickN (mKind o) 4 = 3 then ((pPower T most (rsAt res (mLeft o)) (if mTimes o < 0 then 0 else mTimes o)).1, (pPower T most (rsAt res (mLeft o)) (if mTimes o < 0 then 0 else mTimes o)).2.1)
    else ((pPair T most (rsAt res (mLeft o)) (rsAt res (mRight o))).1, (pPair T most (rsAt res (mLeft o)) (rsAt res (mRight o))).2.1) := rfl
  refine (hv.ext s.ext).idx rfl hget rfl fun q hq => ⟨o, hq, s.allocK fun a8 w6 s => s.st0 0 rfl rfl rfl fun w7 s => s.drawK fun w8 s => s.ldi (x := mLeft o) 0 2 rfl rfl (s.ldi (x := mRight o) 0 3 rfl rfl (ref12_Pick_eq (by omega) (by omega) ⟨s.still 0 3 rfl rfl, ?_⟩))⟩
  rw [show ((rs.len : Nat) : Int) = (res.length : Int) by omega]
  refine (s.view 1 rfl).idx2 e1 hg1 rfl fun q1 hq1 => ⟨_, hq1 _ (s.view 1 rfl), ref12_Pick_eq (by omega) (by omega) ⟨hq1 _ (s.view 1 rfl), ?_⟩⟩
  refine (s.view 1 rfl).idx e2 hg2 rfl fun q2 hq2 => ⟨_, hq2, ?_⟩
  generalize rsAt res (mLeft o) = l at *
  generalize rsAt res (mRight o) = r at *
  refine ⟨fun x w => x.1 = (mk1 most T res o).2 ∧ Sp w0 (cel a8 (cells yevergreenref12_Make o) :: own (.int .i64) rs res :: own (.int .i64) ws (bld most ops).2 :: Ω.set i (sto p most (mk1 most T res o).1)) w, ?_, ?_⟩
  · refine s.ldi (x := mKind o) 0 0 rfl rfl (ref12_Pick_eq (by decide) (by decide) ?_)
    have hss : ∀ X Y : Ob, (Ω.set i X).set i Y = Ω.set i Y := fun X Y => List.set_set ..
    refine gd_eq (fun c0 => ?_) (fun c0 => gd_eq (fun c3 => ?_) (fun c3 => ?_))
    · rw [if_pos c0] at hp1
      rw [hp1]
      refine s.ldi (x := mLet o) 0 1 rfl rfl (intern_Letter_sp s (i + 3) (hi' _) hok.b fun w9 s => ⟨rfl, ?_⟩)
      rw [← hss (sto p most T)]
      exact s
    · rw [if_neg c0, if_pos c3] at hp1
      rw [hp1]
      refine s.ldi (x := mTimes o) 0 4 rfl rfl (intern_Power_sp s (i + 3) (hi' _) (by have := hok.k; split <;> omega) fun w9 s => ⟨rfl, ?_⟩)
      rw [← hss (sto p most T)]
      exact s
    · rw [if_neg c0, if_neg c3] at hp1
      rw [hp1]
      refine intern_Pair_sp s (i + 3) (hi' _) fun w9 s => ⟨rfl, ?_⟩
      rw [← hss (sto p most T)]
      exact s
  rintro ⟨id, _⟩ w9 ⟨hid, s⟩ _
  dsimp only at hid ⊢
  subst hid
  refine arith_i64 (by omega) (by omega) ((s.view 2 rfl).idx (n := n + 1) (by omega) hat rfl fun q3 hq3 => ⟨_, hq3, gd_f (by simp) (s.allocK fun a29 w10 s => s.app 2 rfl ((s.lit (ty := .int .i64) 0 rfl [(mk1 most T res o).2] 1 rfl rfl).view 0 rfl) (by simp only [List.length_cons, List.length_nil]; omega) fun s30 w11 s => arith_i64 (by omega) (by omega) (loop_nx hn' ?_))⟩)
  rw [hnext]
  exact s.drop 2

end Go.Proofs.Ytnmgjpcooncjlaa

/- law51: what the statements begin with, in plain lists: parents, commits, names. -/
set_option linter.unusedVariables false
set_option linter.unusedSimpArgs false
namespace Go.Proofs.Ytnmgjpcooncjlaa
open Go.Den

/-! ### The parents of a commit -/
def pk (n : Nat) (acc : List Int) (p : Int) : List Int := if 0 < n ∧ acc.length < 8 then (if pickN p n ∈ acc then acc else acc ++ [pickN p n]) else acc
def parsOf (n : Nat) (ps : List Int) : List Int := ps.foldl (pk n) []
def PO (n : Nat) (acc : List Int) : Prop := acc.length ≤ 8 ∧ acc.Nodup ∧ ∀ q ∈ acc, 0 ≤ q ∧ q < (n : Int)
theorem PO.step {n : Nat} {acc : List Int} (h : PO n acc) (p : Int) : PO n (pk n acc p) := by
  unfold pk
  by_cases c : 0 < n ∧ acc.length < 8
  · rw [if_pos c]
    by_cases c2 : pickN p n ∈ acc
    · rw [if_pos c2]; exact h
    · rw [if_neg c2]
      refine ⟨by rw [List.length_append]; simp only [List.length_cons, List.length_nil]; omega, ?_, fun q hq => ?_⟩
      · rw [List.nodup_append]
        exact ⟨h.2.1, by simp, fun x hx y hy => by simp at hy; subst hy; exact fun e => c2 (e ▸ hx)⟩
      · rcases List.mem_append.1 hq with hq | hq
        · exact h.2.2 q hq
        · simp at hq
          subst hq
          exact pickN_bound (by omega)
  · rw [if_neg c]; exact h
theorem parsOf_ok (n : Nat) (ps : List Int) : PO n (parsOf n ps) := by
  have key : ∀ (ps acc : List Int), PO n acc → PO n (ps.foldl (pk n) acc) := by
    intro ps
    induction ps with
    | nil => intro acc h; exact h
    | cons p ps ih => intro acc h; exact ih _ (h.step p)
  exact key ps [] ⟨by simp, List.nodup_nil, by simp⟩
theorem parsOf_take {n k : Nat} {ps : List Int} {p : Int} (h : ps[k]? = some p) : parsOf n (ps.take (k + 1)) = pk n (parsOf n (ps.take k)) p := by
  unfold parsOf
  rw [List.take_add_one, h, Option.toList_some, List.foldl_append]; rfl

/-! ### Commits -/
abbrev IC := List Int × Int
def cAt (res : List Int) (k : Nat) (x : IC) : CT := (parsOf k x.1, rsAt res x.2, nameB k)
def CB (res : List Int) (ic : List IC) (n : Nat) : List CT := (List.range n).map fun k => cAt res k (ic.getD k ([], 0))
theorem CB_len (res : List Int) (ic : List IC) (n : Nat) : (CB res ic n).length = n := by simp [CB]
theorem CB_succ {res : List Int} {ic : List IC} {n : Nat} {x : IC} (h : ic[n]? = some x) : CB res ic (n + 1) = CB res ic n ++ [cAt res n x] := by
  unfold CB
  rw [List.range_succ, List.map_append, List.map_singleton, List.getD_eq_getElem?_getD, h]; rfl
theorem CB_get {res : List Int} {ic : List IC} {n k : Nat} (h : k < n) : (CB res ic n)[k]? = some (cAt res k (ic.getD k ([], 0))) := by
  unfold CB
  rw [List.getElem?_map, List.getElem?_range h]; rfl
theorem CB_wf (res : List Int) (ic : List IC) (n : Nat) : WFC (CB res ic n) := fun k d hd => by
  have hk := (List.getElem?_eq_some_iff.1 hd).1
  rw [CB_len] at hk
  rw [CB_get hk] at hd
  cases hd
  have := parsOf_ok k (ic.getD k ([], 0)).1
  exact ⟨this.1, this.2.2⟩
theorem cAt_ok {T : List ET} {res : List Int} (h1 : 1 ≤ res.length) (hk : KnownAll T res) (n : Nat) (x : IC) : AddOK n (cAt res n x) := by
  have h := parsOf_ok n x.1
  refine ⟨h.1, ?_, ?_, h.2.2, h.2.1⟩
  · show (nameB n).size ≤ 200
    have : (nameB n).size = 3 := bstr_size _
    omega
  · obtain ⟨_, _, _, hm⟩ := rsAt_get h1 x.2
    exact (hk _ hm).1

/-! ### Names -/
abbrev IN := Bool × Int
def toN (N : Nat) (x : IN) : Int := pickN x.2 N
def mN (N : Nat) (ns : List IN) (n : Nat) : List (ByteArray × TG) := (List.range n).map fun i => (nameB i, (toN N (ns.getD i (false, 0)), (ns.getD i (false, 0)).1))
def tN (N : Nat) (ns : List IN) (n : Nat) : List (Ty.int .i64).T := (List.range n).map fun i => toN N (ns.getD i (false, 0))
def wN (n : Nat) : List Ty.str.T := (List.range n).map nameB
theorem mN_len (N : Nat) (ns : List IN) (n : Nat) : (mN N ns n).length = n := by simp [mN]
theorem tN_len (N : Nat) (ns : List IN) (n : Nat) : (tN N ns n).length = n := by simp [tN]
theorem wN_len (n : Nat) : (wN n).length = n := by simp [wN]
theorem mN_succ {N : Nat} {ns : List IN} {n : Nat} {x : IN} (h : ns[n]? = some x) : mN N ns (n + 1) = mN N ns n ++ [(nameB n, (toN N x, x.1))] := by
  unfold mN
  rw [List.range_succ, List.map_append, List.map_singleton, List.getD_eq_getElem?_getD, h]; rfl
theorem tN_succ {N : Nat} {ns : List IN} {n : Nat} {x : IN} (h : ns[n]? = some x) : tN N ns (n + 1) = tN N ns n ++ [toN N x] := by
  unfold tN
  rw [List.range_succ, List.map_append, List.map_singleton, List.getD_eq_getElem?_getD, h]; rfl
theorem wN_succ (n : Nat) : wN (n + 1) = wN n ++ [nameB n] := by
  unfold wN
  rw [List.range_succ, List.map_append, List.map_singleton]
theorem tN_mem (N : Nat) (ns : List IN) (n : Nat) (z : Int) : z ∈ tN N ns n ↔ ∃ p ∈ mN N ns n, p.2.1 = z := by
  unfold tN mN
  simp only [List.mem_map]
  constructor
  · rintro ⟨i, hi, rfl⟩
    exact ⟨_, ⟨i, hi, rfl⟩, rfl⟩
  · rintro ⟨_, ⟨i, hi, rfl⟩, rfl⟩
    exact ⟨i, hi, rfl⟩
theorem tN_bound {N : Nat} (hN : 1 ≤ N) (ns : List IN) (n : Nat) : ∀ z : Int, z ∈ tN N ns n → 0 ≤ z ∧ z < (N : Int) := fun z hz => by
  unfold tN at hz
  obtain ⟨i, _, rfl⟩ := List.mem_map.1 hz
  exact pickN_bound (by omega)
theorem mN_new (N : Nat) (ns : List IN) {n : Nat} (hn : n < 100) : atS? (mN N ns n) (nameB n) = none := by
  rw [atS_none]
  intro h
  obtain ⟨p, hp, e⟩ := List.mem_map.1 h
  unfold mN at hp
  obtain ⟨i, hi, rfl⟩ := List.mem_map.1 hp
  have hi := List.mem_range.1 hi
  have := nameB_inj (by omega) hn e
  omega
theorem mupdS_new {α : Type} : ∀ {m : List (ByteArray × α)} {x : ByteArray} {v : α}, atS? m x = none → mupdS m x v = m ++ [(x, v)]
  | [], _, _, _ => rfl
  | p :: m, x, v, h => by
    simp only [atS?] at h
    split at h
    · cases h
    · rename_i hne
      simp only [mupdS, if_neg hne, mupdS_new h, List.cons_append]
theorem mdelS_snoc {α : Type} : ∀ {m : List (ByteArray × α)} {x : ByteArray} {v : α}, atS? m x = none → mdelS (m ++ [(x, v)]) x = m
  | [], x, v, _ => by simp [mdelS]
  | p :: m, x, v, h => by
    simp only [atS?] at h
    split at h
    · cases h
    · rename_i hne
      simp only [List.cons_append, mdelS, if_neg hne, mdelS_snoc h]
theorem atS_snoc {α : Type} : ∀ {m : List (ByteArray × α)} {x : ByteArray} {v : α}, atS? m x = none → atS? (m ++ [(x, v)]) x = some v
  | [], x, v, _ => by simp [atS?]
  | p :: m, x, v, h => by
    simp only [atS?] at h
    split at h
    · cases h
    · rename_i hne
      simp only [List.cons_append, atS?, if_neg hne, atS_snoc h]

end Go.Proofs.Ytnmgjpcooncjlaa

/- law51: the walk of begun. -/
set_option linter.unusedVariables false
set_option linter.unusedSimpArgs false
namespace Go.Proofs.Ytnmgjpcooncjlaa
open Go.Den

variable {w0 w : World} {Ω : List Ob}

/-- what an input's commits read -/
structure CmOK (w : World) (cms : List yevergreenlaw51_Commit.T) (ic : List IC) : Prop where
  len : cms.length = ic.length
  at_ : ∀ (k : Nat) (c : yevergreenlaw51_Commit.T), cms[k]? = some c → ∃ y, ic[k]? = some y ∧ View (.int .i64) w c.1 y.1 ∧ c.2 = y.2 ∧ y.1.length ≤ 90
def wld (p : Addr) (g t : Nat) (m : yevergreenref12_Store.T) (par tex nam tgt : Sl) : List Value :=
  [.pointer (some p), .pointer (some ⟨g, 0, none⟩), .pointer (some ⟨t, 0, none⟩), .slice m.1.a m.1.len m.1.cap, .slice m.2.a m.2.len m.2.cap, .slice par.a par.len par.cap, .slice tex.a tex.len tex.cap, .slice nam.a nam.len nam.cap, .slice tgt.a tgt.len tgt.cap]
def begO (p : Addr) (g t r a5 a1 : Nat) (x : yevergreenlaw51_Input.T) (m : yevergreenref12_Store.T) (T : List ET) (res : List (Ty.int .i64).T) (rs csl parSl texSl : Sl) (cts pts : List Sl) (cs : List CM) (C : List CT) (Ω : List Ob) : List Ob :=
  ivs cts (C.map fun x => x.1) :: cel g [.slice csl.a csl.len csl.cap] :: own yapi_Commit csl cs :: ivs pts (C.map fun x => x.1) :: own .slice parSl pts :: own (.int .i64) texSl (C.map fun x => x.2.1) :: cel a5 (wld p g t m parSl texSl ⟨none, 0, 0⟩ ⟨none, 0, 0⟩) :: cel t [.map (some r)] :: ms yrefs_target r [] :: own (.int .i64) rs res :: cel a1 (cells yevergreenlaw51_Input x) :: sto p 1000 T :: rf2 m T :: Ω
def begE (p : Addr) (g t r a5 a1 : Nat) (x : yevergreenlaw51_Input.T) (m : yevergreenref12_Store.T) (T : List ET) (res : List (Ty.int .i64).T) (rs csl parSl texSl namSl tgtSl : Sl) (cts pts : List Sl) (cs : List CM) (C : List CT) (ns : List IN) (k : Nat) (Ω : List Ob) : List Ob :=
  ivs cts (C.map fun x => x.1) :: cel g [.slice csl.a csl.len csl.cap] :: own yapi_Commit csl cs :: ivs pts (C.map fun x => x.1) :: own .slice parSl pts :: own (.int .i64) texSl (C.map fun x => x.2.1) :: cel a5 (wld p g t m parSl texSl namSl tgtSl) :: cel t [.map (some r)] :: ms yrefs_target r (mN C.length ns k) :: own (.int .i64) rs res :: cel a1 (cells yevergreenlaw51_Input x) :: sto p 1000 T :: rf2 m T :: own .str namSl (wN k) :: own (.int .i64) tgtSl (tN C.length ns k) :: Ω
theorem law51_begun_spec {x : yevergreenlaw51_Input.T} {ops : List MakeT} {cms : List yevergreenlaw51_Commit.T} {ic : List IC} {ns : List yevergreenlaw51_Name.T} (s : Sp w0 Ω w) (hvL : View yevergreenref12_Make w0 x.1 ops) (ho : ∀ o ∈ ops, MakeOK o) (hN : ops.length ≤ 90) (hvC : View yevergreenlaw51_Commit w0 x.2.1 cms) (hcm : CmOK w0 cms ic) (hcl : ic.length ≤ 90) (hvN : View yevergreenlaw51_Name w0 x.2.2 ns) (hnl : ns.length ≤ 90) {K : Option Addr × Bool → World → Prop}
    (h : ∀ (p : Addr) (g t r a5 a1 : Nat) (m : yevergreenref12_Store.T) (T : List ET) (res : List (Ty.int .i64).T) (rs csl parSl texSl namSl tgtSl : Sl) (pts : List Sl) (cs : List CM) (w' : World), BldOK 1000 T res ops.length → cs.map (fun x => x.2) = (CB res ic ic.length).map (fun x => x.2) →
      Sp w0 (begE p g t r a5 a1 x m T res rs csl parSl texSl namSl tgtSl (cs.map fun x => x.1) pts cs (CB res ic ic.length) ns (if ic.length = 0 then 0 else ns.length) Ω) w' → K (some ⟨a5, 0, none⟩, true) w') : C_law51_begun x K w := by
  apply S_law51_begun
  unfold F_law51_begun
  have hlC := hvC.len
  refine s.allocK fun a1 w1 s => intern_New_sp s fun p w2 s => history_New_spec s fun g w3 s => refs_New_spec s fun t r w4 s => s.allocK fun a5 w5 s => s.drawK fun w6 s => nonNil_some ?_
  have s : Sp w0 (cel a5 (wld p g t (⟨none, 0, 0⟩, ⟨none, 0, 0⟩) ⟨none, 0, 0⟩ ⟨none, 0, 0⟩ ⟨none, 0, 0⟩ ⟨none, 0, 0⟩) :: cel t [.map (some r)] :: ms yrefs_target r [] :: cel g [.slice none 0 0] :: own yapi_Commit ⟨none, 0, 0⟩ [] :: ivs [] [] :: sto p 1000 [] :: cel a1 (cells yevergreenlaw51_Input x) :: Ω) w6 := s
  refine s.ldp (x := some p) 0 0 rfl rfl (s.lds (x := x.1) 7 0 rfl rfl (law12_Build_spec s 6 rfl (hvL) ho (by omega) (by omega) fun rs w7 s => ?_))
  have s : Sp w0 (own (.int .i64) rs (bld 1000 ops).2 :: cel a5 (wld p g t (⟨none, 0, 0⟩, ⟨none, 0, 0⟩) ⟨none, 0, 0⟩ ⟨none, 0, 0⟩ ⟨none, 0, 0⟩ ⟨none, 0, 0⟩) :: cel t [.map (some r)] :: ms yrefs_target r [] :: cel g [.slice none 0 0] :: own yapi_Commit ⟨none, 0, 0⟩ [] :: ivs [] [] :: sto p 1000 (bld 1000 ops).1 :: cel a1 (cells yevergreenlaw51_Input x) :: Ω) w7 := s
  refine JoinP.inl (gd_f rfl (nonNil_some (s.ldp (x := some ⟨g, 0, none⟩) 1 1 rfl rfl (gd_f rfl (nonNil_some (s.ldp (x := some ⟨t, 0, none⟩) 1 2 rfl rfl ?_))))))
  intro _
  refine gd_f rfl (s.lds (x := x.1) 8 0 rfl rfl (ref12_Build_spec (most := 1000) s hvL ho (by omega) (by omega) fun m rs' w8 s => nonNil_some (s.st 3 3 rfl rfl rfl fun w9 s => ?_)))
  have s : Sp w0 (own (.int .i64) rs' (bld 1000 ops).2 :: rf2 m (bld 1000 ops).1 :: own (.int .i64) rs (bld 1000 ops).2 :: cel a5 (wld p g t m ⟨none, 0, 0⟩ ⟨none, 0, 0⟩ ⟨none, 0, 0⟩ ⟨none, 0, 0⟩) :: cel t [.map (some r)] :: ms yrefs_target r [] :: cel g [.slice none 0 0] :: own yapi_Commit ⟨none, 0, 0⟩ [] :: ivs [] [] :: sto p 1000 (bld 1000 ops).1 :: cel a1 (cells yevergreenlaw51_Input x) :: Ω) w9 := s
  have hb := bld_ok (most := 1000) (by decide) ho
  generalize (bld 1000 ops).1 = T at *
  generalize (bld 1000 ops).2 = res at *
  have hg := hb.grow
  have hkn := hb.known
  have hc := hb.cnt
  refine s.lds (x := x.2.1) 10 1 rfl rfl ?_
  have s := Sp.ivs0 ((s.nil .slice).nil (.int .i64))
  have s : Sp w0 (begO p g t r a5 a1 x m T res rs ⟨none, 0, 0⟩ ⟨none, 0, 0⟩ ⟨none, 0, 0⟩ [] [] [] [] Ω) w9 := s.pick [11, 9, 10, 0, 2, 1, 6, 7, 8, 5, 13, 12, 4] 14 rfl (by decide)
  refine loop_by (fun x => x.1) ic.length (fun n _ w => ∃ (csl parSl texSl : Sl) (cts pts : List Sl) (cs : List CM), cts = cs.map (fun x => x.1) ∧ cs.map (fun x => x.2) = (CB res ic n).map (fun x => x.2) ∧ Sp w0 (begO p g t r a5 a1 x m T res rs csl parSl texSl cts pts cs (CB res ic n) Ω) w) rfl ⟨⟨none, 0, 0⟩, ⟨none, 0, 0⟩, ⟨none, 0, 0⟩, [], [], [], rfl, rfl, s⟩ ?_
  rintro n ⟨x', _⟩ w10 hn hx ⟨csl, parSl, texSl, cts, pts, cs, hcts, hcs, s⟩ _
  dsimp only at hx ⊢
  subst hx
  subst hcts
  have hCl := CB_len res ic n
  refine gd_dec (fun hlt => ?_) (fun hge => ?_)
  · have hn' : n < ic.length := by have := hcm.len; omega
    obtain ⟨c, hget⟩ : ∃ c, cms[n]? = some c := ⟨_, List.getElem?_eq_getElem (by have := hcm.len; omega)⟩
    obtain ⟨y, hy, hvy, hy2, hyl⟩ := hcm.at_ n c hget
    have hvl := hvy.len
    have hok := cAt_ok (res := res) (by omega) hkn n y
    refine (hvC.ext s.ext).idx rfl hget rfl fun q hq => ⟨c, hq, s.allocK fun a24 w11 s => s.st0 0 rfl rfl rfl fun w12 s => s.lds (x := c.1) 0 0 rfl rfl ?_⟩
    generalize hLO : begO p g t r a5 a1 x m T res rs csl parSl texSl (cs.map fun x => x.1) pts cs (CB res ic n) Ω = LO at s
    refine loop_by (fun x => x.2.1) y.1.length (fun k z w => Sp w0 (own (.int .i64) z.1 (parsOf n (y.1.take k)) :: cel a24 (cells yevergreenlaw51_Commit c) :: LO) w) rfl (s.nil _) ?_
    rintro k ⟨acl, z, _⟩ w13 hk hz s _
    dsimp only at hz s ⊢
    subst hz
    refine gd_dec (fun hlt2 => ?_) (fun hge2 => ?_)
    · have hk' : k < y.1.length := by omega
      have hgp := List.getElem?_eq_getElem hk'
      generalize y.1[k] = pp at hgp
      have hpt := parsOf_take (n := n) hgp
      have hpo := parsOf_ok n (y.1.take k)
      generalize parsOf n (y.1.take k) = acc at hpt hpo s
      have hacl := (s.view 0 rfl).len
      refine ⟨fun z w => Sp w0 (own (.int .i64) z.1 (parsOf n (y.1.take (k + 1))) :: cel a24 (cells yevergreenlaw51_Commit c) :: LO) w, (hvy.ext s.ext).idx rfl hgp rfl fun q hq => ⟨pp, hq, ?_⟩, fun z w s _ => arith_i64 (by omega) (by omega) (loop_nx hk' s)⟩
      rw [hpt]
      unfold pk
      refine ⟨fun z w => z.1 = decide (0 < n ∧ acc.length < 8) ∧ Sp w0 (own (.int .i64) acl acc :: cel a24 (cells yevergreenlaw51_Commit c) :: LO) w, gd_dec (fun c1 => ⟨?_, s⟩) (fun c1 => ⟨?_, s⟩), ?_⟩
      · dsimp only; rw [decide_eq_decide]; omega
      · dsimp only; rw [decide_eq_false (by omega)]
      rintro ⟨z, _⟩ w14 ⟨hz, s⟩ _
      dsimp only at hz ⊢
      subst hz
      refine gd_dec (fun c1 => ?_) (fun c1 => by rw [if_neg c1]; exact s)
      rw [if_pos c1]
      refine ref12_Pick_eq (by omega) (by omega) ?_
      refine loop_by (fun x => x.2.1) acc.length (fun j z w => z.1 = decide (pickN pp n ∈ acc.take j) ∧ Sp w0 (own (.int .i64) acl acc :: cel a24 (cells yevergreenlaw51_Commit c) :: LO) w) rfl ⟨by simp, s⟩ ?_
      rintro j ⟨is, z, _⟩ w15 hj hz ⟨his, s⟩ _
      dsimp only at hz his ⊢
      subst hz his
      refine gd_dec (fun hlt3 => ?_) (fun hge3 => ?_)
      · have hj' : j < acc.length := by omega
        have hgj := List.getElem?_eq_getElem hj'
        generalize acc[j] = u at hgj
        have htk : acc.take (j + 1) = acc.take j ++ [u] := by rw [List.take_add_one, hgj]; rfl
        refine ⟨fun z w => z.1 = decide (pickN pp n ∈ acc.take (j + 1)) ∧ Sp w0 (own (.int .i64) acl acc :: cel a24 (cells yevergreenlaw51_Commit c) :: LO) w, (s.view 0 rfl).idx rfl hgj rfl fun q hq => ⟨u, hq, gd_dec (fun c2 => ⟨?_, s⟩) (fun c2 => ⟨?_, s⟩)⟩, fun z w h _ => arith_i64 (by omega) (by omega) (loop_nx hj' h)⟩
        · dsimp only; rw [htk, decide_eq_true (List.mem_append_left _ c2)]
        · dsimp only
          rw [htk, Bool.eq_iff_iff, beq_iff_eq, decide_eq_true_eq, List.mem_append, List.mem_singleton]
          exact ⟨Or.inr, fun h => h.elim (fun h => absurd h c2) id⟩
      · have e : j = acc.length := by omega
        subst e
        rw [List.take_length]
        refine gd_not (gd_dec (fun c2 => by rw [if_pos c2]; exact s) (fun c2 => ?_))
        rw [if_neg c2]
        have ha8 := hpo.1
        exact s.allocK fun a42 w16 s => s.app 1 rfl ((s.lit (ty := .int .i64) 0 rfl [pickN pp n] 1 rfl rfl).view 0 rfl) (by simp only [List.length_cons, List.length_nil]; omega) fun s43 w17 s => s.pop
    have ek : k = y.1.length := by omega
    subst ek
    rw [List.take_length] at s
    have hpo := parsOf_ok n y.1
    obtain ⟨kk, e1, hg1, hm1⟩ := rsAt_get (res := res) (by omega) y.2
    subst hLO
    have hacl := (s.view 0 rfl).len
    have hacc := (s.own_ 0 rfl).cap
    have hrsl := (s.view 11 rfl).len
    refine s.ldi (x := c.2) 1 1 rfl rfl ?_
    rw [hy2]
    refine ref12_Pick_eq (many := (rs.len : Int)) (by omega) (by omega) ?_
    rw [show ((rs.len : Nat) : Int) = (res.length : Int) by omega]
    refine (s.view 11 rfl).idx e1 hg1 rfl fun q1 hq1 => ⟨_, hq1, s.drawK fun w14 s => nonNil_some (s.ldp (x := some ⟨g, 0, none⟩) 8 1 rfl rfl (law51_name_spec s (by omega) fun w15 s => ⟨s.still 8 1 rfl rfl, ?_⟩))⟩
    have G : Gh (own (.int .i64) acl (parsOf n y.1) :: cel a24 (cells yevergreenlaw51_Commit c) :: begO p g t r a5 a1 x m T res rs csl parSl texSl (cs.map fun x => x.1) pts cs (CB res ic n) Ω) 3 4 2 g csl cs (CB res ic n) := ⟨rfl, rfl, rfl, hcs⟩
    refine history_Add_spec (psl := acl) (d := cAt res n y) G s (by decide) (by decide) (by decide) (by rw [hCl]; exact hok) (by omega) (fun w' s => s.view 0 rfl) hacc fun csl' cs' cts' w16 s hts' hcs' => ?_
    subst hts'
    have hsucc := CB_succ (res := res) hy
    have s : Sp w0 (ivs (cs'.map fun x => x.1) ((CB res ic n).map (fun x => x.1) ++ [parsOf n y.1]) :: own (.int .i64) acl (parsOf n y.1) :: cel a24 (cells yevergreenlaw51_Commit c) :: ivs (cs.map fun x => x.1) ((CB res ic n).map fun x => x.1) :: cel g [.slice csl'.a csl'.len csl'.cap] :: own yapi_Commit csl' cs' :: ivs pts ((CB res ic n).map fun x => x.1) :: own .slice parSl pts :: own (.int .i64) texSl ((CB res ic n).map fun x => x.2.1) :: cel a5 (wld p g t m parSl texSl ⟨none, 0, 0⟩ ⟨none, 0, 0⟩) :: cel t [.map (some r)] :: ms yrefs_target r [] :: own (.int .i64) rs res :: cel a1 (cells yevergreenlaw51_Input x) :: sto p 1000 T :: rf2 m T :: Ω) w16 := s
    have hpts : pts.length = n := by have := (Sp.ivs_ s 6 rfl).1; rw [List.length_map, hCl] at this; exact this
    refine JoinP.inl (nilIfc_nil (gd_f rfl ?_))
    intro _
    refine gd_f (by rw [hCl]; simp) (nonNil_some (s.lds (x := parSl) 9 5 rfl rfl (s.allocK fun a58 w17 s => s.app (ty := .slice) (xs := pts) (ys := [acl]) 8 rfl ((s.lit (ty := .slice) 0 rfl [acl] 1 rfl rfl).view 0 rfl) (by simp only [List.length_cons, List.length_nil]; omega) fun s59 w18 s => nonNil_some (s.st 10 5 rfl rfl rfl fun w19 s => ?_))))
    have s : Sp w0 (cel a58 (cells .slice acl) :: ivs (cs'.map fun x => x.1) ((CB res ic n).map (fun x => x.1) ++ [parsOf n y.1]) :: own (.int .i64) acl (parsOf n y.1) :: cel a24 (cells yevergreenlaw51_Commit c) :: ivs (cs.map fun x => x.1) ((CB res ic n).map fun x => x.1) :: cel g [.slice csl'.a csl'.len csl'.cap] :: own yapi_Commit csl' cs' :: ivs pts ((CB res ic n).map fun x => x.1) :: own .slice s59 (pts ++ [acl]) :: own (.int .i64) texSl ((CB res ic n).map fun x => x.2.1) :: cel a5 (wld p g t m s59 texSl ⟨none, 0, 0⟩ ⟨none, 0, 0⟩) :: cel t [.map (some r)] :: ms yrefs_target r [] :: own (.int .i64) rs res :: cel a1 (cells yevergreenlaw51_Input x) :: sto p 1000 T :: rf2 m T :: Ω) w19 := s
    refine nonNil_some (s.lds (x := texSl) 10 6 rfl rfl (s.allocK fun a63 w20 s => s.app (ty := .int .i64) (xs := (CB res ic n).map fun x => x.2.1) (ys := [rsAt res y.2]) 10 rfl ((s.lit (ty := .int .i64) 0 rfl [rsAt res y.2] 1 rfl rfl).view 0 rfl) (by simp only [List.length_cons, List.length_nil, List.length_map]; omega) fun s64 w21 s => nonNil_some (s.st 11 6 rfl rfl rfl fun w22 s => arith_i64 (by omega) (by omega) (loop_nx hn' ?_))))
    refine ⟨csl', s59, s64, cs'.map fun x => x.1, pts ++ [acl], cs', rfl, ?_, ?_⟩
    · rw [hcs', hsucc, List.map_append]; rfl
    · have m1 : (CB res ic (n + 1)).map (fun x => x.1) = (CB res ic n).map (fun x => x.1) ++ [parsOf n y.1] := by rw [hsucc, List.map_append]; rfl
      have m2 : (CB res ic (n + 1)).map (fun x => x.2.1) = (CB res ic n).map (fun x => x.2.1) ++ [rsAt res y.2] := by rw [hsucc, List.map_append]; rfl
      unfold begO
      rw [m1, m2]
      have s1 := s.pick [3, 2, 6, 7, 8, 9, 10, 11, 12, 13, 14, 15, 16, 17] 18 rfl (by decide)
      have s2 := Sp.ivs_add s1 3 rfl
      exact s2.pick [1, 2, 3, 0, 5, 6, 7, 8, 9, 10, 11, 12, 13] 14 rfl (by decide)
  · have en : n = ic.length := by have := hcm.len; omega
    subst en
    have hlN := hvN.len
    have hparl := (s.view 4 rfl).len
    have hpts : pts.length = ic.length := by have := (Sp.ivs_ s 3 rfl).1; rw [List.length_map, hCl] at this; exact this
    have s0 : Sp w0 (begE p g t r a5 a1 x m T res rs csl parSl texSl ⟨none, 0, 0⟩ ⟨none, 0, 0⟩ (cs.map fun x => x.1) pts cs (CB res ic ic.length) ns 0 Ω) w10 := by
      have s1 := (s.nil (.int .i64)).nil .str
      exact s1.pick [2, 3, 4, 5, 6, 7, 8, 9, 10, 11, 12, 13, 14, 0, 1] 15 rfl (by decide)
    refine ⟨fun _ w => ∃ (namSl tgtSl : Sl), Sp w0 (begE p g t r a5 a1 x m T res rs csl parSl texSl namSl tgtSl (cs.map fun x => x.1) pts cs (CB res ic ic.length) ns (if ic.length = 0 then 0 else ns.length) Ω) w, ?_, ?_⟩
    · refine s0.lds (x := x.2.2) 10 2 rfl rfl ?_
      refine loop_by (fun x => x.1) ns.length (fun k _ w => (ic.length = 0 → k = 0) ∧ ∃ (namSl tgtSl : Sl), Sp w0 (begE p g t r a5 a1 x m T res rs csl parSl texSl namSl tgtSl (cs.map fun x => x.1) pts cs (CB res ic ic.length) ns k Ω) w) rfl ⟨fun _ => rfl, _, _, s0⟩ ?_
      rintro k ⟨z, _⟩ w11 hk hz ⟨hk0, namSl, tgtSl, s⟩ _
      dsimp only at hz ⊢
      subst hz
      refine gd_dec (fun hlt => ?_) (fun hge => ?_)
      · have hk' : k < ns.length := by omega
        have hget := List.getElem?_eq_getElem hk'
        generalize ns[k] = y at hget
        refine (hvN.ext s.ext).idx rfl hget rfl fun q hq => ⟨y, hq, s.allocK fun a74 w12 s => s.st0 0 rfl rfl rfl fun w13 s => nonNil_some (s.lds (x := parSl) 7 5 rfl rfl (gd_eq (fun c0 => ?_) (fun c0 => ?_)))⟩
        · have c0' : ic.length = 0 := by omega
          refine ⟨namSl, tgtSl, ?_⟩
          rw [if_pos c0']
          rw [hk0 c0'] at s
          exact s.pop
        have hN1 : 1 ≤ ic.length := by omega
        have e2 : ((parSl.len : Nat) : Int) = ((CB res ic ic.length).length : Int) := by omega
        refine s.drawK fun w14 s => s.ldi (x := y.2) 0 1 rfl rfl (nonNil_some (s.lds (x := parSl) 7 5 rfl rfl (ref12_Pick_eq (many := (parSl.len : Int)) (by omega) (by omega) ?_)))
        rw [e2]
        have hto : pickN y.2 ((CB res ic ic.length).length : Int) = toN (CB res ic ic.length).length y := rfl
        rw [hto]
        have hto0 : 0 ≤ toN (CB res ic ic.length).length y := (pickN_bound (by omega)).1
        have hnew := mN_new (CB res ic ic.length).length ns (n := k) (by omega)
        have hms := mN_succ (N := (CB res ic ic.length).length) hget
        have hts := tN_succ (N := (CB res ic ic.length).length) hget
        have hml := mN_len (CB res ic ic.length).length ns k
        have htl := tN_len (CB res ic ic.length).length ns k
        have hwl := wN_len k
        refine s.drawK fun w15 s => nonNil_some (s.ldp (x := some ⟨t, 0, none⟩) 7 2 rfl rfl (law51_name_spec s (by omega) fun w16 s => ⟨s.still 7 2 rfl rfl, ?_⟩))
        have R : Rt (cel a74 (cells yevergreenlaw51_Name y) :: begE p g t r a5 a1 x m T res rs csl parSl texSl namSl tgtSl (cs.map fun x => x.1) pts cs (CB res ic ic.length) ns k Ω) 8 9 t r (mN (CB res ic ic.length).length ns k) := ⟨rfl, rfl⟩
        refine refs_Branch_spec R s (nameB_ok k) hto0 hnew fun w17 s => ?_
        rw [mupdS_new hnew] at s
        generalize toN (CB res ic ic.length).length y = to at *
        let E := fun (mm : List (ByteArray × TG)) => cel a74 (cells yevergreenlaw51_Name y) :: ivs (cs.map fun x => x.1) ((CB res ic ic.length).map fun x => x.1) :: cel g [.slice csl.a csl.len csl.cap] :: own yapi_Commit csl cs :: ivs pts ((CB res ic ic.length).map fun x => x.1) :: own .slice parSl pts :: own (.int .i64) texSl ((CB res ic ic.length).map fun x => x.2.1) :: cel a5 (wld p g t m parSl texSl namSl tgtSl) :: cel t [.map (some r)] :: ms yrefs_target r mm :: own (.int .i64) rs res :: cel a1 (cells yevergreenlaw51_Input x) :: sto p 1000 T :: rf2 m T :: own .str namSl (wN k) :: own (.int .i64) tgtSl (tN (CB res ic ic.length).length ns k) :: Ω
        have s : Sp w0 (E (mN (CB res ic ic.length).length ns k ++ [(nameB k, (to, false))])) w17 := s
        refine ⟨fun z w => z.1 = .nilIface ∧ Sp w0 (E (mN (CB res ic ic.length).length ns k ++ [(nameB k, (to, y.1))])) w, s.ldb (x := y.1) 0 0 rfl rfl ?_, ?_⟩
        · cases hy1 : y.1 with
          | false => exact gd_f rfl ⟨rfl, s⟩
          | true =>
            refine gd_t rfl (s.drawK fun w18 s => nonNil_some (s.ldp (x := some ⟨t, 0, none⟩) 7 2 rfl rfl (law51_name_spec s (by omega) fun w19 s => ⟨s.still 7 2 rfl rfl, ?_⟩)))
            have R1 : Rt (E (mN (CB res ic ic.length).length ns k ++ [(nameB k, (to, false))])) 8 9 t r (mN (CB res ic ic.length).length ns k ++ [(nameB k, (to, false))]) := ⟨rfl, rfl⟩
            refine refs_Drop_spec R1 s (nameB_ok k) (atS_snoc hnew) fun w20 s => ?_
            rw [mdelS_snoc hnew] at s
            have s : Sp w0 (E (mN (CB res ic ic.length).length ns k)) w20 := s
            refine s.drawK fun w21 s => nonNil_some (s.ldp (x := some ⟨t, 0, none⟩) 7 2 rfl rfl (law51_name_spec s (by omega) fun w22 s => ⟨s.still 7 2 rfl rfl, ?_⟩))
            have R2 : Rt (E (mN (CB res ic ic.length).length ns k)) 8 9 t r (mN (CB res ic ic.length).length ns k) := ⟨rfl, rfl⟩
            refine refs_Tag_spec R2 s (nameB_ok k) hto0 hnew fun w23 s => ?_
            rw [mupdS_new hnew] at s
            exact ⟨rfl, s⟩
        rintro ⟨z, _⟩ w24 ⟨hz, s⟩ _
        dsimp only at hz
        subst hz
        refine nilIfc_nil (gd_f rfl (s.drawK fun w25 s => nonNil_some (s.lds (x := namSl) 7 7 rfl rfl (law51_name_spec s (by omega) fun w26 s => ⟨s.still 7 7 rfl rfl, s.allocK fun a100 w27 s => ⟨s.still 8 7 rfl rfl, ?_⟩⟩))))
        refine s.app (ty := .str) (xs := wN k) (ys := [nameB k]) 15 rfl ((s.lit (ty := .str) 0 rfl [nameB k] 1 rfl rfl).view 0 rfl) (by simp only [List.length_cons, List.length_nil]; omega) fun s101 w28 s => nonNil_some (s.st 8 7 rfl rfl rfl fun w29 s => nonNil_some (s.lds (x := tgtSl) 8 8 rfl rfl (s.allocK fun a105 w30 s => s.app (ty := .int .i64) (xs := tN (CB res ic ic.length).length ns k) (ys := [to]) 17 rfl ((s.lit (ty := .int .i64) 0 rfl [to] 1 rfl rfl).view 0 rfl) (by simp only [List.length_cons, List.length_nil]; omega) fun s106 w31 s => nonNil_some (s.st 9 8 rfl rfl rfl fun w32 s => arith_i64 (by omega) (by omega) (loop_nx hk' ⟨fun h => by omega, s101, s106, ?_⟩)))))
        unfold begE
        rw [hms, hts, wN_succ]
        exact s.drop 3
      · have ek : k = ns.length := by omega
        subst ek
        refine ⟨namSl, tgtSl, ?_⟩
        by_cases c0 : ic.length = 0
        · rw [if_pos c0]
          rw [hk0 c0] at s
          exact s
        · rw [if_neg c0]; exact s
    · rintro _ w12 ⟨namSl, tgtSl, s⟩ _
      exact law51_alive_spec s fun w13 s => h p g t r a5 a1 m T res rs csl parSl texSl namSl tgtSl pts cs w13 hb hcs s

end Go.Proofs.Ytnmgjpcooncjlaa

/- law51: the walk of CompactKeeps. -/
set_option linter.unusedVariables false
set_option linter.unusedSimpArgs false
namespace Go.Proofs.Ytnmgjpcooncjlaa
open Go.Den

variable {w0 w : World} {Ω : List Ob}

def sumI : List IC → Int
  | [] => 0
  | x :: r => (x.1.length : Int) + sumI r
theorem sumI_take {ic : List IC} {n : Nat} {y : IC} (h : ic[n]? = some y) : sumI (ic.take (n + 1)) = sumI (ic.take n) + y.1.length := by
  have key : ∀ (a b : List IC), sumI (a ++ b) = sumI a + sumI b := by
    intro a b
    induction a with
    | nil => simp [sumI]
    | cons x a ih => simp only [List.cons_append, sumI, ih]; omega
  rw [List.take_add_one, h, Option.toList_some, key]
  simp [sumI]
theorem sumI_nn : ∀ (ic : List IC), 0 ≤ sumI ic
  | [] => Int.le_refl _
  | x :: r => by have := sumI_nn r; simp only [sumI]; omega
/-- what a read input is; its bulk is small -/
structure InOK (w : World) (x : yevergreenlaw51_Input.T) (ops : List MakeT) (cms : List yevergreenlaw51_Commit.T) (ic : List IC) (ns : List yevergreenlaw51_Name.T) : Prop where
  vL : View yevergreenref12_Make w x.1 ops
  ok : ∀ o ∈ ops, MakeOK o
  vC : View yevergreenlaw51_Commit w x.2.1 cms
  len : cms.length = ic.length
  at_ : ∀ (k : Nat) (c : yevergreenlaw51_Commit.T), cms[k]? = some c → ∃ y, ic[k]? = some y ∧ View (.int .i64) w c.1 y.1 ∧ c.2 = y.2
  vN : View yevergreenlaw51_Name w x.2.2 ns
  small : ops.length ≤ 1048576 ∧ ns.length ≤ 1048576 ∧ ic.length ≤ 1048576 ∧ sumI ic ≤ 1048576
theorem law51_good_spec {x : yevergreenlaw51_Input.T} {ops : List MakeT} {cms : List yevergreenlaw51_Commit.T} {ic : List IC} {ns : List yevergreenlaw51_Name.T} (i : InOK w0 x ops cms ic ns) (s : Sp w0 Ω w) {K : Bool → World → Prop} (h : ∀ w', Sp w0 Ω w' → K (decide ((ops.length : Int) + ic.length + ns.length + sumI ic ≤ 90)) w') : C_law51_good x K w := by
  apply S_law51_good
  unfold F_law51_good
  obtain ⟨h1, h2, h3, h4⟩ := i.small
  have l1 := i.vL.len
  have l2 := i.vC.len
  have l3 := i.vN.len
  have l4 := i.len
  refine s.allocK fun a1 w1 s => s.lds (x := x.1) 0 0 rfl rfl (s.lds (x := x.2.1) 0 1 rfl rfl (arith_i64 (by omega) (by omega) (s.lds (x := x.2.2) 0 2 rfl rfl (arith_i64 (by omega) (by omega) (s.lds (x := x.2.1) 0 1 rfl rfl ?_)))))
  refine loop_by (fun x => x.2.1) ic.length (fun n z w => z.1 = (ops.length : Int) + ic.length + ns.length + sumI (ic.take n) ∧ sumI (ic.take n) + sumI (ic.drop n) = sumI ic ∧ Sp w0 (cel a1 (cells yevergreenlaw51_Input x) :: Ω) w) rfl ⟨by dsimp only; simp [sumI]; omega, by simp [sumI], s⟩ ?_
  clear s
  rintro n ⟨a, z, _⟩ w2 hn hz ⟨ha, hs, s⟩ _
  dsimp only at hz ha ⊢
  subst hz ha
  have nn := sumI_nn (ic.drop n)
  have nn2 := sumI_nn (ic.take n)
  refine gd_dec (fun hlt => ?_) (fun hge => ?_)
  · have hn' : n < ic.length := by omega
    obtain ⟨c, hget⟩ : ∃ c, cms[n]? = some c := ⟨_, List.getElem?_eq_getElem (by omega)⟩
    obtain ⟨y, hy, hvy, _⟩ := i.at_ n c hget
    have hyl := hvy.len
    have ht := sumI_take hy
    have hd : ic.drop n = y :: ic.drop (n + 1) := by
      rw [List.drop_eq_getElem_cons hn']
      congr 1
      have := List.getElem?_eq_getElem hn'
      rw [hy] at this
      exact (Option.some.inj this).symm
    rw [hd, sumI] at hs nn
    have nn3 := sumI_nn (ic.drop (n + 1))
    refine (i.vC.ext s.ext).idx rfl hget rfl fun q hq => ⟨c, hq, s.allocK fun a12 w3 s => s.st0 0 rfl rfl rfl fun w4 s => s.lds (x := c.1) 0 0 rfl rfl (arith_i64 (by omega) (by omega) (arith_i64 (by omega) (by omega) (loop_nx hn' ⟨by omega, by omega, s.pop⟩)))⟩
  · have e : n = ic.length := by omega
    subst e
    rw [List.take_length]
    exact h _ s.pop

end Go.Proofs.Ytnmgjpcooncjlaa

/- law51: the walk of CompactKeeps, joined. -/
set_option linter.unusedVariables false
set_option linter.unusedSimpArgs false
namespace Go.Proofs.Ytnmgjpcooncjlaa
open Go.Den

variable {w0 w : World} {Ω : List Ob}

theorem sumI_le : ∀ {ic : List IC} {k : Nat} {y : IC}, ic[k]? = some y → (y.1.length : Int) ≤ sumI ic
  | [], _, _, h => by simp at h
  | x :: r, 0, y, h => by simp at h; subst h; have := sumI_nn r; simp only [sumI]; omega
  | x :: r, k + 1, y, h => by
    have := sumI_le (ic := r) (k := k) (y := y) (by simpa using h)
    simp only [sumI]; omega
theorem law51_CompactKeeps_spec {x : yevergreenlaw51_Input.T} {ops : List MakeT} {cms : List yevergreenlaw51_Commit.T} {ic : List IC} {ns : List yevergreenlaw51_Name.T} (i : InOK w0 x ops cms ic ns) {K : Bool → World → Prop} (h : ∀ w', Ext w0 w' → K true w') : C_law51_CompactKeeps x K w0 := by
  apply S_law51_CompactKeeps
  unfold F_law51_CompactKeeps
  refine (Sp.init w0).allocK fun a1 w1 s => s.ld0 (ty := yevergreenlaw51_Input) (x := x) 0 rfl rfl (law51_good_spec i s fun w2 s => gd_not (gd_dec (fun hsm => ?_) (fun _ => h _ s.ext)))
  have nn := sumI_nn ic
  refine s.ld0 (ty := yevergreenlaw51_Input) (x := x) 0 rfl rfl ?_
  refine law51_begun_spec (ic := ic) s i.vL i.ok (by omega) i.vC ⟨i.len, fun k c hc => ?_⟩ (by omega) i.vN (by omega) fun p g t r a5 b1 m T res rs csl parSl texSl namSl tgtSl pts cs w3 hb hcs s => ?_
  · obtain ⟨y, h1, h2, h3⟩ := i.at_ k c hc
    exact ⟨y, h1, h2, h3, by have := sumI_le h1; omega⟩
  have hCl := CB_len res ic ic.length
  have hwf := CB_wf res ic ic.length
  have hk : (if ic.length = 0 then 0 else ns.length) ≤ 90 := by split <;> omega
  have hk0 : (CB res ic ic.length).length = 0 → (if ic.length = 0 then 0 else ns.length) = 0 := fun h0 => by rw [hCl] at h0; rw [if_pos h0]
  generalize (if ic.length = 0 then 0 else ns.length) = k at hk hk0 s
  generalize CB res ic ic.length = C at *
  have hml := mN_len C.length ns k
  have htl := tN_len C.length ns k
  have hSb : ∀ z : Int, z ∈ tN C.length ns k → 0 ≤ z ∧ z < (C.length : Int) := by
    by_cases c0 : C.length = 0
    · rw [hk0 c0]
      intro z hz
      simp [tN] at hz
    · exact tN_bound (by omega) ns k
  refine gd_f rfl (s.drawK fun w4 s => nonNil_some (s.ldp (x := some ⟨g, 0, none⟩) 6 1 rfl rfl (nonNil_some (s.ldp (x := some ⟨t, 0, none⟩) 6 2 rfl rfl ?_))))
  refine compact_Keep_spec (a := 1) (b := 2) (c := 0) (a' := 7) (b' := 8) (C := C) (S := tN C.length ns k) ⟨rfl, rfl, rfl, hcs⟩ ⟨rfl, rfl⟩ s hwf (by omega) (by omega) (tN_mem C.length ns k) hSb fun sl w5 s => ?_
  refine s.drawK fun w6 s => nonNil_some (s.lds (x := parSl) 7 5 rfl rfl (nonNil_some (s.lds (x := tgtSl) 7 8 rfl rfl ?_)))
  refine ref51_Keep_spec (C := C) s 5 4 rfl rfl (fun w' s => s.view 15 rfl) hwf (by omega) (by omega) hSb fun sl2 inl w7 mk s => ?_
  have hil := mk.1
  have hsl2 := (s.view 0 rfl).len
  generalize tN C.length ns k = S at *
  have hkl := kl_len (C := C) (S := S) 0 C.length
  have s : Sp w0 [own .bool sl2 inl, own (.int .i64) sl (kl C S 0 C.length)] w7 := s.pick [0, 1] 18 rfl (by decide)
  refine loop_by (fun x => x.2.1) C.length (fun n z w => Sp w0 [own (.int .i64) z.1 (kl C S 0 n), own .bool sl2 inl, own (.int .i64) sl (kl C S 0 C.length)] w) rfl (by rw [kl_top]; exact s.nil _) ?_
  clear s
  rintro n ⟨out, z, _⟩ w8 hn hz s _
  dsimp only at hz s ⊢
  subst hz
  refine gd_dec (fun hlt => ?_) (fun hge => ?_)
  · have hn' : n < C.length := by omega
    obtain ⟨bb, hb1, hb2⟩ := mk.2 n hn'
    have hkn := kl_len (C := C) (S := S) 0 n
    refine ⟨fun z w => Sp w0 [own (.int .i64) z.1 (kl C S 0 (n + 1)), own .bool sl2 inl, own (.int .i64) sl (kl C S 0 C.length)] w, (s.view 1 rfl).idx rfl hb1 rfl fun q hq => ⟨bb, hq, ?_⟩, fun z w s _ => arith_i64 (by omega) (by omega) (loop_nx hn' s)⟩
    cases bb with
    | false =>
      rw [(kl_grow n).2 fun h => by have := hb2.2 h; cases this]
      exact gd_f rfl s
    | true =>
      rw [(kl_grow n).1 (hb2.1 rfl)]
      exact gd_t rfl (s.allocK fun a22 w9 s => s.app 1 rfl ((s.lit (ty := .int .i64) 0 rfl [(n : Int)] 1 rfl rfl).view 0 rfl) (by simp only [List.length_cons, List.length_nil]; omega) fun s23 w10 s => s.pop)
  · have en : n = C.length := by omega
    subst en
    exact nilIfc_nil (gd_t rfl (base_Ints_same s (fun w' s => s.view 2 rfl) (fun w' s => s.view 0 rfl) (by omega) fun w9 s => h _ s.ext))

end Go.Proofs.Ytnmgjpcooncjlaa

/- The reading of law51's argument: a struct of three slices, of which one holds slices. -/
set_option linter.unusedVariables false
set_option linter.unusedSimpArgs false
namespace Go.Proofs.Ytnmgjpcooncjlaa
open Go.Den
open Go.ChangeShapes Go.WideShapes Go.ChangeAt Go.RowKit Go.Deep

theorem bulk_one {H : Type} (d : DataW H) : 1 ≤ Rows.uptoBulk d := by
  cases d with
  | lit l => cases l <;> simp [Rows.uptoBulk]
  | nil => simp [Rows.uptoBulk]
  | ptr d => simp [Rows.uptoBulk]
  | slice a b => simp [Rows.uptoBulk]
  | agg a => simp [Rows.uptoBulk]
  | iface a b => simp [Rows.uptoBulk]
  | map a => simp [Rows.uptoBulk]
  | held a => simp [Rows.uptoBulk]
theorem bulk_all {H : Type} : ∀ l : List (DataW H), l.length ≤ Rows.uptoBulkAll l
  | [] => Nat.zero_le _
  | d :: r => by
    have h1 := bulk_one d
    have h2 := bulk_all r
    rw [Rows.uptoBulkAll]
    simp only [List.length_cons]; omega

section
variable {H : Type} {enc : TypeId × Value → H} {P : Program} {w : World} {base : Nat} {held : Bool}

theorem slice_readQ {t e : TypeId} {ty : Ty} {Q : ty.T → DataW H → Prop} (ht : P.underlying t = some (.slice e)) (hc : P.cellsOf e = ty.size)
    (hq : ∀ (n : Nat) (cs : List Value) (x : DataW H × List MemPlace), DataW.trod enc P w base (fun _ => true) held n e cs = some x → ∃ y : ty.T, cs = cells ty y ∧ Q y x.1)
    {n : Nat} {cs : List Value} {x : DataW H × List MemPlace} (h : DataW.trod enc P w base (fun _ => true) held n t cs = some x) :
    ∃ (s : Sl) (xs : List ty.T) (ds : List (DataW H)), cs = [.slice s.a s.len s.cap] ∧ View ty w s xs ∧ ds.length = xs.length ∧ (∀ (i : Nat) (y : ty.T), xs[i]? = some y → ∃ d, ds[i]? = some d ∧ Q y d) ∧ Rows.uptoBulkAll ds + 1 ≤ Rows.uptoBulk x.1 := by
  rcases open_slice ht h with ⟨hcs, hx0⟩ | ⟨a, len, cap, m, n', D, Pl, hcs, _, hl, hm, hmm, hxx, hi⟩
  · refine ⟨⟨none, 0, 0⟩, [], [], hcs, .nil, rfl, fun i y h => by simp at h, ?_⟩
    have := bulk_one x.1
    rw [Rows.uptoBulkAll]; omega
  · have hle : len ≤ m := by
      rw [hmm]; split <;> omega
    obtain ⟨xs, hxl, hxs⟩ := range_list (p := fun i (x : ty.T) => At w (a.add (i * ty.size)) (cells ty x) ∧ Q x (D i)) len fun i hil => by
      obtain ⟨cs', h1, h2⟩ := hi i (by omega)
      obtain ⟨y, rfl, hy⟩ := hq _ _ _ h2
      rw [hc] at h1
      exact ⟨y, at_of_cells h1, hy⟩
    refine ⟨⟨some a, len, cap⟩, xs, (List.range len).map D, hcs, ⟨hxl.symm, fun q hq => ?_, fun _ => ⟨a, rfl⟩⟩, by simp [hxl], fun i y hy => ?_, ?_⟩
    · cases hq
      exact at_flat xs _ fun i x hx => (hxs i x hx).1
    · have hil := (List.getElem?_eq_some_iff.1 hy).1
      refine ⟨D i, ?_, (hxs i y hy).2⟩
      rw [List.getElem?_map, List.getElem?_range (by omega)]; rfl
    · rw [hxx, Rows.uptoBulk]
      omega
theorem slice_readO {d : Nat} {t e : TypeId} {ty : Ty} (ht : P.underlying t = some (.slice e)) (hr : rdOK P d e ty = true) (hc : P.cellsOf e = ty.size)
    {n : Nat} {cs : List Value} {x : DataW H × List MemPlace} (h : DataW.trod enc P w base (fun _ => true) held n t cs = some x) :
    ∃ (s : Sl) (xs : List ty.T), cs = [.slice s.a s.len s.cap] ∧ View ty w s xs ∧ (∀ x ∈ xs, wfT ty x) ∧ xs.length + 1 ≤ Rows.uptoBulk x.1 := by
  obtain ⟨s, xs, ds, h1, h2, h3, h4, h5⟩ := slice_readQ (Q := fun y _ => wfT ty y) ht hc (fun n cs x hx => rd_read d e ty hr n cs x hx) h
  refine ⟨s, xs, h1, h2, fun y hy => ?_, ?_⟩
  · obtain ⟨i, hi⟩ := List.getElem?_of_mem hy
    obtain ⟨_, _, h⟩ := h4 i y hi
    exact h
  · have := bulk_all ds
    omega

/-- what a program must say of its types for the reading -/
def inB (P : Program) (t : TypeId) : Bool := match P.underlying t with
  | some (.struct ⟨[f0, f1, f2]⟩) => Nat.beq f0.offset 0 && Nat.beq f1.offset 1 && Nat.beq f2.offset 2 && Nat.beq (P.cellsOf t) 3 && Nat.beq (P.cellsOf f0.type) 1 && Nat.beq (P.cellsOf f1.type) 1 && Nat.beq (P.cellsOf f2.type) 1 && sliceOK P 3 f0.type yevergreenref12_Make && sliceOK P 3 f2.type yevergreenlaw51_Name &&
    (match P.underlying f1.type with
      | some (.slice e) => Nat.beq (P.cellsOf e) 2 && (match P.underlying e with
        | some (.struct ⟨[g0, g1]⟩) => Nat.beq g0.offset 0 && Nat.beq g1.offset 1 && Nat.beq (P.cellsOf g0.type) 1 && Nat.beq (P.cellsOf g1.type) 1 && sliceOK P 1 g0.type (.int .i64) && rdOK P 1 g1.type (.int .i64)
        | _ => false)
      | _ => false)
  | _ => false

theorem ic_of : ∀ (xs : List yevergreenlaw51_Commit.T) (ds : List (DataW H)), ds.length = xs.length → (∀ (i : Nat) (y : yevergreenlaw51_Commit.T), xs[i]? = some y → ∃ d, ds[i]? = some d ∧ ∃ ps : List (Ty.int .i64).T, View (.int .i64) w y.1 ps ∧ ps.length + 1 ≤ Rows.uptoBulk d) →
    ∃ ic : List IC, xs.length = ic.length ∧ (∀ (k : Nat) (c : yevergreenlaw51_Commit.T), xs[k]? = some c → ∃ y, ic[k]? = some y ∧ View (.int .i64) w c.1 y.1 ∧ c.2 = y.2) ∧ sumI ic + ic.length ≤ (Rows.uptoBulkAll ds : Int)
  | [], ds, _, _ => ⟨[], rfl, fun k c h => by simp at h, by simp [sumI]⟩
  | x :: xs, [], h, _ => by simp at h
  | x :: xs, d :: ds, h, hx => by
    obtain ⟨d', e, ps, h1, h2⟩ := hx 0 x rfl
    simp at e
    subst e
    obtain ⟨ic, h3, h4, h5⟩ := ic_of xs ds (by simpa using h) fun i y hy => by
      have := hx (i + 1) y (by simpa using hy)
      simpa using this
    refine ⟨(ps, x.2) :: ic, by simp [h3], fun k c hk => ?_, ?_⟩
    · cases k with
      | zero => simp at hk; subst hk; exact ⟨_, rfl, h1, rfl⟩
      | succ k => exact h4 k c (by simpa using hk)
    · rw [Rows.uptoBulkAll]
      simp only [sumI, List.length_cons]
      omega
theorem input_read {t : TypeId} {v : Value} {dd : DataW H} {p : List MemPlace} {r : Reach} {b0 : Nat} (hs : inB P t = true) (hw : Value.okWide P w r b0 t v)
    (h : DataW.Trod enc P w base (fun _ => true) held t v dd p) : ∃ (x : yevergreenlaw51_Input.T) (ops : List MakeT) (cms : List yevergreenlaw51_Commit.T) (ic : List IC) (ns : List yevergreenlaw51_Name.T), v = val yevergreenlaw51_Input x ∧ (Rows.uptoBulk dd ≤ 1048576 → InOK w x ops cms ic ns) := by
  unfold inB at hs
  split at hs
  rotate_left
  · cases hs
  rename_i f0 f1 f2 hu
  simp only [Bool.and_eq_true] at hs
  obtain ⟨⟨⟨⟨⟨⟨⟨⟨⟨o0, o1⟩, o2⟩, hct⟩, c0⟩, c1⟩, c2⟩, s0⟩, s2⟩, hs⟩ := hs
  have o0 := Nat.eq_of_beq_eq_true o0
  have o1 := Nat.eq_of_beq_eq_true o1
  have o2 := Nat.eq_of_beq_eq_true o2
  have hct := Nat.eq_of_beq_eq_true hct
  have c0 := Nat.eq_of_beq_eq_true c0
  have c1 := Nat.eq_of_beq_eq_true c1
  have c2 := Nat.eq_of_beq_eq_true c2
  split at hs
  rotate_left
  · cases hs
  rename_i e1 hu1
  simp only [Bool.and_eq_true] at hs
  obtain ⟨ce, hs⟩ := hs
  have ce := Nat.eq_of_beq_eq_true ce
  split at hs
  rotate_left
  · cases hs
  rename_i g0 g1 hue
  simp only [Bool.and_eq_true] at hs
  obtain ⟨⟨⟨⟨⟨p0, p1⟩, d0⟩, d1⟩, sg0⟩, sg1⟩ := hs
  have p0 := Nat.eq_of_beq_eq_true p0
  have p1 := Nat.eq_of_beq_eq_true p1
  have d0 := Nat.eq_of_beq_eq_true d0
  have d1 := Nat.eq_of_beq_eq_true d1
  obtain ⟨vs, rfl, _⟩ := okWide_struct hu hw
  obtain ⟨n, hx⟩ := h
  obtain ⟨y0, y1, y2, m, hxx, hlen, h0, h1, h2⟩ := trod_struct3 hu hx
  rw [o0, c0] at h0
  rw [o1, c1] at h1
  rw [o2, c2] at h2
  rw [hct] at hlen
  unfold sliceOK at s0 s2 sg0
  split at s0
  rotate_left
  · cases s0
  rename_i ee0 hu0
  simp only [Bool.and_eq_true] at s0
  split at s2
  rotate_left
  · cases s2
  rename_i ee2 hu2
  simp only [Bool.and_eq_true] at s2
  split at sg0
  rotate_left
  · cases sg0
  rename_i eg0 hug0
  simp only [Bool.and_eq_true] at sg0
  obtain ⟨q0, ops, hc0, hv0, hw0, hb0⟩ := slice_readO hu0 s0.1 (Nat.eq_of_beq_eq_true s0.2) h0
  obtain ⟨q2, ns, hc2, hv2, hw2, hb2⟩ := slice_readO hu2 s2.1 (Nat.eq_of_beq_eq_true s2.2) h2
  obtain ⟨q1, cms, ds, hc1, hv1, hdl, hds, hb1⟩ := slice_readQ (ty := yevergreenlaw51_Commit) (Q := fun y d => ∃ ps : List (Ty.int .i64).T, View (.int .i64) w y.1 ps ∧ ps.length + 1 ≤ Rows.uptoBulk d) hu1 ce (fun n cs x hx => by
    obtain ⟨z0, z1, m, hxx, hlen, h0, h1⟩ := trod_struct2 hue hx
    rw [p0, d0] at h0
    rw [p1, d1] at h1
    rw [ce] at hlen
    obtain ⟨u0, ps, hk0, hk1, _, hk3⟩ := slice_readO hug0 sg0.1 (Nat.eq_of_beq_eq_true sg0.2) h0
    obtain ⟨u1, hk4, _⟩ := rd_read 1 g1.type (.int .i64) sg1 _ _ _ h1
    refine ⟨(u0, u1), ?_, ps, hk1, ?_⟩
    · match cs, hlen with
      | [a, b], _ =>
        simp at hk0 hk4
        subst hk0 
        simp only [cells, List.cons.injEq] at hk4 ⊢
        simp [hk4, cells]
    · rw [hxx]
      simp only [Rows.uptoBulk, Rows.uptoBulkAll]
      omega) h1
  obtain ⟨ic, i1, i2, i3⟩ := ic_of cms ds hdl hds
  refine ⟨(q0, q1, q2), ops, cms, ic, ns, ?_, fun hb => ?_⟩
  · have : vs.toList = cells (.pair .slice (.pair .slice .slice)) (q0, q1, q2) := by
      have hlen' : vs.toList.length = 3 := by simpa [Value.cells] using hlen
      have hv : (Value.agg vs).cells.toList = vs.toList := by simp [Value.cells]
      rw [hv] at hc0 hc1 hc2
      generalize vs.toList = l at *
      match l, hlen' with
      | [a, b, c], _ =>
        simp at hc0 hc1 hc2
        subst hc0 hc1 hc2
        rfl
    rw [val, ← this]
  · have hbb : dd = DataW.agg [y0.1, y1.1, y2.1] := by
      have := congrArg Prod.fst hxx
      simpa using this
    rw [hbb] at hb
    simp only [Rows.uptoBulk, Rows.uptoBulkAll] at hb
    have k1 := sumI_nn ic
    exact ⟨hv0, fun o ho => makeOK_of (hw0 o ho), hv1, i1, i2, hv2, by omega, by omega, by omega, by omega⟩
end
end Go.Proofs.Ytnmgjpcooncjlaa
