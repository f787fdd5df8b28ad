/- Texts that belong together, joined: RefA, RefB, RefC, LawAA, LawBA, LawCA, Nd, Avl, AvlB, Split, SplitB, Offs, LawDA, ImpA, ImpB, SortL, Sort, Rch, Copy, LawDB, ExpA, Str, Plain. No conditions. -/
import Derived.Shelf.SortM.Plain
import Derived.Shelf.SortM.SortNone
import Derived.Test.YtcmncfglcjcmhaaGreatProg
import Derived.Laws.BytesString
import Derived.Test.YtcmncfglcjcmhaaGreatGC
import Derived.Test.YtcmncfglcjcmhaaGreatGB
import Derived.Test.YtcmncfglcjcmhaaGreatX0
/- The specification of the layer (evergreenref10): its store is the same list. -/
set_option linter.unusedVariables false
set_option linter.unusedSimpArgs false
namespace Go.Proofs.YtcmncfglcjcmhaaGreat
open Go.Den

variable {w0 w : World} {Ω : List Ob} {most : Int} {T : List ET} {j : Nat} 

def rulesOf (T : List ET) : List yapi_Rule.T := T.map fun e => e.1
def lensOf (T : List ET) : List (Ty.int .i64).T := T.map fun e => e.2.1.1
def depsOf (T : List ET) : List (Ty.int .i64).T := T.map fun e => e.2.2.1
theorem rulesOf_len (T : List ET) : (rulesOf T).length = T.length := List.length_map _

theorem blk_none {b : Nat} (h : blk ⟨none, 0, 0⟩ b) : False := by
  obtain ⟨q, h, _⟩ := h
  cases h

theorem clip_form (n : Int) : (if (0 : Int) < (if 1048576 < n then 1048576 else n) then (if 1048576 < n then 1048576 else n) else 0) = if n < 0 then 0 else if 1048576 < n then 1048576 else n := by grind
theorem known_get {id : Int} (hk : known T id = true) (hne : id ≠ 0) : 1 ≤ id ∧ id ≤ T.length ∧ T[(id - 1).toNat]? = some (eAt T id) := by
  have := of_decide_eq_true hk
  exact ⟨by omega, this.2, eAt_get (by omega) this.2⟩
theorem lkR_first : ∀ (T : List ET) (r : RT) (n : Nat) (k : Nat), (∀ i, i < n → ∀ e, T[i]? = some e → e.1 ≠ r) → (∀ e, T[n]? = some e → e.1 = r) → n < T.length →
    ((T.zipIdx k).map fun p => (p.1.1, (p.2 : Int) + 1)).find? (fun p => beqT yapi_Rule r p.1) = some (r, ((k + n : Nat) : Int) + 1)
  | [], _, _, _, _, _, h => by simp at h
  | e :: T, r, 0, k, _, h2, _ => by
    have := h2 e rfl
    rw [List.zipIdx_cons, List.map_cons, List.find?_cons]
    simp only [this, (beqT_iff yapi_Rule rfl r r).2 rfl, Nat.add_zero]
  | e :: T, r, n + 1, k, h1, h2, h3 => by
    have h0 := h1 0 (by omega) e rfl
    have hb : beqT yapi_Rule r e.1 = false := by
      cases hb : beqT yapi_Rule r e.1
      · rfl
      · exact absurd ((beqT_iff yapi_Rule rfl _ _).1 hb).symm h0
    rw [List.zipIdx_cons, List.map_cons, List.find?_cons]
    simp only [hb]
    have := lkR_first T r n (k + 1) (fun i hi e' he => h1 (i + 1) (by omega) e' (by simpa using he)) (fun e' he => h2 e' (by simpa using he)) (by simpa using h3)
    rw [this]
    congr 2
    omega
theorem lkR_at {r : RT} {n : Nat} {e : ET} (h1 : ∀ i, i < n → ∀ e, T[i]? = some e → e.1 ≠ r) (he : T[n]? = some e) (h2 : e.1 = r) : lkR T r = some ((n : Int) + 1) := by
  unfold lkR lk idx
  rw [lkR_first T r n 0 h1 (fun e' he' => by rw [he] at he'; cases he'; exact h2) (List.getElem?_eq_some_iff.1 he).1]
  simp
end Go.Proofs.YtcmncfglcjcmhaaGreat

/- The specification of the layer (evergreenref10): its calls answer as the store's list. -/
set_option linter.unusedVariables false
set_option linter.unusedSimpArgs false
namespace Go.Proofs.YtcmncfglcjcmhaaGreat
open Go.Den

variable {w0 w : World} {Ω : List Ob} {most : Int} {T : List ET} {j : Nat} 

theorem View.at_nil {ty : Ty} {s : Sl} {xs : List ty.T} {w : World} (v : View ty w s xs) : s.len = xs.length := v.len
theorem rulesOf_append (T : List ET) (e : ET) : rulesOf (T ++ [e]) = rulesOf T ++ [e.1] := by simp [rulesOf]
theorem lensOf_append (T : List ET) (e : ET) : lensOf (T ++ [e]) = lensOf T ++ [e.2.1.1] := by simp [lensOf]
theorem depsOf_append (T : List ET) (e : ET) : depsOf (T ++ [e]) = depsOf T ++ [e.2.2.1] := by simp [depsOf]
theorem lensOf_len (T : List ET) : (lensOf T).length = T.length := List.length_map _
theorem depsOf_len (T : List ET) : (depsOf T).length = T.length := List.length_map _

end Go.Proofs.YtcmncfglcjcmhaaGreat

/- The specification of the layer (evergreenref10): Letter, Pair, Power. -/
set_option linter.unusedVariables false
set_option linter.unusedSimpArgs false
namespace Go.Proofs.YtcmncfglcjcmhaaGreat
open Go.Den

variable {w0 w : World} {Ω : List Ob} {most : Int} {T : List ET} {j : Nat} 

theorem known_false_or {l r : Int} (hu : ¬(known T l = false ∨ known T r = false)) : known T l = true ∧ known T r = true := by
  cases h1 : known T l <;> cases h2 : known T r <;> simp_all
end Go.Proofs.YtcmncfglcjcmhaaGreat

/- The fixed example of the layer, and the calls of no store. -/
set_option linter.unusedVariables false
set_option linter.unusedSimpArgs false
namespace Go.Proofs.YtcmncfglcjcmhaaGreat
open Go.Den

variable {w0 : World}

theorem ext_fresh {B B' : Nat → Prop} {w1 w' : World} (e : Ext w0 w1) (k : Step B B' w1 w') (hB : ∀ b, B b → w0.heap.size ≤ b) : Ext w0 w' :=
  ⟨Nat.le_trans e.size k.fr.size, fun b hb _ => by
    rw [k.fr.same b (Nat.lt_of_lt_of_le hb e.size) (fun h => by have := hB b h; omega), e.same b hb (fun h => h)], k.fr.pub.1.trans e.pub.1, k.fr.pub.2.1.trans e.pub.2.1, k.fr.pub.2.2.trans e.pub.2.2⟩

def aw1 : List ET := [mkLetter 97]
def aw2 : List ET := aw1 ++ [mkLetter 98]
def aw3 : List ET := aw2 ++ [mkPair aw2 1 2]
def aw4 : List ET := aw3 ++ [mkPower aw3 3 5]
theorem aw_1 : pLetter [] 4 97 = (aw1, (1, .nilIface)) := by kernel_rfl
theorem aw_2 : pLetter aw1 4 98 = (aw2, (2, .nilIface)) := by kernel_rfl
theorem aw_3 : pPair aw2 4 1 2 = (aw3, (3, .nilIface)) := by kernel_rfl
theorem aw_4 : pPower aw3 4 3 5 = (aw4, (4, .nilIface)) := by kernel_rfl
theorem aw_5 : pPower aw4 4 3 6 = (aw4, (0, errV 3)) := by kernel_rfl

theorem partV_int (cs : Array Value) (off : Nat) : partV P t_int cs off = cs[off]? := by
  have h1 : (P.underlying t_int).isSome = true := by kernel_rfl
  have h2 : isAggP P t_int = false := by kernel_rfl
  unfold partV
  rw [h2]
  cases hu : P.underlying t_int with
  | none => rw [hu] at h1; cases h1
  | some d => rfl
theorem nil_part {x : Int} (h0 : 0 ≤ x) (h8 : x < 8) : partV P t_int #[.int .i64 5, .int .i64 5, .int .i64 5, .int .i64 5, .int .i64 5, .int .i64 5, .int .i64 5, .int .i64 5] (x.toNat * 1) = some (val (.int .i64) (5 : Int)) := by
  rw [partV_int, Nat.mul_one]
  have hn : x.toNat < 8 := by omega
  generalize x.toNat = n at hn
  rcases n with _ | _ | _ | _ | _ | _ | _ | _ | n
  all_goals first | rfl | omega

end Go.Proofs.YtcmncfglcjcmhaaGreat

/- The calls of the layer's statements as one function of lists, and that a second call changes nothing. -/
set_option linter.unusedVariables false
set_option linter.unusedSimpArgs false
namespace Go.Proofs.YtcmncfglcjcmhaaGreat
open Go.Den

variable {w0 : World}

abbrev OT := Int × Int × Int × Int × Int
def pOp (L : List ET) (most : Int) (o : OT) : List ET × (Int × Value) :=
  if o.1 % 3 = 0 then pLetter L most o.2.1 else if o.1 % 3 = 1 then pPair L most o.2.2.1 o.2.2.2.1 else pPower L most o.2.2.1 o.2.2.2.2
structure OpOK (o : OT) : Prop where
  kind : 0 ≤ o.1
  b : 0 ≤ o.2.1 ∧ o.2.1 < 256
  k : o.2.2.2.2 ≤ 9223372036854775807

theorem pAdd_twice {L : List ET} {most : Int} {e : ET} : (pAdd L most e).1 = L ∨ ((pAdd L most e) = (L ++ [e], ((L.length : Int) + 1, .nilIface)) ∧ ∀ e' : ET, e'.1 = e.1 → pAdd (L ++ [e]) most e' = (L ++ [e], ((L.length : Int) + 1, .nilIface))) := by
  cases hl : lkR L e.1 with
  | some i => left; rw [(pAdd_some (most := most) hl).2.1]
  | none =>
    by_cases hm : most ≤ L.length
    · left; rw [(pAdd_full (most := most) hl hm).2]
    · right
      refine ⟨(pAdd_new (most := most) hl hm).2, fun e' he => ?_⟩
      unfold pAdd
      rw [he, lkR_append_none hl, if_pos rfl]
theorem twice_of {L : List ET} {f : List ET → List ET × (Int × Value)} (h : (f L).1 = L ∨ f (f L).1 = f L) : f (f L).1 = f L := by
  rcases h with h | h
  · rw [h]
  · exact h
theorem pOp_twice {L : List ET} {most : Int} {o : OT} : pOp (pOp L most o).1 most o = pOp L most o := by
  refine twice_of (f := fun L => pOp L most o) ?_
  simp only [pOp]
  by_cases h0 : o.1 % 3 = 0
  · simp only [if_pos h0]
    rcases pAdd_twice (L := L) (most := most) (e := mkLetter o.2.1) with h | ⟨h, h'⟩
    · exact Or.inl h
    · right
      unfold pLetter
      rw [h]
      exact h' _ rfl
  · simp only [if_neg h0]
    by_cases h1 : o.1 % 3 = 1
    · simp only [if_pos h1]
      generalize o.2.2.1 = l
      generalize o.2.2.2.1 = r
      unfold pPair
      by_cases c1 : known L l = false ∨ known L r = false
      · left; rw [if_pos c1]
      · rw [if_neg c1]
        by_cases c2 : l = 0
        · left; rw [if_pos c2]
        · rw [if_neg c2]
          by_cases c3 : r = 0
          · left; rw [if_pos c3]
          · rw [if_neg c3]
            by_cases c4 : 1152921504606846976 < (eAt L l).2.1.1 + (eAt L r).2.1.1
            · left; rw [if_pos c4]
            · rw [if_neg c4]
              rcases pAdd_twice (L := L) (most := most) (e := mkPair L l r) with h | ⟨h, h'⟩
              · exact Or.inl h
              · right
                have kl : known L l = true := by
                  cases e : known L l
                  · exact absurd (Or.inl e) c1
                  · rfl
                have kr : known L r = true := by
                  cases e : known L r
                  · exact absurd (Or.inr e) c1
                  · rfl
                have bl := of_decide_eq_true kl
                have br := of_decide_eq_true kr
                rw [h]
                simp only
                rw [known_append kl, known_append kr, if_neg (by simp), if_neg c2, if_neg c3, eAt_append bl.1 bl.2, eAt_append br.1 br.2, if_neg c4]
                exact h' _ rfl
    · simp only [if_neg h1]
      generalize o.2.2.1 = x
      generalize o.2.2.2.2 = k
      unfold pPower
      by_cases c1 : known L x = false ∨ k < 0
      · left; rw [if_pos c1]
      · rw [if_neg c1]
        by_cases c2 : k = 0 ∨ x = 0
        · left; rw [if_pos c2]
        · rw [if_neg c2]
          by_cases c3 : k = 1
          · left; rw [if_pos c3]
          · rw [if_neg c3]
            by_cases c4 : 1152921504606846976 < (eAt L x).2.1.1 * k
            · left; rw [if_pos c4]
            · rw [if_neg c4]
              rcases pAdd_twice (L := L) (most := most) (e := mkPower L x k) with h | ⟨h, h'⟩
              · exact Or.inl h
              · right
                have kx : known L x = true := by
                  cases e : known L x
                  · exact absurd (Or.inl e) c1
                  · rfl
                have bx := of_decide_eq_true kx
                rw [h]
                simp only
                rw [known_append kx, if_neg (fun c => c1 (Or.inr (c.resolve_left (by simp)))), if_neg c2, if_neg c3, eAt_append bx.1 bx.2, if_neg c4]
                exact h' _ rfl

theorem pOp_err {L : List ET} {most : Int} {o : OT} : IsErr (pOp L most o).2.2 := by
  unfold pOp
  split
  · exact pLetter_err
  split
  · exact pPair_err
  · exact pPower_err

variable {B : Nat → Prop} {p : Addr} {most : Int} {L : List ET}
end Go.Proofs.YtcmncfglcjcmhaaGreat

/- The layer's calls of the store and of the specification side by side: do, Built. -/
set_option linter.unusedVariables false
set_option linter.unusedSimpArgs false
namespace Go.Proofs.YtcmncfglcjcmhaaGreat
open Go.Den

variable {w0 w : World} {Ω : List Ob} {most most' : Int} {T R : List ET} {i j : Nat}  {p : Addr}

theorem pAdd_grow {e : ET} (g : Grow T) (hg : lkR T e.1 = none → (T.length : Int) < most → Grow (T ++ [e])) (hl : (T.length : Int) ≤ most) : Grow (pAdd T most e).1 ∧ ((pAdd T most e).1.length : Int) ≤ most := by
  cases hf : lkR T e.1 with
  | some i => rw [(pAdd_some (most := most) hf).2.1]; exact ⟨g, hl⟩
  | none =>
    by_cases hm : most ≤ T.length
    · rw [(pAdd_full (most := most) hf hm).2]; exact ⟨g, hl⟩
    · rw [(pAdd_new (most := most) hf hm).2]
      refine ⟨hg hf (by omega), ?_⟩
      simp only [List.length_append, List.length_cons, List.length_nil]; omega
theorem pLetter_grow {b : Int} (g : Grow T) (hl : (T.length : Int) ≤ most) (hb : 0 ≤ b ∧ b < 256) : Grow (pLetter T most b).1 ∧ ((pLetter T most b).1.length : Int) ≤ most :=
  pAdd_grow g (fun h _ => .letter g hb.1 hb.2 h) hl
theorem pPair_grow {l r : Int} (g : Grow T) (hl : (T.length : Int) ≤ most) : Grow (pPair T most l r).1 ∧ ((pPair T most l r).1.length : Int) ≤ most := by
  unfold pPair
  split
  · exact ⟨g, hl⟩
  rename_i hu
  obtain ⟨kl, kr⟩ := known_false_or hu
  have bl := of_decide_eq_true kl
  have br := of_decide_eq_true kr
  split
  · exact ⟨g, hl⟩
  split
  · exact ⟨g, hl⟩
  split
  · exact ⟨g, hl⟩
  · exact pAdd_grow g (fun h _ => .pair g (by omega) bl.2 (by omega) br.2 (by omega) h) hl
theorem pPower_grow {x k : Int} (g : Grow T) (hl : (T.length : Int) ≤ most) : Grow (pPower T most x k).1 ∧ ((pPower T most x k).1.length : Int) ≤ most := by
  unfold pPower
  split
  · exact ⟨g, hl⟩
  rename_i hu
  have kx : known T x = true := by
    cases e : known T x
    · exact absurd (Or.inl e) hu
    · rfl
  have hk : ¬ k < 0 := fun h => hu (Or.inr h)
  have bx := of_decide_eq_true kx
  split
  · exact ⟨g, hl⟩
  split
  · exact ⟨g, hl⟩
  split
  · exact ⟨g, hl⟩
  · exact pAdd_grow g (fun h _ => .power g (by omega) bx.2 (by omega) (by omega) h) hl
theorem pOp_grow {o : OT} (g : Grow T) (hl : (T.length : Int) ≤ most) (ho : OpOK o) : Grow (pOp T most o).1 ∧ ((pOp T most o).1.length : Int) ≤ most := by
  unfold pOp
  split
  · exact pLetter_grow g hl ho.b
  split
  · exact pPair_grow g hl
  · exact pPower_grow g hl

def clip20 (n : Int) : Int := if n < 0 then 0 else if 1048576 < n then 1048576 else n
theorem clip20_bound (n : Int) : 0 ≤ clip20 n ∧ clip20 n ≤ 1048576 := by unfold clip20; grind
end Go.Proofs.YtcmncfglcjcmhaaGreat

/- Balanced texts of a list of rules; a pair of two of them; what a call may add. -/
set_option linter.unusedVariables false
set_option linter.unusedSimpArgs false
namespace Go.Proofs.YtcmncfglcjcmhaaGreat
open Go.Den

variable {T T' : List ET} {most : Int}

/-! ### Longer lists -/
theorem ext_len (h : T <+: T') : T.length ≤ T'.length := h.length_le
theorem ext_eAt (h : T <+: T') {id : Int} (h0 : 0 ≤ id) (h1 : id ≤ T.length) : eAt T' id = eAt T id := by
  obtain ⟨s, rfl⟩ := h
  unfold eAt
  by_cases c : id = 0
  · rw [if_pos c, if_pos c]
  · rw [if_neg c, if_neg c, List.getD_eq_getElem?_getD, List.getD_eq_getElem?_getD, List.getElem?_append_left (by omega)]
theorem ext_txts (h : T <+: T') : txts T <+: txts T' := by
  obtain ⟨s, rfl⟩ := h
  have key : ∀ (s : List ET) (acc : List (List Int)), acc <+: s.foldl (fun acc e => acc ++ [tx1 acc e.1]) acc := by
    intro s
    induction s with
    | nil => intro acc; exact List.prefix_refl _
    | cons e s ih => intro acc; rw [List.foldl_cons]; exact (List.prefix_append _ _).trans (ih _)
  unfold txts
  rw [List.foldl_append]
  exact key s _
theorem ext_txt (h : T <+: T') {id : Int} (h0 : 0 ≤ id) (h1 : id ≤ T.length) : txt T' id = txt T id := by
  obtain ⟨s, hs⟩ := ext_txts h
  unfold txt gt
  rw [← hs]
  by_cases c : id = 0
  · rw [if_pos c, if_pos c]
  · rw [if_neg c, if_neg c, List.getD_eq_getElem?_getD, List.getD_eq_getElem?_getD, List.getElem?_append_left (by rw [txts_len]; omega)]

/-! ### Balanced texts -/
structure Nd (T : List ET) (x : Int) (t : List Int) (d : Int) : Prop where
  pos : 1 ≤ x
  le : x ≤ T.length
  txt : txt T x = t
  dep : (eAt T x).2.2.1 = d
  even : (eAt T x).2.2.2 = true
theorem Nd.ext {x : Int} {t : List Int} {d : Int} (n : Nd T x t d) (h : T <+: T') : Nd T' x t d := by
  have hl := ext_len h
  have := n.pos
  have := n.le
  exact ⟨n.pos, by omega, by rw [ext_txt h (by omega) n.le]; exact n.txt, by rw [ext_eAt h (by omega) n.le]; exact n.dep, by rw [ext_eAt h (by omega) n.le]; exact n.even⟩
theorem Nd.len (g : Grow T) {x : Int} {t : List Int} {d : Int} (n : Nd T x t d) : (eAt T x).2.1.1 = t.length ∧ 1 ≤ t.length ∧ 0 ≤ d := by
  have := n.pos
  have h1 := g.len (id := x) (by omega) n.le
  have h2 := g.at_ (id := x) (by omega) n.le
  rw [n.txt] at h1
  have h3 := h2.2.2.2 n.pos
  rw [n.dep] at h2
  refine ⟨h1, by omega, h2.2.1⟩
theorem Nd.bound (g : Grow T) {x : Int} {t : List Int} {d : Int} (n : Nd T x t d) : d ≤ T.length ∧ (t.length : Int) ≤ 1152921504606846976 := by
  have := n.pos
  have h2 := g.at_ (id := x) (by omega) n.le
  have h3 := (n.len g).1
  have h4 := h2.1.len
  rw [n.dep] at h2
  exact ⟨h2.2.2.1, by omega⟩
/-- a balanced text is a letter or a pair of two -/
theorem Nd.parts (g : Grow T) {x : Int} {t : List Int} {d : Int} (n : Nd T x t d) : (d = 0 ∧ ∃ b, t = [b] ∧ (eAt T x).1 = (1, b, 0, 0, 0) ∧ 0 ≤ b ∧ b < 256) ∨
    ∃ l r t1 t2 d1 d2, (eAt T x).1 = (2, 0, l, r, 0) ∧ l < x ∧ r < x ∧ Nd T l t1 d1 ∧ Nd T r t2 d2 ∧ t = t1 ++ t2 ∧ d = 1 + max d1 d2 ∧ d1 ≤ d2 + 1 ∧ d2 ≤ d1 + 1 := by
  obtain ⟨h1, h2, h3, h4, h5⟩ := n
  cases g.txt h1 h2 with
  | letter b hb0 hb1 e ht =>
    left
    rw [e] at h4
    exact ⟨h4.symm, b, by rw [← h3, ht], by rw [e]; rfl, hb0, hb1⟩
  | pair l r a1 a2 a3 a4 a5 e ht =>
    right
    rw [e] at h4 h5
    simp only [mkPair, Bool.and_eq_true, decide_eq_true_eq] at h4 h5
    obtain ⟨⟨⟨e1, e2⟩, e3⟩, e4⟩ := h5
    refine ⟨l, r, YtcmncfglcjcmhaaGreat.txt T l, YtcmncfglcjcmhaaGreat.txt T r, (eAt T l).2.2.1, (eAt T r).2.2.1, by rw [e]; rfl, a2, a4, ⟨a1, by omega, rfl, rfl, e1⟩, ⟨a3, by omega, rfl, rfl, e2⟩, by rw [← h3, ht], ?_, by omega, by omega⟩
    rw [← h4]
    split <;> omega
  | power a k a1 a2 a3 a4 e ht =>
    rw [e] at h5
    simp [mkPower] at h5

/-! ### What a call may add -/
structure Res (T : List ET) (most : Int) (N : Nat) (Q : List ET → Int → Prop) (T' : List ET) (r : Int × Value) : Prop where
  ext : T <+: T'
  grow : Grow T'
  cap : (T'.length : Int) ≤ most
  len : T'.length ≤ T.length + N
  out : (r.2 = .nilIface ∧ Q T' r.1) ∨ (r = (0, errV 3) ∧ most < (T.length : Int) + (N : Int))
theorem Res.same {Q : List ET → Int → Prop} {N : Nat} {x : Int} (g : Grow T) (hm : (T.length : Int) ≤ most) (hq : Q T x) : Res T most N Q T (x, .nilIface) :=
  ⟨List.prefix_refl _, g, hm, by omega, Or.inl ⟨rfl, hq⟩⟩
theorem Res.mono {Q Q' : List ET → Int → Prop} {N N' : Nat} {r : Int × Value} (h : Res T most N Q T' r) (hN : N ≤ N') (hQ : ∀ x, Q T' x → Q' T' x) : Res T most N' Q' T' r := by
  obtain ⟨h1, h2, h3, h4, h5⟩ := h
  refine ⟨h1, h2, h3, by omega, ?_⟩
  rcases h5 with ⟨a, b⟩ | ⟨a, b⟩
  · exact Or.inl ⟨a, hQ _ b⟩
  · exact Or.inr ⟨a, by omega⟩
theorem Res.andThen {Q1 Q2 : List ET → Int → Prop} {N1 N2 : Nat} {T1 : List ET} {r1 r : Int × Value} (h1 : Res T most N1 Q1 T1 r1) (h2 : Res T1 most N2 Q2 T' r) : Res T most (N1 + N2) Q2 T' r := by
  obtain ⟨a1, a2, a3, a4, a5⟩ := h1
  obtain ⟨b1, b2, b3, b4, b5⟩ := h2
  refine ⟨a1.trans b1, b2, b3, by omega, ?_⟩
  rcases b5 with h | ⟨h, h'⟩
  · exact Or.inl h
  · exact Or.inr ⟨h, by omega⟩
theorem Res.fail {Q1 Q2 : List ET → Int → Prop} {N1 N2 : Nat} {T1 : List ET} {r1 : Int × Value} (h1 : Res T most N1 Q1 T1 r1) (h : most < (T.length : Int) + (N1 : Int)) : Res T most (N1 + N2) Q2 T1 (0, errV 3) := by
  obtain ⟨a1, a2, a3, a4, a5⟩ := h1
  exact ⟨a1, a2, a3, by omega, Or.inr ⟨rfl, by omega⟩⟩

theorem pAdd_res {e : ET} {Q : List ET → Int → Prop} (g : Grow T) (hm : (T.length : Int) ≤ most) (hg : lkR T e.1 = none → Grow (T ++ [e])) (h1 : ∀ i, lkR T e.1 = some i → Q T i) (h2 : lkR T e.1 = none → Q (T ++ [e]) ((T.length : Int) + 1)) :
    Res T most 1 Q (pAdd T most e).1 (pAdd T most e).2 := by
  cases hl : lkR T e.1 with
  | some i =>
    rw [(pAdd_some (most := most) hl).2.1]
    exact .same g hm (h1 i hl)
  | none =>
    by_cases hf : most ≤ T.length
    · rw [(pAdd_full (most := most) hl hf).2]
      exact ⟨List.prefix_refl _, g, hm, Nat.le_succ _, Or.inr ⟨rfl, by omega⟩⟩
    · rw [(pAdd_new (most := most) hl hf).2]
      exact ⟨List.prefix_append _ _, hg hl, by simp only [List.length_append, List.length_cons, List.length_nil]; omega, by simp, Or.inl ⟨rfl, h2 hl⟩⟩
theorem pair_known (g : Grow T) {i l r : Int} (h : lkR T (mkPair T l r).1 = some i) : 1 ≤ i ∧ i ≤ T.length ∧ eAt T i = mkPair T l r ∧ txt T i = txt T l ++ txt T r := by
  have hb := lkR_pos h
  have hr := lkR_rule h
  cases g.txt hb.1 hb.2 with
  | letter b _ _ e _ => rw [e] at hr; simp [mkLetter, mkPair] at hr
  | pair l' r' a1 a2 a3 a4 a5 e ht =>
    rw [e] at hr
    simp only [mkPair, Prod.mk.injEq] at hr
    obtain ⟨_, _, rfl, rfl, _⟩ := hr
    exact ⟨hb.1, hb.2, e, ht⟩
  | power x k _ _ _ _ e _ => rw [e] at hr; simp [mkPower, mkPair] at hr
theorem txt_mkPair (g : Grow T) {l r : Int} (h1 : 1 ≤ l ∧ l ≤ T.length) (h2 : 1 ≤ r ∧ r ≤ T.length) : txt (T ++ [mkPair T l r]) ((T.length : Int) + 1) = txt T l ++ txt T r := by
  unfold txt
  have := gt_last (acc := txts T) (t := tx1 (txts T) (mkPair T l r).1)
  rw [txts_len] at this
  rw [txts_append, this]; rfl
/-- a pair of any two texts -/
theorem pPair_res (g : Grow T) (hm : (T.length : Int) ≤ most) {l r : Int} (h1 : 1 ≤ l ∧ l ≤ T.length) (h2 : 1 ≤ r ∧ r ≤ T.length) (hl : (eAt T l).2.1.1 + (eAt T r).2.1.1 ≤ 1152921504606846976) :
    Res T most 1 (fun T' x => 1 ≤ x ∧ x ≤ T'.length ∧ eAt T' x = mkPair T l r ∧ txt T' x = txt T l ++ txt T r) (pPair T most l r).1 (pPair T most l r).2 := by
  have hp : pPair T most l r = pAdd T most (mkPair T l r) := by
    unfold pPair
    have kl : known T l = true := decide_eq_true (by omega)
    have kr : known T r = true := decide_eq_true (by omega)
    rw [kl, kr, if_neg (by simp), if_neg (by omega), if_neg (by omega), if_neg (by omega)]
  rw [hp]
  refine pAdd_res g hm (.pair g h1.1 h1.2 h2.1 h2.2 hl) (fun i hi => pair_known g hi) (fun hn => ⟨by omega, by simp, eAt_last _ _, txt_mkPair g h1 h2⟩)
/-- a pair of two balanced texts -/
theorem Nd.pair (g : Grow T) (hm : (T.length : Int) ≤ most) {l r : Int} {t1 t2 : List Int} {d1 d2 : Int} (n1 : Nd T l t1 d1) (n2 : Nd T r t2 d2) (h1 : d1 ≤ d2 + 1) (h2 : d2 ≤ d1 + 1) (hl : (t1.length : Int) + t2.length ≤ 1152921504606846976) :
    Res T most 1 (fun T' x => Nd T' x (t1 ++ t2) (1 + max d1 d2)) (pPair T most l r).1 (pPair T most l r).2 := by
  refine (pPair_res g hm ⟨n1.pos, n1.le⟩ ⟨n2.pos, n2.le⟩ (by rw [(n1.len g).1, (n2.len g).1]; exact hl)).mono (Nat.le_refl _) ?_
  rintro x ⟨a1, a2, a3, a4⟩
  refine ⟨a1, a2, by rw [a4, n1.txt, n2.txt], ?_, ?_⟩
  · rw [a3]
    simp only [mkPair, n1.dep, n2.dep]
    split <;> omega
  · rw [a3]
    simp only [mkPair, n1.even, n2.even, n1.dep, n2.dep, Bool.true_and, Bool.and_eq_true, decide_eq_true_eq]
    omega

/-! ### How long a balanced text is -/
def fibL : Nat → Nat
  | 0 => 1
  | 1 => 2
  | n + 2 => fibL n + fibL (n + 1)
theorem fibL_mono (n : Nat) : fibL n ≤ fibL (n + 1) := by
  induction n with
  | zero => decide
  | succ n ih => show fibL (n + 1) ≤ fibL n + fibL (n + 1); omega
theorem fibL_le {m n : Nat} (h : m ≤ n) : fibL m ≤ fibL n := by
  induction h with
  | refl => exact Nat.le_refl _
  | step _ ih => exact Nat.le_trans ih (fibL_mono _)
theorem fibL_pos (n : Nat) : 1 ≤ fibL n := fibL_le (m := 0) (Nat.zero_le n)
theorem Nd.fib (g : Grow T) : ∀ (n : Nat) {x : Int} {t : List Int} {d : Int}, x.toNat = n → Nd T x t d → fibL d.toNat ≤ t.length := by
  intro n
  induction n using Nat.strongRecOn with
  | ind n ih =>
    intro x t d hn nd
    have hp := nd.pos
    rcases nd.parts g with ⟨rfl, b, rfl, _⟩ | ⟨l, r, t1, t2, d1, d2, _, hl, hr, n1, n2, rfl, hd, h1, h2⟩
    · exact Nat.le_refl 1
    · have p1 := n1.pos
      have p2 := n2.pos
      have i1 := ih l.toNat (by omega) rfl n1
      have i2 := ih r.toNat (by omega) rfl n2
      have l1 := n1.len g
      have l2 := n2.len g
      rw [List.length_append]
      have key : ∀ a b : Nat, a ≤ b + 1 → fibL (b + 1) ≤ fibL b + fibL b ∧ (a ≤ b → b ≤ a + 1 → fibL (b + 1) ≤ fibL a + fibL b) := by
        intro a b _
        have h1 : fibL (b + 1) ≤ fibL b + fibL b := by
          cases b with
          | zero => decide
          | succ b => show fibL b + fibL (b + 1) ≤ _; have := fibL_mono b; omega
        refine ⟨h1, fun h2 h3 => ?_⟩
        by_cases c : a = b
        · subst c; exact h1
        · have : b = a + 1 := by omega
          subst this
          exact Nat.le_refl _
      by_cases c : d1 ≤ d2
      · have e : d.toNat = d2.toNat + 1 := by omega
        rw [e]
        have := (key d1.toNat d2.toNat (by omega)).2 (by omega) (by omega)
        omega
      · have e : d.toNat = d1.toNat + 1 := by omega
        rw [e]
        have := (key d2.toNat d1.toNat (by omega)).2 (by omega) (by omega)
        omega

end Go.Proofs.YtcmncfglcjcmhaaGreat

/- What the package avl computes: joins of balanced texts. -/
set_option linter.unusedVariables false
set_option linter.unusedSimpArgs false
namespace Go.Proofs.YtcmncfglcjcmhaaGreat
open Go.Den

variable {w0 w : World} {Ω : List Ob} {p : Addr} {most : Int} {T : List ET} {i : Nat}

theorem intern_Even_sp {id : Int} (s : Sp w0 Ω w) (i : Nat) (hi : Ω[i]? = some (sto p most T)) {K : Bool → World → Prop} (h : ∀ w', Sp w0 Ω w' → K (known T id && (eAt T id).2.2.2) w') : C_intern_Store_Even (some p) id K w := by
  apply S_intern_Store_Even
  unfold F_intern_Store_Even
  refine gd_t rfl (intern_known_sp s i hi ?_)
  cases hk : known T id
  · rw [hk] at h
    exact gd_f rfl (h _ s)
  · rw [hk] at h
    exact gd_t rfl (intern_at_sp s i hi hk fun w' s => h _ s)
theorem intern_Even_nil {id : Int} {K : Bool → World → Prop} (h : K false w0) : C_intern_Store_Even none id K w0 := by
  apply S_intern_Store_Even
  unfold F_intern_Store_Even
  exact gd_f rfl h
theorem avl_Balanced_k {id : Int} (s : Sp w0 Ω w) (i : Nat) (hi : Ω[i]? = some (sto p most T)) (hk : 0 ≤ id ∧ id ≤ T.length) {K : Bool × Value → World → Prop} (h : ∀ w', Sp w0 Ω w' → K ((eAt T id).2.2.2, .nilIface) w') : C_avl_Balanced (some p) id K w := by
  apply S_avl_Balanced
  unfold F_avl_Balanced
  refine intern_Depth_k s i hi hk fun w1 s => nilIfc_nil (gd_f rfl (intern_Even_sp s i hi fun w2 s => ?_))
  have hkn : known T id = true := decide_eq_true hk
  rw [hkn, Bool.true_and]
  exact h _ s
theorem avl_Balanced_u {id : Int} (s : Sp w0 Ω w) (i : Nat) (hi : Ω[i]? = some (sto p most T)) (hk : ¬ (0 ≤ id ∧ id ≤ T.length)) {K : Bool × Value → World → Prop} (h : ∀ w', Sp w0 Ω w' → K (false, errV 1) w') : C_avl_Balanced (some p) id K w := by
  apply S_avl_Balanced
  unfold F_avl_Balanced
  exact intern_Depth_u s i hi hk fun w1 s => nilIfc_err (gd_t rfl (h _ s))

/-- a call of Pair for two balanced texts -/
theorem pair_nd {l r : Int} {t1 t2 : List Int} {d1 d2 : Int} (s : Sp w0 Ω w) (i : Nat) (hi : Ω[i]? = some (sto p most T)) (n1 : Nd T l t1 d1) (n2 : Nd T r t2 d2) (h1 : d1 ≤ d2 + 1) (h2 : d2 ≤ d1 + 1) (hl : (t1.length : Int) + t2.length ≤ 1152921504606846976) {K : Int × Value → World → Prop}
    (h : ∀ T' x w', Res T most 1 (fun T' x => Nd T' x (t1 ++ t2) (1 + max d1 d2)) T' x → Sp w0 (Ω.set i (sto p most T')) w' → K x w') : C_intern_Store_Pair (some p) l r K w := by
  obtain ⟨_, _, _, hb0, hb1, hb2, hg⟩ := Sp.entry s i hi
  exact intern_Pair_sp s i hi fun w' s => h _ _ _ (Nd.pair hg hb2 n1 n2 h1 h2 hl) s
theorem avl_two_sp {a b c : Int} {ta tb tc : List Int} {da db dc : Int} (s : Sp w0 Ω w) (i : Nat) (hi : Ω[i]? = some (sto p most T)) (na : Nd T a ta da) (nb : Nd T b tb db) (nc : Nd T c tc dc) (h1 : db ≤ dc + 1) (h2 : dc ≤ db + 1) (h3 : da ≤ 1 + max db dc + 1) (h4 : 1 + max db dc ≤ da + 1)
    (hl : (ta.length : Int) + tb.length + tc.length ≤ 1152921504606846976) {K : Int × Value → World → Prop}
    (h : ∀ T' x w', Res T most 2 (fun T' x => Nd T' x (ta ++ (tb ++ tc)) (1 + max da (1 + max db dc))) T' x → Sp w0 (Ω.set i (sto p most T')) w' → K x w') : C_avl_two (some p) a b c K w := by
  apply S_avl_two
  unfold F_avl_two
  refine pair_nd s i hi nb nc h1 h2 (by omega) fun T1 x1 w1 r1 s => ?_
  rcases r1.out with ⟨e1, q1⟩ | ⟨e1, e2⟩
  · rw [e1]
    refine nilIfc_nil (gd_f rfl (pair_nd s i (setGet hi) (na.ext r1.ext) q1 h3 h4 (by simp only [List.length_append]; omega) fun T2 x2 w2 r2 s => ?_))
    rw [List.set_set] at s
    exact h _ _ _ (r1.andThen r2) s
  · rw [e1]
    exact nilIfc_err (gd_t rfl (h _ _ _ (r1.fail (N2 := 1) e2) s))
theorem avl_four_sp {a b c d : Int} {ta tb tc td : List Int} {da db dc dd : Int} (s : Sp w0 Ω w) (i : Nat) (hi : Ω[i]? = some (sto p most T)) (na : Nd T a ta da) (nb : Nd T b tb db) (nc : Nd T c tc dc) (nd : Nd T d td dd) (h1 : da ≤ db + 1) (h2 : db ≤ da + 1) (h3 : dc ≤ dd + 1) (h4 : dd ≤ dc + 1)
    (h5 : max da db ≤ max dc dd + 1) (h6 : max dc dd ≤ max da db + 1) (hl : (ta.length : Int) + tb.length + tc.length + td.length ≤ 1152921504606846976) {K : Int × Value → World → Prop}
    (h : ∀ T' x w', Res T most 3 (fun T' x => Nd T' x ((ta ++ tb) ++ (tc ++ td)) (1 + max (1 + max da db) (1 + max dc dd))) T' x → Sp w0 (Ω.set i (sto p most T')) w' → K x w') : C_avl_four (some p) a b c d K w := by
  apply S_avl_four
  unfold F_avl_four
  refine pair_nd s i hi na nb h1 h2 (by omega) fun T1 x1 w1 r1 s => ?_
  rcases r1.out with ⟨e1, q1⟩ | ⟨e1, e2⟩
  · rw [e1]
    refine nilIfc_nil (gd_f rfl (avl_two_sp s i (setGet hi) q1 (nc.ext r1.ext) (nd.ext r1.ext) h3 h4 (by omega) (by omega) (by simp only [List.length_append]; omega) fun T2 x2 w2 r2 s => ?_))
    rw [List.set_set] at s
    exact h _ _ _ (r1.andThen r2) s
  · rw [e1]
    exact nilIfc_err (gd_t rfl (h _ _ _ (r1.fail (N2 := 2) e2) s))

theorem avl_parts_sp {x l r : Int} {t1 t2 : List Int} {d1 d2 : Int} (s : Sp w0 Ω w) (i : Nat) (hi : Ω[i]? = some (sto p most T)) (hx : 1 ≤ x ∧ x ≤ T.length) (hr : (eAt T x).1 = (2, 0, l, r, 0)) (n1 : Nd T l t1 d1) (n2 : Nd T r t2 d2) {K : Int × Int × Int × Int × Value → World → Prop}
    (h : ∀ w', Sp w0 Ω w' → K (l, r, d1, d2, .nilIface) w') : C_avl_parts (some p) x K w := by
  apply S_avl_parts
  unfold F_avl_parts
  have p1 := n1.pos
  have p2 := n2.pos
  refine intern_Rule_k s i hi hx fun w1 s => s.allocK fun a2 w2 s => s.st0 0 rfl rfl rfl fun w3 s => ?_
  rw [hr] at s ⊢
  refine nilIfc_nil (gd_f rfl (s.ldi (x := l) 0 2 rfl rfl (intern_Depth_k s (i + 1) hi ⟨by omega, n1.le⟩ fun w4 s => nilIfc_nil (gd_f rfl (s.ldi (x := r) 0 3 rfl rfl (intern_Depth_k s (i + 1) hi ⟨by omega, n2.le⟩ fun w5 s => nilIfc_nil (gd_f rfl (s.drawK fun w6 s => ?_))))))))
  refine s.ldi (x := l) 0 2 rfl rfl (s.ldi (x := r) 0 3 rfl rfl ?_)
  rw [n1.dep, n2.dep]
  exact h _ s.pop

/-- texts whose depths differ by at most two -/
def LevQ (t : List Int) (da db : Int) : List ET → Int → Prop := fun T' x => ∃ d, Nd T' x t d ∧ ((da ≤ db + 1 ∧ db ≤ da + 1 → d = 1 + max da db) ∧ (max da db ≤ d ∧ d ≤ 1 + max da db))
theorem avl_level_sp {a b : Int} {ta tb : List Int} {da db : Int} (s : Sp w0 Ω w) (i : Nat) (hi : Ω[i]? = some (sto p most T)) (na : Nd T a ta da) (nb : Nd T b tb db) (h1 : da ≤ db + 2) (h2 : db ≤ da + 2) (hl : (ta.length : Int) + tb.length ≤ 1152921504606846976) {K : Int × Value → World → Prop}
    (h : ∀ T' x w', Res T most 3 (LevQ (ta ++ tb) da db) T' x → Sp w0 (Ω.set i (sto p most T')) w' → K x w') : C_avl_level (some p) a b K w := by
  apply S_avl_level
  unfold F_avl_level
  obtain ⟨_, _, _, hb0, hb1, hb2, hg⟩ := Sp.entry s i hi
  have pa := na.pos
  have pb := nb.pos
  have ba := na.bound hg
  have bb := nb.bound hg
  have la := na.len hg
  have lb := nb.len hg
  refine intern_Depth_k s i hi ⟨by omega, na.le⟩ fun w1 s => nilIfc_nil (gd_f rfl (intern_Depth_k s i hi ⟨by omega, nb.le⟩ fun w2 s => nilIfc_nil (gd_f rfl ?_)))
  rw [na.dep, nb.dep]
  refine arith_i64 (by omega) (by omega) (gd_dec (fun c1 => ?_) (fun c1 => arith_i64 (by omega) (by omega) (gd_dec (fun c2 => ?_) (fun c2 => ?_))))
  · rcases na.parts hg with ⟨e0, _⟩ | ⟨l, r, t1, t2, d1, d2, hr, _, _, n1, n2, ht, hd, k1, k2⟩
    · omega
    have q1 := n1.len hg
    have q2 := n2.len hg
    have hll : (ta.length : Int) = t1.length + t2.length := by rw [ht, List.length_append]; omega
    refine avl_parts_sp s i hi ⟨pa, na.le⟩ hr n1 n2 fun w3 s => nilIfc_nil (gd_f rfl ?_)
    dsimp only
    refine gd_dec (fun c3 => ?_) (fun c3 => ?_)
    · refine avl_two_sp s i hi n1 n2 nb (by omega) (by omega) (by omega) (by omega) (by omega) fun T' x w' r s => h _ _ _ (r.mono (by decide) fun y q => ⟨1 + max d1 (1 + max d2 db), ?_, by omega, by omega⟩) s
      rw [ht, List.append_assoc]; exact q
    · rcases n2.parts hg with ⟨e0, _⟩ | ⟨l2, r2, u1, u2, f1, f2, hr2, _, _, m1, m2, ht2, hd2, k3, k4⟩
      · omega
      have q3 := m1.len hg
      have q4 := m2.len hg
      have hll2 : (t2.length : Int) = u1.length + u2.length := by rw [ht2, List.length_append]; omega
      refine avl_parts_sp s i hi ⟨n2.pos, n2.le⟩ hr2 m1 m2 fun w4 s => nilIfc_nil (gd_f rfl ?_)
      refine avl_four_sp s i hi n1 m1 m2 nb (by omega) (by omega) (by omega) (by omega) (by omega) (by omega) (by omega) fun T' x w' r s => h _ _ _ (r.mono (by decide) fun y q => ⟨1 + max (1 + max d1 f1) (1 + max f2 db), ?_, by omega, by omega⟩) s
      have : ta ++ tb = (t1 ++ u1) ++ (u2 ++ tb) := by rw [ht, ht2]; simp
      rw [this]; exact q
  · rcases nb.parts hg with ⟨e0, _⟩ | ⟨l, r, t1, t2, d1, d2, hr, _, _, n1, n2, ht, hd, k1, k2⟩
    · omega
    have q1 := n1.len hg
    have q2 := n2.len hg
    have hll : (tb.length : Int) = t1.length + t2.length := by rw [ht, List.length_append]; omega
    refine avl_parts_sp s i hi ⟨pb, nb.le⟩ hr n1 n2 fun w3 s => nilIfc_nil (gd_f rfl ?_)
    dsimp only
    refine gd_dec (fun c3 => ?_) (fun c3 => ?_)
    · rcases n1.parts hg with ⟨e0, _⟩ | ⟨l2, r2, u1, u2, f1, f2, hr2, _, _, m1, m2, ht2, hd2, k3, k4⟩
      · omega
      have q3 := m1.len hg
      have q4 := m2.len hg
      have hll2 : (t1.length : Int) = u1.length + u2.length := by rw [ht2, List.length_append]; omega
      refine avl_parts_sp s i hi ⟨n1.pos, n1.le⟩ hr2 m1 m2 fun w4 s => nilIfc_nil (gd_f rfl ?_)
      refine avl_four_sp s i hi na m1 m2 n2 (by omega) (by omega) (by omega) (by omega) (by omega) (by omega) (by omega) fun T' x w' r s => h _ _ _ (r.mono (by decide) fun y q => ⟨1 + max (1 + max da f1) (1 + max f2 d2), ?_, by omega, by omega⟩) s
      have : ta ++ tb = (ta ++ u1) ++ (u2 ++ t2) := by rw [ht, ht2]; simp
      rw [this]; exact q
    · refine pair_nd s i hi na n1 (by omega) (by omega) (by omega) fun T1 x1 w4 r1 s => ?_
      rcases r1.out with ⟨e1, g1⟩ | ⟨e1, e2⟩
      · rw [e1]
        refine nilIfc_nil (gd_f rfl (pair_nd s i (setGet hi) g1 (n2.ext r1.ext) (by omega) (by omega) (by simp only [List.length_append]; omega) fun T2 x2 w5 r2 s => ?_))
        rw [List.set_set] at s
        refine h _ _ _ ((r1.andThen r2).mono (by decide) fun y q => ⟨1 + max (1 + max da d1) d2, ?_, by omega, by omega⟩) s
        rw [ht, ← List.append_assoc]; exact q
      · rw [e1]
        exact nilIfc_err (gd_t rfl (h _ _ _ (r1.fail (N2 := 2) e2) s))
  · exact pair_nd s i hi na nb (by omega) (by omega) hl fun T' x w' r s => h _ _ _ (r.mono (by decide) fun y q => ⟨_, q, by omega, by omega⟩) s

theorem avl_join_sp : ∀ (n : Nat) {a b : Int} {ta tb : List Int} {da db : Int} {w0 w : World} {Ω : List Ob} {T : List ET}, (da + db).toNat = n → Sp w0 Ω w → ∀ (i : Nat), Ω[i]? = some (sto p most T) → Nd T a ta da → Nd T b tb db → (ta.length : Int) + tb.length ≤ 1152921504606846976 →
    ∀ {K : Int × Value → World → Prop}, (∀ T' x w', Res T most (3 * (max da db - min da db).toNat + 1) (fun T' x => ∃ d, Nd T' x (ta ++ tb) d ∧ max da db ≤ d ∧ d ≤ 1 + max da db) T' x → Sp w0 (Ω.set i (sto p most T')) w' → K x w') → C_avl_join (some p) a b K w := by
  intro n
  induction n using Nat.strongRecOn with
  | ind n ih =>
    intro a b ta tb da db w0 w Ω T hn s i hi na nb hl K h
    apply S_avl_join
    unfold F_avl_join
    obtain ⟨_, _, _, hb0, hb1, hb2, hg⟩ := Sp.entry s i hi
    have pa := na.pos
    have pb := nb.pos
    have ba := na.bound hg
    have bb := nb.bound hg
    have la := na.len hg
    have lb := nb.len hg
    refine intern_Depth_k s i hi ⟨by omega, na.le⟩ fun w1 s => nilIfc_nil (gd_f rfl (intern_Depth_k s i hi ⟨by omega, nb.le⟩ fun w2 s => nilIfc_nil (gd_f rfl ?_)))
    rw [na.dep, nb.dep]
    refine arith_i64 (by omega) (by omega) (gd_dec (fun c1 => ?_) (fun c1 => arith_i64 (by omega) (by omega) (gd_dec (fun c2 => ?_) (fun c2 => ?_))))
    · rcases na.parts hg with ⟨e0, _⟩ | ⟨l, r, t1, t2, d1, d2, hr, _, _, n1, n2, ht, hd, k1, k2⟩
      · omega
      have q1 := n1.len hg
      have q2 := n2.len hg
      have hll : (ta.length : Int) = t1.length + t2.length := by rw [ht, List.length_append]; omega
      refine avl_parts_sp s i hi ⟨pa, na.le⟩ hr n1 n2 fun w3 s => nilIfc_nil (gd_f rfl ?_)
      refine ih (d2 + db).toNat (by omega) rfl s i hi n2 nb (by omega) fun T1 x1 w4 r1 s => ?_
      rcases r1.out with ⟨e1, d, g1, g2, g3⟩ | ⟨e1, e2⟩
      · rw [e1]
        refine nilIfc_nil (gd_f rfl (avl_level_sp s i (setGet hi) (n1.ext r1.ext) g1 (by omega) (by omega) (by simp only [List.length_append]; omega) fun T2 x2 w5 r2 s => ?_))
        rw [List.set_set] at s
        refine h _ _ _ ((r1.andThen r2).mono (by omega) ?_) s
        rintro y ⟨d', q, q5, q6⟩
        refine ⟨d', ?_, by omega, by omega⟩
        rw [ht, List.append_assoc]; exact q
      · rw [e1]
        exact nilIfc_err (gd_t rfl (h _ _ _ ((r1.fail (N2 := 3) (Q2 := fun T' x => ∃ d, Nd T' x (ta ++ tb) d ∧ max da db ≤ d ∧ d ≤ 1 + max da db) e2).mono (by omega) fun _ h => h) s))
    · rcases nb.parts hg with ⟨e0, _⟩ | ⟨l, r, t1, t2, d1, d2, hr, _, _, n1, n2, ht, hd, k1, k2⟩
      · omega
      have q1 := n1.len hg
      have q2 := n2.len hg
      have hll : (tb.length : Int) = t1.length + t2.length := by rw [ht, List.length_append]; omega
      refine avl_parts_sp s i hi ⟨pb, nb.le⟩ hr n1 n2 fun w3 s => nilIfc_nil (gd_f rfl ?_)
      refine ih (da + d1).toNat (by omega) rfl s i hi na n1 (by omega) fun T1 x1 w4 r1 s => ?_
      rcases r1.out with ⟨e1, d, g1, g2, g3⟩ | ⟨e1, e2⟩
      · rw [e1]
        refine nilIfc_nil (gd_f rfl (avl_level_sp s i (setGet hi) g1 (n2.ext r1.ext) (by omega) (by omega) (by simp only [List.length_append]; omega) fun T2 x2 w5 r2 s => ?_))
        rw [List.set_set] at s
        refine h _ _ _ ((r1.andThen r2).mono (by omega) ?_) s
        rintro y ⟨d', q, q5, q6⟩
        refine ⟨d', ?_, by omega, by omega⟩
        rw [ht, ← List.append_assoc]; exact q
      · rw [e1]
        exact nilIfc_err (gd_t rfl (h _ _ _ ((r1.fail (N2 := 3) (Q2 := fun T' x => ∃ d, Nd T' x (ta ++ tb) d ∧ max da db ≤ d ∧ d ≤ 1 + max da db) e2).mono (by omega) fun _ h => h) s))
    · exact pair_nd s i hi na nb (by omega) (by omega) hl fun T' x w' r s => h _ _ _ (r.mono (by omega) fun y q => ⟨_, q, by omega, by omega⟩) s

end Go.Proofs.YtcmncfglcjcmhaaGreat

/- Join as a whole, and the least lengths. -/
set_option linter.unusedVariables false
set_option linter.unusedSimpArgs false
namespace Go.Proofs.YtcmncfglcjcmhaaGreat
open Go.Den

variable {w0 w : World} {Ω : List Ob} {p : Addr} {most : Int} {T : List ET} {i : Nat}

/-- a balanced text, the empty one too -/
structure Nd0 (T : List ET) (x : Int) (t : List Int) (d : Int) : Prop where
  pos : 0 ≤ x
  le : x ≤ T.length
  txt : txt T x = t
  dep : (eAt T x).2.2.1 = d
  even : (eAt T x).2.2.2 = true
theorem Nd0.zero : Nd0 T 0 [] 0 := ⟨Int.le_refl _, by omega, rfl, rfl, rfl⟩
theorem Nd.nd0 {x : Int} {t : List Int} {d : Int} (n : Nd T x t d) : Nd0 T x t d := ⟨by have := n.pos; omega, n.le, n.txt, n.dep, n.even⟩
theorem Nd0.nd {x : Int} {t : List Int} {d : Int} (n : Nd0 T x t d) (h : x ≠ 0) : Nd T x t d := ⟨by have := n.pos; omega, n.le, n.txt, n.dep, n.even⟩
theorem Nd0.nil {t : List Int} {d : Int} (n : Nd0 T 0 t d) : t = [] ∧ d = 0 := ⟨n.txt.symm, n.dep.symm⟩
theorem Nd0.ext {T' : List ET} {x : Int} {t : List Int} {d : Int} (n : Nd0 T x t d) (h : T <+: T') : Nd0 T' x t d := by
  have hl := ext_len h
  have := n.le
  exact ⟨n.pos, by omega, by rw [ext_txt h n.pos n.le]; exact n.txt, by rw [ext_eAt h n.pos n.le]; exact n.dep, by rw [ext_eAt h n.pos n.le]; exact n.even⟩
theorem Nd0.len (g : Grow T) {x : Int} {t : List Int} {d : Int} (n : Nd0 T x t d) : (eAt T x).2.1.1 = t.length ∧ 0 ≤ d := by
  have h1 := g.len n.pos n.le
  rw [n.txt] at h1
  have h2 := g.at_ n.pos n.le
  rw [n.dep] at h2
  exact ⟨h1, h2.2.1⟩
theorem Nd0.wt (g : Grow T) {x : Int} {t : List Int} {d : Int} (n : Nd0 T x t d) : (eAt T x).2.1 = wOf t := by rw [← n.txt]; exact (g.weight n.pos n.le).1

def JoinQ (a b : Int) (ta tb : List Int) (da db : Int) : List ET → Int → Prop := fun T' x => ∃ d, Nd0 T' x (ta ++ tb) d ∧ max da db ≤ d ∧ d ≤ 1 + max da db ∧ (a = 0 → x = b ∧ d = db) ∧ (b = 0 → x = a ∧ d = da)
def joinN (a b da db : Int) : Nat := if a = 0 ∨ b = 0 then 0 else 3 * (max da db - min da db).toNat + 1
theorem avl_Join_sp {a b : Int} {ta tb : List Int} {da db : Int} (s : Sp w0 Ω w) (i : Nat) (hi : Ω[i]? = some (sto p most T)) (na : Nd0 T a ta da) (nb : Nd0 T b tb db) (hl : (ta.length : Int) + tb.length ≤ 1152921504606846976) {K : Int × Value → World → Prop}
    (h : ∀ T' x w', Res T most (joinN a b da db) (JoinQ a b ta tb da db) T' x → Sp w0 (Ω.set i (sto p most T')) w' → K x w') : C_avl_Join (some p) a b K w := by
  apply S_avl_Join
  unfold F_avl_Join
  obtain ⟨_, _, _, hb0, hb1, hb2, hg⟩ := Sp.entry s i hi
  have la := na.len hg
  have lb := nb.len hg
  have wa := (hg.at_ na.pos na.le).1
  have wb := (hg.at_ nb.pos nb.le).1
  have ka : known T a = true := decide_eq_true ⟨na.pos, na.le⟩
  have kb : known T b = true := decide_eq_true ⟨nb.pos, nb.le⟩
  refine intern_Weight_k s i hi ⟨na.pos, na.le⟩ fun w1 s => s.allocK fun a2 w2 s => s.st0 0 rfl rfl rfl fun w3 s => nilIfc_nil (gd_f rfl ?_)
  refine intern_Weight_k s (i + 1) hi ⟨nb.pos, nb.le⟩ fun w4 s => s.allocK fun a5 w5 s => s.st0 0 rfl rfl rfl fun w6 s => nilIfc_nil (gd_f rfl ?_)
  refine JoinP.inl (intern_Even_sp s (i + 2) hi fun w7 s => ?_)
  rw [ka, na.even]
  refine gd_f rfl (intern_Even_sp s (i + 2) hi fun w8 s => ?_)
  rw [kb, nb.even]
  intro _
  refine gd_f rfl (s.ldi (x := (eAt T a).2.1.1) 1 0 rfl rfl (s.ldi (x := (eAt T b).2.1.1) 0 0 rfl rfl (length_Add_spec wa.len wb.len (fun hle => nilIfc_nil (gd_f rfl (gd_eq (fun c1 => ?_) (fun c1 => gd_eq (fun c2 => ?_) (fun c2 => ?_))))) (fun hgt => absurd hgt (by omega)))))
  · subst c1
    obtain ⟨rfl, rfl⟩ := na.nil
    refine h T _ _ (Res.same hg hb2 ⟨db, ?_, by omega, by omega, fun _ => ⟨rfl, rfl⟩, fun e => ?_⟩) ?_
    · rw [List.nil_append]; exact nb
    · subst e
      exact ⟨rfl, nb.nil.2⟩
    · rw [setSame hi]; exact s.drop 2
  · subst c2
    obtain ⟨rfl, rfl⟩ := nb.nil
    refine h T _ _ (Res.same hg hb2 ⟨da, ?_, by omega, by omega, fun e => absurd e c1, fun _ => ⟨rfl, rfl⟩⟩) ?_
    · rw [List.append_nil]; exact na
    · rw [setSame hi]; exact s.drop 2
  · refine avl_join_sp _ rfl s (i + 2) hi (na.nd c1) (nb.nd c2) hl fun T' x w9 r s => h T' x _ ?_ (s.drop 2)
    have e : joinN a b da db = 3 * (max da db - min da db).toNat + 1 := by unfold joinN; rw [if_neg (by omega)]
    rw [e]
    refine r.mono (Nat.le_refl _) ?_
    rintro y ⟨d, q, q1, q2⟩
    exact ⟨d, q.nd0, q1, q2, fun e => absurd e c1, fun e => absurd e c2⟩
/-- what Join answers where it does not join -/
def joinBad (T : List ET) (a b : Int) : Option Int :=
  if ¬ (0 ≤ a ∧ a ≤ T.length) ∨ ¬ (0 ≤ b ∧ b ≤ T.length) then some 1 else
  if (eAt T a).2.2.2 = false ∨ (eAt T b).2.2.2 = false then some 4 else
  if 1152921504606846976 < (eAt T a).2.1.1 + (eAt T b).2.1.1 then some 2 else none
theorem avl_Join_bad {a b n : Int} (s : Sp w0 Ω w) (i : Nat) (hi : Ω[i]? = some (sto p most T)) (hb : joinBad T a b = some n) {K : Int × Value → World → Prop} (h : ∀ w', Sp w0 Ω w' → K (0, errV n) w') : C_avl_Join (some p) a b K w := by
  apply S_avl_Join
  unfold F_avl_Join
  obtain ⟨_, _, _, hb0, hb1, hb2, hg⟩ := Sp.entry s i hi
  unfold joinBad at hb
  by_cases ca : 0 ≤ a ∧ a ≤ T.length
  rotate_left
  · rw [if_pos (Or.inl ca)] at hb
    cases hb
    exact intern_Weight_u s i hi ca fun w1 s => s.allocK fun a2 w2 s => s.st0 0 rfl rfl rfl fun w3 s => nilIfc_err (gd_t rfl (h _ s.pop))
  refine intern_Weight_k s i hi ca fun w1 s => s.allocK fun a2 w2 s => s.st0 0 rfl rfl rfl fun w3 s => nilIfc_nil (gd_f rfl ?_)
  by_cases cb : 0 ≤ b ∧ b ≤ T.length
  rotate_left
  · rw [if_pos (Or.inr cb)] at hb
    cases hb
    exact intern_Weight_u s (i + 1) hi cb fun w1 s => s.allocK fun a2 w2 s => s.st0 0 rfl rfl rfl fun w3 s => nilIfc_err (gd_t rfl (h _ (s.drop 2)))
  refine intern_Weight_k s (i + 1) hi cb fun w4 s => s.allocK fun a5 w5 s => s.st0 0 rfl rfl rfl fun w6 s => nilIfc_nil (gd_f rfl ?_)
  rw [if_neg (by omega)] at hb
  have ka : known T a = true := decide_eq_true ca
  have kb : known T b = true := decide_eq_true cb
  have wa := (hg.at_ ca.1 ca.2).1
  have wb := (hg.at_ cb.1 cb.2).1
  refine JoinP.inl (intern_Even_sp s (i + 2) hi fun w7 s => ?_)
  rw [ka, Bool.true_and]
  cases ea : (eAt T a).2.2.2
  · rw [if_pos (Or.inl ea)] at hb
    cases hb
    exact gd_t rfl fun _ => gd_t rfl (h _ (s.drop 2))
  refine gd_f rfl (intern_Even_sp s (i + 2) hi fun w8 s => ?_)
  rw [kb, Bool.true_and]
  cases eb : (eAt T b).2.2.2
  · rw [if_pos (Or.inr eb)] at hb
    cases hb
    exact fun _ => gd_t rfl (h _ (s.drop 2))
  rw [if_neg (by rw [ea, eb]; simp)] at hb
  have hgt : 1152921504606846976 < (eAt T a).2.1.1 + (eAt T b).2.1.1 := by
    by_cases c : 1152921504606846976 < (eAt T a).2.1.1 + (eAt T b).2.1.1
    · exact c
    · rw [if_neg c] at hb; cases hb
  rw [if_pos hgt] at hb
  cases hb
  intro _
  exact gd_f rfl (s.ldi (x := (eAt T a).2.1.1) 1 0 rfl rfl (s.ldi (x := (eAt T b).2.1.1) 0 0 rfl rfl (length_Add_spec wa.len wb.len (fun hle => absurd hle (by omega)) (fun _ => nilIfc_err (gd_t rfl (h _ (s.drop 2)))))))
theorem avl_Join_nil {a b : Int} {K : Int × Value → World → Prop} (h : ∀ w', Ext w0 w' → K (0, errV 5) w') : C_avl_Join none a b K w0 := by
  apply S_avl_Join
  unfold F_avl_Join
  refine intern_Weight_nil fun w1 e => ?_
  have s : Sp w0 [] w1 := (Sp.init w0).toExt e
  exact s.allocK fun a2 w2 s => s.st0 0 rfl rfl rfl fun w3 s => nilIfc_err (gd_t rfl (h _ s.ext))
theorem avl_Balanced_nil {a : Int} {K : Bool × Value → World → Prop} (h : K (false, errV 5) w0) : C_avl_Balanced none a K w0 := by
  apply S_avl_Balanced
  unfold F_avl_Balanced
  exact intern_Depth_nil (nilIfc_err (gd_t rfl h))

/-! ### Least lengths -/
theorem fibL_step (n : Nat) : fibL (n + 2) = fibL n + fibL (n + 1) := rfl
theorem fibL_big : 1152921504606846976 < fibL 87 ∧ fibL 86 ≤ 1152921504606846976 := by decide
def least (d : Int) : Int := if d < 0 then 0 else if 1152921504606846977 < (fibL d.toNat : Int) then 1152921504606846977 else fibL d.toNat
def bound (n : Int) : Nat → Nat
  | 0 => 0
  | f + 1 => if (fibL (f + 1) : Int) ≤ n then f + 1 else bound n f
end Go.Proofs.YtcmncfglcjcmhaaGreat

/- What split's front, rest, Split and section return, and how many rules they add. -/
set_option linter.unusedVariables false
set_option linter.unusedSimpArgs false
namespace Go.Proofs.YtcmncfglcjcmhaaGreat
open Go.Den

variable {w0 w : World} {Ω : List Ob} {p : Addr} {most : Int} {T : List ET} {i : Nat}

theorem split_size_k {id : Int} (s : Sp w0 Ω w) (i : Nat) (hi : Ω[i]? = some (sto p most T)) (hk : 0 ≤ id ∧ id ≤ T.length) {K : Int × Value → World → Prop} (h : ∀ w', Sp w0 Ω w' → K ((eAt T id).2.1.1, .nilIface) w') : C_split_size (some p) id K w := by
  apply S_split_size
  unfold F_split_size
  exact intern_Weight_k s i hi hk fun w1 s => s.allocK fun a2 w2 s => s.st0 0 rfl rfl rfl fun w3 s => nilIfc_nil (gd_f rfl (s.ldi (x := (eAt T id).2.1.1) 0 0 rfl rfl (h _ s.pop)))

/-- a part of a text of depth d: balanced, no deeper, with few rules added; or the store is full -/
structure Prt (T : List ET) (most d : Int) (t : List Int) (T' : List ET) (r : Int × Value) : Prop where
  ext : T <+: T'
  grow : Grow T'
  cap : (T'.length : Int) ≤ most
  out : (∃ e, r.2 = .nilIface ∧ Nd0 T' r.1 t e ∧ 0 ≤ e ∧ e ≤ d ∧ (T'.length : Int) ≤ T.length + 3 * e + 4 * d) ∨ (r = (0, errV 3) ∧ most < (T.length : Int) + 7 * d ∧ (T'.length : Int) ≤ T.length + 7 * d)
theorem Prt.same {d e : Int} {t : List Int} {x : Int} (g : Grow T) (hm : (T.length : Int) ≤ most) (n : Nd0 T x t e) (h : e ≤ d) : Prt T most d t T (x, .nilIface) := by
  have := (n.len g).2
  exact ⟨List.prefix_refl _, g, hm, Or.inl ⟨e, rfl, n, this, h, by omega⟩⟩
theorem Prt.up {d d' : Int} {t : List Int} {T' : List ET} {r : Int × Value} (h : Prt T most d t T' r) (hd : d ≤ d') : Prt T most d' t T' r := by
  obtain ⟨h1, h2, h3, h4⟩ := h
  refine ⟨h1, h2, h3, ?_⟩
  rcases h4 with ⟨e, a1, a2, a3, a4, a5⟩ | ⟨a1, a2, a3⟩
  · exact Or.inl ⟨e, a1, a2, a3, by omega, by omega⟩
  · exact Or.inr ⟨a1, by omega, by omega⟩

theorem split_front_sp : ∀ (k : Nat) {x n : Int} {t : List Int} {d : Int} {w0 w : World} {Ω : List Ob} {T : List ET}, x.toNat = k → Sp w0 Ω w → ∀ (i : Nat), Ω[i]? = some (sto p most T) → Nd0 T x t d → 0 ≤ n → n ≤ t.length →
    ∀ {K : Int × Value → World → Prop}, (∀ T' r w', Prt T most d (t.take n.toNat) T' r → Sp w0 (Ω.set i (sto p most T')) w' → K r w') → C_split_front (some p) x n K w := by
  intro k
  induction k using Nat.strongRecOn with
  | ind k ih =>
  intro x n t d w0 w Ω T hk s i hi nx hn0 hn1 K h
  obtain ⟨_, _, _, hb0, hb1, hb2, hg⟩ := Sp.entry s i hi
  apply S_split_front
  unfold F_split_front
  have lx := nx.len hg
  have wlx := (hg.at_ nx.pos nx.le).1.len
  refine gd_eq (fun c => ?_) (fun c => split_size_k s i hi ⟨nx.pos, nx.le⟩ fun w1 s => nilIfc_nil (gd_f rfl (gd_eq (fun c2 => ?_) (fun c2 => ?_))))
  · subst c
    refine h T _ _ (Prt.same (e := 0) hg hb2 ?_ lx.2) ?_
    · exact Nd0.zero
    · rw [setSame hi]; exact s
  · refine h T _ _ (Prt.same (e := d) hg hb2 ?_ (Int.le_refl _)) ?_
    · dsimp only at c2
      rw [List.take_of_length_le (by omega)]; exact nx
    · rw [setSame hi]; exact s
  · dsimp only at c2
    have hx0 : x ≠ 0 := fun e => by subst e; have := nx.nil.1; subst this; simp at hn1; omega
    have nd := nx.nd hx0
    rcases nd.parts hg with ⟨_, b, hb, _⟩ | ⟨l, r, t1, t2, d1, d2, hr, hlx, hrx, n1, n2, ht, hd, k1, k2⟩
    · subst hb; simp at hn1 lx; omega
    have q1 := n1.len hg
    have q2 := n2.len hg
    have p1 := n1.pos
    have p2 := n2.pos
    have hlt : (t.length : Int) = t1.length + t2.length := by rw [ht, List.length_append]; omega
    refine intern_Rule_k s i hi ⟨nd.pos, nd.le⟩ fun w2 s => s.allocK fun a4 w3 s => s.st0 0 rfl rfl rfl fun w4 s => ?_
    rw [hr] at s ⊢
    refine nilIfc_nil (gd_f rfl (s.ldi (x := l) 0 2 rfl rfl (split_size_k s (i + 1) hi ⟨by omega, n1.le⟩ fun w5 s => nilIfc_nil (gd_f rfl (gd_dec (fun c3 => ?_) (fun c3 => ?_))))))
    · dsimp only at c3
      refine s.ldi (x := l) 0 2 rfl rfl (ih l.toNat (by omega) rfl s (i + 1) hi n1.nd0 hn0 (by omega) fun T1 x1 w6 r1 s => ?_)
      refine h T1 _ _ ?_ s.pop
      rw [ht, List.take_append_of_le_length (by omega)]
      exact r1.up (by omega)
    · dsimp only at c3
      refine s.ldi (x := r) 0 3 rfl rfl (arith_i64 (by dsimp only; omega) (by dsimp only; omega) ?_)
      dsimp only
      refine ih r.toNat (by omega) rfl s (i + 1) hi n2.nd0 (n := n - (eAt T l).2.1.1) (by omega) (by omega) fun T1 x1 w6 r1 s => ?_
      have htk : t.take n.toNat = t1 ++ t2.take (n - (eAt T l).2.1.1).toNat := by
        rw [ht, List.take_append, List.take_of_length_le (by omega)]
        congr 2
        omega
      have s : Sp w0 (cel a4 (cells yapi_Rule (2, 0, l, r, 0)) :: Ω.set i (sto p most T1)) w6 := s
      rcases r1.out with ⟨e1, a1, a2, a3, a4', a5⟩ | ⟨a1, a2, a3⟩
      · rw [a1]
        have hext := r1.ext
        have nl := n1.nd0.ext hext
        refine nilIfc_nil (gd_f rfl (s.ldi (x := l) 0 2 rfl rfl (avl_Join_sp s (i + 1) (setGet hi) nl a2 (by simp only [List.length_take]; omega) fun T2 x2 w7 r2 s => ?_)))
        have s' : Sp w0 ((Ω.set i (sto p most T1)).set i (sto p most T2)) w7 := s.pop
        rw [List.set_set] at s'
        have hN : (joinN l x1.1 d1 e1 : Int) ≤ 3 * (max d1 e1 - min d1 e1) + 1 := by unfold joinN; split <;> omega
        have hl2 := r2.len
        refine h T2 _ _ ⟨hext.trans r2.ext, r2.grow, r2.cap, ?_⟩ s'
        rcases r2.out with ⟨b1, d', b2, b3, b4, _⟩ | ⟨b1, b2⟩
        · left
          refine ⟨d', b1, by rw [htk]; exact b2, by omega, by omega, ?_⟩
          omega
        · right
          rw [b1]
          exact ⟨rfl, by omega, by omega⟩
      · rw [a1]
        refine nilIfc_err (gd_t rfl (h T1 _ _ ⟨r1.ext, r1.grow, r1.cap, Or.inr ⟨rfl, by omega, by omega⟩⟩ s.pop))

theorem split_rest_sp : ∀ (k : Nat) {x n : Int} {t : List Int} {d : Int} {w0 w : World} {Ω : List Ob} {T : List ET}, x.toNat = k → Sp w0 Ω w → ∀ (i : Nat), Ω[i]? = some (sto p most T) → Nd0 T x t d → 0 ≤ n → n ≤ t.length →
    ∀ {K : Int × Value → World → Prop}, (∀ T' r w', Prt T most d (t.drop n.toNat) T' r → Sp w0 (Ω.set i (sto p most T')) w' → K r w') → C_split_rest (some p) x n K w := by
  intro k
  induction k using Nat.strongRecOn with
  | ind k ih =>
  intro x n t d w0 w Ω T hk s i hi nx hn0 hn1 K h
  obtain ⟨_, _, _, hb0, hb1, hb2, hg⟩ := Sp.entry s i hi
  apply S_split_rest
  unfold F_split_rest
  have lx := nx.len hg
  have wlx := (hg.at_ nx.pos nx.le).1.len
  refine gd_eq (fun c => ?_) (fun c => split_size_k s i hi ⟨nx.pos, nx.le⟩ fun w1 s => JoinP.inl (nilIfc_nil (gd_f rfl ?_)))
  · subst c
    refine h T _ _ (Prt.same (e := d) hg hb2 nx (Int.le_refl _)) ?_
    rw [setSame hi]; exact s
  intro _
  refine gd_eq (fun c2 => ?_) (fun c2 => ?_)
  · refine h T _ _ (Prt.same (e := 0) hg hb2 ?_ lx.2) ?_
    · dsimp only at c2
      rw [List.drop_of_length_le (by omega)]; exact Nd0.zero
    · rw [setSame hi]; exact s
  · dsimp only at c2
    have hx0 : x ≠ 0 := fun e => by subst e; have := nx.nil.1; subst this; simp at hn1; omega
    have nd := nx.nd hx0
    rcases nd.parts hg with ⟨_, b, hb, _⟩ | ⟨l, r, t1, t2, d1, d2, hr, hlx, hrx, n1, n2, ht, hd, k1, k2⟩
    · subst hb; simp at hn1 lx; omega
    have q1 := n1.len hg
    have q2 := n2.len hg
    have p1 := n1.pos
    have p2 := n2.pos
    have hlt : (t.length : Int) = t1.length + t2.length := by rw [ht, List.length_append]; omega
    refine intern_Rule_k s i hi ⟨nd.pos, nd.le⟩ fun w2 s => s.allocK fun a4 w3 s => s.st0 0 rfl rfl rfl fun w4 s => ?_
    rw [hr] at s ⊢
    refine nilIfc_nil (gd_f rfl (s.ldi (x := l) 0 2 rfl rfl (split_size_k s (i + 1) hi ⟨by omega, n1.le⟩ fun w5 s => nilIfc_nil (gd_f rfl (gd_dec (fun c3 => ?_) (fun c3 => ?_))))))
    · dsimp only at c3
      refine s.ldi (x := r) 0 3 rfl rfl (arith_i64 (by dsimp only; omega) (by dsimp only; omega) ?_)
      dsimp only
      refine ih r.toNat (by omega) rfl s (i + 1) hi n2.nd0 (n := n - (eAt T l).2.1.1) (by omega) (by omega) fun T1 x1 w6 r1 s => ?_
      refine h T1 _ _ ?_ s.pop
      rw [ht, List.drop_append, List.drop_of_length_le (by omega), List.nil_append, show n.toNat - t1.length = (n - (eAt T l).2.1.1).toNat by omega]
      exact r1.up (by omega)
    · dsimp only at c3
      refine s.ldi (x := l) 0 2 rfl rfl (ih l.toNat (by omega) rfl s (i + 1) hi n1.nd0 hn0 (by omega) fun T1 x1 w6 r1 s => ?_)
      have htk : t.drop n.toNat = t1.drop n.toNat ++ t2 := by
        rw [ht, List.drop_append_of_le_length (by omega)]
      have s : Sp w0 (cel a4 (cells yapi_Rule (2, 0, l, r, 0)) :: Ω.set i (sto p most T1)) w6 := s
      rcases r1.out with ⟨e1, a1, a2, a3, a4', a5⟩ | ⟨a1, a2, a3⟩
      · rw [a1]
        have hext := r1.ext
        have nr := n2.nd0.ext hext
        refine nilIfc_nil (gd_f rfl (s.ldi (x := r) 0 3 rfl rfl (avl_Join_sp s (i + 1) (setGet hi) a2 nr (by simp only [List.length_drop]; omega) fun T2 x2 w7 r2 s => ?_)))
        have s' : Sp w0 ((Ω.set i (sto p most T1)).set i (sto p most T2)) w7 := s.pop
        rw [List.set_set] at s'
        have hN : (joinN x1.1 r e1 d2 : Int) ≤ 3 * (max e1 d2 - min e1 d2) + 1 := by unfold joinN; split <;> omega
        have hl2 := r2.len
        refine h T2 _ _ ⟨hext.trans r2.ext, r2.grow, r2.cap, ?_⟩ s'
        rcases r2.out with ⟨b1, d', b2, b3, b4, _⟩ | ⟨b1, b2⟩
        · left
          refine ⟨d', b1, by rw [htk]; exact b2, by omega, by omega, ?_⟩
          omega
        · right
          rw [b1]
          exact ⟨rfl, by omega, by omega⟩
      · rw [a1]
        refine nilIfc_err (gd_t rfl (h T1 _ _ ⟨r1.ext, r1.grow, r1.cap, Or.inr ⟨rfl, by omega, by omega⟩⟩ s.pop))

end Go.Proofs.YtcmncfglcjcmhaaGreat

/- Split and section as a whole. -/
set_option linter.unusedVariables false
set_option linter.unusedSimpArgs false
namespace Go.Proofs.YtcmncfglcjcmhaaGreat
open Go.Den

variable {w0 w : World} {Ω : List Ob} {p : Addr} {most : Int} {T : List ET} {i : Nat}

theorem split_check_e {id : Int} (s : Sp w0 Ω w) (i : Nat) (hi : Ω[i]? = some (sto p most T)) (hk : 0 ≤ id ∧ id ≤ T.length) (he : (eAt T id).2.2.2 = true) {K : Int × Value → World → Prop} (h : ∀ w', Sp w0 Ω w' → K ((eAt T id).2.1.1, .nilIface) w') : C_split_check (some p) id K w := by
  apply S_split_check
  unfold F_split_check
  refine avl_Balanced_k s i hi hk fun w1 s => nilIfc_nil (gd_f rfl ?_)
  rw [he]
  exact gd_f rfl (split_size_k s i hi hk fun w2 s => h _ s)
theorem split_check_bad {id n : Int} (s : Sp w0 Ω w) (i : Nat) (hi : Ω[i]? = some (sto p most T)) (hn : (¬ (0 ≤ id ∧ id ≤ T.length) ∧ n = 1) ∨ ((0 ≤ id ∧ id ≤ T.length) ∧ (eAt T id).2.2.2 = false ∧ n = 4)) {K : Int × Value → World → Prop} (h : ∀ w', Sp w0 Ω w' → K (0, errV n) w') : C_split_check (some p) id K w := by
  apply S_split_check
  unfold F_split_check
  rcases hn with ⟨h1, rfl⟩ | ⟨h1, h2, rfl⟩
  · exact avl_Balanced_u s i hi h1 fun w1 s => nilIfc_err (gd_t rfl (h _ s))
  · refine avl_Balanced_k s i hi h1 fun w1 s => nilIfc_nil (gd_f rfl ?_)
    rw [h2]
    exact gd_t rfl (h _ s)

/-- both parts of a text -/
structure Prts (T : List ET) (most d : Int) (t1 t2 : List Int) (T' : List ET) (r : Int × Int × Value) : Prop where
  ext : T <+: T'
  grow : Grow T'
  cap : (T'.length : Int) ≤ most
  len : (T'.length : Int) ≤ T.length + 14 * d
  out : (∃ e1 e2, r.2.2 = .nilIface ∧ Nd0 T' r.1 t1 e1 ∧ Nd0 T' r.2.1 t2 e2 ∧ e1 ≤ d ∧ e2 ≤ d) ∨ (r = (0, 0, errV 3) ∧ most < (T.length : Int) + 14 * d)
theorem split_Split_sp {x n : Int} {t : List Int} {d : Int} (s : Sp w0 Ω w) (i : Nat) (hi : Ω[i]? = some (sto p most T)) (nx : Nd0 T x t d) (hn0 : 0 ≤ n) (hn1 : n ≤ t.length) {K : Int × Int × Value → World → Prop}
    (h : ∀ T' r w', Prts T most d (t.take n.toNat) (t.drop n.toNat) T' r → Sp w0 (Ω.set i (sto p most T')) w' → K r w') : C_split_Split (some p) x n K w := by
  apply S_split_Split
  unfold F_split_Split
  obtain ⟨_, _, _, hb0, hb1, hb2, hg⟩ := Sp.entry s i hi
  have lx := nx.len hg
  refine split_check_e s i hi ⟨nx.pos, nx.le⟩ nx.even fun w1 s => nilIfc_nil (gd_f rfl (JoinP.inl (gd_f (decide_eq_false (by omega)) ?_)))
  intro _
  refine gd_f (decide_eq_false (by first | omega | (dsimp only; omega))) (split_front_sp _ rfl s i hi nx hn0 hn1 fun T1 x1 w2 r1 s => ?_)
  have hext := r1.ext
  rcases r1.out with ⟨e1, a1, a2, a3, a4, a5⟩ | ⟨a1, a2, a3⟩
  · rw [a1]
    refine nilIfc_nil (gd_f rfl (split_rest_sp _ rfl s i (setGet hi) (nx.ext hext) hn0 hn1 fun T2 x2 w3 r2 s => ?_))
    rw [List.set_set] at s
    rcases r2.out with ⟨e2, b1, b2, b3, b4, b5⟩ | ⟨b1, b2, b3⟩
    · rw [b1]
      exact nilIfc_nil (gd_f rfl (h T2 _ _ ⟨hext.trans r2.ext, r2.grow, r2.cap, by omega, Or.inl ⟨e1, e2, rfl, a2.ext r2.ext, b2, a4, b4⟩⟩ s))
    · rw [b1]
      exact nilIfc_err (gd_t rfl (h T2 _ _ ⟨hext.trans r2.ext, r2.grow, r2.cap, by omega, Or.inr ⟨rfl, by omega⟩⟩ s))
  · rw [a1]
    exact nilIfc_err (gd_t rfl (h T1 _ _ ⟨r1.ext, r1.grow, r1.cap, by omega, Or.inr ⟨rfl, by omega⟩⟩ s))

def SecQ (t : List Int) (d : Int) : List ET → Int → Prop := fun T' y => ∃ e, Nd0 T' y t e ∧ e ≤ d
theorem split_section_sp {x from_ n : Int} {t : List Int} {d : Int} (s : Sp w0 Ω w) (i : Nat) (hi : Ω[i]? = some (sto p most T)) (nx : Nd0 T x t d) (hf0 : 0 ≤ from_) (hn0 : 0 ≤ n) (hn1 : from_ + n ≤ t.length) {K : Int × Value → World → Prop}
    (h : ∀ T' r w', Res T most (14 * d).toNat (SecQ ((t.drop from_.toNat).take n.toNat) d) T' r → Sp w0 (Ω.set i (sto p most T')) w' → K r w') : C_split_section (some p) x from_ n K w := by
  apply S_split_section
  unfold F_split_section
  obtain ⟨_, _, _, hb0, hb1, hb2, hg⟩ := Sp.entry s i hi
  have lx := nx.len hg
  have same : ∀ (y : Int) (e : Int) w', Nd0 T y ((t.drop from_.toNat).take n.toNat) e → e ≤ d → Sp w0 Ω w' → K (y, .nilIface) w' := fun y e w' hy he s' => by
    refine h T _ _ ((Res.same (N := (14 * d).toNat) hg hb2 (Q := SecQ ((t.drop from_.toNat).take n.toNat) d) ⟨e, hy, he⟩)) ?_
    rw [setSame hi]; exact s'
  refine gd_eq (fun c => ?_) (fun c => ?_)
  · subst c
    exact same 0 0 _ (by simpa using Nd0.zero) lx.2 s
  refine ⟨fun x w => ∃ tx dx, Nd0 T x.1 tx dx ∧ 0 ≤ x.2.1 ∧ x.2.1 + n ≤ tx.length ∧ dx ≤ d ∧ (tx.drop x.2.1.toNat).take n.toNat = (t.drop from_.toNat).take n.toNat ∧ Sp w0 Ω w, fun x _ => x.1.toNat, ⟨t, d, nx, hf0, hn1, Int.le_refl _, rfl, s⟩, ?_⟩
  rintro ⟨y, f, _⟩ w1 ⟨ty, dy, ny, hf, hfn, hdy, hsec, s⟩ _
  dsimp only at ny hf hfn hsec ⊢
  have ly := ny.len hg
  have wly := (hg.at_ ny.pos ny.le).1.len
  refine split_size_k s i hi ⟨ny.pos, ny.le⟩ fun w2 s => nilIfc_nil (gd_f rfl (gd_eq (fun c2 => ?_) (fun c2 => ?_)))
  · dsimp only at c2
    have e0 : f = 0 := by omega
    subst e0
    refine same y dy _ ?_ hdy s
    rw [← hsec, List.take_of_length_le (by simp only [List.length_drop]; omega)]
    exact ny
  · dsimp only at c2
    have hy0 : y ≠ 0 := fun e => by subst e; have := ny.nil.1; subst this; simp at hfn; omega
    have nd := ny.nd hy0
    rcases nd.parts hg with ⟨_, b, hb, _⟩ | ⟨l, r, t1, t2, d1, d2, hr, hlx, hrx, n1, n2, ht, hd, k1, k2⟩
    · subst hb; simp at hfn ly; omega
    have q1 := n1.len hg
    have q2 := n2.len hg
    have p1 := n1.pos
    have p2 := n2.pos
    have hlt : (ty.length : Int) = t1.length + t2.length := by rw [ht, List.length_append]; omega
    refine intern_Rule_k s i hi ⟨nd.pos, nd.le⟩ fun w2 s => s.allocK fun a4 w3 s => s.st0 0 rfl rfl rfl fun w4 s => ?_
    rw [hr] at s ⊢
    refine nilIfc_nil (gd_f rfl (s.ldi (x := l) 0 2 rfl rfl (split_size_k s (i + 1) hi ⟨by omega, n1.le⟩ fun w5 s => nilIfc_nil (gd_f rfl (arith_i64 (by omega) (by omega) (gd_dec (fun c3 => ?_) (fun c3 => gd_dec (fun c4 => ?_) (fun c4 => ?_))))))))
    · dsimp only at c3
      refine s.ldi (x := l) 0 2 rfl rfl ⟨⟨t1, d1, n1.nd0, hf, by first | omega | (dsimp only; omega), by omega, ?_, s.pop⟩, by first | omega | (dsimp only; omega)⟩
      rw [← hsec, ht, List.drop_append_of_le_length (by first | omega | (dsimp only; omega)), List.take_append_of_le_length (by simp only [List.length_drop]; omega)]
    · dsimp only at c4
      refine s.ldi (x := r) 0 3 rfl rfl (arith_i64 (by first | omega | (dsimp only; omega)) (by first | omega | (dsimp only; omega)) ⟨⟨t2, d2, n2.nd0, by first | omega | (dsimp only; omega), by first | omega | (dsimp only; omega), by omega, ?_, s.pop⟩, by first | omega | (dsimp only; omega)⟩)
      dsimp only
      rw [← hsec, ht, List.drop_append, List.drop_of_length_le (l := t1) (i := f.toNat) (by omega), List.nil_append, show f.toNat - t1.length = (f - (eAt T l).2.1.1).toNat by omega]
    · dsimp only at c3 c4
      refine s.ldi (x := l) 0 2 rfl rfl (split_rest_sp _ rfl s (i + 1) hi n1.nd0 hf (by omega) fun T1 x1 w6 r1 s => ?_)
      have s : Sp w0 (cel a4 (cells yapi_Rule (2, 0, l, r, 0)) :: Ω.set i (sto p most T1)) w6 := s
      have hx1 := r1.ext
      rcases r1.out with ⟨e1, a1, a2, a3, a4', a5⟩ | ⟨a1, a2, a3⟩
      rotate_left
      · rw [a1]
        exact nilIfc_err (gd_t rfl (h T1 _ _ ⟨hx1, r1.grow, r1.cap, by omega, Or.inr ⟨rfl, by omega⟩⟩ s.pop))
      rw [a1]
      refine nilIfc_nil (gd_f rfl (s.ldi (x := r) 0 3 rfl rfl (arith_i64 (by omega) (by omega) (arith_i64 (by first | omega | (dsimp only; omega)) (by first | omega | (dsimp only; omega)) ?_))))
      dsimp only
      refine split_front_sp _ rfl s (i + 1) (setGet hi) (n2.nd0.ext hx1) (n := f + n - (eAt T l).2.1.1) (by omega) (by omega) fun T2 x2 w7 r2 s => ?_
      have s : Sp w0 (cel a4 (cells yapi_Rule (2, 0, l, r, 0)) :: (Ω.set i (sto p most T1)).set i (sto p most T2)) w7 := s
      rw [List.set_set] at s
      have hx2 := r2.ext
      rcases r2.out with ⟨e2, b1, b2, b3, b4, b5⟩ | ⟨b1, b2, b3⟩
      rotate_left
      · rw [b1]
        exact nilIfc_err (gd_t rfl (h T2 _ _ ⟨hx1.trans hx2, r2.grow, r2.cap, by omega, Or.inr ⟨rfl, by omega⟩⟩ s.pop))
      rw [b1]
      refine nilIfc_nil (gd_f rfl (avl_Join_sp s (i + 1) (setGet hi) (a2.ext hx2) b2 (by simp only [List.length_drop, List.length_take]; omega) fun T3 x3 w8 r3 s => ?_))
      have s : Sp w0 (cel a4 (cells yapi_Rule (2, 0, l, r, 0)) :: (Ω.set i (sto p most T2)).set i (sto p most T3)) w8 := s
      rw [List.set_set] at s
      have hN : (joinN x1.1 x2.1 e1 e2 : Int) ≤ 3 * (max e1 e2 - min e1 e2) + 1 := by unfold joinN; split <;> omega
      have hl3 := r3.len
      have htk : (t.drop from_.toNat).take n.toNat = t1.drop f.toNat ++ t2.take (f + n - (eAt T l).2.1.1).toNat := by
        rw [← hsec, ht, List.drop_append_of_le_length (by omega), List.take_append, List.take_of_length_le (by simp only [List.length_drop]; omega)]
        congr 2
        simp only [List.length_drop]; omega
      refine h T3 _ _ ⟨(hx1.trans hx2).trans r3.ext, r3.grow, r3.cap, by omega, ?_⟩ s.pop
      rcases r3.out with ⟨g1, d', g2, g3, g4, _⟩ | ⟨g1, g2⟩
      · exact Or.inl ⟨g1, d', by rw [htk]; exact g2, by omega⟩
      · exact Or.inr ⟨g1, by omega⟩

end Go.Proofs.YtcmncfglcjcmhaaGreat

/- Offsets of law14: any number, moved into a text's range. -/
set_option linter.unusedVariables false
set_option linter.unusedSimpArgs false
namespace Go.Proofs.YtcmncfglcjcmhaaGreat
open Go.Den

variable {w0 w : World}

theorem and_toNat_le (a : Int) (m : Nat) (hm : m < 18446744073709551616) : ((BitVec.ofInt 64 a &&& BitVec.ofInt 64 (m : Int)).toNat) ≤ m := by
  rw [BitVec.toNat_and]
  refine Nat.le_trans Nat.and_le_right ?_
  rw [BitVec.toNat_ofInt]
  omega
/-- a number with its lowest bit set -/
def Odd8 (v : Int) : Prop := (BitVec.ofInt 64 v &&& BitVec.ofInt 64 7).toNat ≠ 0
theorem arith_odd {a : Int} {K : Int → Prop} (h : ∀ v : Int, Odd8 v → K v) : arith .i64 ((BitVec.ofInt (IntKind.bits .i64) a ||| BitVec.ofInt (IntKind.bits .i64) (1 : Int)).toNat) K := by
  intro m hm
  refine h m ?_
  have e : BitVec.ofInt 64 m = BitVec.ofInt 64 a ||| BitVec.ofInt 64 (1 : Int) := by
    apply BitVec.eq_of_toNat_eq
    have hlt := (BitVec.ofInt 64 a ||| BitVec.ofInt 64 (1 : Int)).isLt
    have hm' : m = IntKind.i64.wrap ((BitVec.ofInt 64 a ||| BitVec.ofInt 64 (1 : Int)).toNat : Int) := hm
    rw [IntKind.wrap_i64] at hm'
    rw [BitVec.toNat_ofInt]
    omega
  intro h0
  rw [e] at h0
  have hz : (BitVec.ofInt 64 a ||| BitVec.ofInt 64 (1 : Int)) &&& BitVec.ofInt 64 7 = 0#64 := BitVec.eq_of_toNat_eq (by rw [h0]; rfl)
  have := congrArg (fun b => b.getLsbD 0) hz
  simp at this
end Go.Proofs.YtcmncfglcjcmhaaGreat

/- The walk of InternAsks. -/
set_option linter.unusedVariables false
set_option linter.unusedSimpArgs false
namespace Go.Proofs.YtcmncfglcjcmhaaGreat
open Go.Den

variable {w0 w : World} {T : List ET}

theorem rulesOf_get {n : Nat} (h : n < T.length) : (rulesOf T)[n]? = some (eAt T ((n : Int) + 1)).1 := by
  have := eAt_get (L := T) (id := (n : Int) + 1) (by omega) (by omega)
  rw [show ((n : Int) + 1 - 1).toNat = n by omega] at this
  rw [rulesOf, List.getElem?_map, this]; rfl
theorem lensOf_get {n : Nat} (h : n < T.length) : (lensOf T)[n]? = some (eAt T ((n : Int) + 1)).2.1.1 := by
  have := eAt_get (L := T) (id := (n : Int) + 1) (by omega) (by omega)
  rw [show ((n : Int) + 1 - 1).toNat = n by omega] at this
  rw [lensOf, List.getElem?_map, this]; rfl
theorem depsOf_get {n : Nat} (h : n < T.length) : (depsOf T)[n]? = some (eAt T ((n : Int) + 1)).2.2.1 := by
  have := eAt_get (L := T) (id := (n : Int) + 1) (by omega) (by omega)
  rw [show ((n : Int) + 1 - 1).toNat = n by omega] at this
  rw [depsOf, List.getElem?_map, this]; rfl

end Go.Proofs.YtcmncfglcjcmhaaGreat

/- The check of rules, and the import of a list of rules: package rule, package intern, and the specification. -/
set_option linter.unusedVariables false
set_option linter.unusedSimpArgs false
namespace Go.Proofs.YtcmncfglcjcmhaaGreat
open Go.Den

variable {w0 w : World} {Ω : List Ob} {most : Int} {T : List ET} {i j : Nat}  {p : Addr}

/-! ### The check -/
def refs (r : RT) : List (Ty.int .i64).T := if r.1 = 2 then [r.2.2.1, r.2.2.2.1] else if r.1 = 3 then [r.2.2.1] else []
def formB (r : RT) : Bool :=
  if r.1 = 1 then decide (r.2.2.1 = 0 ∧ r.2.2.2.1 = 0 ∧ r.2.2.2.2 = 0) else
  if r.1 = 2 then decide (r.2.1 = 0 ∧ r.2.2.2.2 = 0) else
  if r.1 = 3 then decide (r.2.1 = 0 ∧ r.2.2.2.1 = 0 ∧ 2 ≤ r.2.2.2.2) else false
def placeB (r : RT) (n : Int) : Bool := decide (1 ≤ n ∧ ∀ x ∈ refs r, 1 ≤ x ∧ x < n)
def chk (r : RT) (n : Int) : Int := if formB r then (if placeB r n then 0 else 1) else 4
def chkV (r : RT) (n : Int) : Value := if chk r n = 0 then .nilIface else errV (chk r n)

theorem refs_len (r : RT) : (refs r).length ≤ 2 := by
  unfold refs
  split
  · exact Nat.le_refl 2
  split
  · exact (by decide : 1 ≤ 2)
  · exact Nat.zero_le 2
theorem placeB_1 {r : RT} {n : Int} (h : r.1 = 1) : placeB r n = decide (1 ≤ n) := by simp [placeB, refs, h]
theorem placeB_2 {r : RT} {n : Int} (h : r.1 = 2) : placeB r n = decide (1 ≤ n ∧ (1 ≤ r.2.2.1 ∧ r.2.2.1 < n) ∧ (1 ≤ r.2.2.2.1 ∧ r.2.2.2.1 < n)) := by simp [placeB, refs, h]
theorem placeB_3 {r : RT} {n : Int} (h : r.1 = 3) : placeB r n = decide (1 ≤ n ∧ 1 ≤ r.2.2.1 ∧ r.2.2.1 < n) := by simp [placeB, refs, h]

theorem rule_Refs_spec {r : RT} (s : Sp w0 Ω w) {K : Sl → World → Prop} (h : ∀ sl w', Sp w0 (own (.int .i64) sl (refs r) :: Ω) w' → K sl w') : C_rule_Refs r K w := by
  apply S_rule_Refs
  unfold F_rule_Refs
  refine s.allocK fun a1 w1 s => s.ldi (x := r.1) 0 0 rfl rfl (gd_eq (fun c1 => ?_) (fun c1 => gd_eq (fun c2 => ?_) (fun c2 => ?_)))
  · have e : refs r = [r.2.2.1, r.2.2.2.1] := by unfold refs; rw [if_pos c1]
    rw [e] at h
    exact s.ldi (x := r.2.2.1) 0 2 rfl rfl (s.ldi (x := r.2.2.2.1) 0 3 rfl rfl (s.allocK fun a2 w2 s => h _ _ ((s.lit (ty := .int .i64) 0 rfl [r.2.2.1, r.2.2.2.1] 2 rfl rfl).pick [0] 2 rfl (by decide))))
  · have e : refs r = [r.2.2.1] := by unfold refs; rw [if_neg c1, if_pos c2]
    rw [e] at h
    exact s.ldi (x := r.2.2.1) 0 2 rfl rfl (s.allocK fun a2 w2 s => h _ _ ((s.lit (ty := .int .i64) 0 rfl [r.2.2.1] 1 rfl rfl).pick [0] 2 rfl (by decide)))
  · have e : refs r = [] := by unfold refs; rw [if_neg c1, if_neg c2]
    rw [e] at h
    exact h _ _ (s.pop.nil (.int .i64))
end Go.Proofs.YtcmncfglcjcmhaaGreat

/- The import of a list of rules, by the store and by the specification. -/
set_option linter.unusedVariables false
set_option linter.unusedSimpArgs false
namespace Go.Proofs.YtcmncfglcjcmhaaGreat
open Go.Den

variable {w0 w : World} {Ω : List Ob} {most : Int} {T : List ET} {i j : Nat}  {p : Addr}

def atI (ids : List (Ty.int .i64).T) (x : Int) : Int := ids.getD x.toNat (0 : Int)
def pPut (T : List ET) (most : Int) (ids : List (Ty.int .i64).T) (r : RT) : List ET × (Int × Value) :=
  if r.1 = 1 then pLetter T most r.2.1 else
  if r.1 = 2 then pPair T most (atI ids r.2.2.1) (atI ids r.2.2.2.1) else pPower T most (atI ids r.2.2.1) r.2.2.2.2
def pImps (T : List ET) (most : Int) : List RT → List (Ty.int .i64).T → List ET × (Int × Value)
  | [], ids => (T, (ids.getLastD (0 : Int), .nilIface))
  | r :: rs, ids => if isNilI (pPut T most ids r).2.2 then pImps (pPut T most ids r).1 most rs (ids ++ [(pPut T most ids r).2.1]) else ((pPut T most ids r).1, (0, (pPut T most ids r).2.2))
def bad : List RT → Int → Int
  | [], _ => 0
  | r :: rs, n => if chk r n = 0 then bad rs (n + 1) else chk r n
def pImport (T : List ET) (most : Int) (l : List RT) : List ET × (Int × Value) := if bad l 1 = 0 then pImps T most l [(0 : Int)] else (T, (0, errV (bad l 1)))

theorem bad_cons (r : RT) (rs : List RT) (n : Int) : bad (r :: rs) n = if chk r n = 0 then bad rs (n + 1) else chk r n := rfl
theorem pImps_cons (r : RT) (rs : List RT) (ids : List (Ty.int .i64).T) : pImps T most (r :: rs) ids = if isNilI (pPut T most ids r).2.2 then pImps (pPut T most ids r).1 most rs (ids ++ [(pPut T most ids r).2.1]) else ((pPut T most ids r).1, (0, (pPut T most ids r).2.2)) := rfl
theorem bad_zero : ∀ (l : List RT) (n : Int), bad l n = 0 → ∀ (i : Nat) (r : RT), l[i]? = some r → chk r (n + i) = 0
  | [], _, _, _, _, h => by simp at h
  | x :: l, n, h, 0, r, hr => by
    simp only [List.getElem?_cons_zero, Option.some.injEq] at hr
    subst hr
    rw [bad_cons] at h
    split at h
    · rename_i e; simpa using e
    · contradiction
  | x :: l, n, h, i + 1, r, hr => by
    rw [bad_cons] at h
    split at h
    · have := bad_zero l (n + 1) h i r (by simpa using hr)
      rw [← this]; congr 1; omega
    · contradiction
theorem chk_form {r : RT} {n : Int} (h : chk r n = 0) : formB r = true ∧ placeB r n = true := by
  unfold chk at h
  split at h
  · split at h
    · exact ⟨‹_›, ‹_›⟩
    · cases h
  · cases h
theorem form_kind {r : RT} (h : formB r = true) : r.1 = 1 ∨ r.1 = 2 ∨ r.1 = 3 := by
  unfold formB at h
  split at h
  · exact Or.inl ‹_›
  split at h
  · exact Or.inr (Or.inl ‹_›)
  split at h
  · exact Or.inr (Or.inr ‹_›)
  · cases h
theorem pPut_err {ids : List (Ty.int .i64).T} {r : RT} : IsErr (pPut T most ids r).2.2 := by
  unfold pPut
  split
  · exact pLetter_err
  split
  · exact pPair_err
  · exact pPower_err
theorem pPut_grow {ids : List (Ty.int .i64).T} {r : RT} (g : Grow T) (hl : (T.length : Int) ≤ most) (hb : 0 ≤ r.2.1 ∧ r.2.1 < 256) : Grow (pPut T most ids r).1 ∧ ((pPut T most ids r).1.length : Int) ≤ most := by
  unfold pPut
  split
  · exact pLetter_grow g hl hb
  split
  · exact pPair_grow g hl
  · exact pPower_grow g hl
theorem atI_get {ids : List (Ty.int .i64).T} {x : Int} (h0 : 0 ≤ x) (h : x < ids.length) : ids[x.toNat]? = some (atI ids x) := by
  unfold atI
  rw [List.getD_eq_getElem?_getD, List.getElem?_eq_getElem (by omega)]
  rfl
theorem atI_append {ids zs : List (Ty.int .i64).T} {x : Int} (h0 : 0 ≤ x) (h : x < ids.length) : atI (ids ++ zs) x = atI ids x := by
  unfold atI
  rw [List.getD_eq_getElem?_getD, List.getD_eq_getElem?_getD, List.getElem?_append_left (by omega)]
theorem pPut_append {ids zs : List (Ty.int .i64).T} {r : RT} {n : Int} (hp : placeB r n = true) (hn : n ≤ ids.length) (hk : r.1 = 1 ∨ r.1 = 2 ∨ r.1 = 3) : pPut T most (ids ++ zs) r = pPut T most ids r := by
  unfold pPut
  rcases hk with h | h | h
  · simp [h]
  · rw [placeB_2 h, decide_eq_true_eq] at hp
    rw [atI_append (by omega) (by omega), atI_append (by omega) (by omega)]
  · rw [placeB_3 h, decide_eq_true_eq] at hp
    simp only [h]
    rw [if_neg (by decide), if_neg (by decide), if_neg (by decide), if_neg (by decide), atI_append (by omega) (by omega)]

structure RuleOK (r : RT) : Prop where
  b : 0 ≤ r.2.1 ∧ r.2.1 < 256
  k : r.2.2.2.2 ≤ 9223372036854775807
theorem chkV_zero {r : RT} {n : Int} (h : chk r n = 0) : chkV r n = .nilIface := by unfold chkV; rw [if_pos h]
theorem chkV_bad {r : RT} {n : Int} (h : ¬ chk r n = 0) : chkV r n = errV (chk r n) := by unfold chkV; rw [if_neg h]

end Go.Proofs.YtcmncfglcjcmhaaGreat

/- The contract of slices.Sort at this program's numbers: the kit's laying, as plain text printed by a program. No conditions. -/
namespace Go.Proofs.YtcmncfglcjcmhaaGreat
open Go.Shelf

def sortRen : Go.Shelf.Ren := ⟨fun | 5 => 85 | 8 => 101 | 7 => 100 | 19 => 118 | 20 => 119 | 10 => 109 | 11 => 110 | 12 => 111 | 13 => 112 | 14 => 113 | 15 => 114 | 16 => 115 | 17 => 116 | 18 => 117 | 30 => 125 | 31 => 126 | 32 => 127 | 33 => 128 | 34 => 129 | 35 => 130 | 40 => 131 | n => n, fun | 23 => 26 | 25 => 30 | 3 => 3 | 32 => 170 | 22 => 26 | 0 => 0 | 44 => 189 | 46 => 54 | 4 => 4 | 36 => 182 | 35 => 181 | 41 => 88 | 5 => 5 | 9 => 9 | 53 => 195 | 57 => 199 | 63 => 201 | 64 => 42 | n => n, fun n => n⟩
theorem sortLay : SlLaysM.n5 Tryz.prog sortRen := {
  mixed := by kernel_rfl,
  f5 := ⟨Tryz.f85.name, by decide, Tryz.func85.trans (congrArg some (by kernel_rfl))⟩,
  f7 := ⟨Tryz.f100.name, by decide, Tryz.func100.trans (congrArg some (by kernel_rfl))⟩,
  f8 := Tryz.func101.trans (congrArg some (by kernel_rfl)),
  f10 := ⟨Tryz.f109.name, by decide, Tryz.func109.trans (congrArg some (by kernel_rfl))⟩,
  f11 := ⟨Tryz.f110.name, by decide, Tryz.func110.trans (congrArg some (by kernel_rfl))⟩,
  f12 := ⟨Tryz.f111.name, by decide, Tryz.func111.trans (congrArg some (by kernel_rfl))⟩,
  f13 := ⟨Tryz.f112.name, by decide, Tryz.func112.trans (congrArg some (by kernel_rfl))⟩,
  f14 := ⟨Tryz.f113.name, by decide, Tryz.func113.trans (congrArg some (by kernel_rfl))⟩,
  f15 := ⟨Tryz.f114.name, by decide, Tryz.func114.trans (congrArg some (by kernel_rfl))⟩,
  f16 := ⟨Tryz.f115.name, by decide, Tryz.func115.trans (congrArg some (by kernel_rfl))⟩,
  f17 := ⟨Tryz.f116.name, by decide, Tryz.func116.trans (congrArg some (by kernel_rfl))⟩,
  f18 := ⟨Tryz.f117.name, by decide, Tryz.func117.trans (congrArg some (by kernel_rfl))⟩,
  f19 := Tryz.func118.trans (congrArg some (by kernel_rfl)),
  f20 := Tryz.func119.trans (congrArg some (by kernel_rfl)),
  f30 := ⟨Tryz.f125.name, by decide, Tryz.func125.trans (congrArg some (by kernel_rfl))⟩,
  f31 := Tryz.func126.trans (congrArg some (by kernel_rfl)),
  f32 := Tryz.func127.trans (congrArg some (by kernel_rfl)),
  f33 := ⟨Tryz.f128.name, by decide, Tryz.func128.trans (congrArg some (by kernel_rfl))⟩,
  f34 := ⟨Tryz.f129.name, by decide, Tryz.func129.trans (congrArg some (by kernel_rfl))⟩,
  f35 := ⟨Tryz.f130.name, by decide, Tryz.func130.trans (congrArg some (by kernel_rfl))⟩,
  f40 := ⟨Tryz.f131.name, by decide, Tryz.func131.trans (congrArg some (by kernel_rfl))⟩,
  t0 := Tryz.underlying0,
  a0 := Tryz.isAgg0,
  z0 := Tryz.sizeOf0,
  v0 := Tryz.zeroValue0,
  t3 := Tryz.underlying3,
  a3 := Tryz.isAgg3,
  z3 := Tryz.sizeOf3,
  v3 := Tryz.zeroValue3,
  t4 := Tryz.underlying4,
  a4 := Tryz.isAgg4,
  z4 := Tryz.sizeOf4,
  v4 := Tryz.zeroValue4,
  t5 := Tryz.underlying5,
  a5 := Tryz.isAgg5,
  z5 := Tryz.sizeOf5,
  v5 := Tryz.zeroValue5,
  t9 := Tryz.underlying9,
  a9 := Tryz.isAgg9,
  z9 := Tryz.sizeOf9,
  v9 := Tryz.zeroValue9,
  t22 := Tryz.underlying26,
  a22 := Tryz.isAgg26,
  z22 := Tryz.sizeOf26,
  v22 := Tryz.zeroValue26,
  t23 := Tryz.underlying26,
  a23 := Tryz.isAgg26,
  z23 := Tryz.sizeOf26,
  v23 := Tryz.zeroValue26,
  t25 := Tryz.underlying30,
  a25 := Tryz.isAgg30,
  z25 := Tryz.sizeOf30,
  v25 := Tryz.zeroValue30,
  t32 := Tryz.underlying170,
  a32 := Tryz.isAgg170,
  z32 := Tryz.sizeOf170,
  v32 := Tryz.zeroValue170,
  t35 := Tryz.underlying181,
  a35 := Tryz.isAgg181,
  z35 := Tryz.sizeOf181,
  v35 := Tryz.zeroValue181,
  t36 := Tryz.underlying182,
  a36 := Tryz.isAgg182,
  z36 := Tryz.sizeOf182,
  v36 := Tryz.zeroValue182,
  t41 := Tryz.underlying88,
  a41 := Tryz.isAgg88,
  z41 := Tryz.sizeOf88,
  v41 := Tryz.zeroValue88,
  t44 := Tryz.underlying189,
  a44 := Tryz.isAgg189,
  z44 := Tryz.sizeOf189,
  v44 := Tryz.zeroValue189,
  t46 := Tryz.underlying54,
  a46 := Tryz.isAgg54,
  z46 := Tryz.sizeOf54,
  v46 := Tryz.zeroValue54,
  t53 := Tryz.underlying195,
  a53 := Tryz.isAgg195,
  z53 := Tryz.sizeOf195,
  v53 := Tryz.zeroValue195,
  t57 := Tryz.underlying199,
  a57 := Tryz.isAgg199,
  z57 := Tryz.sizeOf199,
  v57 := Tryz.zeroValue199,
  t63 := Tryz.underlying201,
  a63 := Tryz.isAgg201,
  z63 := Tryz.sizeOf201,
  v63 := Tryz.zeroValue201,
  t64 := Tryz.underlying42,
  a64 := Tryz.isAgg42,
  z64 := Tryz.sizeOf42,
  v64 := Tryz.zeroValue42 }

end Go.Proofs.YtcmncfglcjcmhaaGreat

/- What slices.Sort leaves: the same numbers, in order. -/
set_option linter.unusedVariables false
set_option linter.unusedSimpArgs false
namespace Go.Proofs.YtcmncfglcjcmhaaGreat
open Go.Den

variable {w0 w : World} {Ω : List Ob} {sl : Sl} {xs : List (Ty.int .i64).T}

def srt (xs : List Int) : List Int := xs.mergeSort fun x y => decide (x ≤ y)
theorem srt_len (xs : List Int) : (srt xs).length = xs.length := List.length_mergeSort xs
theorem srt_perm (xs : List Int) : (srt xs).Perm xs := List.mergeSort_perm xs _
theorem srt_sorted (xs : List Int) : (srt xs).Pairwise (fun x y => x ≤ y) := by
  have := List.pairwise_mergeSort (le := fun (x y : Int) => decide (x ≤ y)) (fun a b c h1 h2 => by simp at *; omega) (fun a b => by simp; omega) xs
  exact this.imp fun h => by simpa using h
theorem flat_int (xs : List (Ty.int .i64).T) : flat (.int .i64) xs = xs.map (Value.int .i64) := by
  induction xs with
  | nil => rfl
  | cons x xs ih => simp only [flat, List.flatMap_cons, List.map_cons] at ih ⊢; rw [ih]; rfl
theorem addr_mk (q : Addr) (h : q.spot = none) : q = ⟨q.block, q.off, none⟩ := by cases q; cases h; rfl
theorem add_mk (b o j : Nat) : Addr.add ⟨b, o, none⟩ j = ⟨b, o + j, none⟩ := by
  unfold Addr.add; split <;> simp_all

/-- a row of a slice, sorted in place -/
theorem sort_own (o : Own (.int .i64) w sl xs) {q : Addr} (hq : sl.a = some q) (n : Nat) (os : Array Obj) (ys : List (Ty.int .i64).T) (hl : ys.length = xs.length) :
    Go.Sort.Holds (Value.int .i64) w q.block q.off (xs.toArray : Array Int) ∧ Own (.int .i64) (Go.Sort.grow (Go.Sort.putRow (Value.int .i64) (Go.Sort.ahead w n) q.block q.off (ys.toArray : Array Int)) os) sl ys ∧
    Fr (fun b => b = q.block) w (Go.Sort.grow (Go.Sort.putRow (Value.int .i64) (Go.Sort.ahead w n) q.block q.off (ys.toArray : Array Int)) os) := by
  have hs := addr_mk q (o.spot q hq)
  have hlt : q.block < w.heap.size := o.lt _ ⟨q, hq, rfl⟩
  have hlen := o.view.len
  have hcap := o.cap
  have hwr := o.wr q hq
  have hat := o.view.mem q hq
  rw [flat_int] at hat
  have e1 : ∀ j, Addr.add q j = ⟨q.block, q.off + j, none⟩ := fun j => by
    conv => lhs; rw [hs]
    exact add_mk _ _ _
  have holds : Go.Sort.Holds (Value.int .i64) w q.block q.off (xs.toArray : Array Int) := fun j hj => by
    have hj' : j < xs.length := by simpa using hj
    constructor
    · have := hat j (Value.int .i64 xs[j]) (by rw [List.getElem?_map, List.getElem?_eq_getElem hj']; rfl)
      rw [e1] at this
      rw [this]
      congr 2
      simp [hj']
    · have := (hwr j (by simp only [Ty.size]; omega)).2
      rw [e1] at this
      exact this
  refine ⟨holds, ?_, ?_⟩
  · have hh : Go.Sort.Holds (Value.int .i64) (Go.Sort.ahead w n) q.block q.off (xs.toArray : Array Int) := Go.Sort.holds_ahead _ _ _ _ _ _ holds
    have h1 := Go.Sort.holds_putRow (Value.int .i64) (Go.Sort.ahead w n) q.block q.off (xs.toArray : Array Int) (ys.toArray : Array Int) hh (by simp [hl])
    have hsz : (Go.Sort.putRow (Value.int .i64) (Go.Sort.ahead w n) q.block q.off (ys.toArray : Array Int)).heap.size = w.heap.size := by simp
    have h2 := Go.Sort.holds_grow (Value.int .i64) _ os q.block q.off (ys.toArray : Array Int) (by rw [hsz]; exact hlt) h1
    refine ⟨⟨by rw [hl]; exact hlen, fun q' hq' => ?_, fun _ => ⟨q, hq⟩⟩, hcap, fun q' hq' => ?_, fun h => (by rw [hq] at h; cases h), fun b hb => ?_, o.spot⟩
    · rw [hq] at hq'; cases hq'
      rw [flat_int]
      intro i v hi
      rw [List.getElem?_map] at hi
      have hil : i < ys.length := by
        cases h : ys[i]? with
        | none => rw [h] at hi; cases hi
        | some y => exact (List.getElem?_eq_some_iff.1 h).1
      rw [List.getElem?_eq_getElem hil] at hi
      have := (h2 i (by simpa using hil)).1
      rw [e1, this]
      simp only [Option.map_some] at hi
      rw [← hi]
      congr 2
      simp [hil]
    · rw [hq] at hq'; cases hq'
      intro i hi
      obtain ⟨⟨v, hv⟩, hf⟩ := hwr i hi
      have c1 : ∃ v, (Go.Sort.putRow (Value.int .i64) (Go.Sort.ahead w n) q.block q.off (ys.toArray : Array Int)).cell? (q.add i) = some v := by
        by_cases c : i < ys.length
        · have := (h1 i (by simpa using c)).1
          exact ⟨_, by rw [e1]; exact this⟩
        · refine ⟨v, ?_⟩
          rw [Go.Sort.cell?_putRow_other _ _ _ _ _ _ (by right; right; rw [e1]; simp; omega)]
          exact hv
      obtain ⟨v', hv'⟩ := c1
      refine ⟨⟨v', ?_⟩, ?_⟩
      · rw [Go.Sort.cell?_grow _ _ _ (by rw [hsz, e1]; exact hlt)]; exact hv'
      · rw [Go.Sort.frozen?_grow _ _ _ (by rw [hsz, e1]; exact hlt), Go.Sort.frozen?_putRow]; exact hf
    · have := o.lt b hb
      rw [Go.Sort.size_grow, hsz]; omega
  · refine ⟨by rw [Go.Sort.size_grow]; simp, fun b hb hne => ?_, rfl, rfl, rfl⟩
    have hsz : (Go.Sort.putRow (Value.int .i64) (Go.Sort.ahead w n) q.block q.off (ys.toArray : Array Int)).heap.size = w.heap.size := by simp
    rw [Go.Sort.heap_grow_old _ _ (by rw [hsz]; exact hb)]
    unfold Go.Sort.putRow Go.Sort.mapBlock
    simp only [Array.getElem?_modify, Go.Sort.heap_ahead]
    rw [if_neg (Ne.symm hne)]

theorem slices_Sort_sp (s : Sp w0 Ω w) (i : Nat) (hi : Ω[i]? = some (own (.int .i64) sl xs)) (hl : xs.length ≤ 1000000000) {K : Unit → World → Prop} (h : ∀ w', Sp w0 (Ω.set i (own (.int .i64) sl (srt xs))) w' → K () w') : C_slices_Sort sl K w := by
  obtain ⟨B, ⟨o, hB⟩, hlt, back⟩ := s.open i hi rfl
  have hlen := o.view.len
  cases hq : sl.a with
  | none =>
    have h0 := o.nil hq
    have hcap := o.cap
    have hx : xs = [] := List.eq_nil_of_length_eq_zero (by omega)
    have hn : sl.len = 0 := by omega
    have := AnyM.slices_Sort_int_none sortLay none sl.cap w
    unfold C_slices_Sort
    rw [hq, hn]
    refine Calls.mono this fun e w' ⟨he, hw⟩ => ⟨(), he, ?_⟩
    subst hw
    refine h _ ?_
    subst hx
    have : srt [] = [] := by simp [srt]
    rw [this]
    exact (setSame hi).symm ▸ s
  | some q =>
    have hs := addr_mk q (o.spot q hq)
    have key := sort_own o hq
    have := AnyM.slices_Sort_int sortLay q.block q.off sl.cap xs w (key 0 #[] xs rfl).1 (o.lt _ ⟨q, hq, rfl⟩) (by omega)
    unfold C_slices_Sort
    rw [hq, hlen]
    rw [← hs] at this
    refine Calls.mono this fun e w' ⟨he, n, os, hw⟩ => ⟨(), he, ?_⟩
    obtain ⟨_, o', f⟩ := key n os (srt xs) (srt_len xs)
    subst hw
    exact h _ (back _ B _ ⟨o', hB⟩ (f.mono fun b _ hb => hb ▸ hB _ ⟨q, hq, rfl⟩) (fun _ h => Or.inl h) fun b hb => Nat.lt_of_lt_of_le (hlt b hb).2 f.size)

end Go.Proofs.YtcmncfglcjcmhaaGreat

/- What rules reach, and the list of that in order. -/
set_option linter.unusedVariables false
set_option linter.unusedSimpArgs false
namespace Go.Proofs.YtcmncfglcjcmhaaGreat
open Go.Den

variable {T : List ET} {S : List Int}

inductive Rch (T : List ET) (S : List Int) : Int → Prop
  | root {x : Int} : x ∈ S → x ≠ 0 → Rch T S x
  | ref {y x : Int} : Rch T S y → x ∈ refs (eAt T y).1 → Rch T S x

theorem refs_in (g : Grow T) {y x : Int} (h1 : 1 ≤ y) (h2 : y ≤ T.length) (h : x ∈ refs (eAt T y).1) : 1 ≤ x ∧ x < y := by
  cases g.shape h1 h2 with
  | letter b _ _ e => rw [e] at h; simp [refs, mkLetter] at h
  | pair l r _ _ _ _ _ e =>
    rw [e] at h
    have : x = l ∨ x = r := by simpa [refs, mkPair] using h
    rcases this with rfl | rfl <;> omega
  | power a k _ _ _ _ e =>
    rw [e] at h
    have : x = a := by simpa [refs, mkPower] using h
    subst this; omega
theorem Rch.bound (g : Grow T) (hS : ∀ x ∈ S, 0 ≤ x ∧ x ≤ T.length) {x : Int} (h : Rch T S x) : 1 ≤ x ∧ x ≤ T.length := by
  induction h with
  | root h1 h2 => have := hS _ h1; omega
  | ref h1 h2 ih =>
    have := refs_in g ih.1 ih.2 h2
    omega
noncomputable def rlist (T : List ET) (S : List Int) : List Int := ((List.range T.length).map fun i : Nat => (i : Int) + 1).filter fun x => @decide (Rch T S x) (Classical.propDecidable _)
theorem mem_rlist {x : Int} : x ∈ rlist T S ↔ (1 ≤ x ∧ x ≤ T.length) ∧ Rch T S x := by
  unfold rlist
  rw [List.mem_filter]
  have : x ∈ ((List.range T.length).map fun i : Nat => (i : Int) + 1) ↔ 1 ≤ x ∧ x ≤ T.length := by
    rw [List.mem_map]
    constructor
    · rintro ⟨i, hi, rfl⟩
      have := List.mem_range.1 hi
      omega
    · intro h
      exact ⟨(x - 1).toNat, List.mem_range.2 (by omega), by omega⟩
  rw [this]
  simp
theorem rlist_sorted : (rlist T S).Pairwise (fun x y => x < y) := by
  unfold rlist
  refine List.Pairwise.filter _ ?_
  rw [List.pairwise_map]
  exact List.pairwise_lt_range.imp fun h => by omega
theorem rlist_nodup : (rlist T S).Nodup := rlist_sorted.imp fun h => by omega
theorem rlist_mem (g : Grow T) (hS : ∀ x ∈ S, 0 ≤ x ∧ x ≤ T.length) {x : Int} : x ∈ rlist T S ↔ Rch T S x := by
  rw [mem_rlist]
  exact ⟨fun h => h.2, fun h => ⟨h.bound g hS, h⟩⟩
theorem sorted_unique {L M : List Int} (hL : L.Pairwise (fun x y => x < y)) (hM : M.Pairwise (fun x y => x < y)) (h : ∀ x, x ∈ L ↔ x ∈ M) : L = M := by
  induction L generalizing M with
  | nil =>
    cases M with
    | nil => rfl
    | cons y M => have := (h y).2 (by simp); cases this
  | cons x L ih =>
    cases M with
    | nil => have := (h x).1 (by simp); cases this
    | cons y M =>
      rw [List.pairwise_cons] at hL hM
      have hxy : x = y := by
        have h1 := (h x).1 (by simp)
        have h2 := (h y).2 (by simp)
        rcases List.mem_cons.1 h1 with h1 | h1
        · exact h1
        · rcases List.mem_cons.1 h2 with h2 | h2
          · exact h2.symm
          · have := hM.1 x h1; have := hL.1 y h2; omega
      subst hxy
      congr 1
      refine ih hL.2 hM.2 fun z => ?_
      have := h z
      simp only [List.mem_cons] at this
      constructor
      · intro hz
        rcases this.1 (Or.inr hz) with rfl | h'
        · have := hL.1 z hz; omega
        · exact h'
      · intro hz
        rcases this.2 (Or.inr hz) with rfl | h'
        · have := hM.1 z hz; omega
        · exact h'
theorem srt_lt {L : List Int} (hn : L.Nodup) : (srt L).Pairwise (fun x y => x < y) := by
  have h1 := srt_sorted L
  have h2 : (srt L).Nodup := (srt_perm L).nodup_iff.2 hn
  exact (h1.and h2).imp fun ⟨a, b⟩ => by omega
theorem srt_rlist (g : Grow T) (hS : ∀ x ∈ S, 0 ≤ x ∧ x ≤ T.length) {L : List Int} (hn : L.Nodup) (h : ∀ x, x ∈ L ↔ Rch T S x) : srt L = rlist T S :=
  sorted_unique (srt_lt hn) rlist_sorted fun x => by rw [(srt_perm L).mem_iff, h, rlist_mem g hS]
theorem rlist_zero : rlist T [0] = [] := by
  apply List.eq_nil_iff_forall_not_mem.2
  intro x hx
  have h := (mem_rlist.1 hx).2
  have key : ∀ x, Rch T [0] x → False := by
    intro x h
    induction h with
    | root h1 h2 => simp at h1; exact h2 h1
    | ref _ _ ih => exact ih
  exact key x h
theorem rlist_len (T : List ET) (S : List Int) : (rlist T S).length ≤ T.length := by
  unfold rlist
  refine Nat.le_trans (List.length_filter_le _ _) ?_
  simp

/-- a list of different numbers from 1 to n is no longer than n -/
theorem nodup_bound {L : List Int} {n : Nat} (hn : L.Nodup) (h : ∀ x ∈ L, 1 ≤ x ∧ x ≤ n) : L.length ≤ n := by
  have hp : srt L = ((List.range n).map fun i : Nat => (i : Int) + 1).filter (fun x => decide (x ∈ L)) := by
    refine sorted_unique (srt_lt hn) (List.Pairwise.filter _ (by rw [List.pairwise_map]; exact List.pairwise_lt_range.imp fun h => by omega)) fun x => ?_
    rw [(srt_perm L).mem_iff, List.mem_filter, List.mem_map]
    constructor
    · intro hx
      have := h x hx
      exact ⟨⟨(x - 1).toNat, List.mem_range.2 (by omega), by omega⟩, decide_eq_true hx⟩
    · intro hx
      exact of_decide_eq_true hx.2
  have h1 := srt_len L
  rw [hp] at h1
  rw [← h1]
  refine Nat.le_trans (List.length_filter_le _ _) ?_
  simp

/-! ### Positions -/
def ent (ids : List Int) : List ((Ty.int .i64).T × (Ty.int .i64).T) := ids.zipIdx.map fun p => (p.1, (p.2 : Int) + 1)
theorem ent_append (ids : List Int) (x : Int) : ent (ids ++ [x]) = ent ids ++ [(x, (ids.length : Int) + 1)] := by
  simp [ent, List.zipIdx_append]
theorem lk_append {kt vt : Ty} {es fs : List (kt.T × vt.T)} {x : kt.T} : lk (es ++ fs) x = (lk es x).or (lk fs x) := by
  unfold lk
  rw [List.find?_append]
  cases es.find? (fun p => beqT kt x p.1) <;> rfl
theorem lk_one {kt vt : Ty} (hk : leafT kt = true) {k x : kt.T} {v : vt.T} [DecidableEq kt.T] : lk [(k, v)] x = if x = k then some v else none := by
  unfold lk
  by_cases h : x = k
  · rw [if_pos h]
    have : beqT kt x k = true := (beqT_iff kt hk _ _).2 h
    simp [this]
  · rw [if_neg h]
    have : beqT kt x k = false := by
      cases hb : beqT kt x k
      · rfl
      · exact absurd ((beqT_iff kt hk _ _).1 hb) h
    simp [this]
theorem lk_ent_none {ids : List Int} {y : Int} (h : y ∉ ids) : lk (ent ids) y = none := by
  unfold lk
  have : (ent ids).find? (fun p => beqT (.int .i64) y p.1) = none := by
    rw [List.find?_eq_none]
    intro p hp hb
    have e := (beqT_iff (.int .i64) rfl _ _).1 hb
    unfold ent at hp
    obtain ⟨⟨a, i⟩, hq, rfl⟩ := List.mem_map.1 hp
    have := (List.mem_zipIdx hq).2.2
    exact h (by rw [show y = a from e, this]; exact List.getElem_mem _)
  rw [this]; rfl
theorem snoc_ind {α : Type} {M : List α → Prop} (h0 : M []) (h1 : ∀ L x, M L → M (L ++ [x])) (L : List α) : M L := by
  have key : ∀ (n : Nat) (L : List α), L.length = n → M L := by
    intro n
    induction n with
    | zero => intro L h; rw [List.eq_nil_of_length_eq_zero h]; exact h0
    | succ n ih =>
      intro L h
      obtain ⟨L', e, rfl⟩ : ∃ L' e, L = L' ++ [e] := ⟨L.dropLast, L.getLast (by intro h'; rw [h'] at h; simp at h), (List.dropLast_concat_getLast _).symm⟩
      exact h1 L' e (ih L' (by simpa using h))
  exact key _ L rfl
theorem lk_ent_some : ∀ {ids : List Int} {y : Int} {k : Nat}, ids.Nodup → ids[k]? = some y → lk (ent ids) y = some ((k : Int) + 1) := by
  intro ids
  refine snoc_ind (M := fun ids => ∀ {y : Int} {k : Nat}, ids.Nodup → ids[k]? = some y → lk (ent ids) y = some ((k : Int) + 1)) ?_ ?_ ids
  · intro y k _ h; simp at h
  · intro L x ih y k hn h
    rw [List.nodup_append] at hn
    rw [ent_append, lk_append]
    by_cases hk : k < L.length
    · rw [List.getElem?_append_left hk] at h
      rw [ih hn.1 h]; rfl
    · have hk' : k = L.length := by
        have := (List.getElem?_eq_some_iff.1 h).1
        simp at this; omega
      subst hk'
      have hx : x = y := by simpa using h
      subst hx
      rw [lk_ent_none (fun hm => (hn.2.2 x hm x (by simp)) rfl), lk_one rfl, if_pos rfl]
      rfl
def pos (ids : List Int) (y : Int) : Int := (lk (ent ids) y).getD (0 : Int)
theorem pos_none {ids : List Int} {y : Int} (h : y ∉ ids) : pos ids y = 0 := by unfold pos; rw [lk_ent_none h]; rfl
theorem pos_some {ids : List Int} {y : Int} {k : Nat} (hn : ids.Nodup) (h : ids[k]? = some y) : pos ids y = (k : Int) + 1 := by unfold pos; rw [lk_ent_some hn h]; rfl

/-! ### The grammar of a list of rules -/
def mvr (ids : List Int) (r : RT) : RT := (r.1, r.2.1, pos ids r.2.2.1, pos ids r.2.2.2.1, r.2.2.2.2)
def exp (T : List ET) (ids : List Int) : List yapi_Rule.T := ids.map fun x => mvr ids (eAt T x).1
theorem exp_len (T : List ET) (ids : List Int) : (exp T ids).length = ids.length := List.length_map _
structure Closed (T : List ET) (ids : List Int) : Prop where
  sorted : ids.Pairwise (fun x y => x < y)
  bound : ∀ x ∈ ids, 1 ≤ x ∧ x ≤ T.length
  refs : ∀ y ∈ ids, ∀ x ∈ refs (eAt T y).1, x ∈ ids
theorem Closed.nodup {ids : List Int} (h : Closed T ids) : ids.Nodup := h.sorted.imp fun h => by omega
theorem rlist_closed (g : Grow T) (hS : ∀ x ∈ S, 0 ≤ x ∧ x ≤ T.length) : Closed T (rlist T S) :=
  ⟨rlist_sorted, fun x hx => (mem_rlist.1 hx).1, fun y hy x hx => (rlist_mem g hS).2 (.ref (mem_rlist.1 hy).2 hx)⟩
theorem sorted_lt {ids : List Int} (hs : ids.Pairwise (fun x y => x < y)) {i j : Nat} {x y : Int} (hi : ids[i]? = some x) (hj : ids[j]? = some y) : x < y ↔ i < j := by
  have key : ∀ {i j : Nat} {x y : Int}, ids[i]? = some x → ids[j]? = some y → i < j → x < y := by
    intro i j x y hi hj h
    have := (List.pairwise_iff_getElem.1 hs) i j (List.getElem?_eq_some_iff.1 hi).1 (List.getElem?_eq_some_iff.1 hj).1 h
    rwa [(List.getElem?_eq_some_iff.1 hi).2, (List.getElem?_eq_some_iff.1 hj).2] at this
  constructor
  · intro h
    rcases Nat.lt_trichotomy i j with h' | h' | h'
    · exact h'
    · subst h'; rw [hi] at hj; cases hj; omega
    · have := key hj hi h'; omega
  · exact key hi hj

end Go.Proofs.YtcmncfglcjcmhaaGreat

/- What is exported and imported again: into the same store nothing is added; into an empty one a copy. -/
set_option linter.unusedVariables false
set_option linter.unusedSimpArgs false
namespace Go.Proofs.YtcmncfglcjcmhaaGreat
open Go.Den

variable {T : List ET} {ids : List Int} {most : Int}

theorem Closed.nz (hc : Closed T ids) : (0 : Int) ∉ ids := fun h => by have := (hc.bound 0 h).1; omega
theorem pos_zero (hc : Closed T ids) : pos ids 0 = 0 := pos_none hc.nz
/-- the references of a rule of the list, and their places -/
theorem Closed.ref (hc : Closed T ids) (g : Grow T) {k : Nat} {y x : Int} (hk : ids[k]? = some y) (hx : x ∈ YtcmncfglcjcmhaaGreat.refs (eAt T y).1) : ∃ j, j < k ∧ ids[j]? = some x ∧ pos ids x = (j : Int) + 1 := by
  have hyb := hc.bound y (List.mem_of_getElem? hk)
  have hxm := hc.refs y (List.mem_of_getElem? hk) x hx
  obtain ⟨j, hj⟩ := List.getElem?_of_mem hxm
  have hlt := (refs_in g hyb.1 hyb.2 hx).2
  exact ⟨j, (sorted_lt hc.sorted hj hk).1 hlt, hj, pos_some hc.nodup hj⟩
theorem exp_get {k : Nat} {y : Int} (hk : ids[k]? = some y) : (exp T ids)[k]? = some (mvr ids (eAt T y).1) := by
  unfold exp; rw [List.getElem?_map, hk]; rfl
theorem chk_exp (g : Grow T) (hc : Closed T ids) {k : Nat} {y : Int} (hk : ids[k]? = some y) : chk (mvr ids (eAt T y).1) ((k : Int) + 1) = 0 := by
  have hyb := hc.bound y (List.mem_of_getElem? hk)
  have p0 := pos_zero hc
  have hf : formB (mvr ids (eAt T y).1) = true ∧ placeB (mvr ids (eAt T y).1) ((k : Int) + 1) = true := by
    cases g.shape hyb.1 hyb.2 with
    | letter b _ _ e =>
      rw [e]
      refine ⟨by simp [formB, mvr, mkLetter, p0], ?_⟩
      rw [placeB_1 (by rfl)]; simp; omega
    | pair l r _ _ _ _ _ e =>
      obtain ⟨j1, h1, _, e1⟩ := hc.ref g hk (x := l) (by rw [e]; simp [refs, mkPair])
      obtain ⟨j2, h2, _, e2⟩ := hc.ref g hk (x := r) (by rw [e]; simp [refs, mkPair])
      rw [e]
      refine ⟨by simp [formB, mvr, mkPair], ?_⟩
      rw [placeB_2 (by rfl)]
      simp only [mvr, mkPair, decide_eq_true_eq, e1, e2]; omega
    | power x n _ _ hn _ e =>
      obtain ⟨j1, h1, _, e1⟩ := hc.ref g hk (x := x) (by rw [e]; simp [refs, mkPower])
      rw [e]
      refine ⟨by simp [formB, mvr, mkPower, p0, hn], ?_⟩
      rw [placeB_3 (by rfl)]
      simp only [mvr, mkPower, decide_eq_true_eq, e1]; omega
  unfold chk
  rw [hf.1, if_pos rfl, hf.2, if_pos rfl]
theorem bad_of : ∀ (l : List RT) (n : Int), (∀ (i : Nat) (r : RT), l[i]? = some r → chk r (n + i) = 0) → bad l n = 0
  | [], _, _ => rfl
  | r :: l, n, h => by
    rw [bad_cons, if_pos (by have := h 0 r rfl; simpa using this)]
    refine bad_of l (n + 1) fun i x hi => ?_
    have := h (i + 1) x (by simpa using hi)
    rw [← this]; congr 1; omega
theorem bad_exp (g : Grow T) (hc : Closed T ids) : bad (exp T ids) 1 = 0 := by
  refine bad_of _ _ fun i r hi => ?_
  obtain ⟨y, hy⟩ : ∃ y, ids[i]? = some y := by
    have := (List.getElem?_eq_some_iff.1 hi).1
    rw [exp_len] at this
    exact ⟨_, List.getElem?_eq_getElem this⟩
  rw [exp_get hy] at hi
  cases hi
  have := chk_exp g hc hy
  rw [← this]; congr 1; omega

/-! ### Into the same store -/
theorem pPut_same (g : Grow T) (hc : Closed T ids) {k : Nat} {y : Int} (hk : ids[k]? = some y) : pPut T most ((0 : Int) :: ids.take k) (mvr ids (eAt T y).1) = (T, (y, .nilIface)) := by
  have hyb := hc.bound y (List.mem_of_getElem? hk)
  have hfind := g.find hyb.1 hyb.2
  have hat : ∀ {x : Int} {j : Nat}, j < k → ids[j]? = some x → atI ((0 : Int) :: ids.take k) ((j : Int) + 1) = x := by
    intro x j hj hx
    unfold atI
    rw [show ((j : Int) + 1).toNat = j + 1 by omega, List.getD_eq_getElem?_getD, List.getElem?_cons_succ, List.getElem?_take_of_lt hj, hx]; rfl
  unfold pPut
  cases g.shape hyb.1 hyb.2 with
  | letter b _ _ e =>
    rw [e] at hfind ⊢
    rw [if_pos (by rfl)]
    exact (pAdd_some (most := most) (e := mkLetter b) hfind).2.1
  | pair l r a1 a2 a3 a4 a5 e =>
    obtain ⟨j1, h1, g1, e1⟩ := hc.ref g hk (x := l) (by rw [e]; simp [refs, mkPair])
    obtain ⟨j2, h2, g2, e2⟩ := hc.ref g hk (x := r) (by rw [e]; simp [refs, mkPair])
    rw [e] at hfind ⊢
    rw [if_neg (by simp [mvr, mkPair]), if_pos (by rfl)]
    have q1 : atI ((0 : Int) :: ids.take k) (mvr ids (mkPair T l r).1).2.2.1 = l := by
      show atI _ (pos ids l) = l
      rw [e1]; exact hat h1 g1
    have q2 : atI ((0 : Int) :: ids.take k) (mvr ids (mkPair T l r).1).2.2.2.1 = r := by
      show atI _ (pos ids r) = r
      rw [e2]; exact hat h2 g2
    rw [q1, q2]
    unfold pPair
    have kl : known T l = true := decide_eq_true (by omega)
    have kr : known T r = true := decide_eq_true (by omega)
    rw [kl, kr, if_neg (by simp), if_neg (by omega), if_neg (by omega), if_neg (by omega)]
    exact (pAdd_some (most := most) (e := mkPair T l r) hfind).2.1
  | power x n a1 a2 a3 a4 e =>
    obtain ⟨j1, h1, g1, e1⟩ := hc.ref g hk (x := x) (by rw [e]; simp [refs, mkPower])
    rw [e] at hfind ⊢
    rw [if_neg (by simp [mvr, mkPower]), if_neg (by simp [mvr, mkPower])]
    have q1 : atI ((0 : Int) :: ids.take k) (mvr ids (mkPower T x n).1).2.2.1 = x := by
      show atI _ (pos ids x) = x
      rw [e1]; exact hat h1 g1
    rw [q1]
    show pPower T most x n = _
    unfold pPower
    have kx : known T x = true := decide_eq_true (by omega)
    rw [kx, if_neg (by simp; omega), if_neg (by omega), if_neg (by omega), if_neg (by omega)]
    exact (pAdd_some (most := most) (e := mkPower T x n) hfind).2.1
theorem pImps_same (g : Grow T) (hc : Closed T ids) : ∀ (d k : Nat), k + d = ids.length → pImps T most ((exp T ids).drop k) ((0 : Int) :: ids.take k) = (T, (((0 : Int) :: ids).getLastD 0, .nilIface))
  | 0, k, hk => by
    have : k = ids.length := by omega
    subst this
    rw [show (exp T ids).drop ids.length = [] by rw [← exp_len T ids, List.drop_length], List.take_length]
    rfl
  | d + 1, k, hk => by
    have hkl : k < ids.length := by omega
    obtain ⟨y, hy⟩ : ∃ y, ids[k]? = some y := ⟨_, List.getElem?_eq_getElem hkl⟩
    have hd : (exp T ids).drop k = mvr ids (eAt T y).1 :: (exp T ids).drop (k + 1) := by
      have h := exp_get (T := T) hy
      have hl := (List.getElem?_eq_some_iff.1 h).1
      rw [List.drop_eq_getElem_cons hl, (List.getElem?_eq_some_iff.1 h).2]
    rw [hd, pImps_cons, pPut_same g hc hy, if_pos (by rfl)]
    have ht : (0 : Int) :: ids.take k ++ [y] = (0 : Int) :: ids.take (k + 1) := by rw [List.take_add_one, hy]; rfl
    show pImps T most _ ((0 : Int) :: ids.take k ++ [y]) = _
    rw [ht]
    exact pImps_same g hc d (k + 1) (by omega)
theorem pImport_same (g : Grow T) (hc : Closed T ids) : pImport T most (exp T ids) = (T, (((0 : Int) :: ids).getLastD 0, .nilIface)) := by
  unfold pImport
  rw [if_pos (bad_exp g hc)]
  have := pImps_same (most := most) g hc ids.length 0 (by omega)
  simpa using this

/-! ### Into an empty store -/
def copy (T : List ET) (ids : List Int) : List ET := ids.map fun x => (mvr ids (eAt T x).1, (eAt T x).2)
theorem copy_len : (copy T ids).length = ids.length := List.length_map _
theorem copy_get {k : Nat} {y : Int} (hk : ids[k]? = some y) : (copy T ids)[k]? = some (mvr ids (eAt T y).1, (eAt T y).2) := by
  unfold copy; rw [List.getElem?_map, hk]; rfl
theorem copy_at {k m : Nat} {y : Int} (hk : ids[k]? = some y) (hm : k < m) : eAt ((copy T ids).take m) ((k : Int) + 1) = (mvr ids (eAt T y).1, (eAt T y).2) := by
  have hkl := (List.getElem?_eq_some_iff.1 hk).1
  have h := eAt_get (L := (copy T ids).take m) (id := (k : Int) + 1) (by omega) (by rw [List.length_take, copy_len]; omega)
  rw [show ((k : Int) + 1 - 1).toNat = k by omega, List.getElem?_take_of_lt hm, copy_get hk] at h
  exact (Option.some.inj h).symm
theorem pos_inj (hc : Closed T ids) {x y : Int} (hx : x = 0 ∨ x ∈ ids) (hy : y = 0 ∨ y ∈ ids) (h : pos ids x = pos ids y) : x = y := by
  have key : ∀ {x : Int}, x ∈ ids → ∃ j : Nat, ids[j]? = some x ∧ pos ids x = (j : Int) + 1 := fun hx => by
    obtain ⟨j, hj⟩ := List.getElem?_of_mem hx
    exact ⟨j, hj, pos_some hc.nodup hj⟩
  have p0 := pos_zero hc
  rcases hx with rfl | hx
  · rcases hy with rfl | hy
    · rfl
    · obtain ⟨j, _, e⟩ := key hy
      rw [p0, e] at h; omega
  · obtain ⟨i, hi, ei⟩ := key hx
    rcases hy with rfl | hy
    · rw [p0, ei] at h; omega
    · obtain ⟨j, hj, e⟩ := key hy
      rw [ei, e] at h
      have : i = j := by omega
      subst this
      rw [hi] at hj
      exact Option.some.inj hj
theorem refs_mem (g : Grow T) (hc : Closed T ids) {y : Int} (hy : y ∈ ids) : ((eAt T y).1.2.2.1 = 0 ∨ (eAt T y).1.2.2.1 ∈ ids) ∧ ((eAt T y).1.2.2.2.1 = 0 ∨ (eAt T y).1.2.2.2.1 ∈ ids) := by
  have hyb := hc.bound y hy
  have hr := hc.refs y hy
  cases g.shape hyb.1 hyb.2 with
  | letter b _ _ e => rw [e]; exact ⟨Or.inl rfl, Or.inl rfl⟩
  | pair l r _ _ _ _ _ e =>
    rw [e] at hr ⊢
    exact ⟨Or.inr (hr l (by simp [refs, mkPair])), Or.inr (hr r (by simp [refs, mkPair]))⟩
  | power x k _ _ _ _ e =>
    rw [e] at hr ⊢
    exact ⟨Or.inr (hr x (by simp [refs, mkPower])), Or.inl rfl⟩
theorem mvr_inj (g : Grow T) (hc : Closed T ids) {x y : Int} (hx : x ∈ ids) (hy : y ∈ ids) (h : mvr ids (eAt T x).1 = mvr ids (eAt T y).1) : x = y := by
  have hxb := hc.bound x hx
  have hyb := hc.bound y hy
  have rx := refs_mem g hc hx
  have ry := refs_mem g hc hy
  have f1 := g.find hxb.1 hxb.2
  have f2 := g.find hyb.1 hyb.2
  have e : (eAt T x).1 = (eAt T y).1 := by
    generalize (eAt T x).1 = a at h rx
    generalize (eAt T y).1 = b at h ry
    simp only [mvr, Prod.mk.injEq] at h
    obtain ⟨h1, h2, h3, h4, h5⟩ := h
    exact Prod.ext h1 (Prod.ext h2 (Prod.ext (pos_inj hc rx.1 ry.1 h3) (Prod.ext (pos_inj hc rx.2 ry.2 h4) h5)))
  rw [e, f2] at f1
  exact (Option.some.inj f1).symm
theorem copy_fresh (g : Grow T) (hc : Closed T ids) {k : Nat} {y : Int} (hk : ids[k]? = some y) : lkR ((copy T ids).take k) (mvr ids (eAt T y).1) = none := by
  refine lkR_none fun e he h => ?_
  obtain ⟨j, hj⟩ := List.getElem?_of_mem he
  have hjk : j < k := by
    have := (List.getElem?_eq_some_iff.1 hj).1
    rw [List.length_take] at this; omega
  have hkl := (List.getElem?_eq_some_iff.1 hk).1
  rw [List.getElem?_take_of_lt hjk] at hj
  obtain ⟨x, hx⟩ : ∃ x, ids[j]? = some x := ⟨_, List.getElem?_eq_getElem (by omega)⟩
  rw [copy_get hx] at hj
  cases hj
  have := mvr_inj g hc (List.mem_of_getElem? hx) (List.mem_of_getElem? hk) h
  have := (sorted_lt hc.sorted hx hk).2 hjk
  omega
def ups (k : Nat) : List Int := (List.range (k + 1)).map fun i : Nat => (i : Int)
theorem ups_succ (k : Nat) : ups (k + 1) = ups k ++ [((k : Int) + 1)] := by
  unfold ups
  rw [List.range_succ, List.map_append]; rfl
theorem ups_at {k j : Nat} (h : j ≤ k) : atI (ups k) (j : Int) = j := by
  unfold atI ups
  rw [List.getD_eq_getElem?_getD, List.getElem?_map, List.getElem?_range (by omega)]; simp
theorem pPut_copy (g : Grow T) (hc : Closed T ids) {k : Nat} {y : Int} (hk : ids[k]? = some y) (hm : (k : Int) < most) : pPut ((copy T ids).take k) most (ups k) (mvr ids (eAt T y).1) = ((copy T ids).take (k + 1), ((k : Int) + 1, .nilIface)) := by
  have hyb := hc.bound y (List.mem_of_getElem? hk)
  have hkl := (List.getElem?_eq_some_iff.1 hk).1
  have hfr := copy_fresh g hc hk
  have hlen : ((copy T ids).take k).length = k := by rw [List.length_take, copy_len]; omega
  have hstep : (copy T ids).take (k + 1) = (copy T ids).take k ++ [(mvr ids (eAt T y).1, (eAt T y).2)] := by rw [List.take_add_one, copy_get hk]; rfl
  have p0 := pos_zero hc
  have fin : ∀ e : ET, e = (mvr ids (eAt T y).1, (eAt T y).2) → pAdd ((copy T ids).take k) most e = ((copy T ids).take (k + 1), ((k : Int) + 1, .nilIface)) := by
    rintro e rfl
    rw [(pAdd_new (most := most) (e := (mvr ids (eAt T y).1, (eAt T y).2)) hfr (by rw [hlen]; omega)).2, ← hstep, hlen]
  unfold pPut
  cases g.shape hyb.1 hyb.2 with
  | letter b _ _ e =>
    rw [e] at fin ⊢
    rw [if_pos (by rfl)]
    refine fin (mkLetter b) ?_
    simp [mvr, mkLetter, p0]
  | pair l r a1 a2 a3 a4 a5 e =>
    obtain ⟨j1, h1, g1, e1⟩ := hc.ref g hk (x := l) (by rw [e]; simp [refs, mkPair])
    obtain ⟨j2, h2, g2, e2⟩ := hc.ref g hk (x := r) (by rw [e]; simp [refs, mkPair])
    rw [e] at fin ⊢
    rw [if_neg (by simp [mvr, mkPair]), if_pos (by rfl)]
    have q1 : atI (ups k) (mvr ids (mkPair T l r).1).2.2.1 = (j1 : Int) + 1 := by
      show atI _ (pos ids l) = _
      rw [e1]; exact ups_at (j := j1 + 1) (by omega)
    have q2 : atI (ups k) (mvr ids (mkPair T l r).1).2.2.2.1 = (j2 : Int) + 1 := by
      show atI _ (pos ids r) = _
      rw [e2]; exact ups_at (j := j2 + 1) (by omega)
    have w1 := copy_at (T := T) g1 h1
    have w2 := copy_at (T := T) g2 h2
    rw [q1, q2]
    unfold pPair
    have kl : known ((copy T ids).take k) ((j1 : Int) + 1) = true := decide_eq_true (by rw [hlen]; omega)
    have kr : known ((copy T ids).take k) ((j2 : Int) + 1) = true := decide_eq_true (by rw [hlen]; omega)
    rw [kl, kr, if_neg (by simp), if_neg (by omega), if_neg (by omega), w1, w2, if_neg (by simp only; omega)]
    refine fin _ ?_
    unfold mkPair
    rw [w1, w2]
    simp only [mvr, e1, e2]
  | power x n a1 a2 a3 a4 e =>
    obtain ⟨j1, h1, g1, e1⟩ := hc.ref g hk (x := x) (by rw [e]; simp [refs, mkPower])
    rw [e] at fin ⊢
    rw [if_neg (by simp [mvr, mkPower]), if_neg (by simp [mvr, mkPower])]
    have q1 : atI (ups k) (mvr ids (mkPower T x n).1).2.2.1 = (j1 : Int) + 1 := by
      show atI _ (pos ids x) = _
      rw [e1]; exact ups_at (j := j1 + 1) (by omega)
    have w1 := copy_at (T := T) g1 h1
    rw [q1]
    show pPower _ most _ n = _
    unfold pPower
    have kx : known ((copy T ids).take k) ((j1 : Int) + 1) = true := decide_eq_true (by rw [hlen]; omega)
    rw [kx, if_neg (by simp; omega), if_neg (by omega), if_neg (by omega), w1, if_neg (by simp only; omega)]
    refine fin _ ?_
    unfold mkPower
    rw [w1]
    simp only [mvr, e1, p0]
theorem pImps_copy (g : Grow T) (hc : Closed T ids) (hm : (ids.length : Int) ≤ most) : ∀ (d k : Nat), k + d = ids.length → pImps ((copy T ids).take k) most ((exp T ids).drop k) (ups k) = (copy T ids, ((ids.length : Int), .nilIface))
  | 0, k, hk => by
    have : k = ids.length := by omega
    subst this
    rw [show (exp T ids).drop ids.length = [] by rw [← exp_len T ids, List.drop_length]]
    have : (copy T ids).take ids.length = copy T ids := by rw [← copy_len (T := T), List.take_length]
    rw [this]
    unfold pImps
    congr 2
    unfold ups
    rw [List.range_succ, List.map_append]
    simp
  | d + 1, k, hk => by
    have hkl : k < ids.length := by omega
    obtain ⟨y, hy⟩ : ∃ y, ids[k]? = some y := ⟨_, List.getElem?_eq_getElem hkl⟩
    have hd : (exp T ids).drop k = mvr ids (eAt T y).1 :: (exp T ids).drop (k + 1) := by
      have h := exp_get (T := T) hy
      have hl := (List.getElem?_eq_some_iff.1 h).1
      rw [List.drop_eq_getElem_cons hl, (List.getElem?_eq_some_iff.1 h).2]
    rw [hd, pImps_cons, pPut_copy g hc hy (by omega), if_pos (by rfl)]
    show pImps _ most _ (ups k ++ [((k : Int) + 1)]) = _
    rw [← ups_succ]
    exact pImps_copy g hc hm d (k + 1) (by omega)
theorem pImport_copy (g : Grow T) (hc : Closed T ids) (hm : (ids.length : Int) ≤ most) : pImport [] most (exp T ids) = (copy T ids, ((ids.length : Int), .nilIface)) := by
  unfold pImport
  rw [if_pos (bad_exp g hc)]
  have := pImps_copy (most := most) g hc hm ids.length 0 (by omega)
  simpa [ups] using this

end Go.Proofs.YtcmncfglcjcmhaaGreat

/- The walk of InternWeights. -/
set_option linter.unusedVariables false
set_option linter.unusedSimpArgs false
namespace Go.Proofs.YtcmncfglcjcmhaaGreat
open Go.Den

variable {w0 w : World} {T : List ET}

theorem shape_refs {id : Int} (h : Shape T id) (h1 : 1 ≤ id) (h2 : id ≤ T.length) : (0 ≤ (eAt T id).1.2.2.1 ∧ (eAt T id).1.2.2.1 < id) ∧ (0 ≤ (eAt T id).1.2.2.2.1 ∧ (eAt T id).1.2.2.2.1 < id) := by
  cases h with
  | letter b _ _ e => rw [e]; simp only [mkLetter]; omega
  | pair l r _ _ _ _ _ e => rw [e]; simp only [mkPair]; omega
  | power x k _ _ _ _ e => rw [e]; simp only [mkPower]; omega

end Go.Proofs.YtcmncfglcjcmhaaGreat

/- What the store's reach and Export compute. -/
set_option linter.unusedVariables false
set_option linter.unusedSimpArgs false
namespace Go.Proofs.YtcmncfglcjcmhaaGreat
open Go.Den

variable {w0 w : World} {Ω : List Ob} {most : Int} {T : List ET} {i : Nat} {p : Addr}

theorem eqID : eqOK P 1 t_api_ID (.int .i64) = true := by kernel_rfl
theorem mapIB : P.underlying t_map_api_ID_bool = some (.map t_api_ID (mapElem t_map_api_ID_bool)) := by kernel_rfl
theorem zeroIB : zeroOf P (mapElem t_map_api_ID_bool) = some (val .bool false) := by kernel_rfl
theorem mapII : P.underlying t_map_api_ID_api_ID = some (.map t_api_ID (mapElem t_map_api_ID_api_ID)) := by kernel_rfl
theorem zeroII : zeroOf P (mapElem t_map_api_ID_api_ID) = some (val (.int .i64) (0 : Int)) := by kernel_rfl

def seenE (ids : List (Ty.int .i64).T) : List ((Ty.int .i64).T × Ty.bool.T) := ids.map fun x => (x, true)
theorem seenE_append (ids : List (Ty.int .i64).T) (x : Int) : seenE (ids ++ [x]) = seenE ids ++ [(x, true)] := by simp [seenE]
theorem lk_seen {ids : List (Ty.int .i64).T} {y : Int} : lk (kt := .int .i64) (vt := .bool) (seenE ids) y = if y ∈ ids then some true else none := by
  induction ids with
  | nil => rfl
  | cons x ids ih =>
    have e : seenE (x :: ids) = [(x, true)] ++ seenE ids := rfl
    rw [e, lk_append, lk_one rfl, ih]
    by_cases h : y = x
    · subst h; simp
    · rw [if_neg h]
      simp only [Option.none_or, List.mem_cons]
      by_cases h2 : y ∈ ids
      · rw [if_pos h2, if_pos (Or.inr h2)]
      · rw [if_neg h2, if_neg (by rintro (h3 | h3) <;> contradiction)]

theorem intern_reach_sp {id : Int} (s : Sp w0 Ω w) (i : Nat) (hi : Ω[i]? = some (sto p most T)) (h0 : 0 ≤ id) (h1 : id ≤ T.length) {K : Sl → World → Prop} (h : ∀ sl w', Sp w0 (own (.int .i64) sl (rlist T [id]) :: Ω) w' → K sl w') : C_intern_Store_reach (some p) id K w := by
  apply S_intern_Store_reach
  unfold F_intern_Store_reach
  obtain ⟨_, _, _, hb0, hb1, hb2, hg⟩ := Sp.entry s i hi
  have hS : ∀ x ∈ [id], 0 ≤ x ∧ x ≤ (T.length : Int) := fun x hx => by simp at hx; subst hx; exact ⟨h0, h1⟩
  refine gd_eq (fun c => ?_) (fun c => s.allocK fun a1 w1 s => s.allocMap (.int .i64) .bool fun r w2 s => ?_)
  · subst c
    rw [rlist_zero] at h
    exact h _ _ (s.nil (.int .i64))
  refine s.upNew 0 rfl (by decide) mapIB eqID (by simp) id true rfl fun w3 s => ?_
  have s' : Sp w0 (mp (.int .i64) .bool r (seenE [id]) :: own (.int .i64) ⟨some ⟨a1, 0, none⟩, 1, 1⟩ [id] :: Ω) w3 := s.lit (ty := .int .i64) 1 rfl [id] 1 rfl rfl
  clear s
  refine ⟨fun x w => ∃ (ids : List (Ty.int .i64).T) (k : Nat), x.2.1 = (k : Int) ∧ k ≤ ids.length ∧ ids.Nodup ∧ (∀ y ∈ ids, Rch T [id] y) ∧ id ∈ ids ∧ (∀ j, j < k → ∀ y : Int, ids[j]? = some y → ∀ z ∈ refs (eAt T y).1, z ∈ ids) ∧
      Sp w0 (mp (.int .i64) .bool r (seenE ids) :: own (.int .i64) x.1 ids :: Ω) w, fun x _ => ((T.length : Int) - x.2.1).toNat,
    ⟨[id], 0, rfl, Nat.zero_le _, by simp, fun y hy => by simp at hy; subst hy; exact .root (by simp) c, by simp, fun j hj => by omega, s'⟩, ?_⟩
  rintro ⟨sl, x, _⟩ w4 ⟨ids, k, hx, hk, hnd, hrch, hid, hcl, s⟩ _
  dsimp only at hx s ⊢
  subst hx
  have hlen := (s.view 1 rfl).len
  have hbd : ∀ y ∈ ids, 1 ≤ (y : Int) ∧ (y : Int) ≤ (T.length : Nat) := fun y hy => (hrch y hy).bound hg hS
  have hnb := nodup_bound hnd hbd
  refine gd_dec (fun hlt => ?_) (fun hge => ?_)
  · have hk' : k < ids.length := by omega
    obtain ⟨y, hy⟩ : ∃ y : Int, ids[k]? = some y := ⟨_, List.getElem?_eq_getElem hk'⟩
    have hyb : 1 ≤ y ∧ y ≤ (T.length : Int) := hbd y (List.mem_of_getElem? hy)
    refine s.drawK fun w5 s => nonNil_some ?_
    obtain ⟨lsl, hl, hv, _⟩ := Sp.entry s (i + 2) hi
    refine ⟨lsl, hl, (s.view 1 rfl).idx rfl hy rfl fun q hq => ⟨y, hq, arith_i64 (by omega) (by omega) ?_⟩⟩
    refine hv.idx (n := (y - 1).toNat) (by omega) (eAt_get hyb.1 hyb.2) rfl fun q hq => ⟨(eAt T y).1, hq.sub 0 rfl, rule_Refs_spec s fun rsl w6 s => ?_⟩
    have hrl := refs_len (eAt T y).1
    refine loop_by (fun x => x.2.1) (refs (eAt T y).1).length (fun n x w => ∃ more : List (Ty.int .i64).T, (ids ++ more).Nodup ∧ (∀ y ∈ ids ++ more, Rch T [id] y) ∧ (∀ j, j < n → ∀ z : Int, (refs (eAt T y).1)[j]? = some z → z ∈ ids ++ more) ∧
      Sp w0 (own (.int .i64) rsl (refs (eAt T y).1) :: mp (.int .i64) .bool r (seenE (ids ++ more)) :: own (.int .i64) x.1 (ids ++ more) :: Ω) w) rfl ⟨[], by simpa using hnd, by simpa using hrch, fun j hj => by omega, by simpa using s⟩ ?_
    rintro n ⟨sl2, x, _⟩ w7 hn hx ⟨more, hnd2, hrch2, hin, s⟩ _
    dsimp only at hx s ⊢
    subst hx
    have hrlen := (s.view 0 rfl).len
    refine gd_dec (fun hlt2 => ?_) (fun hge2 => ?_)
    · have hn' : n < (refs (eAt T y).1).length := by omega
      obtain ⟨z, hz⟩ : ∃ z : Int, (refs (eAt T y).1)[n]? = some z := ⟨_, List.getElem?_eq_getElem hn'⟩
      have hzr : Rch T [id] z := .ref (hrch y (List.mem_of_getElem? hy)) (List.mem_of_getElem? hz)
      refine JoinP.inl ((s.view 0 rfl).idx rfl hz rfl fun q hq => ⟨z, hq, ?_⟩)
      refine ⟨_, lk1_run (by decide) mapIB eqID (by simp) zeroIB (s.mp_ 1 rfl) z, ?_⟩
      rw [lk_seen]
      by_cases hm : z ∈ ids ++ more
      · rw [if_pos hm]
        refine gd_f rfl fun _ => arith_i64 (by omega) (by omega) (loop_nx hn' ⟨more, hnd2, hrch2, fun j hj u hu => ?_, s⟩)
        by_cases hjn : j < n
        · exact hin j hjn u hu
        · have : j = n := by omega
          subst this
          rw [hz] at hu; cases hu; exact hm
      · rw [if_neg hm]
        have hbd2 : ∀ y ∈ ids ++ more, 1 ≤ (y : Int) ∧ (y : Int) ≤ (T.length : Nat) := fun y hy => (hrch2 y hy).bound hg hS
        have hnb2 := nodup_bound hnd2 hbd2
        refine gd_t rfl (s.upNew 1 rfl (by decide) mapIB eqID (by simp) z true (by rw [lk_seen, if_neg hm]) fun w8 s => s.allocK fun a20 w9 s => s.app 3 rfl ((s.lit (ty := .int .i64) 0 rfl [z] 1 rfl rfl).view 0 rfl) (by simp only [List.length_cons, List.length_nil]; omega) fun s21 w10 s => ?_)
        have hnd3 : (ids ++ (more ++ [z])).Nodup := by
          rw [← List.append_assoc, List.nodup_append]
          exact ⟨hnd2, by simp, fun a ha b hb => by simp at hb; subst hb; exact fun e => hm (e ▸ ha)⟩
        intro _
        refine arith_i64 (by omega) (by omega) (loop_nx hn' ⟨more ++ [z], hnd3, fun u hu => ?_, fun j hj u hu => ?_, ?_⟩)
        · rw [← List.append_assoc] at hu
          rcases List.mem_append.1 hu with h | h
          · exact hrch2 u h
          · simp at h; subst h; exact hzr
        · rw [← List.append_assoc]
          by_cases hjn : j < n
          · exact List.mem_append_left _ (hin j hjn u hu)
          · have : j = n := by omega
            subst this
            rw [hz] at hu; cases hu; simp
        · have s' := s.pop
          rw [← List.append_assoc, seenE_append]
          exact s'
    · have hn' : n = (refs (eAt T y).1).length := by omega
      have hyT : k < T.length := by omega
      refine arith_i64 (by omega) (by omega) ⟨⟨ids ++ more, k + 1, rfl, by simp; omega, hnd2, hrch2, List.mem_append_left _ hid, fun j hj u hu z hz => ?_, s.pop⟩, by omega⟩
      by_cases hjk : j < k
      · rw [List.getElem?_append_left (by omega)] at hu
        exact List.mem_append_left _ (hcl j hjk u hu z hz)
      · have : j = k := by omega
        subst this
        rw [List.getElem?_append_left (by omega), hy] at hu
        cases hu
        obtain ⟨j2, hj2⟩ := List.getElem?_of_mem hz
        exact hin j2 (by have := (List.getElem?_eq_some_iff.1 hj2).1; omega) z hj2
  · have hk' : k = ids.length := by omega
    refine slices_Sort_sp s 1 rfl (by omega) fun w5 s => ?_
    have hmem : ∀ x : Int, x ∈ ids ↔ Rch T [id] x := fun x => by
      refine ⟨fun hx => hrch x hx, fun hx => ?_⟩
      induction hx with
      | root h1 _ => simp at h1; subst h1; exact hid
      | ref _ h2 ih =>
        obtain ⟨j, hj⟩ := List.getElem?_of_mem ih
        exact hcl j (by have := (List.getElem?_eq_some_iff.1 hj).1; omega) _ hj _ h2
    rw [srt_rlist hg hS hnd hmem] at s
    exact h _ _ s.pop

theorem intern_Export_sp {id : Int} (s : Sp w0 Ω w) (i : Nat) (hi : Ω[i]? = some (sto p most T)) {K : Sl × Value → World → Prop} (h1 : 0 ≤ id ∧ id ≤ T.length → ∀ sl w', Sp w0 (own yapi_Rule sl (exp T (rlist T [id])) :: Ω) w' → K (sl, .nilIface) w')
    (h2 : ¬ (0 ≤ id ∧ id ≤ T.length) → K (⟨none, 0, 0⟩, errV 1) w) : C_intern_Store_Export (some p) id K w := by
  apply S_intern_Store_Export
  unfold F_intern_Store_Export
  refine gd_f rfl (intern_known_sp s i hi ?_)
  by_cases hk : 0 ≤ id ∧ id ≤ T.length
  rotate_left
  · have : known T id = false := decide_eq_false hk
    rw [this]
    exact gd_t rfl (h2 hk)
  have hkn : known T id = true := decide_eq_true hk
  rw [hkn]
  replace h1 := h1 hk
  obtain ⟨_, _, _, hb0, hb1, hb2, hg⟩ := Sp.entry s i hi
  have hS : ∀ x ∈ [id], 0 ≤ x ∧ x ≤ (T.length : Int) := fun x hx => by simp at hx; subst hx; exact hk
  have hc := rlist_closed hg hS
  have hrl := rlist_len T [id]
  refine gd_f rfl (intern_reach_sp s i hi hk.1 hk.2 fun sl w2 s => s.allocMap (.int .i64) (.int .i64) fun r w3 s => ?_)
  generalize rlist T [id] = ids at *
  have hlen := (s.view 1 rfl).len
  refine ⟨by omega, by omega, by omega, by omega, s.mkS yapi_Rule (0, 0, 0, 0, 0) 0 sl.len (Nat.zero_le _) (fun a4 w4 s => ?_) rfl (by simp; rfl)⟩
  refine loop_by (fun x => x.2.1) ids.length (fun n x w => Sp w0 (own yapi_Rule x.1 ((exp T ids).take n) :: mp (.int .i64) (.int .i64) r (ent (ids.take n)) :: own (.int .i64) sl ids :: Ω) w) rfl s ?_
  rintro n ⟨out, x, _⟩ w5 hn hx s _
  dsimp only at hx s ⊢
  subst hx
  refine gd_dec (fun hlt => ?_) (fun hge => ?_)
  · have hn' : n < ids.length := by omega
    obtain ⟨y, hy⟩ : ∃ y : Int, ids[n]? = some y := ⟨_, List.getElem?_eq_getElem hn'⟩
    have hyb := hc.bound y (List.mem_of_getElem? hy)
    have hty : ids.take (n + 1) = ids.take n ++ [y] := by rw [List.take_add_one, hy]; rfl
    have hnt : (ids.take (n + 1)).Nodup := hc.nodup.sublist (List.take_sublist _ _)
    have hny : y ∉ ids.take n := fun hm => by
      rw [hty, List.nodup_append] at hnt
      exact hnt.2.2 y hm y (by simp) rfl
    have hln : (ids.take n).length = n := by rw [List.length_take]; omega
    have hex : (exp T ids)[n]? = some (mvr ids (eAt T y).1) := by unfold exp; rw [List.getElem?_map, hy]; rfl
    have hpos : ∀ z : Int, (z ∈ ids → z < y) → (lk (ent (ids.take (n + 1))) z).getD (0 : Int) = pos ids z := fun z hz => by
      by_cases hm : z ∈ ids
      · obtain ⟨j, hj⟩ := List.getElem?_of_mem hm
        have hjn : j < n := (sorted_lt hc.sorted hj hy).1 (hz hm)
        have hj' : (ids.take (n + 1))[j]? = some z := by rw [List.getElem?_take_of_lt (by omega)]; exact hj
        rw [lk_ent_some hnt hj', pos_some hc.nodup hj]; rfl
      · rw [pos_none hm, lk_ent_none fun h => hm (List.mem_of_mem_take h)]; rfl
    refine (s.view 2 rfl).idx rfl hy rfl fun q hq => ⟨y, hq, arith_i64 (by omega) (by omega) (s.upNew 1 rfl (by decide) mapII eqID (by simp) y ((n : Int) + 1) (lk_ent_none hny) fun w6 s => nonNil_some ?_)⟩
    have e : ent (ids.take n) ++ [(y, (n : Int) + 1)] = ent (ids.take (n + 1)) := by rw [hty, ent_append, hln]
    rw [e] at s
    obtain ⟨lsl, hl, hv, _⟩ := Sp.entry s (i + 3) hi
    refine ⟨lsl, hl, arith_i64 (by omega) (by omega) (hv.idx (n := (y - 1).toNat) (by omega) (eAt_get hyb.1 hyb.2) rfl fun q hq => ⟨(eAt T y).1, hq.sub 0 rfl, s.allocK fun a15 w7 s => s.st0 0 rfl rfl rfl fun w8 s => s.drawK fun w9 s => ?_⟩)⟩
    have hrefs : ((eAt T y).1.2.2.1 ∈ ids → (eAt T y).1.2.2.1 < y) ∧ ((eAt T y).1.2.2.2.1 ∈ ids → (eAt T y).1.2.2.2.1 < y) := by
      have := shape_refs (hg.shape hyb.1 hyb.2) hyb.1 hyb.2
      exact ⟨fun _ => this.1.2, fun _ => this.2.2⟩
    refine s.ldi (x := (eAt T y).1.2.2.1) 0 2 rfl rfl ⟨_, lk1_run (by decide) mapII eqID (by simp) zeroII (s.mp_ 2 rfl) (eAt T y).1.2.2.1, s.ldi (x := (eAt T y).1.2.2.2.1) 0 3 rfl rfl ⟨_, lk1_run (by decide) mapII eqID (by simp) zeroII (s.mp_ 2 rfl) (eAt T y).1.2.2.2.1, ?_⟩⟩
    rw [hpos _ hrefs.1, hpos _ hrefs.2]
    refine s.st 0 2 rfl rfl rfl fun w10 s => ⟨?_, s.st 0 3 rfl rfl rfl fun w11 s => s.ld0 (ty := yapi_Rule) (x := mvr ids (eAt T y).1) 0 rfl rfl (s.allocK fun a21 w12 s => ?_)⟩
    · have := lk1_run (P := P) (w := w10) (kt := .int .i64) (vt := .int .i64) (d := 1) (by decide) mapII eqID (by simp) zeroII (s.mp_ 2 rfl) (eAt T y).1.2.2.2.1
      rw [hpos _ hrefs.2] at this
      exact this
    refine s.app 2 rfl ((s.lit (ty := yapi_Rule) 0 rfl [mvr ids (eAt T y).1] 1 (by simp [flat]) rfl).view 0 rfl) (by
      have := exp_len T ids
      simp only [List.length_take, List.length_cons, List.length_nil]; omega) fun s22 w13 s => arith_i64 (by omega) (by omega) (loop_nx hn' ?_)
    have ht : (exp T ids).take (n + 1) = (exp T ids).take n ++ [mvr ids (eAt T y).1] := by rw [List.take_add_one, hex]; rfl
    rw [ht]
    exact s.drop 2
  · have hn' : n = ids.length := by omega
    subst hn'
    have e1 : (exp T ids).take ids.length = exp T ids := by rw [← exp_len T ids, List.take_length]
    rw [e1] at s
    exact h1 _ _ (s.pick [0] 3 rfl (by decide))

end Go.Proofs.YtcmncfglcjcmhaaGreat

/- Bytes as a string. -/
set_option linter.unusedVariables false
set_option linter.unusedSimpArgs false
namespace Go.Proofs.YtcmncfglcjcmhaaGreat
open Go.Den

variable {w0 w : World} {Ω : List Ob}

def bstr (xs : List Int) : ByteArray := xs.foldl (fun r n => r.push (UInt8.ofNat n.toNat)) ByteArray.empty
theorem bstr_data (xs : List Int) : (bstr xs).data = (xs.map fun n => UInt8.ofNat n.toNat).toArray := by
  have key : ∀ (xs : List Int) (r : ByteArray), (xs.foldl (fun r n => r.push (UInt8.ofNat n.toNat)) r).data = r.data ++ (xs.map fun n => UInt8.ofNat n.toNat).toArray := by
    intro xs
    induction xs with
    | nil => intro r; simp
    | cons x xs ih =>
      intro r
      rw [List.foldl_cons, ih, ByteArray.data_push]
      simp
  rw [bstr, key]
  simp
theorem bstr_append (xs ys : List Int) : bstr xs ++ bstr ys = bstr (xs ++ ys) := by
  apply ByteArray.ext
  rw [ByteArray.data_append, bstr_data, bstr_data, bstr_data]
  simp
theorem bstr_size (xs : List Int) : (bstr xs).size = xs.length := by
  show (bstr xs).data.size = _
  rw [bstr_data]
  simp
theorem bstr_nil : bstr [] = (⟨#[]⟩ : ByteArray) := rfl
theorem underBytes : P.underlying t_sl_uint8 = some (.slice t_uint8) := by kernel_rfl
theorem underByte : P.underlying t_uint8 = some (.int .u8) := by kernel_rfl
theorem underString : P.underlying t_string = some .string := by kernel_rfl
theorem toStr {sl : Sl} {xs : List (Ty.int .u8).T} (v : View (.int .u8) w sl xs) {K : ByteArray → World → Prop} (h : K (bstr xs) w) : runK P .str (convert t_sl_uint8 t_string (.slice sl.a sl.len sl.cap)) w K := by
  refine ⟨bstr xs, w, ?_, h⟩
  rw [run_convert_bytes_string w _ _ _ _ _ _ underBytes underByte underString]
  cases hq : sl.a with
  | none =>
    have : xs = [] := by
      apply Classical.byContradiction
      intro hne
      obtain ⟨q, hq'⟩ := v.ne hne
      rw [hq] at hq'; cases hq'
    subst this
    rfl
  | some q =>
    have hm := v.mem q hq
    have hf : flat (.int .u8) xs = xs.map (Value.int .u8) := by
      clear v hm h
      induction xs with
      | nil => rfl
      | cons x xs ih => simp only [flat, List.flatMap_cons, List.map_cons] at ih ⊢; rw [ih]; rfl
    rw [hf] at hm
    exact run_bytesToString w q sl.len sl.cap xs (run_loadCells_at hm (by rw [List.length_map]; exact v.len.symm))

end Go.Proofs.YtcmncfglcjcmhaaGreat

/- The specification's texts of exported rules (evergreenref11): Check, Lengths, Plain. -/
set_option linter.unusedVariables false
set_option linter.unusedSimpArgs false
namespace Go.Proofs.YtcmncfglcjcmhaaGreat
open Go.Den

variable {w0 w : World} {Ω : List Ob} {most : Int} {T : List ET} {ids : List Int} {i : Nat} {p : Addr}

/-- a rule of an exported list -/
inductive GR (T : List ET) (ids : List Int) (k : Nat) (y : Int) : Prop
  | letter (b : Int) : 0 ≤ b → b < 256 → mvr ids (eAt T y).1 = (1, b, 0, 0, 0) → (eAt T y).2.1.1 = 1 → txt T y = [b] → GR T ids k y
  | pair (l r : Int) (jl jr : Nat) : jl < k → jr < k → ids[jl]? = some l → ids[jr]? = some r → mvr ids (eAt T y).1 = (2, 0, (jl : Int) + 1, (jr : Int) + 1, 0) → (eAt T y).2.1.1 = (eAt T l).2.1.1 + (eAt T r).2.1.1 → (eAt T l).2.1.1 + (eAt T r).2.1.1 ≤ 1152921504606846976 → txt T y = txt T l ++ txt T r → GR T ids k y
  | power (x m : Int) (j : Nat) : j < k → ids[j]? = some x → 2 ≤ m → mvr ids (eAt T y).1 = (3, 0, (j : Int) + 1, 0, m) → (eAt T y).2.1.1 = (eAt T x).2.1.1 * m → (eAt T x).2.1.1 * m ≤ 1152921504606846976 → txt T y = (List.replicate m.toNat (txt T x)).flatten → GR T ids k y
theorem gr_of (g : Grow T) (hc : Closed T ids) {k : Nat} {y : Int} (hk : ids[k]? = some y) : GR T ids k y := by
  have hyb := hc.bound y (List.mem_of_getElem? hk)
  have p0 := pos_zero hc
  cases g.txt hyb.1 hyb.2 with
  | letter b h1 h2 e ht =>
    refine .letter b h1 h2 (by rw [e]; simp [mvr, mkLetter, p0]) (by rw [e]; exact wLetter_len b) ht
  | pair l r h1 h2 h3 h4 h5 e ht =>
    obtain ⟨j1, q1, q2, e1⟩ := hc.ref g hk (x := l) (by rw [e]; simp [refs, mkPair])
    obtain ⟨j2, q3, q4, e2⟩ := hc.ref g hk (x := r) (by rw [e]; simp [refs, mkPair])
    exact .pair l r j1 j2 q1 q3 q2 q4 (by rw [e]; simp [mvr, mkPair, e1, e2]) (by rw [e]; rfl) h5 ht
  | power x m h1 h2 h3 h4 e ht =>
    obtain ⟨j1, q1, q2, e1⟩ := hc.ref g hk (x := x) (by rw [e]; simp [refs, mkPower])
    exact .power x m j1 q1 q2 h3 (by rw [e]; simp [mvr, mkPower, e1, p0]) (by rw [e]; exact wRep_len _ _) h4 ht

theorem ids_len (g : Grow T) (hc : Closed T ids) : ids.length ≤ T.length := nodup_bound hc.nodup hc.bound
def lensG (T : List ET) (ids : List Int) : List (Ty.int .i64).T := ids.map fun y => (eAt T y).2.1.1
theorem lensG_len (T : List ET) (ids : List Int) : (lensG T ids).length = ids.length := List.length_map _
theorem lensG_get {k : Nat} {y : Int} (hk : ids[k]? = some y) : (lensG T ids)[k]? = some (eAt T y).2.1.1 := by unfold lensG; rw [List.getElem?_map, hk]; rfl
theorem flat_rep_succ {α : Type} (n : Nat) (xs : List α) : (List.replicate (n + 1) xs).flatten = (List.replicate n xs).flatten ++ xs := by
  rw [List.replicate_succ', List.flatten_append]
  simp
theorem flat_rep_len {α : Type} (n : Nat) (xs : List α) : (List.replicate n xs).flatten.length = n * xs.length := by
  induction n with
  | zero => simp
  | succ n ih => rw [flat_rep_succ, List.length_append, ih, Nat.succ_mul]
theorem rlist_last (g : Grow T) {id : Int} (h1 : 1 ≤ id) (h2 : id ≤ T.length) : ∃ k : Nat, (rlist T [id]).length = k + 1 ∧ (rlist T [id])[k]? = some id := by
  have hS : ∀ x ∈ [id], 0 ≤ x ∧ x ≤ (T.length : Int) := fun x hx => by simp at hx; subst hx; exact ⟨by omega, h2⟩
  have hc := rlist_closed g hS
  have hm : id ∈ rlist T [id] := (rlist_mem g hS).2 (.root (by simp) (by omega))
  have hle : ∀ x, Rch T [id] x → x ≤ id := fun x h => by
    induction h with
    | root h1 _ => simp at h1; omega
    | ref hy hx ih =>
      have hb := hy.bound g hS
      have := refs_in g hb.1 hb.2 hx
      omega
  obtain ⟨j, hj⟩ := List.getElem?_of_mem hm
  have hjl := (List.getElem?_eq_some_iff.1 hj).1
  refine ⟨j, ?_, hj⟩
  apply Classical.byContradiction
  intro hne
  have hj1 : j + 1 < (rlist T [id]).length := by omega
  have hget := List.getElem?_eq_getElem hj1
  have hgt := (sorted_lt hc.sorted hj hget).2 (by omega)
  have := hle _ (mem_rlist.1 (List.getElem_mem hj1)).2
  omega
end Go.Proofs.YtcmncfglcjcmhaaGreat
