/- The calls of the layer's statements as one function of lists, and that a second call changes nothing. -/
import Derived.Test.YtddhndabnbckmaaLawAC
import Derived.Test.YtddhndabnbckmaaRead
namespace Go.Proofs.Ytddhndabnbckmaa
open Go.Den

variable {w0 : World}

abbrev OT := Int × Int × Int × Int × Int
def pOp (L : List ET) (most : Int) (o : OT) : List ET × (Int × Value) :=
  if o.1 % 3 = 0 then pLetter L most o.2.1 else if o.1 % 3 = 1 then pPair L most o.2.2.1 o.2.2.2.1 else pPower L most o.2.2.1 o.2.2.2.2
structure OpOK (o : OT) : Prop where
  kind : 0 ≤ o.1
  b : 0 ≤ o.2.1 ∧ o.2.1 < 256
  k : o.2.2.2.2 ≤ 9223372036854775807

theorem eAt_append {L : List ET} {e : ET} {id : Int} (hpos : 0 ≤ id) (h : id ≤ L.length) : eAt (L ++ [e]) id = eAt L id := by
  unfold eAt
  by_cases h0 : id = 0
  · rw [if_pos h0, if_pos h0]
  · rw [if_neg h0, if_neg h0, List.getD_eq_getElem?_getD, List.getD_eq_getElem?_getD, List.getElem?_append_left (by omega)]
theorem known_append {L : List ET} {e : ET} {id : Int} (h : known L id = true) : known (L ++ [e]) id = true := by
  unfold known at h ⊢
  simp only [decide_eq_true_eq, List.length_append, List.length_cons, List.length_nil] at h ⊢
  omega
theorem lkR_append_some {L : List ET} {e : ET} {r : RT} {i : Int} (h : lkR L r = some i) : lkR (L ++ [e]) r = some i := by
  unfold lkR lk at h ⊢
  rw [idx_append, List.find?_append]
  cases hf : (idx L).find? (fun p => beqT yapi_Rule r p.1) with
  | none => rw [hf] at h; cases h
  | some p => rw [hf] at h; exact h
theorem lkR_append_none {L : List ET} {e : ET} {r : RT} (h : lkR L r = none) : lkR (L ++ [e]) r = if e.1 = r then some ((L.length : Int) + 1) else none := by
  unfold lkR lk at h ⊢
  rw [idx_append, List.find?_append]
  cases hf : (idx L).find? (fun p => beqT yapi_Rule r p.1) with
  | some p => rw [hf] at h; cases h
  | none =>
    simp only [Option.none_or]
    by_cases hr : e.1 = r
    · have : beqT yapi_Rule r e.1 = true := (beqT_iff yapi_Rule rfl _ _).2 hr.symm
      rw [if_pos hr]
      simp [this]
    · have : beqT yapi_Rule r e.1 = false := by
        cases hb : beqT yapi_Rule r e.1
        · rfl
        · exact absurd ((beqT_iff yapi_Rule rfl _ _).1 hb).symm hr
      rw [if_neg hr]
      simp [this]

theorem pAdd_twice {L : List ET} {most : Int} {e : ET} : (pAdd L most e).1 = L ∨ ((pAdd L most e) = (L ++ [e], ((L.length : Int) + 1, .nilIface)) ∧ ∀ e' : ET, e'.1 = e.1 → pAdd (L ++ [e]) most e' = (L ++ [e], ((L.length : Int) + 1, .nilIface))) := by
  cases hl : lkR L e.1 with
  | some i => left; rw [(pAdd_some (most := most) hl).2.1]
  | none =>
    by_cases hm : most ≤ L.length
    · left; rw [(pAdd_full (most := most) hl hm).2]
    · right
      refine ⟨(pAdd_new (most := most) hl hm).2, fun e' he => ?_⟩
      unfold pAdd
      rw [he, lkR_append_none hl, if_pos rfl]
theorem twice_of {L : List ET} {f : List ET → List ET × (Int × Value)} (h : (f L).1 = L ∨ f (f L).1 = f L) : f (f L).1 = f L := by
  rcases h with h | h
  · rw [h]
  · exact h
theorem pOp_twice {L : List ET} {most : Int} {o : OT} : pOp (pOp L most o).1 most o = pOp L most o := by
  refine twice_of (f := fun L => pOp L most o) ?_
  simp only [pOp]
  by_cases h0 : o.1 % 3 = 0
  · simp only [if_pos h0]
    rcases pAdd_twice (L := L) (most := most) (e := mkLetter o.2.1) with h | ⟨h, h'⟩
    · exact Or.inl h
    · right
      unfold pLetter
      rw [h]
      exact h' _ rfl
  · simp only [if_neg h0]
    by_cases h1 : o.1 % 3 = 1
    · simp only [if_pos h1]
      generalize o.2.2.1 = l
      generalize o.2.2.2.1 = r
      unfold pPair
      by_cases c1 : known L l = false ∨ known L r = false
      · left; rw [if_pos c1]
      · rw [if_neg c1]
        by_cases c2 : l = 0
        · left; rw [if_pos c2]
        · rw [if_neg c2]
          by_cases c3 : r = 0
          · left; rw [if_pos c3]
          · rw [if_neg c3]
            by_cases c4 : 1152921504606846976 < (eAt L l).2.1.1 + (eAt L r).2.1.1
            · left; rw [if_pos c4]
            · rw [if_neg c4]
              rcases pAdd_twice (L := L) (most := most) (e := mkPair L l r) with h | ⟨h, h'⟩
              · exact Or.inl h
              · right
                have kl : known L l = true := by
                  cases e : known L l
                  · exact absurd (Or.inl e) c1
                  · rfl
                have kr : known L r = true := by
                  cases e : known L r
                  · exact absurd (Or.inr e) c1
                  · rfl
                have bl := of_decide_eq_true kl
                have br := of_decide_eq_true kr
                rw [h]
                simp only
                rw [known_append kl, known_append kr, if_neg (by simp), if_neg c2, if_neg c3, eAt_append bl.1 bl.2, eAt_append br.1 br.2, if_neg c4]
                exact h' _ rfl
    · simp only [if_neg h1]
      generalize o.2.2.1 = x
      generalize o.2.2.2.2 = k
      unfold pPower
      by_cases c1 : known L x = false ∨ k < 0
      · left; rw [if_pos c1]
      · rw [if_neg c1]
        by_cases c2 : k = 0 ∨ x = 0
        · left; rw [if_pos c2]
        · rw [if_neg c2]
          by_cases c3 : k = 1
          · left; rw [if_pos c3]
          · rw [if_neg c3]
            by_cases c4 : 1152921504606846976 < (eAt L x).2.1.1 * k
            · left; rw [if_pos c4]
            · rw [if_neg c4]
              rcases pAdd_twice (L := L) (most := most) (e := mkPower L x k) with h | ⟨h, h'⟩
              · exact Or.inl h
              · right
                have kx : known L x = true := by
                  cases e : known L x
                  · exact absurd (Or.inl e) c1
                  · rfl
                have bx := of_decide_eq_true kx
                rw [h]
                simp only
                rw [known_append kx, if_neg (fun c => c1 (Or.inr (c.resolve_left (by simp)))), if_neg c2, if_neg c3, eAt_append bx.1 bx.2, if_neg c4]
                exact h' _ rfl

/-- what a call answers as an error -/
def IsErr (v : Value) : Prop := v = .nilIface ∨ ∃ n, v = errV n
def codeOf (v : Value) : Int := match v with
  | .iface _ (.int _ n) => n
  | _ => 0
theorem base_Num_spec {v : Value} (hv : IsErr v) {K : Int → World → Prop} (h : K (codeOf v) w0) : C_base_Num v K w0 := by
  rcases hv with rfl | ⟨n, rfl⟩
  · exact base_Num_nil h
  · exact base_Num_err h
theorem pAdd_err {L : List ET} {most : Int} {e : ET} : IsErr (pAdd L most e).2.2 := by
  unfold pAdd
  split
  · exact Or.inl rfl
  · split
    · exact Or.inr ⟨_, rfl⟩
    · exact Or.inl rfl
theorem pOp_err {L : List ET} {most : Int} {o : OT} : IsErr (pOp L most o).2.2 := by
  unfold pOp
  split
  · exact pAdd_err
  split
  · unfold pPair
    split
    · exact Or.inr ⟨_, rfl⟩
    split
    · exact Or.inl rfl
    split
    · exact Or.inl rfl
    split
    · exact Or.inr ⟨_, rfl⟩
    · exact pAdd_err
  · unfold pPower
    split
    · exact Or.inr ⟨_, rfl⟩
    split
    · exact Or.inl rfl
    split
    · exact Or.inl rfl
    split
    · exact Or.inr ⟨_, rfl⟩
    · exact pAdd_err

variable {B : Nat → Prop} {p : Addr} {most : Int} {L : List ET}
theorem law10_InternTwice_1_spec {o : OT} {a : Addr} (ho : OpOK o) (st : Sto B w0 p most L) (ha : At w0 a [.pointer (some p)]) {K : Int × Value → World → Prop}
    (h : ∀ w' B', Step B B' w0 w' → Sto B' w' p most (pOp L most o).1 → K (pOp L most o).2 w') : C_law10_InternTwice_1 o a K w0 := by
  apply S_law10_InternTwice_1
  unfold F_law10_InternTwice_1
  refine (St.init w0).allocK fun a1 w1 s e1 _ => s.ldi (x := o.1) 0 0 rfl rfl ⟨by decide, letZ_mk ?_⟩
  rw [Int.tmod_eq_emod_of_nonneg ho.kind]
  unfold pOp at h
  refine gd_eq (fun c0 => ?_) (fun c0 => gd_eq (fun c1 => ?_) (fun c1 => ?_))
  · rw [if_pos c0] at h
    exact ⟨some p, ha.ext e1, s.ldi (x := o.2.1) 0 1 rfl rfl (intern_Letter_spec (st.ext e1) ho.b fun w' B' k st' => h w' B' (.pre e1 k) st')⟩
  · rw [if_neg c0, if_pos c1] at h
    exact ⟨some p, ha.ext e1, s.ldi (x := o.2.2.1) 0 2 rfl rfl (s.ldi (x := o.2.2.2.1) 0 3 rfl rfl (intern_Pair_spec (st.ext e1) fun w' B' k st' => h w' B' (.pre e1 k) st'))⟩
  · rw [if_neg c0, if_neg c1] at h
    exact ⟨some p, ha.ext e1, s.ldi (x := o.2.2.1) 0 2 rfl rfl (s.ldi (x := o.2.2.2.2) 0 4 rfl rfl (intern_Power_spec ho.k (st.ext e1) fun w' B' k st' => h w' B' (.pre e1 k) st'))⟩

end Go.Proofs.Ytddhndabnbckmaa
