/- Pair, Power and the asks of a store of the package intern, from their texts. -/
import Derived.Test.YtddhndabnbckmaaSpecD
namespace Go.Proofs.Ytddhndabnbckmaa
open Go.Den

variable {w0 : World} {B : Nat → Prop} {p : Addr} {most : Int} {L : List ET}

theorem intern_add_as {e e' : ET} (he : e' = e) (st : Sto B w0 p most L) (hn : lkR L e.1 = none) (hl : (L.length : Int) < most) (hg : Grow (L ++ [e])) {K : Int → World → Prop}
    (h : ∀ w' B', Step B B' w0 w' → Sto B' w' p most (L ++ [e]) → K ((L.length : Int) + 1) w') : C_intern_Store_add (some p) e' K w0 := by
  subst he
  exact intern_add_spec st hn hl hg h

theorem intern_Pair_nil {l r : Int} {K : Int × Value → World → Prop} (h : K (0, errV 5) w0) : C_intern_Store_Pair none l r K w0 := by
  apply S_intern_Store_Pair
  unfold F_intern_Store_Pair
  exact gd_t rfl h
theorem intern_Pair_spec {l r : Int} (st : Sto B w0 p most L) {K : Int × Value → World → Prop}
    (h : ∀ w' B', Step B B' w0 w' → Sto B' w' p most (pPair L most l r).1 → K (pPair L most l r).2 w') : C_intern_Store_Pair (some p) l r K w0 := by
  apply S_intern_Store_Pair
  unfold F_intern_Store_Pair
  have hm0 := st.most0
  have hlen := st.len
  refine gd_f rfl ⟨fun x w => x.1 = !(known L l && known L r) ∧ w = w0, ?_, ?_⟩
  · cases hk : known L l
    · exact intern_known_spec st (by rw [hk]; exact gd_t rfl ⟨rfl, rfl⟩)
    · exact intern_known_spec st (by rw [hk]; exact gd_f rfl (intern_known_spec st ⟨rfl, rfl⟩))
  rintro x w ⟨hx, rfl⟩ _
  by_cases hu : known L l = false ∨ known L r = false
  · have hp : pPair L most l r = (L, (0, errV 1)) := by unfold pPair; rw [if_pos hu]
    rw [hp] at h
    refine gd_t ?_ (h _ B (.ofExt (.refl _ _)) st)
    rw [hx]
    rcases hu with hu | hu <;> simp [hu]
  have hkl : known L l = true := by
    cases e : known L l
    · exact absurd (Or.inl e) hu
    · rfl
  have hkr : known L r = true := by
    cases e : known L r
    · exact absurd (Or.inr e) hu
    · rfl
  have bl := of_decide_eq_true hkl
  have br := of_decide_eq_true hkr
  refine gd_f (by rw [hx, hkl, hkr]; rfl) (gd_eq (fun hl0 => ?_) (fun hl0 => gd_eq (fun hr0 => ?_) (fun hr0 => ?_)))
  · have hp : pPair L most l r = (L, (r, .nilIface)) := by unfold pPair; rw [if_neg hu, if_pos hl0]
    rw [hp] at h
    exact h _ B (.ofExt (.refl _ _)) st
  · have hp : pPair L most l r = (L, (l, .nilIface)) := by unfold pPair; rw [if_neg hu, if_neg hl0, if_pos hr0]
    rw [hp] at h
    exact h _ B (.ofExt (.refl _ _)) st
  obtain ⟨wl, dl0, dl1, pl⟩ := st.grow.at_ bl.1 bl.2
  obtain ⟨wr, dr0, dr1, pr⟩ := st.grow.at_ br.1 br.2
  refine intern_at_spec st hkl fun w4 e4 => intern_at_spec (st.ext e4) hkr fun w5 e5 => ?_
  have s := (St.init w).ext (e4.trans e5)
  refine s.allocK fun a7 w6 s _ _ => s.allocK fun a8 w7 s _ _ => s.st0 1 rfl (by rw [cells_length]; rfl) rfl fun w8 s _ => s.st0 0 rfl (by rw [cells_length]; rfl) rfl fun w9 s _ => s.ldi 1 5 rfl rfl (s.ldi 0 5 rfl rfl ?_)
  refine length_Add_spec wl.len wr.len (fun hle => ?_) (fun hgt => ?_)
  rotate_left
  · have hp : pPair L most l r = (L, (0, errV 2)) := by unfold pPair; rw [if_neg hu, if_neg hl0, if_neg hr0, if_pos hgt]
    rw [hp] at h
    exact nilIfc_err (gd_t rfl (h _ B (.ofExt s.fr) (st.ext s.fr)))
  have hp : pPair L most l r = pAdd L most (mkPair L l r) := by unfold pPair; rw [if_neg hu, if_neg hl0, if_neg hr0, if_neg (by omega)]
  rw [hp] at h
  have hg : Grow (L ++ [mkPair L l r]) := .pair st.grow (by omega) bl.2 (by omega) br.2 hle
  refine nilIfc_nil (gd_f rfl (s.allocK fun a13 w11 s _ _ => s.st0 0 rfl rfl rfl fun w12 s _ => s.ld0 (ty := yapi_Rule) (x := (2, 0, l, r, 0)) 0 rfl rfl (intern_find_spec (st.ext s.fr) fun w13 e13 => ?_)))
  replace s := s.ext e13
  have hE : (mkPair L l r).1 = (2, 0, l, r, 0) := rfl
  cases hl : lkR L (mkPair L l r).1 with
  | some i =>
    obtain ⟨q1, q2, q3⟩ := pAdd_some (most := most) hl
    rw [q2] at h
    rw [hE] at q1
    rw [q1]
    refine ⟨fun x w => x.1 = true ∧ w = w13, gd_t (by simpa using q3) ⟨rfl, rfl⟩, ?_⟩
    rintro x w ⟨hx, rfl⟩ _
    exact gd_t hx (h _ B (.ofExt s.fr) (st.ext s.fr))
  | none =>
    by_cases hm : most ≤ L.length
    · obtain ⟨q1, q2⟩ := pAdd_full (most := most) hl hm
      rw [q2] at h
      rw [hE] at q1
      rw [q1]
      refine ⟨fun x w => x.1 = true ∧ w = w13, gd_f rfl (nilIfc_err ⟨rfl, rfl⟩), ?_⟩
      rintro x w ⟨hx, rfl⟩ _
      exact gd_t hx (h _ B (.ofExt s.fr) (st.ext s.fr))
    · obtain ⟨q1, q2⟩ := pAdd_new (most := most) hl hm
      rw [q2] at h
      rw [hE] at q1
      rw [q1]
      refine ⟨fun x w => x.1 = false ∧ w = w13, gd_f rfl (nilIfc_nil ⟨rfl, rfl⟩), ?_⟩
      rintro x w ⟨hx, rfl⟩ _
      refine gd_f hx (s.ld (ty := yapi_Weight) (x := (eAt L l).2.1) 2 5 rfl rfl (s.ld (ty := yapi_Weight) (x := (eAt L r).2.1) 1 5 rfl rfl (weight_Join_spec wl wr hle fun w15 e15 => ?_)))
      replace s := s.ext e15
      refine s.allocK fun a22 w16 s _ _ => s.st0 0 rfl (by rw [cells_length]; rfl) rfl fun w17 s _ => nilIfc_nil (gd_f rfl (s.ldi 3 11 rfl rfl (s.ldi 2 11 rfl rfl (arith_i64 (by omega) (by omega) ?_))))
      refine s.ld0 (ty := yapi_Rule) (x := (2, 0, l, r, 0)) 1 rfl rfl (s.ld0 (ty := yapi_Weight) (x := wJoin (eAt L l).2.1 (eAt L r).2.1) 0 rfl rfl (s.ldi 3 11 rfl rfl (s.ldi 2 11 rfl rfl (arith_i64 (by split <;> omega) (by split <;> omega) ?_))))
      have fin : ∀ b : Bool, b = ((eAt L l).2.2.2 && (eAt L r).2.2.2 && decide (-1 ≤ (eAt L l).2.2.1 - (eAt L r).2.2.1) && decide ((eAt L l).2.2.1 - (eAt L r).2.2.1 ≤ 1)) →
          C_intern_Store_add (some p) ((2, 0, l, r, 0), wJoin (eAt L l).2.1 (eAt L r).2.1, 1 + (if (eAt L l).2.2.1 < (eAt L r).2.2.1 then (eAt L r).2.2.1 else (eAt L l).2.2.1), b) (fun x w => K (x, .nilIface) w) w17 :=
        fun b hb => intern_add_as (e := mkPair L l r) (by rw [hb]; rfl) (st.ext s.fr) hl (by omega) hg fun w' B' k st' => h _ B' (.pre s.fr k) st'
      refine s.ldb 3 12 rfl rfl (gd_mk (fun h1 => s.ldb 2 12 rfl rfl (gd_mk (fun h2 => gd_dec (fun h3 => ?_) (fun h3 => ?_)) (fun h2 => ?_))) (fun h1 => ?_))
      · exact fin _ (by rw [h1, h2, decide_eq_true h3]; rfl)
      · exact fin _ (by rw [h1, h2, decide_eq_false h3]; rfl)
      · exact fin _ (by rw [h1, h2]; rfl)
      · exact fin _ (by rw [h1]; rfl)

theorem intern_Power_nil {x k : Int} {K : Int × Value → World → Prop} (h : K (0, errV 5) w0) : C_intern_Store_Power none x k K w0 := by
  apply S_intern_Store_Power
  unfold F_intern_Store_Power
  exact gd_t rfl h
theorem intern_Power_spec {x k : Int} (hk : k ≤ 9223372036854775807) (st : Sto B w0 p most L) {K : Int × Value → World → Prop}
    (h : ∀ w' B', Step B B' w0 w' → Sto B' w' p most (pPower L most x k).1 → K (pPower L most x k).2 w') : C_intern_Store_Power (some p) x k K w0 := by
  apply S_intern_Store_Power
  unfold F_intern_Store_Power
  have hm0 := st.most0
  have hlen := st.len
  refine gd_f rfl ⟨fun y w => y.1 = decide (known L x = false ∨ k < 0) ∧ w = w0, ?_, ?_⟩
  · cases hk : known L x
    · exact intern_known_spec st (by rw [hk]; exact gd_t rfl ⟨by simp, rfl⟩)
    · exact intern_known_spec st (by rw [hk]; exact gd_f rfl ⟨by simp, rfl⟩)
  rintro y w ⟨hy, rfl⟩ _
  by_cases hu : known L x = false ∨ k < 0
  · have hp : pPower L most x k = (L, (0, errV 1)) := by unfold pPower; rw [if_pos hu]
    rw [hp] at h
    exact gd_t (by rw [hy]; exact decide_eq_true hu) (h _ B (.ofExt (.refl _ _)) st)
  have hkx : known L x = true := by
    cases e : known L x
    · exact absurd (Or.inl e) hu
    · rfl
  have bx := of_decide_eq_true hkx
  have hk0 : 0 ≤ k := by
    rcases Int.lt_or_le k 0 with h | h
    · exact absurd (Or.inr h) hu
    · exact h
  refine gd_f (by rw [hy]; exact decide_eq_false hu) ⟨fun y v => y.1 = decide (k = 0 ∨ x = 0) ∧ v = w, ?_, ?_⟩
  · exact gd_eq (fun e => ⟨by simp [e], rfl⟩) (fun e => ⟨by simp only [e, false_or]; rfl, rfl⟩)
  rintro y v ⟨hy, rfl⟩ _
  by_cases hz : k = 0 ∨ x = 0
  · have hp : pPower L most x k = (L, (0, .nilIface)) := by unfold pPower; rw [if_neg hu, if_pos hz]
    rw [hp] at h
    exact gd_t (by rw [hy]; exact decide_eq_true hz) (h _ B (.ofExt (.refl _ _)) st)
  refine gd_f (by rw [hy]; exact decide_eq_false hz) (gd_eq (fun h1 => ?_) (fun h1 => ?_))
  · have hp : pPower L most x k = (L, (x, .nilIface)) := by unfold pPower; rw [if_neg hu, if_neg hz, if_pos h1]
    rw [hp] at h
    exact h _ B (.ofExt (.refl _ _)) st
  obtain ⟨wx, dx0, dx1, px⟩ := st.grow.at_ bx.1 bx.2
  refine intern_at_spec st hkx fun w4 e4 => ?_
  have s := (St.init v).ext e4
  refine s.allocK fun a7 w5 s _ _ => s.st0 0 rfl (by rw [cells_length]; rfl) rfl fun w6 s _ => s.ldi 0 5 rfl rfl ?_
  refine length_Mul_spec wx.len hk0 (fun hle => ?_) (fun hgt => ?_)
  rotate_left
  · have hp : pPower L most x k = (L, (0, errV 2)) := by unfold pPower; rw [if_neg hu, if_neg hz, if_neg h1, if_pos hgt]
    rw [hp] at h
    exact nilIfc_err (gd_t rfl (h _ B (.ofExt s.fr) (st.ext s.fr)))
  have hp : pPower L most x k = pAdd L most (mkPower L x k) := by unfold pPower; rw [if_neg hu, if_neg hz, if_neg h1, if_neg (by omega)]
  rw [hp] at h
  have hg : Grow (L ++ [mkPower L x k]) := .power st.grow (by omega) bx.2 (by omega) hle
  refine nilIfc_nil (gd_f rfl (s.allocK fun a11 w8 s _ _ => s.st0 0 rfl rfl rfl fun w9 s _ => s.ld0 (ty := yapi_Rule) (x := (3, 0, x, 0, k)) 0 rfl rfl (intern_find_spec (st.ext s.fr) fun w10 e10 => ?_)))
  replace s := s.ext e10
  have hE : (mkPower L x k).1 = (3, 0, x, 0, k) := rfl
  cases hl : lkR L (mkPower L x k).1 with
  | some i =>
    obtain ⟨q1, q2, q3⟩ := pAdd_some (most := most) hl
    rw [q2] at h
    rw [hE] at q1
    rw [q1]
    refine ⟨fun x w => x.1 = true ∧ w = w10, gd_t (by simpa using q3) ⟨rfl, rfl⟩, ?_⟩
    rintro x w ⟨hx, rfl⟩ _
    exact gd_t hx (h _ B (.ofExt s.fr) (st.ext s.fr))
  | none =>
    by_cases hm : most ≤ L.length
    · obtain ⟨q1, q2⟩ := pAdd_full (most := most) hl hm
      rw [q2] at h
      rw [hE] at q1
      rw [q1]
      refine ⟨fun x w => x.1 = true ∧ w = w10, gd_f rfl (nilIfc_err ⟨rfl, rfl⟩), ?_⟩
      rintro x w ⟨hx, rfl⟩ _
      exact gd_t hx (h _ B (.ofExt s.fr) (st.ext s.fr))
    · obtain ⟨q1, q2⟩ := pAdd_new (most := most) hl hm
      rw [q2] at h
      rw [hE] at q1
      rw [q1]
      refine ⟨fun x w => x.1 = false ∧ w = w10, gd_f rfl (nilIfc_nil ⟨rfl, rfl⟩), ?_⟩
      rintro y w ⟨hx, rfl⟩ _
      refine gd_f hx (s.ld (ty := yapi_Weight) (x := (eAt L x).2.1) 1 5 rfl rfl (weight_Repeat_spec wx ⟨hk0, hk⟩ hle fun w12 e12 => ?_))
      replace s := s.ext e12
      refine s.allocK fun a19 w13 s _ _ => s.st0 0 rfl (by rw [cells_length]; rfl) rfl fun w14 s _ => nilIfc_nil (gd_f rfl ?_)
      refine s.ld0 (ty := yapi_Rule) (x := (3, 0, x, 0, k)) 1 rfl rfl (s.ld0 (ty := yapi_Weight) (x := wRep (eAt L x).2.1 k) 0 rfl rfl (s.ldi 2 11 rfl rfl (arith_i64 (by omega) (by omega) ?_)))
      exact intern_add_as (e := mkPower L x k) rfl (st.ext s.fr) hl (by omega) hg fun w' B' k st' => h _ B' (.pre s.fr k) st'

/-! ### Asks -/
theorem intern_Weight_nil {id : Int} {K : WT × Value → World → Prop} (h : ∀ w', Ext w0 w' → K ((0, 0, 0, 0, 0, 0), errV 5) w') : C_intern_Store_Weight none id K w0 := by
  apply S_intern_Store_Weight
  unfold F_intern_Store_Weight
  exact (St.init w0).allocK fun a1 w1 s _ _ => gd_t rfl (s.st0 0 rfl rfl rfl fun w2 s _ => s.ld0 (ty := yapi_Weight) (x := (0, 0, 0, 0, 0, 0)) 0 rfl rfl (h _ s.fr))
theorem intern_Weight_spec {id : Int} (st : Sto B w0 p most L) {K : WT × Value → World → Prop}
    (h : ∀ w', Ext w0 w' → K (if known L id then ((eAt L id).2.1, .nilIface) else ((0, 0, 0, 0, 0, 0), errV 1)) w') : C_intern_Store_Weight (some p) id K w0 := by
  apply S_intern_Store_Weight
  unfold F_intern_Store_Weight
  refine (St.init w0).allocK fun a1 w1 s e1 _ => gd_f rfl (intern_known_spec (st.ext e1) ?_)
  cases hk : known L id
  · simp only [hk] at h
    exact gd_t rfl (s.st0 0 rfl rfl rfl fun w2 s _ => s.ld0 (ty := yapi_Weight) (x := (0, 0, 0, 0, 0, 0)) 0 rfl rfl (h _ s.fr))
  · simp only [hk] at h
    refine gd_f rfl (intern_at_spec (st.ext e1) hk fun w5 e5 => ?_)
    exact (s.ext e5).st0 0 rfl rfl rfl fun w6 s _ => s.ld0 (ty := yapi_Weight) (x := (eAt L id).2.1) 0 rfl rfl (h _ s.fr)

theorem intern_Rule_nil {id : Int} {K : RT × Value → World → Prop} (h : ∀ w', Ext w0 w' → K ((0, 0, 0, 0, 0), errV 5) w') : C_intern_Store_Rule none id K w0 := by
  apply S_intern_Store_Rule
  unfold F_intern_Store_Rule
  exact (St.init w0).allocK fun a1 w1 s _ _ => gd_t rfl (s.st0 0 rfl rfl rfl fun w2 s _ => s.ld0 (ty := yapi_Rule) (x := (0, 0, 0, 0, 0)) 0 rfl rfl (h _ s.fr))
theorem intern_Depth_nil {id : Int} {K : Int × Value → World → Prop} (h : K (0, errV 5) w0) : C_intern_Store_Depth none id K w0 := by
  apply S_intern_Store_Depth
  unfold F_intern_Store_Depth
  exact gd_t rfl h
theorem intern_Import_nil {s : Sl} {K : Int × Value → World → Prop} (h : K (0, errV 5) w0) : C_intern_Store_Import none s K w0 := by
  apply S_intern_Store_Import
  unfold F_intern_Store_Import
  exact gd_t rfl h
theorem intern_Export_nil {id : Int} {K : Sl × Value → World → Prop} (h : K (⟨none, 0, 0⟩, errV 5) w0) : C_intern_Store_Export none id K w0 := by
  apply S_intern_Store_Export
  unfold F_intern_Store_Export
  exact gd_t rfl h
theorem intern_Find_nil {r : RT} {K : Int × Bool → World → Prop} (h : ∀ w', Ext w0 w' → K (0, false) w') : C_intern_Store_Find none r K w0 := by
  apply S_intern_Store_Find
  unfold F_intern_Store_Find
  exact (St.init w0).allocK fun a1 w1 s _ _ => gd_t rfl (h _ s.fr)

end Go.Proofs.Ytddhndabnbckmaa
