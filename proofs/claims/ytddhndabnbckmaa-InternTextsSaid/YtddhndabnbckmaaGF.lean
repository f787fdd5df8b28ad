/- Texts that belong together, joined: Txt, TxtB, LawDC. No conditions. -/
import Derived.Test.YtddhndabnbckmaaGC
import Derived.Test.YtddhndabnbckmaaGD
/- The text of a rule of a list, letter by letter, and that the rule's weight is that of its text. -/
set_option linter.unusedVariables false
set_option linter.unusedSimpArgs false
namespace Go.Proofs.Ytddhndabnbckmaa
open Go.Den

/-! ### Texts -/
def gt (acc : List (List Int)) (id : Int) : List Int := if id = 0 then [] else acc.getD (id - 1).toNat []
def tx1 (acc : List (List Int)) (r : RT) : List Int :=
  if r.1 = 1 then [r.2.1] else if r.1 = 2 then gt acc r.2.2.1 ++ gt acc r.2.2.2.1 else (List.replicate r.2.2.2.2.toNat (gt acc r.2.2.1)).flatten
def txts (T : List ET) : List (List Int) := T.foldl (fun acc e => acc ++ [tx1 acc e.1]) []
def txt (T : List ET) (id : Int) : List Int := gt (txts T) id

theorem txts_append (T : List ET) (e : ET) : txts (T ++ [e]) = txts T ++ [tx1 (txts T) e.1] := by
  unfold txts
  rw [List.foldl_append]; rfl
theorem txts_len (T : List ET) : (txts T).length = T.length := by
  have key : ∀ (T : List ET) (acc : List (List Int)), (T.foldl (fun acc e => acc ++ [tx1 acc e.1]) acc).length = acc.length + T.length := by
    intro T
    induction T with
    | nil => intro acc; rfl
    | cons e T ih =>
      intro acc
      rw [List.foldl_cons, ih]
      simp only [List.length_append, List.length_cons, List.length_nil]; omega
  have := key T []
  simpa [txts] using this
theorem gt_append {acc : List (List Int)} {t : List Int} {id : Int} (h0 : 0 ≤ id) (h : id ≤ acc.length) : gt (acc ++ [t]) id = gt acc id := by
  unfold gt
  by_cases e : id = 0
  · rw [if_pos e, if_pos e]
  · rw [if_neg e, if_neg e, List.getD_eq_getElem?_getD, List.getD_eq_getElem?_getD, List.getElem?_append_left (by omega)]
theorem gt_last {acc : List (List Int)} {t : List Int} : gt (acc ++ [t]) ((acc.length : Int) + 1) = t := by
  unfold gt
  rw [if_neg (by omega), List.getD_eq_getElem?_getD, show ((acc.length : Int) + 1 - 1).toNat = acc.length by omega]
  simp
theorem txt_append {T : List ET} {e : ET} {id : Int} (h0 : 0 ≤ id) (h : id ≤ T.length) : txt (T ++ [e]) id = txt T id := by
  unfold txt
  rw [txts_append, gt_append h0 (by rw [txts_len]; exact h)]
theorem txt_zero (T : List ET) : txt T 0 = [] := rfl

inductive TxtOf (T : List ET) (id : Int) : Prop
  | letter (b : Int) : 0 ≤ b → b < 256 → eAt T id = mkLetter b → txt T id = [b] → TxtOf T id
  | pair (l r : Int) : 1 ≤ l → l < id → 1 ≤ r → r < id → (eAt T l).2.1.1 + (eAt T r).2.1.1 ≤ 1152921504606846976 → eAt T id = mkPair T l r → txt T id = txt T l ++ txt T r → TxtOf T id
  | power (x k : Int) : 1 ≤ x → x < id → 2 ≤ k → (eAt T x).2.1.1 * k ≤ 1152921504606846976 → eAt T id = mkPower T x k → txt T id = (List.replicate k.toNat (txt T x)).flatten → TxtOf T id
theorem TxtOf.append {T : List ET} {e : ET} {id : Int} (h : TxtOf T id) (h1 : 1 ≤ id) (h2 : id ≤ T.length) : TxtOf (T ++ [e]) id := by
  have e1 := eAt_append (e := e) (by omega) h2
  have t1 := txt_append (e := e) (by omega) h2
  cases h with
  | letter b h3 h4 h5 h6 => exact .letter b h3 h4 (e1.trans h5) (t1.trans h6)
  | pair l r h3 h4 h5 h6 h7 h8 h9 =>
    refine .pair l r h3 h4 h5 h6 ?_ ?_ ?_
    · rw [eAt_append (by omega) (by omega), eAt_append (by omega) (by omega)]; exact h7
    · rw [e1, h8, mkPair_append (by omega) (by omega)]
    · rw [t1, h9, txt_append (by omega) (by omega), txt_append (by omega) (by omega)]
  | power x k h3 h4 h5 h6 h7 h8 =>
    refine .power x k h3 h4 h5 ?_ ?_ ?_
    · rw [eAt_append (by omega) (by omega)]; exact h6
    · rw [e1, h7, mkPower_append (by omega)]
    · rw [t1, h8, txt_append (by omega) (by omega)]
theorem Grow.txt {T : List ET} (g : Grow T) : ∀ {id : Int}, 1 ≤ id → id ≤ T.length → TxtOf T id := by
  refine Grow.rec_ (M := fun T => ∀ {id : Int}, 1 ≤ id → id ≤ T.length → TxtOf T id) (fun h1 h2 => by simp at h2; omega) (fun T e _ g ih => ?_) g
  intro id h1 h2
  simp only [List.length_append, List.length_cons, List.length_nil] at h2
  by_cases h : id ≤ T.length
  · exact (ih h1 h).append h1 h
  · have : id = (T.length : Int) + 1 := by omega
    subst this
    have ht : Ytddhndabnbckmaa.txt (T ++ [e]) ((T.length : Int) + 1) = tx1 (txts T) e.1 := by
      unfold Ytddhndabnbckmaa.txt
      have := gt_last (acc := txts T) (t := tx1 (txts T) e.1)
      rw [txts_len] at this
      rw [txts_append]; exact this
    cases g.last.2.2 with
    | letter b h3 h4 h5 =>
      refine .letter b h3 h4 h5 (ht.trans ?_)
      rw [eAt_last] at h5
      rw [h5]; rfl
    | pair l r h3 h4 h5 h6 h7 h8 =>
      refine .pair l r h3 h4 h5 h6 h7 h8 (ht.trans ?_)
      rw [eAt_last] at h8
      rw [h8, txt_append (by omega) (by omega), txt_append (by omega) (by omega)]; rfl
    | power x k h3 h4 h5 h6 h7 =>
      refine .power x k h3 h4 h5 h6 h7 (ht.trans ?_)
      rw [eAt_last] at h7
      rw [h7, txt_append (by omega) (by omega)]; rfl

/-! ### Weights of texts -/
def wOf : List Int → WT
  | [] => wUnit
  | c :: b => wJoin (wLetter c) (wOf b)
theorem dOf_ok : ∀ b : List Int, dOK (wOf b).2.2.2.2
  | [] => dOK_unit
  | c :: b => dOK_join _ _
theorem lines_nn : ∀ b : List Int, 0 ≤ (wOf b).2.1
  | [] => by decide
  | c :: b => by
    have := lines_nn b
    have h : 0 ≤ (wLetter c).2.1 := by unfold wLetter; split <;> simp
    simp only [wOf, wJoin]; omega
theorem wOf_len : ∀ b : List Int, (wOf b).1 = b.length
  | [] => rfl
  | c :: b => by simp only [wOf, wJoin, wLetter_len, wOf_len b, List.length_cons]; omega
theorem wOf_zero : ∀ b : List Int, (wOf b).2.1 = 0 → (wOf b).2.2.1 = (wOf b).1 ∧ (wOf b).2.2.2.1 = (wOf b).1
  | [] => fun _ => ⟨rfl, rfl⟩
  | c :: b => by
    have := lines_nn b
    have ih := wOf_zero b
    by_cases hc : c = 10
    · simp only [wOf, wJoin, wLetter, if_pos hc]; omega
    · simp only [wOf, wJoin, wLetter, if_neg hc]
      intro h
      have hb : (wOf b).2.1 = 0 := by omega
      have := ih hb
      simp only [if_true, if_pos hb]
      omega
theorem wJoin_assoc {a b c : WT} (ha : 0 ≤ a.2.1) (hb : 0 ≤ b.2.1) (hc : 0 ≤ c.2.1) : wJoin (wJoin a b) c = wJoin a (wJoin b c) := by
  simp only [wJoin]
  refine Prod.ext (by dsimp only; omega) (Prod.ext (by dsimp only; omega) (Prod.ext ?_ (Prod.ext ?_ (dJoin_assoc _ _ _))))
  · dsimp only; repeat' split
    all_goals omega
  · dsimp only; repeat' split
    all_goals omega
theorem wJoin_unit_l {a : WT} (hd : dOK a.2.2.2.2) (hz : a.2.1 = 0 → a.2.2.2.1 = a.1) : wJoin wUnit a = a := by
  simp only [wJoin, wUnit]
  refine Prod.ext (by dsimp only; omega) (Prod.ext (by dsimp only; omega) (Prod.ext ?_ (Prod.ext ?_ (dJoin_unit_l hd))))
  · dsimp only; simp only [if_true]; omega
  · dsimp only
    split
    · rename_i h; rw [hz h]; omega
    · rfl
theorem wJoin_unit_r {a : WT} (hd : dOK a.2.2.2.2) (hz : a.2.1 = 0 → a.2.2.1 = a.1) : wJoin a wUnit = a := by
  simp only [wJoin, wUnit]
  refine Prod.ext (by dsimp only; omega) (Prod.ext (by dsimp only; omega) (Prod.ext ?_ (Prod.ext ?_ (dJoin_unit_r hd))))
  · dsimp only
    split
    · rename_i h; rw [hz h]; omega
    · rfl
  · dsimp only; simp only [if_true]; omega
theorem wLetter_lines (c : Int) : 0 ≤ (wLetter c).2.1 := by unfold wLetter; split <;> simp
theorem wOf_append : ∀ a b : List Int, wOf (a ++ b) = wJoin (wOf a) (wOf b)
  | [], b => by
    rw [List.nil_append]
    exact (wJoin_unit_l (dOf_ok b) fun h => (wOf_zero b h).2).symm
  | c :: a, b => by
    rw [List.cons_append, wOf, wOf, wOf_append a b, wJoin_assoc (wLetter_lines c) (lines_nn a) (lines_nn b)]
theorem wOf_one {c : Int} (hc : 0 ≤ c ∧ c < 256) : wOf [c] = wLetter c := by
  have := wOK_letter hc
  rw [wOf, wOf]
  exact wJoin_unit_r this.dOK fun h => (this.zero h).1
theorem wRep_step {a : WT} (hl : 1 ≤ a.1) (hn : 0 ≤ a.2.1) (hz : a.2.1 = 0 → a.2.2.1 = a.1 ∧ a.2.2.2.1 = a.1) (hd : dOK a.2.2.2.2) (k : Nat) : wRep a ((k : Int) + 1) = wJoin (wRep a k) a := by
  have e1 : a.1 * ((k : Int) + 1) = a.1 * k + a.1 := by rw [Int.mul_add, Int.mul_one]
  have e2 : a.2.1 * ((k : Int) + 1) = a.2.1 * k + a.2.1 := by rw [Int.mul_add, Int.mul_one]
  have p1 : 0 ≤ a.1 * (k : Int) := Int.mul_nonneg (by omega) (by omega)
  have p2 : 0 ≤ a.2.1 * (k : Int) := Int.mul_nonneg hn (by omega)
  have et : ((k : Int) + 1).toNat = k + 1 := by omega
  cases k with
  | zero =>
    have r0 : wRep a ((0 : Nat) : Int) = wUnit := by unfold wRep; rw [if_pos (by simp)]
    have r1 : wRep a (((0 : Nat) : Int) + 1) = a := by
      unfold wRep
      have d1 : dNat a.2.2.2.2 (((0 : Nat) : Int) + 1).toNat = a.2.2.2.2 := dNat_one hd
      have m1 : a.1 * (((0 : Nat) : Int) + 1) = a.1 := by simp
      have m2 : a.2.1 * (((0 : Nat) : Int) + 1) = a.2.1 := by simp
      rw [m1, m2, d1, if_neg (by omega)]
      refine Prod.ext rfl (Prod.ext rfl (Prod.ext ?_ (Prod.ext ?_ rfl)))
      · dsimp only; split
        · rename_i h; exact (hz h).1.symm
        · rfl
      · dsimp only; split
        · rename_i h; exact (hz h).2.symm
        · rfl
    rw [r0, r1, wJoin_unit_l hd (fun h => (hz h).2)]
  | succ n =>
    have hne : a.1 * ((n + 1 : Nat) : Int) ≠ 0 := by
      have : 1 * 1 ≤ a.1 * ((n + 1 : Nat) : Int) := Int.mul_le_mul hl (by omega) (by decide) (by omega)
      omega
    unfold wRep
    rw [if_neg (by rw [e1]; omega), if_neg hne, et, e1, e2]
    have zz : a.2.1 * ((n + 1 : Nat) : Int) = 0 ↔ a.2.1 = 0 := by
      constructor
      · intro h
        rcases Int.mul_eq_zero.1 h with h | h
        · exact h
        · omega
      · intro h; rw [h]; simp
    simp only [wJoin]
    refine Prod.ext rfl (Prod.ext rfl (Prod.ext ?_ (Prod.ext ?_ ?_)))
    · dsimp only
      by_cases h : a.2.1 = 0
      · rw [if_pos h, if_pos (zz.2 h), (hz h).1]
      · rw [if_neg h, if_neg fun h' => h (zz.1 h'), if_neg h]
    · dsimp only
      by_cases h : a.2.1 = 0
      · rw [if_pos h, if_pos h, if_pos h]; omega
      · rw [if_neg h, if_neg h]
    · have : ((n + 1 : Nat) : Int).toNat = n + 1 := by omega
      rw [this]; rfl
theorem wOf_rep {t : List Int} (ht : 1 ≤ t.length) : ∀ k : Nat, wOf (List.replicate k t).flatten = wRep (wOf t) k
  | 0 => by simp [wRep, wOf]
  | k + 1 => by
    have h1 : 1 ≤ (wOf t).1 := by rw [wOf_len]; omega
    rw [show ((k + 1 : Nat) : Int) = (k : Int) + 1 from rfl, wRep_step h1 (lines_nn t) (wOf_zero t) (dOf_ok t), ← wOf_rep ht k, ← wOf_append]
    congr 1
    have e : List.replicate (k + 1) t = List.replicate k t ++ [t] := by rw [List.replicate_succ']
    rw [e]; simp
theorem Grow.weight {T : List ET} (g : Grow T) : ∀ {id : Int}, 0 ≤ id → id ≤ T.length → (eAt T id).2.1 = wOf (Ytddhndabnbckmaa.txt T id) ∧ ∀ c ∈ Ytddhndabnbckmaa.txt T id, 0 ≤ c ∧ c < 256 := by
  have key : ∀ (n : Nat) (id : Int), id.toNat = n → 0 ≤ id → id ≤ T.length → (eAt T id).2.1 = wOf (Ytddhndabnbckmaa.txt T id) ∧ ∀ c ∈ Ytddhndabnbckmaa.txt T id, 0 ≤ c ∧ c < 256 := by
    intro n
    induction n using Nat.strongRecOn with
    | ind n ih =>
      intro id hn h0 h1
      by_cases hz : id = 0
      · subst hz
        exact ⟨rfl, fun c hc => by rw [txt_zero] at hc; cases hc⟩
      cases g.txt (id := id) (by omega) h1 with
      | letter b h3 h4 h5 h6 =>
        rw [h5, h6, wOf_one ⟨h3, h4⟩]
        exact ⟨rfl, fun c hc => by simp at hc; subst hc; exact ⟨h3, h4⟩⟩
      | pair l r h3 h4 h5 h6 h7 h8 h9 =>
        have i1 := ih l.toNat (by omega) l rfl (by omega) (by omega)
        have i2 := ih r.toNat (by omega) r rfl (by omega) (by omega)
        rw [h8, h9, wOf_append, ← i1.1, ← i2.1]
        refine ⟨rfl, fun c hc => ?_⟩
        rcases List.mem_append.1 hc with h | h
        · exact i1.2 c h
        · exact i2.2 c h
      | power x k h3 h4 h5 h6 h7 h8 =>
        have i1 := ih x.toNat (by omega) x rfl (by omega) (by omega)
        have hp := (g.at_ (id := x) (by omega) (by omega)).2.2.2 h3
        rw [i1.1, wOf_len] at hp
        rw [h7, h8, wOf_rep (by omega), ← i1.1]
        refine ⟨?_, fun c hc => ?_⟩
        · show wRep (eAt T x).2.1 k = _
          rw [Int.toNat_of_nonneg (by omega)]
        · obtain ⟨t, ht, hc⟩ := List.mem_flatten.1 hc
          rw [List.mem_replicate] at ht
          rw [ht.2] at hc
          exact i1.2 c hc
  exact fun {id} h0 h1 => key _ id rfl h0 h1
theorem Grow.len {T : List ET} (g : Grow T) {id : Int} (h0 : 0 ≤ id) (h1 : id ≤ T.length) : (eAt T id).2.1.1 = (Ytddhndabnbckmaa.txt T id).length := by
  rw [(g.weight h0 h1).1, wOf_len]

end Go.Proofs.Ytddhndabnbckmaa

/- The digest by definition, and the text of a rule by the specification. -/
set_option linter.unusedVariables false
set_option linter.unusedSimpArgs false
namespace Go.Proofs.Ytddhndabnbckmaa
open Go.Den

variable {w0 w : World} {Ω : List Ob} {most : Int} {T : List ET} {j : Nat} {m : yevergreenref10_S.T}

theorem ref05_Add_spec {a b : Int} (ha : 0 ≤ a ∧ a < 2305843009213693951) (hb : 0 ≤ b ∧ b < 2305843009213693951) {K : Int → World → Prop} (h : K ((a + b) % 2305843009213693951) w) : C_ref05_Add a b K w := by
  apply S_ref05_Add
  unfold F_ref05_Add
  refine arith_u64 (by omega) (by omega) ⟨by decide, letZ_mk ?_⟩
  rw [Int.tmod_eq_emod_of_nonneg (by omega)]
  exact h
theorem ref05_Mul_spec {a b : Int} (ha : 0 ≤ a) (hb : 0 ≤ b) {K : Int → World → Prop} (h : K (a * b % 2305843009213693951) w) : C_ref05_Mul a b K w := by
  apply S_ref05_Mul
  unfold F_ref05_Mul
  refine ⟨by decide, letZ_mk ⟨by decide, letZ_mk ?_⟩⟩
  rw [Int.tmod_eq_emod_of_nonneg ha, Int.tmod_eq_emod_of_nonneg hb]
  refine ⟨fun x w' => (0 ≤ x.1 ∧ x.1 < 2305843009213693951) ∧ (0 ≤ x.2.1 ∧ x.2.1 < 2305843009213693951) ∧ (0 ≤ x.2.2.1 ∧ x.2.2.1 < 2305843009213693951) ∧ (x.2.2.1 + x.1 * x.2.1) % 2305843009213693951 = a * b % 2305843009213693951 ∧ w' = w,
    fun x _ => x.2.1.toNat, ⟨⟨Int.emod_nonneg _ (by decide), Int.emod_lt_of_pos _ (by decide)⟩, ⟨Int.emod_nonneg _ (by decide), Int.emod_lt_of_pos _ (by decide)⟩, ⟨by dsimp only; omega, by dsimp only; omega⟩, ?_, rfl⟩, ?_⟩
  · show (0 + a % 2305843009213693951 * (b % 2305843009213693951)) % 2305843009213693951 = _
    rw [Int.zero_add, ← Int.mul_emod]
  rintro ⟨x, y, n, _⟩ w1 ⟨hx, hy, hn, he, rfl⟩ _
  dsimp only at hx hy hn he ⊢
  refine gd_dec (fun hp => ?_) (fun hp => ?_)
  · refine ⟨fun z w' => z.1 = (if y % 2 = 1 then (n + x) % 2305843009213693951 else n) ∧ w' = w1, ⟨by decide, letZ_mk ?_⟩, ?_⟩
    · rw [Int.tmod_eq_emod_of_nonneg hy.1]
      refine gd_eq (fun c => ref05_Add_spec hn hx ⟨by rw [if_pos c], rfl⟩) (fun c => ⟨by rw [if_neg c], rfl⟩)
    rintro ⟨z, _⟩ w2 ⟨hz, rfl⟩ _
    dsimp only at hz ⊢
    refine ref05_Add_spec hx hx ⟨by decide, ?_⟩
    rw [Int.tdiv_eq_ediv_of_nonneg hy.1]
    have hz' : 0 ≤ z ∧ z < 2305843009213693951 := by rw [hz]; split <;> omega
    refine arith_u64 (by omega) (by omega) ⟨⟨by omega, by omega, hz', ?_, rfl⟩, by omega⟩
    rw [← he]
    have e1 : (z + (x + x) % 2305843009213693951 * (y / 2)) % 2305843009213693951 = (z + (x + x) * (y / 2)) % 2305843009213693951 := by
      rw [Int.add_emod, Int.mul_emod, Int.emod_emod_of_dvd _ (Int.dvd_refl _), ← Int.mul_emod, ← Int.add_emod]
    rw [e1]
    have e2 : (x + x) * (y / 2) = x * (2 * (y / 2)) := by rw [← Int.two_mul, Int.mul_comm 2 x, Int.mul_assoc]
    rw [e2]
    rcases (by omega : y % 2 = 0 ∨ y % 2 = 1) with c | c
    · rw [hz, if_neg (by omega), show 2 * (y / 2) = y by omega]
    · rw [hz, if_pos c]
      have e3 : ((n + x) % 2305843009213693951 + x * (2 * (y / 2))) % 2305843009213693951 = (n + x + x * (2 * (y / 2))) % 2305843009213693951 := by
        rw [Int.add_emod, Int.emod_emod_of_dvd _ (Int.dvd_refl _), ← Int.add_emod]
      rw [e3]
      congr 1
      have : y = 2 * (y / 2) + 1 := by omega
      conv => rhs; rw [this]
      rw [Int.mul_add, Int.mul_one]; omega
  · have : y = 0 := by omega
    subst this
    rw [Int.mul_zero, Int.add_zero, Int.emod_eq_of_lt hn.1 hn.2] at he
    rw [he]; exact h

theorem wOf_dig (c : Int) (b : List Int) : (wOf (c :: b)).2.2.2.2 = (((c + 1) * (wOf b).2.2.2.2.2 + (wOf b).2.2.2.2.1) % 2305843009213693951, 1103515245 * (wOf b).2.2.2.2.2 % 2305843009213693951) := by
  have : (wLetter c).2.2.2.2 = (c + 1, 1103515245) := by unfold wLetter; split <;> rfl
  simp only [wOf, wJoin, dJoin, this]
theorem ref05_Of_spec {sl : Sl} {b : List (Ty.int .u8).T} (hb : ∀ c ∈ b, 0 ≤ (c : Int) ∧ (c : Int) < 256) (hl : b.length ≤ 1000000) (s : Sp w0 Ω w) (hv : ∀ w' Ω', Sp w0 (Ω' ++ Ω) w' → View (.int .u8) w' sl b) {K : Int × Int → World → Prop} (h : ∀ w', Sp w0 Ω w' → K (wOf b).2.2.2.2 w') : C_ref05_Of sl K w := by
  apply S_ref05_Of
  unfold F_ref05_Of
  have hlen := (hv w [] s).len
  refine s.allocK fun a1 w1 s => s.allocK fun a2 w2 s => s.st0 0 rfl rfl rfl fun w3 s => arith_i64 (by omega) (by omega) ?_
  refine ⟨fun x w => ∃ n : Nat, x.1 = (n : Int) - 1 ∧ n ≤ b.length ∧ Sp w0 (cel a2 [.int .u64 (wOf (b.drop n)).2.2.2.2.1, .int .u64 (wOf (b.drop n)).2.2.2.2.2] :: cel a1 [.int .u64 0, .int .u64 0] :: Ω) w, fun x _ => (x.1 + 1).toNat, ⟨b.length, by dsimp only; omega, Nat.le_refl _, by rw [List.drop_length]; exact s⟩, ?_⟩
  rintro ⟨x, _⟩ w4 ⟨n, hx, hn, s⟩ _
  dsimp only at hx ⊢
  subst hx
  refine gd_dec (fun hp => ?_) (fun hp => ?_)
  · obtain ⟨n, rfl⟩ : ∃ k, n = k + 1 := ⟨n - 1, by omega⟩
    have hn' : n < b.length := by omega
    have hd : b.drop n = b[n] :: b.drop (n + 1) := List.drop_eq_getElem_cons hn'
    obtain ⟨c, hcq⟩ : ∃ c : Int, b[n]? = some c := ⟨_, List.getElem?_eq_getElem hn'⟩
    have hc : 0 ≤ c ∧ c < 256 := hb _ (List.mem_of_getElem? hcq)
    have hcc : b[n] = c := by rw [List.getElem?_eq_getElem hn'] at hcq; exact Option.some.inj hcq
    rw [hcc] at hd
    have hdk := dOf_ok (b.drop (n + 1))
    have hv1 := hdk.1
    have hv2 := hdk.2
    have hPP : PP = 2305843009213693951 := rfl
    refine s.drawK fun w5 s => s.ldi 0 0 rfl rfl ((hv w5 [_, _] s).idx (n := n) (by omega) hcq rfl fun q hq => ⟨c, hq, ?_⟩)
    refine arith_u64 (by omega) (by omega) (arith_u64 (by omega) (by omega) (s.ldi 0 1 rfl rfl (ref05_Mul_spec (by omega) (by omega) ⟨s.still 0 0 rfl rfl, ref05_Add_spec (by omega) ⟨Int.emod_nonneg _ (by decide), Int.emod_lt_of_pos _ (by decide)⟩ ?_⟩)))
    refine s.st 0 0 rfl rfl rfl fun w6 s => s.ldi 0 1 rfl rfl (ref05_Mul_spec (by omega) (by decide) (s.st 0 1 rfl rfl rfl fun w7 s => arith_i64 (by omega) (by omega) ⟨⟨n, by omega, by omega, ?_⟩, by omega⟩))
    have e := wOf_dig c (b.drop (n + 1))
    rw [← hd] at e
    have e1 := congrArg Prod.fst e
    have e2 := congrArg Prod.snd e
    dsimp only at e1 e2
    rw [e1, e2]
    have v1 : ((wOf (b.drop (n + 1))).2.2.2.2.1 + (c + 1) * (wOf (b.drop (n + 1))).2.2.2.2.2 % 2305843009213693951) % 2305843009213693951 = ((c + 1) * (wOf (b.drop (n + 1))).2.2.2.2.2 + (wOf (b.drop (n + 1))).2.2.2.2.1) % 2305843009213693951 := by
      rw [Int.add_comm, Int.add_emod, Int.emod_emod_of_dvd _ (Int.dvd_refl _), ← Int.add_emod]
    have v2 : (wOf (b.drop (n + 1))).2.2.2.2.2 * 1103515245 % 2305843009213693951 = 1103515245 * (wOf (b.drop (n + 1))).2.2.2.2.2 % 2305843009213693951 := by rw [Int.mul_comm]
    rw [← v1, ← v2]
    exact s
  · have : n = 0 := by omega
    subst this
    rw [List.drop_zero] at s
    exact s.ld0 (ty := yapi_Digest) (x := (wOf b).2.2.2.2) 0 rfl rfl (s.st0 1 rfl rfl rfl fun w5 s => s.ld0 1 rfl rfl (h _ (s.drop 2)))

/-! ### The text by the specification -/
theorem flatten_replicate_succ (n : Nat) (t : List Int) : (List.replicate (n + 1) t).flatten = (List.replicate n t).flatten ++ t := by
  rw [List.replicate_succ']; simp
theorem ref10_Text_spec (g : Grow T) (hl : T.length ≤ 1048576) : ∀ (n : Nat) {id : Int} {w : World} {Ω : List Ob} {m : yevergreenref10_S.T} {w0 : World}, id.toNat = n → 0 ≤ id → id ≤ T.length → Sp w0 Ω w → ∀ (j : Nat), Ω[j]? = some (rfs m most T) → ∀ {K : Sl → World → Prop},
    (∀ sl w', Sp w0 (own (.int .u8) sl (if (txt T id).length ≤ 4096 then txt T id else []) :: Ω) w' → K sl w') → C_ref10_Text m id K w := by
  intro n
  induction n using Nat.strongRecOn with
  | ind n ih =>
    intro id w Ω m w0 hn h0 h1 s j hj K h
    apply S_ref10_Text
    unfold F_ref10_Text
    have hk : known T id = true := decide_eq_true ⟨h0, h1⟩
    refine s.allocK fun a1 w1 s => ⟨fun x w => x.1 = decide (id = 0 ∨ 4096 < (eAt T id).2.1.1) ∧ Sp w0 (cel a1 (cells yevergreenref10_S m) :: Ω) w, gd_eq (fun c => ⟨by simp [c], s⟩) (fun c => s.ld0 0 rfl rfl (ref10_Length_spec s (j + 1) hj hk hl fun w2 s => ⟨?_, s⟩)), ?_⟩
    · simp [c]
    rintro ⟨x, _⟩ w2 ⟨hx, s⟩ _
    dsimp only at hx
    by_cases hz : id = 0 ∨ 4096 < (eAt T id).2.1.1
    · refine gd_t (by rw [hx]; exact decide_eq_true hz) (h _ _ ?_)
      have e : (if (txt T id).length ≤ 4096 then txt T id else []) = [] := by
        rcases hz with rfl | hz
        · simp [txt_zero]
        · rw [g.len h0 h1] at hz
          rw [if_neg (by omega)]
      exact e.symm ▸ s.pop.nil (.int .u8)
    have hid : 1 ≤ id := by omega
    have hle : (txt T id).length ≤ 4096 := by
      have := g.len h0 h1
      omega
    rw [if_pos hle] at h
    refine gd_f (by rw [hx]; exact decide_eq_false hz) (s.lds (x := m.2.1) 0 1 rfl rfl (arith_i64 (by omega) (by omega) ?_))
    have hr := rulesOf_get (T := T) (n := (id - 1).toNat) (by omega)
    rw [show (((id - 1).toNat : Nat) : Int) + 1 = id by omega] at hr
    refine (Sp.rfs_ s (j + 1) hj).2.1.idx (n := (id - 1).toNat) (by omega) hr rfl fun q hq => ⟨_, hq, s.allocK fun a10 w4 s => s.st0 0 rfl rfl rfl fun w5 s => s.ldi (x := (eAt T id).1.1) 0 0 rfl rfl ?_⟩
    cases g.txt hid h1 with
    | letter b h3 h4 h5 h6 =>
      rw [h6] at h
      rw [h5] at s ⊢
      refine gd_t rfl (s.ldi (x := b) 0 1 rfl rfl (s.allocK fun a13 w6 s => h _ _ ?_))
      exact ((s.lit (ty := .int .u8) 0 rfl [b] 1 rfl rfl).pick [0] 3 rfl (by decide))
    | pair l r h3 h4 h5 h6 h7 h8 h9 =>
      rw [h9] at h
      rw [h9, List.length_append] at hle
      rw [h8] at s ⊢
      refine gd_f rfl (gd_t rfl (s.ld0 1 rfl rfl (s.ldi (x := l) 0 2 rfl rfl ?_)))
      refine ih l.toNat (by omega) rfl (by omega) (by omega) s (j + 2) hj fun sl1 w6 s => ?_
      rw [if_pos (by omega)] at s
      refine (s.nil (.int .u8)).app 0 rfl ((s.nil (.int .u8)).view 1 rfl) (by simp only [List.length_nil]; omega) fun s2 w7 s => s.ld0 3 rfl rfl (s.ldi (x := r) 2 3 rfl rfl ?_)
      refine ih r.toNat (by omega) rfl (by omega) (by omega) s (j + 4) hj fun sl3 w8 s => ?_
      rw [if_pos (by omega)] at s
      refine (s.pull 1 rfl).app 0 rfl ((s.pull 1 rfl).view 1 rfl) (by simp only [List.nil_append]; omega) fun s4 w9 s => h _ _ ?_
      exact s.pick [0] 5 rfl (by decide)
    | power x k h3 h4 h5 h6 h7 h8 =>
      have hx1 : 1 ≤ (txt T x).length := by
        have := (g.at_ (id := x) (by omega) (by omega)).2.2.2 h3
        rw [g.len (by omega) (by omega)] at this
        omega
      have hlk : (txt T id).length = k.toNat * (txt T x).length := by rw [h8]; simp
      have hkk : k.toNat ≤ k.toNat * (txt T x).length := Nat.le_mul_of_pos_right _ hx1
      have hxx : (txt T x).length ≤ k.toNat * (txt T x).length := Nat.le_mul_of_pos_left _ (by omega)
      rw [h8] at h
      rw [h7] at s ⊢
      refine gd_f rfl (gd_f rfl (s.ld0 1 rfl rfl (s.ldi (x := x) 0 2 rfl rfl ?_)))
      refine ih x.toNat (by omega) rfl (by omega) (by omega) s (j + 2) hj fun sl1 w6 s => ?_
      rw [if_pos (by omega)] at s
      refine loop_by (fun x => x.2.1) k.toNat (fun n y w => Sp w0 (own (.int .u8) y.1 (List.replicate n (txt T x)).flatten :: own (.int .u8) sl1 (txt T x) :: cel a10 (cells yapi_Rule (mkPower T x k).1) :: cel a1 (cells yevergreenref10_S m) :: Ω) w) rfl (s.nil (.int .u8)) ?_
      rintro i ⟨to, y, _⟩ w7 hi hy s _
      dsimp only at hy s ⊢
      subst hy
      refine s.ldi (x := k) 2 4 rfl rfl (gd_dec (fun hlt => ?_) (fun hge => ?_))
      · have hik : i < k.toNat := by omega
        have hbound : ((List.replicate i (txt T x)).flatten).length ≤ 4096 := by
          have : ((List.replicate i (txt T x)).flatten).length = i * (txt T x).length := by simp
          have h2 : i * (txt T x).length ≤ k.toNat * (txt T x).length := Nat.mul_le_mul_right _ hi
          omega
        refine s.app 0 rfl (s.view 1 rfl) (by omega) fun s2 w8 s => arith_i64 (by omega) (by omega) (loop_nx hik ?_)
        rw [flatten_replicate_succ]
        exact s
      · have : i = k.toNat := by omega
        subst this
        exact h _ _ (s.pick [0] 4 rfl (by decide))

end Go.Proofs.Ytddhndabnbckmaa

/- The walk of InternTexts. -/
set_option linter.unusedVariables false
set_option linter.unusedSimpArgs false
namespace Go.Proofs.Ytddhndabnbckmaa
open Go.Den

variable {w0 w : World} {T : List ET}

/-- what the loop over the letters has reckoned after k of them -/
def cnt (b : List Int) (k : Nat) : List Value :=
  [.int .i64 b.length, .int .i64 (wOf (b.take k)).2.1, .int .i64 (if (wOf (b.take k)).2.1 = 0 then (b.length : Int) else (wOf (b.take k)).2.2.1),
    .int .i64 (if (wOf (b.take k)).2.1 = 0 then (b.length : Int) else (wOf (b.take k)).2.2.2.1 + ((b.length : Int) - k)), .int .u64 (wOf b).2.2.2.2.1, .int .u64 (wOf b).2.2.2.2.2]
theorem cnt_end (b : List Int) : cnt b b.length = cells yapi_Weight (wOf b) := by
  unfold cnt
  rw [List.take_length, Int.sub_self, Int.add_zero]
  have hl := wOf_len b
  by_cases hz : (wOf b).2.1 = 0
  · have := wOf_zero b hz
    rw [if_pos hz, if_pos hz, ← hl]
    simp only [cells, List.cons_append, List.nil_append, this]
  · rw [if_neg hz, if_neg hz, ← hl]
    simp only [cells, List.cons_append, List.nil_append]
theorem take_step {b : List Int} {k : Nat} {c : Int} (hc : b[k]? = some c) (h : 0 ≤ c ∧ c < 256) : wOf (b.take (k + 1)) = wJoin (wOf (b.take k)) (wLetter c) := by
  rw [List.take_add_one, hc, wOf_append]
  show wJoin _ (wOf [c]) = _
  rw [wOf_one h]

theorem law10_InternTexts_spec {sl : Sl} {ops : List OT} (hv : View yevergreenlaw10_Op w0 sl ops) (ho : ∀ o ∈ ops, OpOK o) {K : Bool → World → Prop} (h : ∀ w', Ext w0 w' → K true w') : C_law10_InternTexts sl K w0 := by
  apply S_law10_InternTexts
  unfold F_law10_InternTexts
  refine few_guard (fun w1 x hx e1 => fun _ => gd_t hx (law10_awake_spec fun w2 e2 => h _ (e1.trans e2))) fun w1 x hs hx e1 => fun _ => gd_f hx ?_
  refine law10_Built_spec ((Sp.init w0).toExt e1) hv ho (by omega) fun p m T w3 s => s.allocK fun a7 w4 s => s.st0 0 rfl rfl rfl fun w5 s => gd_f rfl (s.lds (x := m.2.1) 0 1 rfl rfl ?_)
  obtain ⟨hlen, hmo⟩ := rfs_len s 1 rfl
  obtain ⟨_, _, _, hb0, hb1, hb2, hg⟩ := Sp.entry s 2 rfl
  have h100 : clip20 100 = 100 := rfl
  rw [h100] at s hb0 hb1 hb2 hmo
  refine loop_by (fun x => x.1) T.length (fun n _ w => Sp w0 [cel a7 (cells yevergreenref10_S m), rfs m 100 T, sto p 100 T] w) rfl s ?_
  rintro n ⟨x, _⟩ w6 hn hx s _
  dsimp only at hx ⊢
  subst hx
  refine gd_dec (fun hlt => ?_) (fun hge => h _ s.ext)
  have hn' : n < T.length := by omega
  refine ⟨fun _ w => Sp w0 [cel a7 (cells yevergreenref10_S m), rfs m 100 T, sto p 100 T] w, s.lds (x := m.2.2.1) 0 2 rfl rfl ?_, ?_⟩
  rotate_left
  · rintro _ w7 s _
    exact arith_i64 (by omega) (by omega) (loop_nx hn' s)
  have hid : 0 ≤ (n : Int) + 1 := by omega
  have hid2 : (n : Int) + 1 ≤ T.length := by omega
  refine (Sp.rfs_ s 1 rfl).2.2.1.idx rfl (lensOf_get hn') rfl fun q hq => ⟨_, hq, gd_dec (fun c => s) (fun c => s.ld0 0 rfl rfl (arith_i64 (by omega) (by omega) ?_))⟩
  have hle : (txt T ((n : Int) + 1)).length ≤ 4096 := by
    have := hg.len hid hid2
    omega
  refine ref10_Text_spec hg (by omega) _ rfl hid hid2 s 1 rfl fun sl18 w8 s => ?_
  rw [if_pos hle] at s
  obtain ⟨hw, hbytes⟩ := hg.weight hid hid2
  generalize txt T ((n : Int) + 1) = b at *
  have hv18 := (s.view 0 rfl).len
  refine ref05_Of_spec (b := b) hbytes (by omega) s (fun w' Ω' s => s.view (Ω'.length + 0) (by rw [List.getElem?_append_right (by omega)]; simp)) fun w9 s => s.allocK fun a20 w10 s => s.st0 0 rfl rfl rfl fun w11 s => ?_
  have hnn := lines_nn b
  refine loop_by (fun x => x.1) b.length (fun k _ w => Sp w0 [cel a20 (cnt b k), own (.int .u8) sl18 b, cel a7 (cells yevergreenref10_S m), rfs m 100 T, sto p 100 T] w) rfl ?_ ?_
  · have e : cnt b 0 = [.int .i64 (sl18.len : Int), .int .i64 0, .int .i64 (sl18.len : Int), .int .i64 (sl18.len : Int), .int .u64 (wOf b).2.2.2.2.1, .int .u64 (wOf b).2.2.2.2.2] := by
      unfold cnt
      rw [List.take_zero, hv18]; rfl
    exact e.symm ▸ s
  rintro k ⟨x, _⟩ w12 hk hx s _
  dsimp only at hx ⊢
  subst hx
  refine gd_dec (fun hlt => ?_) (fun hge => ?_)
  · have hk' : k < b.length := by omega
    obtain ⟨c, hc⟩ : ∃ c : Int, b[k]? = some c := ⟨_, List.getElem?_eq_getElem hk'⟩
    have hcb := hbytes c (List.mem_of_getElem? hc)
    have hst := take_step hc hcb
    have hnk := lines_nn (b.take k)
    have hlk := wOf_len (b.take k)
    rw [List.length_take, Nat.min_eq_left (by omega)] at hlk
    refine ⟨fun _ w => Sp w0 [cel a20 (cnt b (k + 1)), own (.int .u8) sl18 b, cel a7 (cells yevergreenref10_S m), rfs m 100 T, sto p 100 T] w, (s.view 1 rfl).idx rfl hc rfl fun q hq => ⟨c, hq, gd_ne (fun hc10 => ?_) (fun hc10 => ?_)⟩, ?_⟩
    · have hz := wOf_zero (b.take k)
      have e : cnt b (k + 1) = cnt b k := by
        unfold cnt
        rw [hst]
        simp only [wJoin, wLetter, if_neg hc10, Int.add_zero]
        congr 3
        · by_cases h0 : (wOf (b.take k)).2.1 = 0
          · rw [if_pos h0, if_pos h0]
          · rw [if_neg h0, if_neg h0, if_neg h0]
        · congr 2
          by_cases h0 : (wOf (b.take k)).2.1 = 0
          · rw [if_pos h0, if_pos h0]
          · rw [if_neg h0, if_neg h0]
            simp only [if_true]
            omega
      rw [e]; exact s
    · subst hc10
      have el : (wOf (b.take (k + 1))).2.1 = (wOf (b.take k)).2.1 + 1 := by rw [hst]; rfl
      have hbl : (wOf (b.take k)).2.1 ≤ k := by
        have : ∀ t : List Int, (wOf t).2.1 ≤ t.length := by
          intro t
          induction t with
          | nil => decide
          | cons c t ih =>
            simp only [wOf, wJoin, wLetter, List.length_cons]
            split <;> simp only <;> omega
        have := this (b.take k)
        rw [List.length_take] at this
        omega
      refine ⟨fun _ w => Sp w0 [cel a20 [.int .i64 b.length, .int .i64 (wOf (b.take k)).2.1, .int .i64 (wOf (b.take (k + 1))).2.2.1, .int .i64 (if (wOf (b.take k)).2.1 = 0 then (b.length : Int) else (wOf (b.take k)).2.2.2.1 + ((b.length : Int) - k)), .int .u64 (wOf b).2.2.2.2.1, .int .u64 (wOf b).2.2.2.2.2],
        own (.int .u8) sl18 b, cel a7 (cells yevergreenref10_S m), rfs m 100 T, sto p 100 T] w, s.ldi 0 1 rfl rfl (gd_eq (fun h0 => s.st 0 2 rfl rfl rfl fun w13 s => ?_) (fun h0 => ?_)), ?_⟩
      · have e : (wOf (b.take (k + 1))).2.2.1 = (k : Int) := by
          rw [hst]
          simp only [wJoin, wLetter, if_pos h0, if_true]
          omega
        rw [e]; exact s
      · have e : (wOf (b.take (k + 1))).2.2.1 = (if (wOf (b.take k)).2.1 = 0 then (b.length : Int) else (wOf (b.take k)).2.2.1) := by
          rw [hst]
          simp only [wJoin, if_neg h0]
        rw [e]; exact s
      · rintro _ w14 s _
        refine s.ldi 0 1 rfl rfl (arith_i64 (by omega) (by omega) (s.st 0 1 rfl rfl rfl fun w15 s => arith_i64 (by omega) (by omega) (arith_i64 (by omega) (by omega) (s.st 0 3 rfl rfl rfl fun w16 s => ?_))))
        have e : cnt b (k + 1) = [.int .i64 b.length, .int .i64 ((wOf (b.take k)).2.1 + 1), .int .i64 (wOf (b.take (k + 1))).2.2.1, .int .i64 ((sl18.len : Int) - 1 - k), .int .u64 (wOf b).2.2.2.2.1, .int .u64 (wOf b).2.2.2.2.2] := by
          unfold cnt
          rw [el, if_neg (by omega), if_neg (by omega)]
          have : (wOf (b.take (k + 1))).2.2.2.1 = 0 := by
            rw [hst]
            simp only [wJoin, wLetter, if_true]
            rfl
          rw [this, hv18]
          congr 4
          congr 1
          omega
        rw [e]; exact s
    · rintro _ w17 s _
      exact arith_i64 (by omega) (by omega) (loop_nx hk' s)
  · have : k = b.length := by omega
    subst this
    rw [cnt_end] at s
    refine arith_i64 (by omega) (by omega) (intern_Weight_k s 4 rfl (by omega) fun w18 s => s.allocK fun a37 w19 s => s.st0 0 rfl rfl rfl fun w20 s => ?_)
    refine JoinP.inl (nilIfc_nil (gd_f rfl (s.ld0 0 rfl rfl (s.ld0 1 rfl rfl (weight_neq fun _ => gd_f ?_ ?_)))))
    · rw [hw]; simp
    · exact s.drop 3

end Go.Proofs.Ytddhndabnbckmaa
