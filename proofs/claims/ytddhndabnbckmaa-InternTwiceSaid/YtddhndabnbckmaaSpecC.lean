/- What the package intern computes, from its texts: a store in memory and the list that it stands for. -/
import Derived.Test.YtddhndabnbckmaaSpecB
import Derived.Test.YtddhndabnbckmaaEq
import Derived.Test.YtddhndabnbckmaaList
import Derived.KernelRfl
namespace Go.Proofs.Ytddhndabnbckmaa
open Go.Den

variable {w0 : World}

/-! ### The list that a store stands for -/
abbrev RT := Int × Int × Int × Int × Int
abbrev ET := RT × WT × Int × Bool
def eZero : ET := ((0, 0, 0, 0, 0), wUnit, 0, true)
def eAt (L : List ET) (id : Int) : ET := if id = 0 then eZero else L.getD (id - 1).toNat eZero
def mkLetter (b : Int) : ET := ((1, b, 0, 0, 0), wLetter b, 0, true)
def mkPair (L : List ET) (l r : Int) : ET := ((2, 0, l, r, 0), wJoin (eAt L l).2.1 (eAt L r).2.1,
  1 + (if (eAt L l).2.2.1 < (eAt L r).2.2.1 then (eAt L r).2.2.1 else (eAt L l).2.2.1),
  (eAt L l).2.2.2 && (eAt L r).2.2.2 && decide (-1 ≤ (eAt L l).2.2.1 - (eAt L r).2.2.1) && decide ((eAt L l).2.2.1 - (eAt L r).2.2.1 ≤ 1))
def mkPower (L : List ET) (x k : Int) : ET := ((3, 0, x, 0, k), wRep (eAt L x).2.1 k, 1 + (eAt L x).2.2.1, false)

inductive Grow : List ET → Prop
  | nil : Grow []
  | letter {L : List ET} {b : Int} : Grow L → 0 ≤ b → b < 256 → Grow (L ++ [mkLetter b])
  | pair {L : List ET} {l r : Int} : Grow L → 1 ≤ l → l ≤ L.length → 1 ≤ r → r ≤ L.length → (eAt L l).2.1.1 + (eAt L r).2.1.1 ≤ 1152921504606846976 → Grow (L ++ [mkPair L l r])
  | power {L : List ET} {x k : Int} : Grow L → 1 ≤ x → x ≤ L.length → 2 ≤ k → (eAt L x).2.1.1 * k ≤ 1152921504606846976 → Grow (L ++ [mkPower L x k])

structure EOK (i : Nat) (e : ET) : Prop where
  w : wOK e.2.1
  pos : 1 ≤ e.2.1.1
  d : 0 ≤ e.2.2.1 ∧ e.2.2.1 ≤ i

theorem eAt_get {L : List ET} {id : Int} (h1 : 1 ≤ id) (h2 : id ≤ L.length) : L[(id - 1).toNat]? = some (eAt L id) := by
  have hl : (id - 1).toNat < L.length := by omega
  unfold eAt
  rw [if_neg (by omega), List.getD_eq_getElem?_getD, List.getElem?_eq_getElem hl]
  rfl
theorem Grow.ok {L : List ET} (g : Grow L) : ∀ (i : Nat) (e : ET), L[i]? = some e → EOK i e := by
  induction g with
  | nil => intro i e h; simp at h
  | @letter L b g h0 h1 ih =>
    intro i e h
    rw [List.getElem?_append] at h
    split at h
    · exact ih i e h
    · have : i - L.length = 0 := by
        rcases Nat.eq_zero_or_pos (i - L.length) with h' | h'
        · exact h'
        · rw [List.getElem?_eq_none (by simp only [List.length_cons, List.length_nil]; omega)] at h; cases h
      rw [this] at h
      simp only [List.getElem?_cons_zero, Option.some.injEq] at h
      subst h
      refine ⟨wOK_letter ⟨h0, h1⟩, ?_, ?_⟩
      · simp only [mkLetter, wLetter]; split <;> exact Int.le_refl _
      · simp only [mkLetter]; omega
  | @pair L l r g hl1 hl2 hr1 hr2 hlen ih =>
    intro i e h
    rw [List.getElem?_append] at h
    split at h
    · exact ih i e h
    · have : i - L.length = 0 := by
        rcases Nat.eq_zero_or_pos (i - L.length) with h' | h'
        · exact h'
        · rw [List.getElem?_eq_none (by simp only [List.length_cons, List.length_nil]; omega)] at h; cases h
      rw [this] at h
      simp only [List.getElem?_cons_zero, Option.some.injEq] at h
      subst h
      have a := ih _ _ (eAt_get hl1 hl2)
      have b := ih _ _ (eAt_get hr1 hr2)
      have ap := a.pos
      have bp := b.pos
      have ad := a.d
      have bd := b.d
      refine ⟨wOK_join a.w b.w hlen, ?_, ?_⟩
      · simp only [mkPair, wJoin]; omega
      · simp only [mkPair]; split <;> omega
  | @power L x k g hx1 hx2 hk hlen ih =>
    intro i e h
    rw [List.getElem?_append] at h
    split at h
    · exact ih i e h
    · have : i - L.length = 0 := by
        rcases Nat.eq_zero_or_pos (i - L.length) with h' | h'
        · exact h'
        · rw [List.getElem?_eq_none (by simp only [List.length_cons, List.length_nil]; omega)] at h; cases h
      rw [this] at h
      simp only [List.getElem?_cons_zero, Option.some.injEq] at h
      subst h
      have a := ih _ _ (eAt_get hx1 hx2)
      have ap := a.pos
      have ad := a.d
      have hm : 1 * 1 ≤ (eAt L x).2.1.1 * k := Int.mul_le_mul ap (by omega) (by decide) (by omega)
      refine ⟨wOK_rep a.w (by omega) hlen, ?_, ?_⟩
      · simp only [mkPower, wRep]
        rw [if_neg (by omega)]
        simp only; omega
      · simp only [mkPower]; omega
theorem Grow.at_ {L : List ET} (g : Grow L) {id : Int} (h1 : 0 ≤ id) (h2 : id ≤ L.length) : wOK (eAt L id).2.1 ∧ 0 ≤ (eAt L id).2.2.1 ∧ (eAt L id).2.2.1 ≤ L.length ∧ (1 ≤ id → 1 ≤ (eAt L id).2.1.1) := by
  by_cases h : id = 0
  · subst h
    refine ⟨?_, ?_, ?_, fun h => by omega⟩
    · simp only [eAt, if_true, eZero]; exact wOK_unit
    · simp [eAt, eZero]
    · simp [eAt, eZero]
  · have := g.ok _ _ (eAt_get (by omega) h2)
    have d := this.d
    exact ⟨this.w, d.1, by omega, fun _ => this.pos⟩

def idx (L : List ET) : List (RT × Int) := L.zipIdx.map fun p => (p.1.1, (p.2 : Int) + 1)
theorem idx_append (L : List ET) (e : ET) : idx (L ++ [e]) = idx L ++ [(e.1, (L.length : Int) + 1)] := by
  simp [idx, List.zipIdx_append]
def known (L : List ET) (id : Int) : Bool := decide (0 ≤ id ∧ id ≤ L.length)
abbrev lkR (L : List ET) (r : RT) : Option Int := lk (kt := yapi_Rule) (vt := .int .i64) (idx L) r
theorem lkR_pos {L : List ET} {r : RT} {i : Int} (h : lkR L r = some i) : 1 ≤ i ∧ i ≤ L.length := by
  unfold lkR lk at h
  cases hf : (idx L).find? (fun p => beqT yapi_Rule r p.1) with
  | none => rw [hf] at h; cases h
  | some p =>
    rw [hf] at h
    simp only [Option.map_some, Option.some.injEq] at h
    have hm := List.mem_of_find?_eq_some hf
    unfold idx at hm
    obtain ⟨q, hq, rfl⟩ := List.mem_map.1 hm
    obtain ⟨a, b⟩ := q
    have := (List.mem_zipIdx hq).2.1
    have h' : (b : Int) + 1 = i := h
    omega

/-- what a store answers, and the list after it -/
def pFind (L : List ET) (most : Int) (r : RT) : Int × Value := match lkR L r with
  | some i => (i, .nilIface)
  | none => if most ≤ L.length then (0, errV 3) else (0, .nilIface)
def pAdd (L : List ET) (most : Int) (e : ET) : List ET × (Int × Value) := match lkR L e.1 with
  | some i => (L, (i, .nilIface))
  | none => if most ≤ L.length then (L, (0, errV 3)) else (L ++ [e], ((L.length : Int) + 1, .nilIface))
def pLetter (L : List ET) (most b : Int) : List ET × (Int × Value) := pAdd L most (mkLetter b)
def pPair (L : List ET) (most l r : Int) : List ET × (Int × Value) :=
  if known L l = false ∨ known L r = false then (L, (0, errV 1)) else
  if l = 0 then (L, (r, .nilIface)) else
  if r = 0 then (L, (l, .nilIface)) else
  if 1152921504606846976 < (eAt L l).2.1.1 + (eAt L r).2.1.1 then (L, (0, errV 2)) else pAdd L most (mkPair L l r)
def pPower (L : List ET) (most x k : Int) : List ET × (Int × Value) :=
  if known L x = false ∨ k < 0 then (L, (0, errV 1)) else
  if k = 0 ∨ x = 0 then (L, (0, .nilIface)) else
  if k = 1 then (L, (x, .nilIface)) else
  if 1152921504606846976 < (eAt L x).2.1.1 * k then (L, (0, errV 2)) else pAdd L most (mkPower L x k)

/-! ### A store in memory -/
structure Sto (B : Nat → Prop) (w : World) (p : Addr) (most : Int) (L : List ET) : Prop where
  grow : Grow L
  most0 : 0 ≤ most ∧ most ≤ 1048576
  len : (L.length : Int) ≤ most
  mem : ∃ sl m, At w p [.int .i64 most, .slice sl.a sl.len sl.cap, .map (some m)] ∧ Wr w p 3 ∧ MapIs yapi_Rule (.int .i64) w m (idx L) ∧ Own yintern_entry w sl L ∧
    p.block ≠ m ∧ ¬ blk sl p.block ∧ ¬ blk sl m ∧ B p.block ∧ B m ∧ ∀ b, blk sl b → B b
  lt : ∀ b, B b → b < w.heap.size

theorem Sto.fr {B F : Nat → Prop} {w w' : World} {p : Addr} {most : Int} {L : List ET} (s : Sto B w p most L) (f : Fr F w w') (h : ∀ b, B b → ¬ F b) : Sto B w' p most L := by
  obtain ⟨sl, m, h1, h2, h3, h4, h5, h6, h7, h8, h9, h10⟩ := s.mem
  exact ⟨s.grow, s.most0, s.len, ⟨sl, m, h1.fr f (h _ h8), h2.fr f (h _ h8), h3.fr f (h _ h9), h4.fr f (fun b hb => h _ (h10 b hb)), h5, h6, h7, h8, h9, h10⟩, fun b hb => Nat.lt_of_lt_of_le (s.lt b hb) f.size⟩
theorem Sto.ext {B : Nat → Prop} {w w' : World} {p : Addr} {most : Int} {L : List ET} (s : Sto B w p most L) (f : Ext w w') : Sto B w' p most L := s.fr f fun _ _ h => h

/-! ### What the tables say of keys -/
noncomputable def mapElem (t : TypeId) : TypeId := match P.underlying t with
  | some (.map _ e) => e
  | _ => 0
theorem eqRule : eqOK P 2 t_api_Rule yapi_Rule = true := by kernel_rfl
theorem mapRule : P.underlying t_map_api_Rule_api_ID = some (.map t_api_Rule (mapElem t_map_api_Rule_api_ID)) := by kernel_rfl
theorem zeroRule : zeroOf P (mapElem t_map_api_Rule_api_ID) = some (val (.int .i64) (0 : Int)) := by kernel_rfl

/-! ### The functions -/
theorem base_Num_nil {K : Int → World → Prop} (h : K 0 w0) : C_base_Num .nilIface K w0 := by
  apply S_base_Num
  unfold F_base_Num
  exact nilIfc_nil (gd_t rfl h)
theorem base_Num_err {n : Int} {K : Int → World → Prop} (h : K n w0) : C_base_Num (errV n) K w0 := by
  apply S_base_Num
  unfold F_base_Num
  exact nilIfc_err (gd_f rfl (Or.inl ⟨n, rfl, gd_f rfl h⟩))
theorem base_Is_nil {n : Int} (hn : n ≠ 0) {K : Bool → World → Prop} (h : K false w0) : C_base_Is .nilIface n K w0 := by
  apply S_base_Is
  unfold F_base_Is
  exact base_Num_nil (gd_f (by simp; omega) h)
theorem base_Is_err {m n : Int} (hn : n ≠ 0) {K : Bool → World → Prop} (h : K (decide (m = n)) w0) : C_base_Is (errV m) n K w0 := by
  apply S_base_Is
  unfold F_base_Is
  refine base_Num_err (gd_eq (fun e => ?_) (fun e => ?_))
  · have : (n != 0) = decide (m = n) := by simp [e, hn]
    rw [this]; exact h
  · have : false = decide (m = n) := by simp [e]
    rw [this]; exact h

theorem intern_New_spec {most : Int} {K : Option Addr → World → Prop}
    (h : ∀ p w' B, Ext w0 w' → (∀ b, B b → w0.heap.size ≤ b) → Sto B w' p (if most < 0 then 0 else if 1048576 < most then 1048576 else most) [] → K (some p) w') : C_intern_New most K w0 := by
  apply S_intern_New
  unfold F_intern_New
  refine length_Clip_spec ?_
  have e1 := alloc_ext w0 (.map #[] 0)
  have n1 := alloc_new w0 (.map #[] 0)
  refine allocK_mk ?_
  refine (St.init (w0.alloc (.map #[] 0))).allocK fun b w s e hb => ?_
  have hsz : (w0.alloc (.map #[] 0)).heap.size = w0.heap.size + 1 := by simp
  obtain ⟨_, _, t, ht⟩ := s.loc _ (List.mem_cons_self ..)
  have hm : w.heap[w0.heap.size]? = some (.map #[] 0) := by
    rw [e.same _ (by rw [hsz]; omega) (fun h => h)]; exact n1
  refine h _ w (fun x => x = b ∨ x = w0.heap.size) (e1.trans e) (fun x hx => by omega) ⟨.nil, ?_, ?_, ⟨⟨none, 0, 0⟩, w0.heap.size, s.at_ (i := 0) rfl, wr_block ht, ⟨#[], 0, hm, by simp [idx]⟩, .none, ?_, ?_, ?_, Or.inl rfl, Or.inr rfl, ?_⟩, ?_⟩
  · split
    · omega
    · split <;> omega
  · simp only [List.length_nil]
    split
    · omega
    · split <;> omega
  · simp only; omega
  · rintro ⟨q, hq, _⟩; cases hq
  · rintro ⟨q, hq, _⟩; cases hq
  · rintro x ⟨q, hq, _⟩; cases hq
  · rintro x (rfl | rfl)
    · exact s.lt (List.mem_cons_self ..)
    · exact (Array.getElem?_eq_some_iff.1 hm).1

variable {B : Nat → Prop} {p : Addr} {most : Int} {L : List ET}

theorem intern_known_spec {id : Int} (st : Sto B w0 p most L) {K : Bool → World → Prop} (h : K (known L id) w0) : C_intern_Store_known (some p) id K w0 := by
  apply S_intern_Store_known
  unfold F_intern_Store_known
  obtain ⟨sl, m, h1, _, _, h4, _⟩ := st.mem
  have e := h4.view.len
  refine gd_dec (fun g => nonNil_some ⟨sl, h1.sub 1 rfl, ?_⟩) (fun g => ?_)
  · have : decide (id ≤ (sl.len : Int)) = known L id := by simp [known, g, e]
    rw [this]; exact h
  · have : false = known L id := by simp [known, g]
    rw [this]; exact h

theorem intern_at_spec {id : Int} (st : Sto B w0 p most L) (hk : known L id = true) {K : ET → World → Prop} (h : ∀ w', Ext w0 w' → K (eAt L id) w') : C_intern_Store_at (some p) id K w0 := by
  apply S_intern_Store_at
  unfold F_intern_Store_at
  have hk' := of_decide_eq_true hk
  obtain ⟨sl, m, h1, _, _, h4, _⟩ := st.mem
  refine (St.init w0).allocK fun b1 w1 s e1 _ => gd_eq (fun hi => weight_Unit_spec fun w2 e => (s.ext e).st0 0 rfl rfl rfl fun w3 s _ => s.ld0 (x := ((_, _, _, _, _), (_, _, _, _, _, _), _, _)) 0 rfl rfl ?_) (fun hi => nonNil_some ⟨sl, (h1.ext e1).sub 1 rfl, arith_i64 ?_ ?_ ?_⟩)
  · have := h w3 s.fr
    unfold eAt at this
    rw [if_pos hi] at this
    exact this
  · omega
  · have := st.most0; have := st.len; omega
  · have hx := eAt_get (L := L) (id := id) (by omega) hk'.2
    refine (h4.view.ext e1).idx (n := (id - 1).toNat) (by omega) hx rfl fun q hq => ⟨_, hq, s.st0 0 rfl (by rw [cells_length]; rfl) rfl fun w3 s _ => s.ld0 0 rfl rfl (h _ s.fr)⟩

theorem intern_find_spec {r : RT} (st : Sto B w0 p most L) {K : Int × Value → World → Prop} (h : ∀ w', Ext w0 w' → K (pFind L most r) w') : C_intern_Store_find (some p) r K w0 := by
  apply S_intern_Store_find
  unfold F_intern_Store_find
  obtain ⟨sl, m, h1, _, h3, h4, _⟩ := st.mem
  have hlen := h4.view.len
  refine (St.init w0).allocK fun b1 w1 s _ _ => s.drawK fun w2 s _ _ => nonNil_some ⟨some m, (h1.ext s.fr).sub 2 rfl, s.ld0 0 rfl rfl ?_⟩
  refine ⟨_, _, lk2_run (by decide) mapRule eqRule (by simp) zeroRule (h3.ext s.fr) r, ?_⟩
  unfold pFind lkR at h
  cases hl : lk (kt := yapi_Rule) (vt := .int .i64) (idx L) r with
  | some i =>
    rw [hl] at h
    exact gd_t rfl (h _ s.fr)
  | none =>
    rw [hl] at h
    refine gd_f rfl (s.drawK fun w3 s _ _ => nonNil_some ⟨sl, (h1.ext s.fr).sub 1 rfl, nonNil_some ⟨most, (h1.ext s.fr).sub 0 rfl, gd_dec (fun g => ?_) (fun g => ?_)⟩⟩)
    · have := h _ s.fr
      rw [if_pos (by omega)] at this
      exact this
    · have := h _ s.fr
      rw [if_neg (by omega)] at this
      exact this

end Go.Proofs.Ytddhndabnbckmaa
