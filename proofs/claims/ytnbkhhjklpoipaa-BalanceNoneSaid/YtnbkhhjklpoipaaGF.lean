/- Texts that belong together, joined: BalA, BalB, BalC, BalD, BalE, BalF, BalG, BalH, BalI, BalJ. No conditions. -/
import Derived.Lib.SlBytesConst
import Derived.Test.YtnbkhhjklpoipaaGB
import Derived.Test.YtnbkhhjklpoipaaGD
import Derived.Test.YtnbkhhjklpoipaaGE
/- law15: texts of letters as balanced halves; the bounds Bound and Log. -/
set_option linter.unusedVariables false
set_option linter.unusedSimpArgs false
namespace Go.Proofs.Ytnbkhhjklpoipaa
open Go.Den

variable {w0 w : World} {Ω : List Ob} {most : Int} {T : List ET} {i j : Nat} {p : Addr}

/-! ### How deep the halves are -/
def lg (n : Nat) : Nat := if h : n ≤ 1 then 0 else 1 + lg ((n + 1) / 2)
termination_by n
decreasing_by omega
theorem lg_one {n : Nat} (h : n ≤ 1) : lg n = 0 := by rw [lg, dif_pos h]
theorem lg_two {n : Nat} (h : 2 ≤ n) : lg n = 1 + lg ((n + 1) / 2) := by rw [lg, dif_neg (by omega)]
theorem lg_succ (n : Nat) : lg n ≤ lg (n + 1) ∧ (1 ≤ n → lg (n + 1) ≤ lg n + 1) := by
  induction n using Nat.strongRecOn with
  | ind n ih =>
    by_cases c : n ≤ 1
    · rw [lg_one c]
      refine ⟨Nat.zero_le _, fun h => ?_⟩
      have : n = 1 := by omega
      subst this
      rw [lg_two (by omega), lg_one (by omega)]
      decide
    · rw [lg_two (n := n) (by omega), lg_two (n := n + 1) (by omega)]
      have h := ih ((n + 1) / 2) (by omega)
      by_cases e : (n + 1 + 1) / 2 = (n + 1) / 2
      · rw [e]; omega
      · have e2 : (n + 1 + 1) / 2 = (n + 1) / 2 + 1 := by omega
        rw [e2]
        have := h.2 (by omega)
        omega
theorem lg_half {n : Nat} (h : 2 ≤ n) : lg n = 1 + max (lg (n / 2)) (lg (n - n / 2)) ∧ lg (n / 2) ≤ lg (n - n / 2) + 1 ∧ lg (n - n / 2) ≤ lg (n / 2) + 1 := by
  have h1 := lg_succ (n / 2)
  rw [lg_two h]
  by_cases e : n - n / 2 = n / 2
  · rw [show (n + 1) / 2 = n / 2 by omega, e]; omega
  · have e2 : n - n / 2 = n / 2 + 1 := by omega
    rw [show (n + 1) / 2 = n / 2 + 1 by omega, e2]
    have := h1.2 (by omega)
    omega

/-! ### text -/
theorem balance_text_sp : ∀ (n : Nat) {xs : List Int} {sl : Sl} {w0 w : World} {Ω : List Ob} {T : List ET}, xs.length = n → 1 ≤ n → n ≤ 65536 → (∀ c ∈ xs, 0 ≤ c ∧ c < 256) → Sp w0 Ω w → ∀ (i : Nat), Ω[i]? = some (sto p most T) →
    (∀ w' T', Sp w0 (Ω.set i (sto p most T')) w' → View (.int .u8) w' sl xs) → sl.len ≤ sl.cap → ∀ {K : Int × Value → World → Prop},
    (∀ T' x w', Res T most (2 * n - 1) (fun T' x => Nd T' x xs (lg n)) T' x → Sp w0 (Ω.set i (sto p most T')) w' → K x w') → C_balance_text (some p) sl K w := by
  intro n
  induction n using Nat.strongRecOn with
  | ind n ih =>
    intro xs sl w0 w Ω T hn h1 h2 hb s i hi hv hc K h
    obtain ⟨_, _, _, hb0, hb1, hb2, hg⟩ := Sp.entry s i hi
    have s0 : Sp w0 (Ω.set i (sto p most T)) w := by rw [setSame hi]; exact s
    have hl := (hv _ T s0).len
    apply S_balance_text
    unfold F_balance_text
    refine gd_eq (fun c => ?_) (fun c => ?_)
    · have e1 : n = 1 := by omega
      subst e1
      obtain ⟨x, rfl⟩ : ∃ x, xs = [x] := by
        match xs, hn with
        | [x], _ => exact ⟨x, rfl⟩
      refine (hv _ T s0).idx (n := 0) rfl rfl rfl fun q hq => ⟨x, hq, letter_nd s i hi (hb x (by simp)) fun T' r w' hr s => h T' r w' (hr.mono (by omega) fun y hy => ?_) s⟩
      rw [lg_one (Nat.le_refl _)]
      exact hy
    · have hn2 : 2 ≤ n := by omega
      have hq : Int.tdiv (sl.len : Int) 2 = ((n / 2 : Nat) : Int) := by rw [Int.tdiv_eq_ediv_of_nonneg (by omega)]; omega
      refine ⟨by decide, arith_i64 (by omega) (by omega) ?_⟩
      rw [hq]
      have lgn := lg_half hn2
      refine View.part (ty := .int .u8) (xs := xs) (l := 0) (h := n / 2) hl (Or.inl ⟨rfl, rfl⟩) (Or.inr rfl) (by omega) (by omega) hc fun s5 v5 c5 => ?_
      rw [List.drop_zero] at v5
      refine ih (n / 2) (by omega) (xs := xs.take (n / 2)) (by rw [List.length_take]; omega) (by omega) (by omega) (fun c hc => hb c (List.mem_of_mem_take hc)) s i hi (fun w' T' s => v5 _ (hv _ _ s)) c5 fun T1 x1 w1 r1 s => ?_
      rcases r1.out with ⟨e1, n1⟩ | ⟨rfl, hf⟩
      rotate_left
      · exact nilIfc_err (gd_t rfl (h T1 _ w1 (by have := r1.fail (Q2 := fun T' x => Nd T' x xs (lg n)) (N2 := 2 * (n - n / 2) - 1 + 1) hf; rwa [show 2 * (n / 2) - 1 + (2 * (n - n / 2) - 1 + 1) = 2 * n - 1 by omega] at this) s))
      obtain ⟨x1, v1⟩ := x1
      dsimp only at e1 n1 ⊢
      subst e1
      refine nilIfc_nil (gd_f rfl ⟨by decide, arith_i64 (by omega) (by omega) ?_⟩)
      refine View.part (ty := .int .u8) (xs := xs) (l := n / 2) (h := n) hl (Or.inr rfl) (Or.inl ⟨rfl, hn.symm⟩) (by omega) (by omega) hc fun s9 v9 c9 => ?_
      rw [← hn, List.take_length, hn] at v9
      refine ih (n - n / 2) (by omega) (xs := xs.drop (n / 2)) (by rw [List.length_drop]; omega) (by omega) (by omega) (fun c hc => hb c (List.mem_of_mem_drop hc)) s i (setGet hi) (fun w' T' s => v9 _ (hv _ T' (by rwa [List.set_set] at s))) c9 fun T2 x2 w2 r2 s => ?_
      rw [List.set_set] at s
      have r12 := r1.andThen r2
      rcases r2.out with ⟨e2, n2⟩ | ⟨rfl, hf⟩
      rotate_left
      · rcases r12.out with ⟨e, _⟩ | ⟨_, hf'⟩
        · cases e
        exact nilIfc_err (gd_t rfl (h T2 _ w2 (by have := r12.fail (Q2 := fun T' x => Nd T' x xs (lg n)) (N2 := 1) hf'; rwa [show 2 * (n / 2) - 1 + (2 * (n - n / 2) - 1) + 1 = 2 * n - 1 by omega] at this) s))
      obtain ⟨x2, v2⟩ := x2
      dsimp only at e2 n2 ⊢
      subst e2
      refine nilIfc_nil (gd_f rfl ?_)
      refine pair_nd s i (setGet hi) (n1.ext r2.ext) n2 (by omega) (by omega) (by rw [List.length_take, List.length_drop]; omega) fun T3 x3 w3 r3 s => ?_
      rw [List.set_set] at s
      refine h T3 _ w3 ?_ s
      have r123 := r12.andThen r3
      rw [show 2 * (n / 2) - 1 + (2 * (n - n / 2) - 1) + 1 = 2 * n - 1 by omega] at r123
      refine r123.mono (Nat.le_refl _) fun y hy => ?_
      rw [List.take_append_drop] at hy
      rw [lgn.1, show ((1 + max (lg (n / 2)) (lg (n - n / 2)) : Nat) : Int) = 1 + max (lg (n / 2) : Int) (lg (n - n / 2) : Int) by omega]
      exact hy

/-- what Text returns -/
def TextQ (xs : List Int) : List ET → Int → Prop := fun T' x => ∃ d, Nd0 T' x xs d
theorem balance_Text_sp {xs : List Int} {sl : Sl} (hn : xs.length ≤ 65536) (hb : ∀ c ∈ xs, 0 ≤ c ∧ c < 256) (s : Sp w0 Ω w) (i : Nat) (hi : Ω[i]? = some (sto p most T))
    (hv : ∀ w' T', Sp w0 (Ω.set i (sto p most T')) w' → View (.int .u8) w' sl xs) (hc : sl.len ≤ sl.cap) {K : Int × Value → World → Prop}
    (h : ∀ T' x w', Res T most (2 * xs.length) (TextQ xs) T' x → Sp w0 (Ω.set i (sto p most T')) w' → K x w') : C_balance_Text (some p) sl K w := by
  apply S_balance_Text
  unfold F_balance_Text
  obtain ⟨_, _, _, hb0, hb1, hb2, hg⟩ := Sp.entry s i hi
  have s0 : Sp w0 (Ω.set i (sto p most T)) w := by rw [setSame hi]; exact s
  have hl := (hv _ T s0).len
  refine gd_f rfl (gd_f (decide_eq_false (by omega)) (gd_eq (fun c => ?_) (fun c => ?_)))
  · have : xs = [] := List.eq_nil_of_length_eq_zero (by omega)
    subst this
    exact h T _ w (.same hg hb2 ⟨0, Nd0.zero⟩) s0
  · exact balance_text_sp xs.length rfl (by omega) hn hb s i hi hv hc fun T' x w' r s => h T' x w' (r.mono (by omega) fun y hy => ⟨_, hy.nd0⟩) s
theorem balance_Text_large {sl : Sl} (hn : 65536 < (sl.len : Int)) {K : Int × Value → World → Prop} (h : K (0, errV 9) w) : C_balance_Text (some p) sl K w := by
  apply S_balance_Text
  unfold F_balance_Text
  exact gd_f rfl (gd_t (decide_eq_true hn) h)
theorem balance_Text_nil {sl : Sl} {K : Int × Value → World → Prop} (h : K (0, errV 5) w) : C_balance_Text none sl K w := by
  apply S_balance_Text
  unfold F_balance_Text
  exact gd_t rfl h

/-! ### Bounds -/
theorem ref15_Bound_spec {n : Int} (hn : 0 ≤ n ∧ n ≤ 1152921504606846976) {K : Int → World → Prop} (h : ∀ d : Nat, IsBound n d → K (d : Int) w) : C_ref15_Bound n K w := by
  apply S_ref15_Bound
  unfold F_ref15_Bound
  refine ⟨fun x w' => ∃ j : Nat, x.1 = fibL j ∧ x.2.1 = fibL (j + 1) ∧ x.2.2.1 = j ∧ (j = 0 ∨ (fibL j : Int) ≤ n) ∧ j ≤ 86 ∧ w' = w, fun x _ => (100 - x.2.2.1).toNat, ⟨0, rfl, rfl, rfl, Or.inl rfl, by decide, rfl⟩, ?_⟩
  rintro ⟨a, b, x, _⟩ w1 ⟨j, rfl, rfl, rfl, hj, h86, rfl⟩ _
  dsimp only
  refine gd_dec (fun c => ?_) (fun c => h j ⟨hj, by omega, h86⟩)
  have hs := fibL_small (j := j + 1) (by omega)
  have f1 := fibL_le (m := j) (n := 88) (by omega)
  have f3 := fibL_le (m := j + 1) (n := 88) (by omega)
  have f2 := fibL_88
  refine arith_i64 (by omega) (by omega) (arith_i64 (by omega) (by omega) ⟨⟨j + 1, rfl, by rw [fibL_step]; rfl, rfl, Or.inr c, hs, rfl⟩, by omega⟩)
def log2 (n : Nat) : Nat := if h : n ≤ 1 then 0 else 1 + log2 (n / 2)
termination_by n
decreasing_by omega
theorem log2_small {n : Nat} (h : n ≤ 1) : log2 n = 0 := by rw [log2, dif_pos h]
theorem log2_step {n : Nat} (h : 2 ≤ n) : log2 n = 1 + log2 (n / 2) := by rw [log2, dif_neg (by omega)]
theorem log2_lt : ∀ (m n : Nat), n < 2 ^ m → log2 n ≤ m := by
  intro m
  induction m with
  | zero => intro n h; rw [log2_small (by omega)]; exact Nat.zero_le _
  | succ m ih =>
    intro n h
    by_cases c : n ≤ 1
    · rw [log2_small c]; exact Nat.zero_le _
    · rw [log2_step (by omega)]
      have := ih (n / 2) (by rw [Nat.pow_succ] at h; omega)
      omega
theorem ref15_Log_spec {n : Int} (hn : n ≤ 9223372036854775807) {K : Int → World → Prop} (h : K (log2 n.toNat : Int) w) : C_ref15_Log n K w := by
  apply S_ref15_Log
  unfold F_ref15_Log
  have hb := log2_lt 63 n.toNat (by omega)
  refine ⟨fun x w' => x.1 ≤ n ∧ 0 ≤ x.2.1 ∧ x.2.1 + log2 x.1.toNat = log2 n.toNat ∧ w' = w, fun x _ => x.1.toNat, ⟨Int.le_refl _, Int.le_refl _, by dsimp only; omega, rfl⟩, ?_⟩
  rintro ⟨a, b, _⟩ w1 ⟨ha, hb0, he, rfl⟩ _
  dsimp only at ha hb0 he ⊢
  refine gd_dec (fun c => ?_) (fun c => ?_)
  · rw [log2_step (n := a.toNat) (by omega)] at he
    have hq : Int.tdiv a 2 = a / 2 := Int.tdiv_eq_ediv_of_nonneg (by omega)
    have hq2 : (a / 2).toNat = a.toNat / 2 := by omega
    refine ⟨by decide, arith_i64 (by rw [hq]; omega) (by rw [hq]; omega) (arith_i64 (by omega) (by omega) ⟨⟨by rw [hq]; omega, by omega, ?_, rfl⟩, by rw [hq]; omega⟩)⟩
    rw [hq, hq2]
    omega
  · rw [log2_small (n := a.toNat) (by omega)] at he
    rw [show b = (log2 n.toNat : Int) by omega]
    exact h

end Go.Proofs.Ytnbkhhjklpoipaa

/- law15: what the specification writes out of a list of rules (evergreenref12): Expand, derive, Text. -/
set_option linter.unusedVariables false
set_option linter.unusedSimpArgs false
namespace Go.Proofs.Ytnbkhhjklpoipaa
open Go.Den

variable {w0 w : World} {Ω : List Ob} {most : Int} {T : List ET} {ids : List Int} {i j : Nat} {p : Addr} {m : yevergreenref12_Store.T}

theorem ref12_derive_spec {sl : Sl} (g : Grow T) (hN : T.length ≤ 1048576) (hc : Closed T ids) : ∀ (k : Nat) {y : Int} {w0 w : World} {Ω : List Ob}, ids[k]? = some y → (txt T y).length ≤ 1000000 → Sp w0 Ω w → (∀ w', Sp w0 Ω w' → View yapi_Rule w' sl (exp T ids)) → ∀ {K : Sl → World → Prop}, (∀ s' w', Sp w0 (own (.int .u8) s' (txt T y) :: Ω) w' → K s' w') → C_ref12_derive sl ((k : Int) + 1) K w := by
  intro k
  induction k using Nat.strongRecOn with
  | ind k ih =>
  intro y w0 w Ω hk hty s hv K h
  have hil := ids_len g hc
  have hk' : k < ids.length := (List.getElem?_eq_some_iff.1 hk).1
  apply S_ref12_derive
  unfold F_ref12_derive
  refine arith_i64 (by omega) (by omega) ((hv _ s).idx (n := k) (by omega) (exp_get hk) rfl fun q hq => ⟨_, hq, s.allocK fun a4 w1 s => s.st0 0 rfl rfl rfl fun w2 s => s.ldi (x := (mvr ids (eAt T y).1).1) 0 0 rfl rfl ?_⟩)
  cases gr_of g hc hk with
  | letter b h1 h2 e hl ht =>
    rw [ht] at h
    refine gd_t (by rw [e]; rfl) (s.ldi (x := b) 0 1 rfl (by rw [e]; rfl) (s.allocK fun a7 w3 s => h _ _ ((s.lit (ty := .int .u8) 0 rfl [b] 1 rfl rfl).pick [0] 2 rfl (by decide))))
  | pair l r jl jr h1 h2 hl hr e hlen' hle ht =>
    rw [ht, List.length_append] at hty
    refine gd_f (by rw [e]; rfl) (s.allocK fun a8 w4 s => ?_)
    have s := s.lit (ty := .int .u8) 0 rfl [] 0 rfl rfl
    refine s.ldi (x := (jl : Int) + 1) 1 2 rfl (by rw [e]; rfl) ?_
    refine ih jl h1 hl (by omega) s (fun w' s => hv _ (s.drop 2)) fun s1 w5 s => s.app 1 rfl (s.view 0 rfl) (by simp only [List.length_nil]; omega) fun s11 w6 s => s.ldi (x := 2) 2 0 rfl (by rw [e]; rfl) (gd_t rfl (s.ldi (x := (jr : Int) + 1) 2 3 rfl (by rw [e]; rfl) ?_))
    refine ih jr h2 hr (by omega) s (fun w' s => hv _ (s.drop 3)) fun s2 w7 s => ?_
    refine s.app 2 rfl (s.view 0 rfl) (by rw [List.nil_append]; omega) fun s3 w8 s => h s3 _ ?_
    rw [ht]
    exact s.pick [2] 4 rfl (by decide)
  | power x m j h1 hx h2 e hlen' hle ht =>
    rw [ht, flat_rep_len] at hty
    have hxl : 1 ≤ (txt T x).length := by
      have hb := hc.bound _ (List.mem_of_getElem? hx)
      have := g.len (id := x) (by omega) hb.2
      have := (g.at_ (id := x) (by omega) hb.2).2.2.2 hb.1
      omega
    have hm : m.toNat ≤ m.toNat * (txt T x).length := Nat.le_mul_of_pos_right _ hxl
    have hx1 : (txt T x).length ≤ m.toNat * (txt T x).length := Nat.le_mul_of_pos_left _ (by omega)
    refine gd_f (by rw [e]; rfl) (s.allocK fun a8 w4 s => ?_)
    have s := s.lit (ty := .int .u8) 0 rfl [] 0 rfl rfl
    refine s.ldi (x := (j : Int) + 1) 1 2 rfl (by rw [e]; rfl) ?_
    refine ih j h1 hx (by omega) s (fun w' s => hv _ (s.drop 2)) fun s1 w5 s => s.app 1 rfl (s.view 0 rfl) (by simp only [List.length_nil]; omega) fun s11 w6 s => s.ldi (x := 3) 2 0 rfl (by rw [e]; rfl) (gd_f rfl (s.allocK fun a16 w7 s => ?_))
    have s := s.lit (ty := .int .u8) 0 rfl [] 0 rfl rfl
    rw [List.nil_append] at s
    refine s.app 0 rfl (s.view 2 rfl) (by simp only [List.length_nil]; omega) fun s17 w8 s => ?_
    rw [List.nil_append] at s
    have s := s.pick [2, 0, 3] 4 rfl (by decide)
    rw [ht] at h
    refine loop_from 1 (fun x => x.2.1) (m.toNat - 1) (fun n x' w => Sp w0 (own (.int .u8) x'.1 (List.replicate (n + 1) (txt T x)).flatten :: own (.int .u8) s17 (txt T x) :: cel a4 (cells yapi_Rule (mvr ids (eAt T y).1)) :: Ω) w) rfl ?_ ?_
    · have : (List.replicate (0 + 1) (txt T x)).flatten = txt T x := by simp
      rw [this]
      exact s
    clear s
    rintro n ⟨out, z, _⟩ w9 hn hz s _
    dsimp only at hz s ⊢
    subst hz
    refine s.ldi (x := m) 2 4 rfl (by rw [e]; rfl) (gd_dec (fun hlt => ?_) (fun hge => ?_))
    · have hn' : n < m.toNat - 1 := by omega
      have hnl : (n + 1) * (txt T x).length ≤ m.toNat * (txt T x).length := Nat.mul_le_mul_right _ (by omega)
      refine s.app 0 rfl (s.view 1 rfl) (by rw [flat_rep_len]; omega) fun s3 w7 s => arith_i64 (by omega) (by omega) (loop_fx hn' ?_)
      rw [flat_rep_succ (n + 1)]
      exact s
    · have e2 : n + 1 = m.toNat := by omega
      rw [e2] at s
      exact h _ _ (s.pick [0] 3 rfl (by decide))

/-! ### Expand -/
theorem gr_refs {k : Nat} {y z : Int} (hg : GR T ids k y) (hz : z ∈ refs (mvr ids (eAt T y).1)) : 1 ≤ z ∧ z ≤ k := by
  cases hg with
  | letter b h1 h2 e hl ht => rw [e] at hz; simp [refs] at hz
  | pair l r jl jr h1 h2 hl hr e hlen' hle ht => rw [e] at hz; simp [refs] at hz; omega
  | power x m j h1 hx h2 e hlen' hle ht => rw [e] at hz; simp [refs] at hz; omega
def LC (T : List ET) (ids : List Int) (M : Int) (n : Nat) (inl : List (Ty.int .i64).T) : Prop := inl.length = ids.length + 1 ∧ ∀ (j : Nat) (y : Int), j < n → ids[j]? = some y → inl[j + 1]? = some (min (eAt T y).2.1.1 M)
theorem LC.put {M v : Int} {n : Nat} {inl : List (Ty.int .i64).T} {y : Int} (l : LC T ids M n inl) (hk : ids[n]? = some y) (hv : v = min (eAt T y).2.1.1 M) : LC T ids M (n + 1) (inl.set (n + 1) v) := by
  have hn := (List.getElem?_eq_some_iff.1 hk).1
  have hl := l.1
  refine ⟨by rw [List.length_set]; exact hl, fun j z hj hz => ?_⟩
  by_cases c : j = n
  · subst c
    rw [hk] at hz
    cases hz
    rw [List.getElem?_set, if_pos rfl, if_pos (by omega), hv]
  · rw [List.getElem?_set, if_neg (by omega)]
    exact l.2 j z (by omega) hz
theorem ref12_Expand_spec {sl : Sl} {k : Nat} {y : Int} (g : Grow T) (hN : T.length ≤ 1048576) (hc : Closed T ids) (hk : ids[k]? = some y) (hlast : ids.length = k + 1) {most : Int} (hm : 0 ≤ most ∧ most ≤ 1000000) (s : Sp w0 Ω w) (hv : ∀ w', Sp w0 Ω w' → View yapi_Rule w' sl (exp T ids)) {K : Sl × Bool → World → Prop}
    (h : ((txt T y).length : Int) ≤ most → ∀ s' w', Sp w0 (own (.int .u8) s' (txt T y) :: Ω) w' → K (s', true) w') (hbad : most < ((txt T y).length : Int) → ∀ w', Sp w0 Ω w' → K (⟨none, 0, 0⟩, false) w') : C_ref12_Expand sl most K w := by
  apply S_ref12_Expand
  unfold F_ref12_Expand
  have hlen := (hv _ s).len
  rw [exp_len] at hlen
  have hil := ids_len g hc
  have hNt : ((sl.len : Int) + 1).toNat = ids.length + 1 := by omega
  refine gd_f (by simp; omega) (arith_i64 (by omega) (by omega) ⟨by omega, by omega, by omega, by omega, s.mkS (.int .i64) (0 : Int) (ids.length + 1) (ids.length + 1) (Nat.le_refl _) (fun a2 w1 s => ?_) rfl (by rw [hNt]; rfl)⟩)
  rw [hNt]
  have wl : ∀ {j : Nat} {z : Int}, ids[j]? = some z → 1 ≤ (eAt T z).2.1.1 ∧ (eAt T z).2.1.1 ≤ 1152921504606846976 ∧ (eAt T z).2.1.1 = (txt T z).length := fun hz => by
    have hb := hc.bound _ (List.mem_of_getElem? hz)
    have ha := g.at_ (show 0 ≤ _ by omega) hb.2
    exact ⟨ha.2.2.2 hb.1, ha.1.len.2, g.len (by omega) hb.2⟩
  refine loop_by (fun x => x.1) ids.length (fun n x w => ∃ inl, LC T ids (most + 1) n inl ∧ Sp w0 (own (.int .i64) ⟨some ⟨a2, 0, none⟩, ids.length + 1, ids.length + 1⟩ inl :: Ω) w) rfl ⟨_, ⟨by simp, fun j y hj => by omega⟩, s⟩ ?_
  clear s
  rintro n ⟨x, _⟩ w2 hn hx ⟨inl, lc, s⟩ _
  dsimp only at hx ⊢
  subst hx
  have hll := lc.1
  refine gd_dec (fun hlt => ?_) (fun hge => ?_)
  rotate_left
  · have e : n = ids.length := by omega
    have hg := lc.2 k y (by omega) hk
    have wy := wl hk
    refine (s.view 0 rfl).idx (n := k + 1) (by omega) hg rfl fun q hq => ⟨_, hq, gd_dec (fun c => hbad (by omega) _ s.pop) (fun c => ?_)⟩
    rw [show (sl.len : Int) = (k : Int) + 1 by omega]
    exact ref12_derive_spec g hN hc k hk (by omega) s.pop hv fun s' w' s => h (by omega) s' w' s
  have hn' : n < ids.length := by omega
  have hg : ids[n]? = some ids[n] := List.getElem?_eq_getElem hn'
  generalize ids[n] = z at hg
  have hex := exp_get (T := T) hg
  have hgr := gr_of g hc hg
  have wz := wl hg
  refine (hv _ s.pop).idx rfl hex rfl fun q hq => ⟨_, hq, s.allocK fun a7 w3 s => s.st0 0 rfl rfl rfl fun w4 s => s.ld0 (ty := yapi_Rule) (x := mvr ids (eAt T z).1) 0 rfl rfl (ref12_Refs_spec s fun rl w5 s => ?_)⟩
  have hrl := refs_len (mvr ids (eAt T z).1)
  refine loop_by (fun x => x.1) (refs (mvr ids (eAt T z).1)).length (fun n _ w => Sp w0 (own (.int .i64) rl (refs (mvr ids (eAt T z).1)) :: cel a7 (cells yapi_Rule (mvr ids (eAt T z).1)) :: own (.int .i64) ⟨some ⟨a2, 0, none⟩, ids.length + 1, ids.length + 1⟩ inl :: Ω) w) rfl s ?_
  clear s
  rintro r ⟨x, _⟩ w6 hr hx s _
  dsimp only at hx ⊢
  subst hx
  have hrv := (s.view 0 rfl).len
  refine gd_dec (fun hlt2 => ?_) (fun hge2 => ?_)
  · have hr' : r < (refs (mvr ids (eAt T z).1)).length := by omega
    have hrg : (refs (mvr ids (eAt T z).1))[r]? = some (refs (mvr ids (eAt T z).1))[r] := List.getElem?_eq_getElem hr'
    have hrb := gr_refs hgr (List.getElem_mem hr')
    generalize (refs (mvr ids (eAt T z).1))[r] = u at hrg hrb
    refine JoinP.inl ((s.view 0 rfl).idx rfl hrg rfl fun q1 hq1 => ⟨u, hq1, gd_f (decide_eq_false (by omega)) ((s.view 0 rfl).idx rfl hrg rfl fun q2 hq2 => ⟨u, hq2, ?_⟩)⟩)
    intro _
    exact gd_f (decide_eq_false (by omega)) (arith_i64 (by omega) (by omega) (loop_nx hr' s))
  have s : Sp w0 (cel a7 (cells yapi_Rule (mvr ids (eAt T z).1)) :: own (.int .i64) ⟨some ⟨a2, 0, none⟩, ids.length + 1, ids.length + 1⟩ inl :: Ω) w6 := s.pop
  refine ⟨fun x w => (if most < x.1 then most + 1 else x.1) = min (eAt T z).2.1.1 (most + 1) ∧ Sp w0 (cel a7 (cells yapi_Rule (mvr ids (eAt T z).1)) :: own (.int .i64) ⟨some ⟨a2, 0, none⟩, ids.length + 1, ids.length + 1⟩ inl :: Ω) w, ?_, ?_⟩
  · cases hgr with
    | letter b h1 h2 e hl ht =>
      refine s.ldi (x := 1) 0 0 rfl (by rw [e]; rfl) (gd_f rfl (s.ldi (x := 1) 0 0 rfl (by rw [e]; rfl) (gd_f rfl (s.ldi (x := 1) 0 0 rfl (by rw [e]; rfl) (gd_f rfl ⟨?_, s⟩)))))
      dsimp only
      rw [hl]
      split <;> omega
    | pair l r jl jr h1 h2 hl hr e hlen' hle ht =>
      have bl := wl hl
      have br := wl hr
      refine s.ldi (x := 2) 0 0 rfl (by rw [e]; rfl) (gd_t rfl (s.drawK fun w7 s => s.ldi (x := (jl : Int) + 1) 0 2 rfl (by rw [e]; rfl) ((s.view 1 rfl).idx (n := jl + 1) (by omega) (lc.2 jl l h1 hl) rfl fun q1 hq1 => ⟨_, hq1, s.ldi (x := (jr : Int) + 1) 0 3 rfl (by rw [e]; rfl) ((s.view 1 rfl).idx (n := jr + 1) (by omega) (lc.2 jr r h2 hr) rfl fun q2 hq2 => ⟨_, hq2, arith_i64 (by omega) (by omega) ⟨?_, s⟩⟩)⟩)))
      dsimp only
      rw [hlen']
      split <;> omega
    | power x m j h1 hx h2 e hlen' hle ht =>
      have bx := wl hx
      have hmm : m ≤ 1152921504606846976 := by
        have : 1 * m ≤ (eAt T x).2.1.1 * m := Int.mul_le_mul_of_nonneg_right bx.1 (by omega)
        omega
      have hdiv : Int.tdiv most m = most / m := Int.tdiv_eq_ediv_of_nonneg hm.1
      have hd0 := Int.ediv_nonneg hm.1 (show 0 ≤ m by omega)
      have hd1 := Int.ediv_le_self m hm.1
      have hiff := Int.le_ediv_iff_mul_le (a := (eAt T x).2.1.1) (b := most) (show 0 < m by omega)
      refine s.ldi (x := 3) 0 0 rfl (by rw [e]; rfl) (gd_f rfl (s.ldi (x := 3) 0 0 rfl (by rw [e]; rfl) (gd_t rfl (s.ldi (x := m) 0 4 rfl (by rw [e]; rfl) (gd_f (decide_eq_false (by omega)) (arith_i64 (by omega) (by omega) (s.drawK fun w7 s => s.ldi (x := (j : Int) + 1) 0 2 rfl (by rw [e]; rfl) ((s.view 1 rfl).idx (n := j + 1) (by omega) (lc.2 j x h1 hx) rfl fun q1 hq1 => ⟨_, hq1, s.ldi (x := m) 0 4 rfl (by rw [e]; rfl) ⟨by omega, arith_i64 (by omega) (by omega) (gd_dec (fun c => ?_) (fun c => ⟨?_, s⟩))⟩⟩))))))))
      · rw [hdiv] at c
        have c2 : (eAt T x).2.1.1 ≤ most / m := by omega
        have c3 := hiff.1 c2
        have c4 : min (eAt T x).2.1.1 (most + 1) = (eAt T x).2.1.1 := by omega
        have hp : 0 ≤ (eAt T x).2.1.1 * m := Int.mul_nonneg (by omega) (by omega)
        refine s.drawK fun w8 s => s.ldi (x := (j : Int) + 1) 0 2 rfl (by rw [e]; rfl) ((s.view 1 rfl).idx (n := j + 1) (by omega) (lc.2 j x h1 hx) rfl fun q2 hq2 => ⟨_, hq2, s.ldi (x := m) 0 4 rfl (by rw [e]; rfl) ?_⟩)
        rw [c4]
        refine arith_i64 (by omega) (by omega) ⟨?_, s⟩
        dsimp only
        rw [hlen']
        split <;> omega
      · dsimp only
        rw [hdiv] at c
        have c3 : ¬ (eAt T x).2.1.1 * m ≤ most := fun hle => by
          have := hiff.2 hle
          omega
        rw [hlen', if_pos (by omega)]
        omega
  rintro ⟨v, _⟩ w9 ⟨hve, s⟩ _
  dsimp only at hve ⊢
  refine ⟨fun x w => x.1 = min (eAt T z).2.1.1 (most + 1) ∧ Sp w0 (cel a7 (cells yapi_Rule (mvr ids (eAt T z).1)) :: own (.int .i64) ⟨some ⟨a2, 0, none⟩, ids.length + 1, ids.length + 1⟩ inl :: Ω) w, gd_dec (fun c => arith_i64 (by omega) (by omega) ⟨by rw [if_pos c] at hve; exact hve, s⟩) (fun c => ⟨by rw [if_neg c] at hve; exact hve, s⟩), ?_⟩
  rintro ⟨v2, _⟩ w10 ⟨hv2, s⟩ _
  dsimp only at hv2 ⊢
  exact arith_i64 (by omega) (by omega) (s.setI 1 rfl (n := n + 1) (y := v2) (by omega) (by omega) fun w11 s => arith_i64 (by omega) (by omega) (loop_nx hn' ⟨_, lc.put hg hv2, s.pop⟩))

/-- of no rules -/
theorem ref12_Expand_zero {sl : Sl} {most : Int} (hl : sl.len = 0) {K : Sl × Bool → World → Prop} (h : K (⟨none, 0, 0⟩, true) w) : C_ref12_Expand sl most K w := by
  apply S_ref12_Expand
  unfold F_ref12_Expand
  exact gd_t (by rw [hl]; rfl) h
/-- of what is exported -/
theorem ref12_Expand_exp {sl : Sl} {id : Int} (g : Grow T) (hN : T.length ≤ 1048576) (hk : 0 ≤ id ∧ id ≤ T.length) {most : Int} (hm : 0 ≤ most ∧ most ≤ 1000000) (s : Sp w0 Ω w) (hv : ∀ w', Sp w0 Ω w' → View yapi_Rule w' sl (exp T (rlist T [id]))) {K : Sl × Bool → World → Prop}
    (h : ((txt T id).length : Int) ≤ most → ∀ s' w', Sp w0 (own (.int .u8) s' (txt T id) :: Ω) w' → K (s', true) w') (hbad : most < ((txt T id).length : Int) → ∀ w', Sp w0 Ω w' → K (⟨none, 0, 0⟩, false) w') : C_ref12_Expand sl most K w := by
  have hS : ∀ x ∈ [id], 0 ≤ x ∧ x ≤ (T.length : Int) := fun x hx => by simp at hx; subst hx; exact hk
  by_cases c : id = 0
  · subst c
    have hl := (hv _ s).len
    rw [rlist_zero] at hl
    refine ref12_Expand_zero hl (h (by simp [txt_zero]; omega) _ _ ?_)
    rw [txt_zero]
    exact s.nil _
  · obtain ⟨k, e1, e2⟩ := rlist_last g (id := id) (by omega) hk.2
    exact ref12_Expand_spec g hN (rlist_closed g hS) e2 e1 hm s hv h hbad
theorem upTo_closed (g : Grow T) {n : Nat} (h : n ≤ T.length) : Closed T (upTo n) :=
  ⟨upTo_sorted n, fun x hx => by have := upTo_mem.1 hx; omega, fun y hy x hx => by
    have hy' := upTo_mem.1 hy
    have := refs_in g hy'.1 (by omega) hx
    exact upTo_mem.2 (by omega)⟩
theorem upTo_len (n : Nat) : (upTo n).length = n := by simp [upTo]
theorem exp_upTo (g : Grow T) {n : Nat} (h : n ≤ T.length) : exp T (upTo n) = (rulesOf T).take n := by
  refine List.ext_getElem? fun i => ?_
  by_cases hi : i < n
  · rw [exp_get (upTo_get hi), List.getElem?_take_of_lt hi, rulesOf_get (by omega)]
    congr 1
    have key : pos (upTo n) (eAt T ((i : Int) + 1)).1.2.2.1 = (eAt T ((i : Int) + 1)).1.2.2.1 ∧ pos (upTo n) (eAt T ((i : Int) + 1)).1.2.2.2.1 = (eAt T ((i : Int) + 1)).1.2.2.2.1 := by
      cases g.txt (id := (i : Int) + 1) (by omega) (by omega) with
      | letter b _ _ e _ => rw [e]; exact ⟨upTo_pos (Int.le_refl 0) (Int.natCast_nonneg n), upTo_pos (Int.le_refl 0) (Int.natCast_nonneg n)⟩
      | pair l r _ _ _ _ _ e _ => rw [e]; exact ⟨upTo_pos (x := l) (by omega) (by omega), upTo_pos (x := r) (by omega) (by omega)⟩
      | power x k _ _ _ _ e _ => rw [e]; exact ⟨upTo_pos (x := x) (by omega) (by omega), upTo_pos (Int.le_refl 0) (Int.natCast_nonneg n)⟩
    unfold mvr
    rw [key.1, key.2]
  · rw [List.getElem?_eq_none (by rw [exp_len, upTo_len]; omega), List.getElem?_eq_none (by rw [List.length_take]; omega)]
/-- the rules up to an ID -/
theorem rf2_upTo {id : Int} (g : Grow T) (hN : T.length ≤ 1048576) (hk : 0 ≤ id ∧ id ≤ T.length) (s : Sp w0 Ω w) (j : Nat) (hj : Ω[j]? = some (rf2 m T)) {K : Sl → Prop} (h : ∀ s', (∀ w', Sp w0 Ω w' → View yapi_Rule w' s' (exp T (upTo id.toNat))) → K s') : slK 5 m.1.a m.1.len m.1.cap none (some id) K := by
  have hl := (Sp.rf2_ s j hj).1.len
  refine View.part (ty := yapi_Rule) (xs := rulesOf T) (l := 0) (h := id.toNat) hl (Or.inl ⟨rfl, rfl⟩) (Or.inr (by rw [Int.toNat_of_nonneg hk.1])) (by omega) (by rw [rulesOf_len]; omega) (Sp.rf2c s j hj) fun s' v' _ => h s' fun w' s => ?_
  have := v' w' (Sp.rf2_ s j hj).1
  rwa [List.drop_zero, ← exp_upTo g (by omega)] at this
theorem ref12_Text_spec {id : Int} (g : Grow T) (hN : T.length ≤ 1048576) (hk : 0 ≤ id ∧ id ≤ T.length) {most : Int} (hm : 0 ≤ most ∧ most ≤ 1000000) (s : Sp w0 Ω w) (j : Nat) (hj : Ω[j]? = some (rf2 m T)) {K : Sl × Bool → World → Prop}
    (h : ((txt T id).length : Int) ≤ most → ∀ s' w', Sp w0 (own (.int .u8) s' (txt T id) :: Ω) w' → K (s', true) w') (hbad : most < ((txt T id).length : Int) → ∀ w', Sp w0 Ω w' → K (⟨none, 0, 0⟩, false) w') : C_ref12_Text m id most K w := by
  apply S_ref12_Text
  unfold F_ref12_Text
  refine s.allocK fun a1 w1 s => s.lds (x := m.1) 0 0 rfl rfl (rf2_upTo g hN hk s (j + 1) hj fun s3 v3 => ?_)
  by_cases c : id = 0
  · subst c
    have hl := (v3 _ s).len
    refine ref12_Expand_zero hl (h (by simp [txt_zero]; omega) _ _ ?_)
    rw [txt_zero]
    exact s.pop.nil _
  · have hg : (upTo id.toNat)[id.toNat - 1]? = some id := by
      rw [upTo_get (by omega)]
      congr 1
      omega
    exact ref12_Expand_spec g hN (upTo_closed g (by omega)) hg (by rw [upTo_len]; omega) hm s v3 (fun hl s' w' s => h hl s' w' (s.pick [0] 2 rfl (by decide))) (fun hl w' s => hbad hl w' s.pop)

end Go.Proofs.Ytnbkhhjklpoipaa

/- law15: what the specification says is balanced; that a result fits; that it has these letters. -/
set_option linter.unusedVariables false
set_option linter.unusedSimpArgs false
namespace Go.Proofs.Ytnbkhhjklpoipaa
open Go.Den

variable {w0 w : World} {Ω : List Ob} {most : Int} {T : List ET} {ids : List Int} {i j : Nat} {p : Addr} {m : yevergreenref12_Store.T}

theorem base_Bytes_eq {a b : Sl} {xs : List (Ty.int .u8).T} (va : View (.int .u8) w a xs) (vb : View (.int .u8) w b xs) {K : Bool → World → Prop} (h : K true w) : C_base_Bytes a b K w := by
  apply S_base_Bytes
  unfold F_base_Bytes
  refine toStr va (toStr vb ?_)
  have : ((bstr xs).toList == (bstr xs).toList) = true := by simp
  rw [this]; exact h

abbrev dep (T : List ET) (y : Int) : Int := (eAt T y).2.2.1
abbrev evn (T : List ET) (y : Int) : Bool := (eAt T y).2.2.2
/-- a rule of an exported list, and how deep it is -/
inductive GB (T : List ET) (ids : List Int) (k : Nat) (y : Int) : Prop
  | letter (b : Int) : mvr ids (eAt T y).1 = (1, b, 0, 0, 0) → dep T y = 0 → evn T y = true → GB T ids k y
  | pair (l r : Int) (jl jr : Nat) : jl < k → jr < k → ids[jl]? = some l → ids[jr]? = some r → mvr ids (eAt T y).1 = (2, 0, (jl : Int) + 1, (jr : Int) + 1, 0) → dep T y = 1 + (if dep T l < dep T r then dep T r else dep T l) → evn T y = (evn T l && evn T r && decide (-1 ≤ dep T l - dep T r) && decide (dep T l - dep T r ≤ 1)) → GB T ids k y
  | power (x m : Int) (j : Nat) : j < k → ids[j]? = some x → 2 ≤ m → mvr ids (eAt T y).1 = (3, 0, (j : Int) + 1, 0, m) → dep T y = 1 + dep T x → evn T y = false → GB T ids k y
theorem gb_of (g : Grow T) (hc : Closed T ids) {k : Nat} {y : Int} (hk : ids[k]? = some y) : GB T ids k y := by
  have hyb := hc.bound y (List.mem_of_getElem? hk)
  have p0 := pos_zero hc
  cases g.txt hyb.1 hyb.2 with
  | letter b h1 h2 e ht => exact .letter b (by rw [e]; simp [mvr, mkLetter, p0]) (by unfold dep; rw [e]; rfl) (by unfold evn; rw [e]; rfl)
  | pair l r h1 h2 h3 h4 h5 e ht =>
    obtain ⟨j1, q1, q2, e1⟩ := hc.ref g hk (x := l) (by rw [e]; simp [refs, mkPair])
    obtain ⟨j2, q3, q4, e2⟩ := hc.ref g hk (x := r) (by rw [e]; simp [refs, mkPair])
    exact .pair l r j1 j2 q1 q3 q2 q4 (by rw [e]; simp [mvr, mkPair, e1, e2]) (by unfold dep; rw [e]; rfl) (by unfold evn dep; rw [e]; rfl)
  | power x m h1 h2 h3 h4 e ht =>
    obtain ⟨j1, q1, q2, e1⟩ := hc.ref g hk (x := x) (by rw [e]; simp [refs, mkPower])
    exact .power x m j1 q1 q2 h3 (by rw [e]; simp [mvr, mkPower, e1, p0]) (by unfold dep; rw [e]; rfl) (by unfold evn; rw [e]; rfl)

/-! ### A list of what holds of the rules so far -/
def LV {α : Type} (ids : List Int) (f : Int → α) (z : α) (n : Nat) (l : List α) : Prop := l.length = ids.length + 1 ∧ ∀ (j : Nat) (y : Int), ids[j]? = some y → l[j + 1]? = some (if j < n then f y else z)
theorem LV.put {α : Type} {f : Int → α} {z v : α} {n : Nat} {l : List α} {y : Int} (h : LV ids f z n l) (hk : ids[n]? = some y) (hv : v = f y) : LV ids f z (n + 1) (l.set (n + 1) v) := by
  have hn := (List.getElem?_eq_some_iff.1 hk).1
  have hl := h.1
  refine ⟨by rw [List.length_set]; exact hl, fun j u hu => ?_⟩
  by_cases c : j = n
  · subst c
    rw [hk] at hu
    cases hu
    rw [List.getElem?_set, if_pos rfl, if_pos (by omega), if_pos (by omega), hv]
  · rw [List.getElem?_set, if_neg (by omega), h.2 j u hu]
    congr 1
    by_cases c2 : j < n
    · rw [if_pos c2, if_pos (by omega)]
    · rw [if_neg c2, if_neg (by omega)]
theorem LV.skip {α : Type} {f : Int → α} {z : α} {n : Nat} {l : List α} {y : Int} (h : LV ids f z n l) (hk : ids[n]? = some y) (hv : f y = z) : LV ids f z (n + 1) l := by
  refine ⟨h.1, fun j u hu => ?_⟩
  rw [h.2 j u hu]
  congr 1
  by_cases c : j = n
  · subst c
    rw [hk] at hu
    cases hu
    rw [if_neg (by omega), if_pos (by omega), hv]
  · by_cases c2 : j < n
    · rw [if_pos c2, if_pos (by omega)]
    · rw [if_neg c2, if_neg (by omega)]
theorem LV.at_ {α : Type} {f : Int → α} {z : α} {n j : Nat} {l : List α} {y : Int} (h : LV ids f z n l) (hk : ids[j]? = some y) (hj : j < n) : l[j + 1]? = some (f y) := by
  rw [h.2 j y hk, if_pos hj]

theorem ref15_Balanced_spec {sl : Sl} {k : Nat} {y : Int} (g : Grow T) (hN : T.length ≤ 1048576) (hc : Closed T ids) (hk : ids[k]? = some y) (hlast : ids.length = k + 1) (s : Sp w0 Ω w) (hv : ∀ w', Sp w0 Ω w' → View yapi_Rule w' sl (exp T ids)) {K : Bool → World → Prop}
    (h : ∀ w', Sp w0 Ω w' → K (evn T y) w') : C_ref15_Balanced sl K w := by
  apply S_ref15_Balanced
  unfold F_ref15_Balanced
  have hlen := (hv _ s).len
  rw [exp_len] at hlen
  have hil := ids_len g hc
  have hNt : ((sl.len : Int) + 1).toNat = ids.length + 1 := by omega
  refine arith_i64 (by omega) (by omega) ⟨by omega, by omega, by omega, by omega, s.mkS (.int .i64) (0 : Int) (ids.length + 1) (ids.length + 1) (Nat.le_refl _) (fun a2 w1 s => ?_) rfl (by rw [hNt]; rfl)⟩
  refine arith_i64 (by omega) (by omega) ⟨by omega, by omega, by omega, by omega, s.mkS .bool false (ids.length + 1) (ids.length + 1) (Nat.le_refl _) (fun a4 w2 s => ?_) rfl (by rw [hNt]; rfl)⟩
  rw [hNt]
  refine s.setI 0 rfl (n := 0) (y := true) rfl (by simp) fun w3 s => ?_
  have dl : ∀ {j : Nat} {z : Int}, ids[j]? = some z → 0 ≤ dep T z ∧ dep T z ≤ T.length := fun hz => by
    have hb := hc.bound _ (List.mem_of_getElem? hz)
    have ha := g.at_ (show 0 ≤ _ by omega) hb.2
    exact ⟨ha.2.1, ha.2.2.1⟩
  refine loop_by (fun x => x.1) ids.length (fun n x w => ∃ (hB : List Ty.bool.T) (hD : List (Ty.int .i64).T), LV ids (evn T) false n hB ∧ LV ids (dep T) 0 n hD ∧ Sp w0 (own .bool ⟨some ⟨a4, 0, none⟩, ids.length + 1, ids.length + 1⟩ hB :: own (.int .i64) ⟨some ⟨a2, 0, none⟩, ids.length + 1, ids.length + 1⟩ hD :: Ω) w) rfl
    ⟨_, _, ⟨by simp, fun j y hj => ?_⟩, ⟨by simp, fun j y hj => ?_⟩, s⟩ ?_
  · have := (List.getElem?_eq_some_iff.1 hj).1
    rw [List.getElem?_set, if_neg (by omega), List.getElem?_replicate, if_pos (by omega), if_neg (by omega)]
  · have := (List.getElem?_eq_some_iff.1 hj).1
    rw [List.getElem?_replicate, if_pos (by omega), if_neg (by omega)]
  clear s
  rintro n ⟨x, _⟩ w4 hn hx ⟨hB, hD, lb, ld, s⟩ _
  dsimp only at hx ⊢
  subst hx
  have hbl := lb.1
  have hdl := ld.1
  refine gd_dec (fun hlt => ?_) (fun hge => ?_)
  rotate_left
  · have e : n = ids.length := by omega
    have hg := lb.at_ hk (show k < n by omega)
    exact (s.view 0 rfl).idx (n := k + 1) (by omega) hg rfl fun q hq => ⟨_, hq, h _ (s.drop 2)⟩
  have hn' : n < ids.length := by omega
  have hg : ids[n]? = some ids[n] := List.getElem?_eq_getElem hn'
  generalize ids[n] = z at hg
  have hex := exp_get (T := T) hg
  have bz := dl hg
  refine ⟨fun _ w => ∃ (hB : List Ty.bool.T) (hD : List (Ty.int .i64).T), LV ids (evn T) false (n + 1) hB ∧ LV ids (dep T) 0 (n + 1) hD ∧ Sp w0 (own .bool ⟨some ⟨a4, 0, none⟩, ids.length + 1, ids.length + 1⟩ hB :: own (.int .i64) ⟨some ⟨a2, 0, none⟩, ids.length + 1, ids.length + 1⟩ hD :: Ω) w, ?_, ?_⟩
  · refine (hv _ (s.drop 2)).idx rfl hex rfl fun q hq => ⟨_, hq, s.allocK fun a12 w6 s => s.st0 0 rfl rfl rfl fun w7 s => s.ldi (x := (mvr ids (eAt T z).1).1) 0 0 rfl rfl ?_⟩
    cases gb_of g hc hg with
    | letter b e hd he =>
      refine gd_t (by rw [e]; rfl) (arith_i64 (by omega) (by omega) (s.setI 1 rfl (n := n + 1) (y := true) (by omega) (by omega) fun w8 s => ⟨_, _, lb.put hg he.symm, ld.skip hg hd, s.pop⟩))
    | power x m j h1 hx h2 e hd he =>
      have bx := dl hx
      refine gd_f (by rw [e]; rfl) (gd_f (by rw [e]; rfl) (gd_t (by rw [e]; rfl) (arith_i64 (by omega) (by omega) (s.ldi (x := (j : Int) + 1) 0 2 rfl (by rw [e]; rfl) ((s.view 2 rfl).idx (n := j + 1) (by omega) (ld.at_ hx h1) rfl fun q1 hq1 => ⟨_, hq1, arith_i64 (by omega) (by omega) ?_⟩)))))
      rw [← hd]
      exact s.setI 2 rfl (n := n + 1) (y := dep T z) (by omega) (by omega) fun w8 s => ⟨_, _, lb.skip hg he, ld.put hg rfl, s.pop⟩
    | pair l r jl jr h1 h2 hl hr e hd he =>
      have bl := dl hl
      have br := dl hr
      have gl := ld.at_ hl h1
      have gr := ld.at_ hr h2
      refine gd_f (by rw [e]; rfl) (gd_t (by rw [e]; rfl) (s.drawK fun w9 s => s.ldi (x := (jl : Int) + 1) 0 2 rfl (by rw [e]; rfl) ((s.view 2 rfl).idx (n := jl + 1) (by omega) gl rfl fun q1 hq1 => ⟨_, hq1, s.ldi (x := (jr : Int) + 1) 0 3 rfl (by rw [e]; rfl) ((s.view 2 rfl).idx (n := jr + 1) (by omega) gr rfl fun q2 hq2 => ⟨_, hq2, ?_⟩)⟩)))
      refine ⟨fun _ w => Sp w0 (cel a12 (cells yapi_Rule (mvr ids (eAt T z).1)) :: own .bool ⟨some ⟨a4, 0, none⟩, ids.length + 1, ids.length + 1⟩ (hB.set (n + 1) (evn T z)) :: own (.int .i64) ⟨some ⟨a2, 0, none⟩, ids.length + 1, ids.length + 1⟩ hD :: Ω) w, ?_, ?_⟩
      · have put : ∀ (v : Bool) w9, v = evn T z → Sp w0 (cel a12 (cells yapi_Rule (mvr ids (eAt T z).1)) :: own .bool ⟨some ⟨a4, 0, none⟩, ids.length + 1, ids.length + 1⟩ hB :: own (.int .i64) ⟨some ⟨a2, 0, none⟩, ids.length + 1, ids.length + 1⟩ hD :: Ω) w9 →
            idxK (some ⟨a4, 0, none⟩) (ids.length + 1) ((n : Int) + 1) 1 fun q => stK w9 q [.bool v] fun w => Sp w0 (cel a12 (cells yapi_Rule (mvr ids (eAt T z).1)) :: own .bool ⟨some ⟨a4, 0, none⟩, ids.length + 1, ids.length + 1⟩ (hB.set (n + 1) (evn T z)) :: own (.int .i64) ⟨some ⟨a2, 0, none⟩, ids.length + 1, ids.length + 1⟩ hD :: Ω) w := fun v w9 hv s => by
          subst hv
          exact s.setI 1 rfl (n := n + 1) (y := evn T z) (by omega) (by omega) fun w8 s => s
        refine arith_i64 (by omega) (by omega) (s.ldi (x := (jl : Int) + 1) 0 2 rfl (by rw [e]; rfl) ((s.view 1 rfl).idx (n := jl + 1) (by omega) (lb.at_ hl h1) rfl fun q3 hq3 => ⟨_, hq3, gd_mk (fun el => ?_) (fun el => put _ _ (by rw [he, el]; rfl) s)⟩))
        refine s.ldi (x := (jr : Int) + 1) 0 3 rfl (by rw [e]; rfl) ((s.view 1 rfl).idx (n := jr + 1) (by omega) (lb.at_ hr h2) rfl fun q4 hq4 => ⟨_, hq4, gd_mk (fun er => ?_) (fun er => put _ _ (by rw [he, el, er]; rfl) s)⟩)
        refine arith_i64 (by omega) (by omega) (gd_dec (fun c => arith_i64 (by omega) (by omega) (put _ _ ?_ s)) (fun c => put _ _ ?_ s))
        · rw [he, el, er, decide_eq_true c]
          simp only [Bool.true_and, Bool.and_true, decide_eq_decide]
          omega
        · rw [he, el, er, decide_eq_false c]
          simp
      rintro _ w10 s _
      refine arith_i64 (by omega) (by omega) (arith_i64 (by split <;> omega) (by split <;> omega) ?_)
      rw [← hd]
      exact s.setI 2 rfl (n := n + 1) (y := dep T z) (by omega) (by omega) fun w8 s => ⟨_, _, lb.put hg rfl, ld.put hg rfl, s.pop⟩
  rintro _ w5 ⟨hB', hD', lb', ld', s⟩ _
  exact arith_i64 (by omega) (by omega) (loop_nx hn' ⟨_, _, lb', ld', s⟩)
theorem ref15_Balanced_zero {sl : Sl} (hl : sl.len = 0) (s : Sp w0 Ω w) {K : Bool → World → Prop} (h : ∀ w', Sp w0 Ω w' → K true w') : C_ref15_Balanced sl K w := by
  apply S_ref15_Balanced
  unfold F_ref15_Balanced
  rw [hl]
  refine arith_i64 (by decide) (by decide) ⟨by decide, by decide, by decide, by decide, s.mkS (.int .i64) (0 : Int) 1 1 (Nat.le_refl _) (fun a2 w1 s => ?_) rfl rfl⟩
  refine arith_i64 (by decide) (by decide) ⟨by decide, by decide, by decide, by decide, s.mkS .bool false 1 1 (Nat.le_refl _) (fun a4 w2 s => ?_) rfl rfl⟩
  refine s.setI 0 rfl (n := 0) (y := true) rfl (by decide) fun w3 s => ?_
  refine loop_by (fun x => x.1) 0 (fun n x w => Sp w0 (own .bool ⟨some ⟨a4, 0, none⟩, 1, 1⟩ [true] :: own (.int .i64) ⟨some ⟨a2, 0, none⟩, 1, 1⟩ [0] :: Ω) w) rfl s ?_
  clear s
  rintro n ⟨x, _⟩ w4 hn hx s _
  dsimp only at hx ⊢
  subst hx
  have : n = 0 := by omega
  subst this
  refine gd_f (by simp) ((s.view 0 rfl).idx (n := 0) rfl rfl rfl fun q hq => ⟨_, hq, h _ (s.drop 2)⟩)
theorem ref15_Balanced_exp {sl : Sl} {id : Int} (g : Grow T) (hN : T.length ≤ 1048576) (hk : 0 ≤ id ∧ id ≤ T.length) (s : Sp w0 Ω w) (hv : ∀ w', Sp w0 Ω w' → View yapi_Rule w' sl (exp T (rlist T [id]))) {K : Bool → World → Prop}
    (h : ∀ w', Sp w0 Ω w' → K (evn T id) w') : C_ref15_Balanced sl K w := by
  have hS : ∀ x ∈ [id], 0 ≤ x ∧ x ≤ (T.length : Int) := fun x hx => by simp at hx; subst hx; exact hk
  by_cases c : id = 0
  · subst c
    have hl := (hv _ s).len
    rw [rlist_zero] at hl
    exact ref15_Balanced_zero hl s h
  · obtain ⟨k, e1, e2⟩ := rlist_last g (id := id) (by omega) hk.2
    exact ref15_Balanced_spec g hN (rlist_closed g hS) e2 e1 s hv h
theorem ref15_Is_spec {id : Int} (g : Grow T) (hN : T.length ≤ 1048576) (hk : 0 ≤ id ∧ id ≤ T.length) (s : Sp w0 Ω w) (j : Nat) (hj : Ω[j]? = some (rf2 m T)) {K : Bool → World → Prop} (h : ∀ w', Sp w0 Ω w' → K (evn T id) w') : C_ref15_Is m id K w := by
  apply S_ref15_Is
  unfold F_ref15_Is
  refine s.allocK fun a1 w1 s => s.lds (x := m.1) 0 0 rfl rfl (rf2_upTo g hN hk s (j + 1) hj fun s3 v3 => ?_)
  by_cases c : id = 0
  · subst c
    exact ref15_Balanced_zero (v3 _ s).len s fun w' s => h _ s.pop
  · have hg : (upTo id.toNat)[id.toNat - 1]? = some id := by
      rw [upTo_get (by omega)]
      congr 1
      omega
    exact ref15_Balanced_spec g hN (upTo_closed g (by omega)) hg (by rw [upTo_len]; omega) s v3 fun w' s => h _ s.pop

/-! ### A result fits, and has these letters -/
theorem nd0_fib (g : Grow T) {x : Int} {t : List Int} {d : Int} (n : Nd0 T x t d) {b : Nat} (hb : IsBound (t.length : Int) b) : d ≤ b := by
  by_cases c : x = 0
  · subst c
    have := n.nil.2
    omega
  · have h1 := (n.nd c).fib g x.toNat rfl
    have h2 := hb.le (e := d.toNat) (by omega)
    omega
theorem law15_fits_spec {x : Int} {t : List Int} {d : Int} (s : Sp w0 Ω w) (i : Nat) (hi : Ω[i]? = some (sto p most T)) (nx : Nd0 T x t d) {K : Bool → World → Prop} (h : ∀ w', Sp w0 Ω w' → K true w') : C_law15_fits (some p) x K w := by
  apply S_law15_fits
  unfold F_law15_fits
  obtain ⟨_, _, _, hb0, hb1, hb2, hg⟩ := Sp.entry s i hi
  have lx := nx.len hg
  have wx := (hg.at_ nx.pos nx.le).1.len
  refine intern_Export_sp s i hi (fun _ sl w1 s => ?_) (fun hno => absurd ⟨nx.pos, nx.le⟩ hno)
  refine intern_Weight_k s (i + 1) hi ⟨nx.pos, nx.le⟩ fun w2 s => s.allocK fun a3 w3 s => s.st0 0 rfl rfl rfl fun w4 s => intern_Depth_k s (i + 2) hi ⟨nx.pos, nx.le⟩ fun w5 s => ?_
  refine nilIfc_nil (gd_t rfl (nilIfc_nil (gd_t rfl (nilIfc_nil (gd_t rfl (ref15_Balanced_exp hg (by omega) ⟨nx.pos, nx.le⟩ s (fun w' s => s.view 1 rfl) fun w6 s => gd_t nx.even ?_))))))
  refine s.ldi (x := (t.length : Int)) 0 0 rfl (by rw [← lx.1]; rfl) (ref15_Bound_spec (by omega) fun b hb => ?_)
  have := nd0_fib hg nx hb
  rw [nx.dep, decide_eq_true this]
  exact h _ (s.drop 2)
theorem law15_is_spec {x : Int} {t : List Int} {want : Sl} (s : Sp w0 Ω w) (i : Nat) (hi : Ω[i]? = some (sto p most T)) (hk : 0 ≤ x ∧ x ≤ T.length) (ht : txt T x = t) (hl : t.length ≤ 1000000) (hv : ∀ w', Sp w0 Ω w' → View (.int .u8) w' want t) {K : Bool → World → Prop}
    (h : ∀ w', Sp w0 Ω w' → K true w') : C_law15_is (some p) x want K w := by
  apply S_law15_is
  unfold F_law15_is
  obtain ⟨_, _, _, hb0, hb1, hb2, hg⟩ := Sp.entry s i hi
  have hwl := (hv _ s).len
  refine intern_Export_sp s i hi (fun _ sl w1 s => ?_) (fun hno => absurd hk hno)
  refine ref12_Expand_exp hg (by omega) hk (by omega) s (fun w' s => s.view 0 rfl) (fun _ s' w2 s => ?_) (fun hno => absurd hno (by rw [ht]; omega))
  rw [ht] at s
  exact nilIfc_nil (gd_t rfl (gd_t rfl (base_Bytes_eq (s.view 0 rfl) (hv _ (s.drop 2)) (h _ (s.drop 2)))))

end Go.Proofs.Ytnbkhhjklpoipaa

/- law15: the store that all statements begin with; the walks of BalanceLimits, BalanceTexts and BalanceFull. -/
set_option linter.unusedVariables false
set_option linter.unusedSimpArgs false
namespace Go.Proofs.Ytnbkhhjklpoipaa
open Go.Den

variable {w0 w : World} {Ω : List Ob} {most : Int} {T : List ET} {i j : Nat} {p : Addr} {m : yevergreenref12_Store.T}

/-! ### The bytes of a constant -/
theorem bytes_mk (s : Sp w0 Ω w) (xs : List (Ty.int .u8).T) (n : Nat) (hn : n = xs.length) {K : Sl → World → Prop} (h : ∀ sl w', sl.len = n → sl.cap = n → Sp w0 (vw (.int .u8) sl xs :: Ω) w' → K sl w') :
    Go.Den.allocK (.cells (flat (.int .u8) xs).toArray t_uint8) w fun a w' => runK P .slice (convert t_sl_uint8 t_sl_uint8 (.slice (some a) n n)) w' K := by
  have hh := alloc_new w (.cells (flat (.int .u8) xs).toArray t_uint8 ((flat (.int .u8) xs).toArray.size, (flat (.int .u8) xs).toArray.size + 1))
  refine ⟨⟨some ⟨w.heap.size, 0, none⟩, n, n⟩, _, Lib.run_convert_bytes_const w _ _ _ n n underBytes underByte, h _ _ rfl rfl (s.push (B := fun b => b = w.heap.size) (alloc_ext w _) ⟨⟨hn, fun q hq => ?_, fun _ => ⟨_, rfl⟩⟩, ?_⟩ ?_)⟩
  · cases hq
    exact at_block hh
  · rintro b ⟨q, hq, rfl⟩
    cases hq
    rfl
  · rintro b rfl
    exact ⟨Nat.le_refl _, by simp⟩

abbrev B20 : Int := 1048576
theorem B20_eq : B20 = 1048576 := rfl
theorem law15_begun_spec {sl : Sl} {ops : List MakeT} (s : Sp w0 Ω w) (hv : View yevergreenref12_Make w0 sl ops) (ho : ∀ o ∈ ops, MakeOK o) (hN : ops.length ≤ 300) {K : Option Addr × Sl × yevergreenref12_Store.T × Bool → World → Prop}
    (h : ∀ p rs m w', Sp w0 (own (.int .i64) rs (bld B20 ops).2 :: rf2 m (bld B20 ops).1 :: sto p B20 (bld B20 ops).1 :: Ω) w' → K (some p, rs, m, true) w') : C_law15_begun sl K w := by
  apply S_law15_begun
  unfold F_law15_begun
  refine s.allocK fun a1 w1 s => intern_New_sp s fun p w2 s => ?_
  have s : Sp w0 (sto p B20 [] :: cel a1 [.slice none 0 0, .slice none 0 0] :: Ω) w2 := s
  refine ref12_Build_spec (most := B20) s hv ho (by omega) (by rw [B20_eq]; omega) fun m rs' w3 s => s.allocK fun a4 w4 s => s.st0 0 rfl rfl rfl fun w5 s => gd_f rfl ?_
  refine law12_Build_spec s 3 rfl hv ho (by omega) (by rw [B20_eq]; omega) fun rs w6 s => ?_
  have s : Sp w0 (own (.int .i64) rs (bld B20 ops).2 :: cel a4 (cells yevergreenref12_Store m) :: own (.int .i64) rs' (bld B20 ops).2 :: rf2 m (bld B20 ops).1 :: sto p B20 (bld B20 ops).1 :: cel a1 [.slice none 0 0, .slice none 0 0] :: Ω) w6 := s
  refine intern_New_sp s fun q w7 s => ?_
  have s : Sp w0 (sto q 10 [] :: own (.int .i64) rs (bld B20 ops).2 :: cel a4 (cells yevergreenref12_Store m) :: own (.int .i64) rs' (bld B20 ops).2 :: rf2 m (bld B20 ops).1 :: sto p B20 (bld B20 ops).1 :: cel a1 [.slice none 0 0, .slice none 0 0] :: Ω) w7 := s
  refine bytes_mk s [97, 98] 2 rfl fun bsl w8 hl hc s => ?_
  refine balance_Text_sp (xs := [97, 98]) (by decide) (fun c hc => by simp at hc; omega) s 1 rfl (fun w' T' s => s.vw_ 0 rfl) (by omega) fun T1 r w9 hr s => ?_
  have s : Sp w0 (vw (.int .u8) bsl [97, 98] :: sto q 10 T1 :: own (.int .i64) rs (bld B20 ops).2 :: cel a4 (cells yevergreenref12_Store m) :: own (.int .i64) rs' (bld B20 ops).2 :: rf2 m (bld B20 ops).1 :: sto p B20 (bld B20 ops).1 :: cel a1 [.slice none 0 0, .slice none 0 0] :: Ω) w9 := s
  rcases hr.out with ⟨e1, d, nd⟩ | ⟨_, hf⟩
  rotate_left
  · simp at hf
  obtain ⟨r1, r2⟩ := r
  dsimp only at e1 nd ⊢
  subst e1
  have l1 := (nd.len hr.grow).1
  refine intern_Weight_k s 1 rfl ⟨nd.pos, nd.le⟩ fun w10 s => s.allocK fun a13 w11 s => s.st0 0 rfl rfl rfl fun w12 s => s.drawK fun w13 s => s.ld0 (ty := yevergreenref12_Store) (x := m) 4 rfl rfl (gd_t rfl (nilIfc_nil (gd_t rfl (nilIfc_nil (gd_t rfl ?_)))))
  refine s.ldi (x := 2) 0 0 rfl ?_ (s.st0 8 rfl rfl rfl fun w14 s => ⟨s.still 0 0 rfl ?_, s.ld0 (ty := yevergreenref12_Store) (x := m) 8 rfl rfl (h p rs m _ (s.pick [3, 6, 7] 9 rfl (by decide)))⟩)
  · show [Value.int .i64 (eAt T1 r1).2.1.1] = _
    rw [l1]; rfl
  · show [Value.int .i64 (eAt T1 r1).2.1.1] = _
    rw [l1]; rfl

theorem law15_pick_spec {rs : Sl} {res : List (Ty.int .i64).T} {n : Int} (s : Sp w0 Ω w) (i : Nat) (hi : Ω[i]? = some (sto p most T)) (k : Nat) (hk : Ω[k]? = some (own (.int .i64) rs res)) (hr : 1 ≤ res.length) (hrN : res.length ≤ 1000000) {K : Int → World → Prop}
    (h : ∀ w', Sp w0 Ω w' → K (rootP T res n) w') : C_law15_pick (some p) rs n K w := by
  apply S_law15_pick
  unfold F_law15_pick
  obtain ⟨_, _, _, hb0, hb1, hb2, hg⟩ := Sp.entry s i hi
  have hrl := (s.view k hk).len
  refine gd_eq (fun c => ?_) (fun c => gd_eq (fun c2 => ?_) (fun c2 => ?_))
  · have : rootP T res n = -1 := by unfold rootP; rw [if_pos c]
    rw [this] at h
    exact h _ s
  · have : rootP T res n = (T.length : Int) + 1 := by unfold rootP; rw [if_neg c, if_pos c2]
    rw [this] at h
    exact intern_Len_sp s i hi (arith_i64 (by omega) (by omega) (h _ s))
  · have : rootP T res n = rsAt res n := by unfold rootP; rw [if_neg c, if_neg c2]
    rw [this] at h
    obtain ⟨kk, e1, hg1, hm1⟩ := rsAt_get hr n
    refine ref12_Pick_eq (by omega) (by omega) ?_
    rw [show ((rs.len : Nat) : Int) = (res.length : Int) by omega]
    exact (s.view k hk).idx e1 hg1 rfl fun q1 hq1 => ⟨_, hq1, h _ s⟩

theorem bld_nil : bld B20 [] = ([], [0]) := rfl

/-! ### BalanceTexts -/
theorem law15_BalanceTexts_spec {sl : Sl} {bs : List Int} (hv : View (.int .u8) w0 sl bs) (hb : ∀ c ∈ bs, 0 ≤ c ∧ c < 256) (hc : sl.len ≤ sl.cap) {K : Bool → World → Prop} (h : ∀ w', Ext w0 w' → K true w') : C_law15_BalanceTexts sl K w0 := by
  apply S_law15_BalanceTexts
  unfold F_law15_BalanceTexts
  have hlen := hv.len
  refine gd_dec (fun c => h _ (.refl _ _)) (fun c => ?_)
  refine law15_begun_spec (ops := []) (Sp.init w0) .nil (fun o ho => (List.not_mem_nil ho).elim) (by decide) fun p rs m w1 s => s.allocK fun a2 w2 s => s.st0 0 rfl rfl rfl fun w3 s => gd_f rfl ?_
  have s : Sp w0 [cel a2 (cells yevergreenref12_Store m), own (.int .i64) rs [0], rf2 m [], sto p B20 []] w3 := s
  refine balance_Text_sp (by omega) hb s 3 rfl (fun w' T' s => hv.ext s.ext) hc fun T1 r w4 hr s => ?_
  rcases hr.out with ⟨e1, d, nd⟩ | ⟨_, hf⟩
  rotate_left
  · simp only [List.length_nil, B20_eq] at hf; omega
  obtain ⟨r1, r2⟩ := r
  dsimp only at e1 nd ⊢
  subst e1
  have hl := hr.len
  simp only [List.length_nil] at hl
  refine nilIfc_nil (gd_t rfl (law15_is_spec s 3 rfl ⟨nd.pos, nd.le⟩ nd.txt (by omega) (fun w' s => hv.ext s.ext) fun w5 s => gd_t rfl (law15_fits_spec s 3 rfl nd fun w6 s => gd_t rfl (intern_Len_sp s 3 rfl (arith_i64 (by omega) (by omega) ?_)))))
  rw [decide_eq_true (by omega)]
  exact h _ s.ext

/-! ### BalanceFull -/
theorem law15_BalanceFull_spec {sl : Sl} {bs : List Int} {mst : Int} (hv : View (.int .u8) w0 sl bs) (hb : ∀ c ∈ bs, 0 ≤ c ∧ c < 256) (hc : sl.len ≤ sl.cap) {K : Bool → World → Prop} (h : ∀ w', Ext w0 w' → K true w') : C_law15_BalanceFull sl mst K w0 := by
  apply S_law15_BalanceFull
  unfold F_law15_BalanceFull
  have hlen := hv.len
  refine gd_dec (fun c => h _ (.refl _ _)) (fun c => ?_)
  refine law15_begun_spec (ops := []) (Sp.init w0) .nil (fun o ho => (List.not_mem_nil ho).elim) (by decide) fun p rs m w1 s => s.allocK fun a2 w2 s => s.st0 0 rfl rfl rfl fun w3 s => gd_f rfl ?_
  have s : Sp w0 [cel a2 (cells yevergreenref12_Store m), own (.int .i64) rs [0], rf2 m [], sto p B20 []] w3 := s
  refine intern_New_sp s fun q w4 s => ?_
  have hM : (if mst < 0 then 0 else if (1048576 : Int) < mst then 1048576 else mst) ≤ (if mst < (0 : Int) then (0 : Int) else mst) ∧ (mst ≤ 1048576 → mst ≤ (if mst < 0 then 0 else if (1048576 : Int) < mst then 1048576 else mst)) := by
    by_cases c1 : mst < 0
    · rw [if_pos c1, if_pos c1]; omega
    · rw [if_neg c1, if_neg c1]
      split <;> omega
  have hM2 : (1048576 : Int) < mst → (if mst < 0 then 0 else if (1048576 : Int) < mst then 1048576 else mst) = 1048576 := fun h => by rw [if_neg (by omega), if_pos h]
  generalize (if mst < 0 then 0 else if (1048576 : Int) < mst then 1048576 else mst) = M at *
  refine balance_Text_sp (by omega) hb s 0 rfl (fun w' T' s => hv.ext s.ext) hc fun T1 r w5 hr s => ?_
  obtain ⟨r1, r2⟩ := r
  rcases hr.out with ⟨e1, d, nd⟩ | ⟨e1, hf⟩
  · dsimp only at e1 nd ⊢
    subst e1
    have hcap := hr.cap
    refine nilIfc_nil (gd_f rfl (law15_is_spec s 0 rfl ⟨nd.pos, nd.le⟩ nd.txt (by omega) (fun w' s => hv.ext s.ext) fun w5 s => gd_t rfl (law15_fits_spec s 0 rfl nd fun w6 s => gd_t rfl (intern_Len_sp s 0 rfl ?_))))
    rw [decide_eq_true (Int.le_trans hcap hM.1)]
    exact h _ s.ext
  · cases e1
    simp only [List.length_nil] at hf
    refine nilIfc_err (gd_t rfl (gd_t rfl (is_err (by decide) (gd_t rfl (arith_i64 (by omega) (by omega) ?_)))))
    have : mst < 4 * (sl.len : Int) := by
      rcases Int.lt_or_le 1048576 mst with c2 | c2
      · have := hM2 c2; omega
      · have := hM.2 c2; omega
    rw [decide_eq_true this]
    exact h _ s.ext

/-! ### BalanceLimits -/
def cyc (ls : List Int) (n : Nat) : List Int := (List.range n).map fun i => ls.getD (i % ls.length) 0
theorem cyc_len (ls : List Int) (n : Nat) : (cyc ls n).length = n := by simp [cyc]
theorem cyc_succ {ls : List Int} {n : Nat} {x : Int} (h : ls[n % ls.length]? = some x) : cyc ls (n + 1) = cyc ls n ++ [x] := by
  unfold cyc
  rw [List.range_succ, List.map_append, List.map_singleton, List.getD_eq_getElem?_getD, h]; rfl
theorem law15_BalanceLimits_spec {sl : Sl} {ls : List Int} {many : Int} (hv : View (.int .u8) w0 sl ls) (hb : ∀ c ∈ ls, 0 ≤ c ∧ c < 256) {K : Bool → World → Prop} (h : ∀ w', Ext w0 w' → K true w') : C_law15_BalanceLimits sl many K w0 := by
  apply S_law15_BalanceLimits
  unfold F_law15_BalanceLimits
  have hlen := hv.len
  refine law15_begun_spec (ops := []) (Sp.init w0) .nil (fun o ho => (List.not_mem_nil ho).elim) (by decide) fun p rs m w1 s => s.allocK fun a2 w2 s => s.st0 0 rfl rfl rfl fun w3 s => gd_f rfl ?_
  refine ⟨fun x w => Sp w0 [] w ∧ (x.1 = false → (1 ≤ ls.length ∧ ls.length ≤ 100) ∧ 65436 ≤ many ∧ many ≤ 65636), ?_, ?_⟩
  · have s : Sp w0 [] w3 := s.drop 4
    refine gd_eq (fun c => ⟨s, fun e => by cases e⟩) (fun c => gd_dec (fun c2 => ⟨s, fun e => by cases e⟩) (fun c2 => gd_dec (fun c3 => ⟨s, fun e => by cases e⟩) (fun c3 => ⟨s, fun e => ?_⟩)))
    have e := of_decide_eq_false e
    omega
  clear s
  rintro ⟨b, _⟩ w4 ⟨s, hq⟩ _
  dsimp only at hq ⊢
  refine gd_mk (fun _ => h _ s.ext) (fun e => ?_)
  obtain ⟨⟨h1, h2⟩, h3, h4⟩ := hq e
  obtain ⟨M, rfl⟩ := Int.eq_ofNat_of_zero_le (show 0 ≤ many by omega)
  have hM : M ≤ 65636 := by omega
  refine loop_by (fun x => x.2.1) M (fun n x w => (∀ c ∈ cyc ls n, 0 ≤ c ∧ c < 256) ∧ Sp w0 [own (.int .u8) x.1 (cyc ls n)] w) rfl ⟨by simp [cyc], s.nil _⟩ ?_
  clear s
  rintro n ⟨x, y, _⟩ w5 hn hy ⟨hcb, s⟩ _
  dsimp only at hy s ⊢
  subst hy
  have hcl := cyc_len ls n
  refine gd_dec (fun hlt => ?_) (fun hge => ?_)
  · have hn' : n < M := by omega
    have hmod : Int.tmod (n : Int) (sl.len : Int) = ((n % ls.length : Nat) : Int) := by rw [hlen]; rfl
    have hml := Nat.mod_lt n (show 0 < ls.length by omega)
    have hget := List.getElem?_eq_getElem hml
    have hmem := hb _ (List.getElem_mem hml)
    generalize ls[n % ls.length] = z at hget hmem
    refine ⟨by omega, letZ_mk ?_⟩
    rw [hmod]
    refine (hv.ext s.ext).idx rfl hget rfl fun q hq => ⟨z, hq, s.allocK fun a10 w6 s => s.app 1 rfl ((s.lit (ty := .int .u8) 0 rfl [z] 1 rfl rfl).view 0 rfl) (by simp only [List.length_cons, List.length_nil]; omega) fun s11 w7 s => arith_i64 (by omega) (by omega) (loop_nx hn' ⟨?_, ?_⟩)⟩
    · rw [cyc_succ hget]
      intro c hc
      rcases List.mem_append.1 hc with hc | hc
      · exact hcb c hc
      · simp at hc; subst hc; exact hmem
    · rw [cyc_succ hget]
      exact s.pop
  have en : n = M := by omega
  subst en
  refine intern_New_sp s fun q w8 s => ?_
  have s : Sp w0 [sto q B20 [], own (.int .u8) x (cyc ls n)] w8 := s
  have hxl := (s.view 1 rfl).len
  have hxc := (s.own_ 1 rfl).cap
  by_cases c : 65536 < (n : Int)
  · exact balance_Text_large (by omega) (gd_t (decide_eq_true c) (gd_t rfl (is_err (by decide) (h _ s.ext))))
  · refine balance_Text_sp (xs := cyc ls n) (by omega) hcb s 0 rfl (fun w' T' s => s.view 1 rfl) hxc fun T1 r w9 hr s => gd_f (decide_eq_false c) ?_
    have s : Sp w0 [sto q B20 T1, own (.int .u8) x (cyc ls n)] w9 := s
    rcases hr.out with ⟨e1, d, nd⟩ | ⟨_, hf⟩
    rotate_left
    · simp only [List.length_nil, B20_eq] at hf; omega
    obtain ⟨r1, r2⟩ := r
    dsimp only at e1 nd ⊢
    subst e1
    have l1 := (nd.len hr.grow).1
    rw [hcl] at l1
    refine intern_Weight_k s 0 rfl ⟨nd.pos, nd.le⟩ fun w10 s => s.allocK fun a17 w11 s => s.st0 0 rfl rfl rfl fun w12 s => nilIfc_nil (gd_t rfl (nilIfc_nil (gd_t rfl ?_)))
    refine s.ldi (x := (n : Int)) 0 0 rfl ?_ (gd_t (by simp) (law15_fits_spec s 1 rfl nd fun w13 s => h _ s.ext))
    show [Value.int .i64 (eAt T1 r1).2.1.1] = _
    rw [l1]

end Go.Proofs.Ytnbkhhjklpoipaa

/- law15: copies of a text (repeat, Repeat); the walk of BalanceRepeats. -/
set_option linter.unusedVariables false
set_option linter.unusedSimpArgs false
namespace Go.Proofs.Ytnbkhhjklpoipaa
open Go.Den

variable {w0 w : World} {Ω : List Ob} {most : Int} {T : List ET} {i j : Nat} {p : Addr} {m : yevergreenref12_Store.T}

def Rep (n : Nat) (t : List Int) : List Int := (List.replicate n t).flatten
theorem Rep_len (n : Nat) (t : List Int) : (Rep n t).length = n * t.length := flat_rep_len n t
theorem Rep_add (a b : Nat) (t : List Int) : Rep a t ++ Rep b t = Rep (a + b) t := by
  unfold Rep
  rw [← List.flatten_append, List.replicate_append_replicate]
theorem Rep_zero (t : List Int) : Rep 0 t = [] := rfl
theorem Rep_one (t : List Int) : Rep 1 t = t := by simp [Rep]
theorem Rep_nil (n : Nat) : Rep n [] = [] := List.eq_nil_of_length_eq_zero (by rw [Rep_len]; rfl)
theorem Rep_le {a b : Nat} (h : a ≤ b) (t : List Int) : a * t.length ≤ b * t.length := Nat.mul_le_mul_right _ h
theorem nd0_le (g : Grow T) {x n : Int} {t : List Int} {d : Int} (nx : Nd0 T x t d) {b : Nat} (hb : IsBound n b) (hn : (t.length : Int) ≤ n) : 0 ≤ d ∧ d ≤ b := by
  refine ⟨(nx.len g).2, ?_⟩
  by_cases c : x = 0
  · subst c
    have := nx.nil.2
    omega
  · have h1 := (nx.nd c).fib g x.toNat rfl
    have h2 := hb.le (e := d.toNat) (by omega)
    omega
theorem joinN_le {a b da db : Int} {B : Nat} (h1 : 0 ≤ da ∧ da ≤ B) (h2 : 0 ≤ db ∧ db ≤ B) : joinN a b da db ≤ 3 * B + 1 := by
  unfold joinN
  split <;> omega
theorem joinN_same {a da : Int} : joinN a a da da ≤ 1 := by
  unfold joinN
  split <;> omega

def RepQ (k : Nat) (t : List Int) : List ET → Int → Prop := fun T' y => ∃ e, Nd0 T' y (Rep k t) e
theorem balance_repeat_sp {x d : Int} {k : Nat} {t : List Int} {B : Nat} (s : Sp w0 Ω w) (i : Nat) (hi : Ω[i]? = some (sto p most T)) (nx : Nd0 T x t d) (hk : 1 ≤ k) (hk2 : (k : Int) ≤ 9223372036854775807) (hl : ((k * t.length : Nat) : Int) ≤ 1152921504606846976) (hB : IsBound ((k * t.length : Nat) : Int) B) {K : Int × Value → World → Prop}
    (h : ∀ T' r w', Res T most ((3 * B + 2) * (log2 k + 1)) (RepQ k t) T' r → Sp w0 (Ω.set i (sto p most T')) w' → K r w') : C_balance_repeat (some p) x (k : Int) K w := by
  apply S_balance_repeat
  unfold F_balance_repeat
  obtain ⟨_, _, _, hb0, hb1, hb2, hg⟩ := Sp.entry s i hi
  have s0 : Sp w0 (Ω.set i (sto p most T)) w := by rw [setSame hi]; exact s
  refine ⟨fun z w => ∃ (T1 : List ET) (k' P r j : Nat) (d1 e1 : Int), z.2.1 = (k' : Int) ∧ 1 ≤ k' ∧ k = k' * P + r ∧ 1 ≤ P ∧ r < P ∧ j + log2 k' = log2 k ∧ Res T most ((3 * B + 2) * j) (fun _ _ => True) T1 (0, .nilIface) ∧ Nd0 T1 z.1 (Rep P t) d1 ∧ Nd0 T1 z.2.2.1 (Rep r t) e1 ∧ Sp w0 (Ω.set i (sto p most T1)) w,
    fun z _ => z.2.1.toNat, ⟨T, k, 1, 0, 0, d, 0, rfl, hk, by omega, Nat.le_refl _, Nat.zero_lt_one, by omega, .same hg hb2 trivial, by rw [Rep_one]; exact nx, by rw [Rep_zero]; exact Nd0.zero, s0⟩, ?_⟩
  clear s s0
  rintro ⟨x1, y, out, _⟩ w1 ⟨T1, k', P, r, j, d1, e1, hy, hk1, hkP, hP, hrP, hj, hr1, nx1, no1, s⟩ _
  dsimp only at hy nx1 no1 ⊢
  subst hy
  have hkk : k' ≤ k := by
    have : k' * 1 ≤ k' * P := Nat.mul_le_mul_left _ hP
    omega
  have hmod : Int.tmod (k' : Int) 2 = ((k' % 2 : Nat) : Int) := rfl
  have hdiv : Int.tdiv (k' : Int) 2 = ((k' / 2 : Nat) : Int) := by rw [Int.tdiv_eq_ediv_of_nonneg (by omega)]; omega
  have hsplit : k' * P = (k' / 2) * (2 * P) + (k' % 2) * P := by
    have h1 := Nat.div_add_mod k' 2
    calc k' * P = (2 * (k' / 2) + k' % 2) * P := by rw [h1]
      _ = (k' / 2) * (2 * P) + (k' % 2) * P := by rw [Nat.add_mul, Nat.mul_comm 2 (k' / 2), Nat.mul_assoc]
  have hPk : P ≤ k' * P := Nat.le_mul_of_pos_left _ hk1
  have lP := Rep_le (a := P) (b := k) (by omega) t
  have lr := Rep_le (a := r) (b := k) (by omega) t
  have bx := nd0_le hr1.grow nx1 hB (by rw [Rep_len]; omega)
  have bo := nd0_le hr1.grow no1 hB (by rw [Rep_len]; omega)
  have hC : (3 * B + 2) * j + (3 * B + 2) = (3 * B + 2) * (j + 1) := by rw [Nat.mul_succ]
  have hj1 : (3 * B + 2) * (j + 1) ≤ (3 * B + 2) * (log2 k + 1) := Nat.mul_le_mul_left _ (by omega)
  refine ⟨fun z w => ∃ (T2 : List ET) (e2 : Int), Res T most ((3 * B + 2) * j + (3 * B + 1)) (fun _ _ => True) T2 (0, .nilIface) ∧ T1 <+: T2 ∧ Nd0 T2 z.1 (Rep ((k' % 2) * P + r) t) e2 ∧ Sp w0 (Ω.set i (sto p most T2)) w, ⟨by decide, letZ_mk ?_⟩, ?_⟩
  · rw [hmod]
    refine gd_eq (fun c => ?_) (fun c => ⟨T1, e1, hr1.mono (by omega) fun _ _ => trivial, List.prefix_refl _, by rw [show k' % 2 = 0 by omega, Nat.zero_mul, Nat.zero_add]; exact no1, s⟩)
    have hm1 : k' % 2 = 1 := by omega
    rw [hm1, Nat.one_mul] at hsplit ⊢
    have lrP := Rep_le (a := r + P) (b := k) (by omega) t
    refine avl_Join_sp s i (setGet hi) no1 nx1 (by rw [Rep_len, Rep_len]; rw [Nat.add_mul] at lrP; omega) fun T2 z w2 hr2 s => ?_
    rw [List.set_set] at s
    have r12 := (hr1.andThen hr2).mono (N' := (3 * B + 2) * j + (3 * B + 1)) (Q' := fun T' y => ∃ e, Nd0 T' y (Rep (P + r) t) e) (by have := joinN_le (a := out) (b := x1) bo bx; omega) fun y hy => by
      obtain ⟨e, hn, _⟩ := hy
      rw [Rep_add, Nat.add_comm r P] at hn
      exact ⟨e, hn⟩
    obtain ⟨z1, z2⟩ := z
    rcases r12.out with ⟨e, e2, n2⟩ | ⟨e, hf⟩
    · dsimp only at e n2 ⊢
      subst e
      exact nilIfc_nil (gd_f rfl ⟨T2, e2, ⟨r12.ext, r12.grow, r12.cap, r12.len, Or.inl ⟨rfl, trivial⟩⟩, hr2.ext, n2, s⟩)
    · cases e
      exact nilIfc_err (gd_t rfl (h T2 _ w2 ⟨r12.ext, r12.grow, r12.cap, by have := r12.len; omega, Or.inr ⟨rfl, by omega⟩⟩ s))
  rintro ⟨out2, _⟩ w2 ⟨T2, e2, hr2, hx2, no2, s⟩ _
  dsimp only at no2 ⊢
  refine ⟨by decide, arith_i64 (by omega) (by omega) ?_⟩
  rw [hdiv]
  refine gd_eq (fun c => ?_) (fun c => ?_)
  · have h1 : k' / 2 = 0 := by omega
    rw [h1, Nat.zero_mul, Nat.zero_add] at hsplit
    rw [← hsplit, ← hkP] at no2
    exact h T2 _ w2 ⟨hr2.ext, hr2.grow, hr2.cap, by have := hr2.len; omega, Or.inl ⟨rfl, e2, no2⟩⟩ s
  · have hk2' : 2 ≤ k' := by omega
    have l2 : 2 * P ≤ (k' / 2) * (2 * P) := Nat.le_mul_of_pos_left _ (by omega)
    have l2P := Rep_le (a := P + P) (b := k) (by omega) t
    have nx2 := nx1.ext hx2
    refine avl_Join_sp s i (setGet hi) nx2 nx2 (by rw [Rep_len]; rw [Nat.add_mul] at l2P; omega) fun T3 z w3 hr3 s => ?_
    rw [List.set_set] at s
    have r23 := (hr2.andThen hr3).mono (N' := (3 * B + 2) * (j + 1)) (Q' := fun T' y => ∃ e, Nd0 T' y (Rep (2 * P) t) e) (by have := joinN_same (a := x1) (da := d1); omega) fun y hy => by
      obtain ⟨e, hn, _⟩ := hy
      rw [Rep_add, show P + P = 2 * P by omega] at hn
      exact ⟨e, hn⟩
    obtain ⟨z1, z2⟩ := z
    rcases r23.out with ⟨e, e3, n3⟩ | ⟨e, hf⟩
    · dsimp only at e n3 ⊢
      subst e
      have hlog := log2_step hk2'
      refine nilIfc_nil (gd_f rfl ⟨⟨T3, k' / 2, 2 * P, (k' % 2) * P + r, j + 1, e3, e2, rfl, by omega, by omega, by omega, ?_, by omega, ⟨r23.ext, r23.grow, r23.cap, r23.len, Or.inl ⟨rfl, trivial⟩⟩, n3, no2.ext hr3.ext, s⟩, by omega⟩)
      have hm := Nat.mod_lt k' (show 0 < 2 by decide)
      have : (k' % 2) * P ≤ 1 * P := Nat.mul_le_mul_right _ (by omega)
      omega
    · cases e
      exact nilIfc_err (gd_t rfl (h T3 _ w3 ⟨r23.ext, r23.grow, r23.cap, by have := r23.len; omega, Or.inr ⟨rfl, by omega⟩⟩ s))

/-! ### Repeat -/
def repErr (T : List ET) (x k : Int) : Int := if ¬ (0 ≤ x ∧ x ≤ (T.length : Int)) then 1 else if evn T x = false then 4 else if k < 0 then 1 else if 1152921504606846976 < (eAt T x).2.1.1 * k then 2 else 0
theorem nd0_of {x : Int} (h : 0 ≤ x ∧ x ≤ (T.length : Int)) (he : evn T x = true) : Nd0 T x (txt T x) (dep T x) := ⟨h.1, h.2, rfl, rfl, he⟩
theorem balance_Repeat_bad {x k : Int} (s : Sp w0 Ω w) (i : Nat) (hi : Ω[i]? = some (sto p most T)) (hn : repErr T x k ≠ 0) {K : Int × Value → World → Prop} (h : ∀ w', Sp w0 Ω w' → K (0, errV (repErr T x k)) w') : C_balance_Repeat (some p) x k K w := by
  apply S_balance_Repeat
  unfold F_balance_Repeat
  obtain ⟨_, _, _, hb0, hb1, hb2, hg⟩ := Sp.entry s i hi
  by_cases hk : 0 ≤ x ∧ x ≤ (T.length : Int)
  rotate_left
  · have e : repErr T x k = 1 := by unfold repErr; rw [if_pos hk]
    rw [e] at h
    exact avl_Balanced_u s i hi hk fun w1 s => nilIfc_err (gd_t rfl (h _ s))
  refine avl_Balanced_k s i hi hk fun w1 s => nilIfc_nil (gd_f rfl ?_)
  cases he : evn T x with
  | false =>
    have e : repErr T x k = 4 := by unfold repErr; rw [if_neg (by omega), if_pos he]
    rw [e] at h
    exact gd_t (by rw [show (eAt T x).2.2.2 = false from he]; rfl) (h _ s)
  | true =>
    refine gd_f (by rw [show (eAt T x).2.2.2 = true from he]; rfl) (gd_dec (fun c => ?_) (fun c => ?_))
    · have e : repErr T x k = 1 := by unfold repErr; rw [if_neg (by omega), if_neg (by rw [he]; simp), if_pos c]
      rw [e] at h
      exact h _ s
    · have wx := (hg.at_ hk.1 hk.2).1.len
      refine intern_Weight_k s i hi hk fun w2 s => s.allocK fun a4 w3 s => s.st0 0 rfl rfl rfl fun w4 s => nilIfc_nil (gd_f rfl (s.ldi (x := (eAt T x).2.1.1) 0 0 rfl rfl ?_))
      refine length_Mul_spec wx (by omega) (fun hle => ?_) (fun hgt => nilIfc_err (gd_t rfl ?_))
      · exact absurd (by unfold repErr; rw [if_neg (by omega), if_neg (by rw [he]; simp), if_neg c, if_neg (by omega)]) hn
      · have e : repErr T x k = 2 := by unfold repErr; rw [if_neg (by omega), if_neg (by rw [he]; simp), if_neg c, if_pos hgt]
        rw [e] at h
        exact h _ s.pop
theorem repErr_zero {x k : Int} (h : repErr T x k = 0) : (0 ≤ x ∧ x ≤ (T.length : Int)) ∧ evn T x = true ∧ 0 ≤ k ∧ (eAt T x).2.1.1 * k ≤ 1152921504606846976 := by
  unfold repErr at h
  split at h
  · omega
  · rename_i h1
    split at h
    · omega
    · rename_i h2
      split at h
      · omega
      · rename_i h3
        split at h
        · omega
        · exact ⟨Classical.not_not.1 h1, by simpa using h2, by omega, by omega⟩
theorem balance_Repeat_sp {x k : Int} {B : Nat} (s : Sp w0 Ω w) (i : Nat) (hi : Ω[i]? = some (sto p most T)) (hn : repErr T x k = 0) (hk2 : k ≤ 9223372036854775807) (hB : IsBound ((eAt T x).2.1.1 * k) B) {K : Int × Value → World → Prop}
    (h : ∀ T' r w', Res T most ((3 * B + 2) * (log2 k.toNat + 1)) (RepQ k.toNat (txt T x)) T' r → Sp w0 (Ω.set i (sto p most T')) w' → K r w') : C_balance_Repeat (some p) x k K w := by
  apply S_balance_Repeat
  unfold F_balance_Repeat
  obtain ⟨_, _, _, hb0, hb1, hb2, hg⟩ := Sp.entry s i hi
  obtain ⟨hk, he, hk0, hle⟩ := repErr_zero hn
  have nx := nd0_of hk he
  have wx := (hg.at_ hk.1 hk.2).1.len
  have lx := (nx.len hg).1
  refine avl_Balanced_k s i hi hk fun w1 s => nilIfc_nil (gd_f rfl (gd_f (by rw [show (eAt T x).2.2.2 = true from he]; rfl) (gd_f (decide_eq_false (by omega)) ?_)))
  refine intern_Weight_k s i hi hk fun w2 s => s.allocK fun a4 w3 s => s.st0 0 rfl rfl rfl fun w4 s => nilIfc_nil (gd_f rfl (s.ldi (x := (eAt T x).2.1.1) 0 0 rfl rfl ?_))
  refine length_Mul_spec wx (by omega) (fun _ => nilIfc_nil (gd_f rfl ?_)) (fun hgt => by omega)
  have s : Sp w0 Ω w4 := s.pop
  have s0 : Sp w0 (Ω.set i (sto p most T)) w4 := by rw [setSame hi]; exact s
  obtain ⟨n, rfl⟩ := Int.eq_ofNat_of_zero_le hk0
  have e1 : (eAt T x).2.1.1 * (n : Int) = ((n * (txt T x).length : Nat) : Int) := by rw [lx, ← Int.natCast_mul, Nat.mul_comm]
  rw [e1] at hle hB
  rw [show ((n : Int)).toNat = n from rfl] at h
  refine JoinP.inl (gd_eq (fun c => ?_) (fun c => ?_))
  · have : n = 0 := by omega
    subst this
    intro _
    exact gd_t rfl (h T _ _ (.same hg hb2 ⟨0, by rw [Rep_zero]; exact Nd0.zero⟩) s0)
  · intro _
    refine gd_eq (fun c2 => ?_) (fun c2 => ?_)
    · subst c2
      exact h T _ _ (.same hg hb2 ⟨0, by rw [txt_zero, Rep_nil]; exact Nd0.zero⟩) s0
    · exact balance_repeat_sp s i hi nx (by omega) hk2 hle hB fun T' r w' hr s => h T' r w' hr s
theorem ref15_Repeat_spec {x k : Int} (g : Grow T) (hN : T.length ≤ 1048576) (s : Sp w0 Ω w) (j : Nat) (hj : Ω[j]? = some (rf2 m T)) {K : Int → World → Prop} (h : ∀ w', Sp w0 Ω w' → K (repErr T x k) w') : C_ref15_Repeat m x k K w := by
  apply S_ref15_Repeat
  unfold F_ref15_Repeat
  refine s.allocK fun a1 w1 s => s.ld0 (ty := yevergreenref12_Store) (x := m) 0 rfl rfl (ref12_Known_spec s (j + 1) hj fun w2 s => ?_)
  by_cases hk : 0 ≤ x ∧ x ≤ (T.length : Int)
  rotate_left
  · have e : repErr T x k = 1 := by unfold repErr; rw [if_pos hk]
    rw [e] at h
    rw [show known T x = false from decide_eq_false hk]
    exact gd_t rfl (h _ s.pop)
  have hkn : known T x = true := decide_eq_true hk
  rw [hkn]
  refine gd_f rfl (s.ld0 (ty := yevergreenref12_Store) (x := m) 0 rfl rfl (ref15_Is_spec g hN hk s (j + 1) hj fun w3 s => ?_))
  cases he : evn T x with
  | false =>
    have e : repErr T x k = 4 := by unfold repErr; rw [if_neg (by omega), if_pos he]
    rw [e] at h
    exact gd_t rfl (h _ s.pop)
  | true =>
    refine gd_f rfl (gd_dec (fun c => ?_) (fun c => ?_))
    · have e : repErr T x k = 1 := by unfold repErr; rw [if_neg (by omega), if_neg (by rw [he]; simp), if_pos c]
      rw [e] at h
      exact h _ s.pop
    · have wx := (g.at_ hk.1 hk.2).1.len
      refine s.ld0 (ty := yevergreenref12_Store) (x := m) 0 rfl rfl (ref12_Length_spec s (j + 1) hj hkn hN fun w4 s => ?_)
      refine ⟨fun z w => z.1 = decide (1152921504606846976 < (eAt T x).2.1.1 * k) ∧ Sp w0 Ω w, gd_dec (fun c2 => ?_) (fun c2 => ⟨?_, s.pop⟩), ?_⟩
      · have hq : Int.tdiv 1152921504606846976 (eAt T x).2.1.1 = 1152921504606846976 / (eAt T x).2.1.1 := Int.tdiv_eq_ediv_of_nonneg (by omega)
        have hd0 := Int.ediv_nonneg (show (0 : Int) ≤ 1152921504606846976 by omega) (show 0 ≤ (eAt T x).2.1.1 by omega)
        have hd1 := Int.ediv_le_self (eAt T x).2.1.1 (show (0 : Int) ≤ 1152921504606846976 by omega)
        have hiff := Int.le_ediv_iff_mul_le (a := k) (b := 1152921504606846976) (show 0 < (eAt T x).2.1.1 by omega)
        refine ⟨by omega, arith_i64 (by omega) (by omega) ⟨?_, s.pop⟩⟩
        dsimp only
        rw [decide_eq_decide, hq]
        rw [Int.mul_comm] at hiff
        omega
      · have : (eAt T x).2.1.1 = 0 := by omega
        rw [this, Int.zero_mul, decide_eq_false (by omega)]
      · rintro ⟨b, _⟩ w5 ⟨hb, s⟩ _
        dsimp only at hb ⊢
        subst hb
        refine gd_dec (fun c2 => ?_) (fun c2 => ?_)
        · have e : repErr T x k = 2 := by unfold repErr; rw [if_neg (by omega), if_neg (by rw [he]; simp), if_neg c, if_pos c2]
          rw [e] at h
          exact h _ s
        · have e : repErr T x k = 0 := by unfold repErr; rw [if_neg (by omega), if_neg (by rw [he]; simp), if_neg c, if_neg c2]
          rw [e] at h
          exact h _ s

/-! ### BalanceRepeats -/
theorem bound_ex {n : Int} (hn : 0 ≤ n ∧ n ≤ 1152921504606846976) : ∃ B, IsBound n B := by
  have key : ∀ m : Nat, n < fibL (m + 1) → ∃ B, IsBound n B := by
    intro m
    induction m with
    | zero => intro h; exact ⟨0, Or.inl rfl, h, by decide⟩
    | succ m ih =>
      intro h
      rcases Int.lt_or_le n (fibL (m + 1)) with c | c
      · exact ih c
      · exact ⟨m + 1, Or.inr c, h, fibL_small (by omega)⟩
  have := fibL_big
  exact key 86 (by show n < (fibL 87 : Int); omega)
theorem rep_room {B k : Nat} (hB : B ≤ 86) (hk : (k : Int) ≤ 9223372036854775807) : (3 * B + 2) * (log2 k + 1) ≤ 16640 ∧ (3 * B + 2) * (log2 k + 1) ≤ 8 * (B + 1) * (log2 k + 1) ∧ 8 * (B + 1) * (log2 k + 1) ≤ 44544 ∧ log2 k ≤ 63 := by
  have hl := log2_lt 63 k (by omega)
  refine ⟨?_, Nat.mul_le_mul_right _ (by omega), ?_, hl⟩
  · have := Nat.mul_le_mul (show 3 * B + 2 ≤ 260 by omega) (show log2 k + 1 ≤ 64 by omega)
    omega
  · have := Nat.mul_le_mul (show 8 * (B + 1) ≤ 696 by omega) (show log2 k + 1 ≤ 64 by omega)
    omega
theorem law15_BalanceRepeats_spec {sl : Sl} {ops : List MakeT} {n k : Int} (hv : View yevergreenref12_Make w0 sl ops) (ho : ∀ o ∈ ops, MakeOK o) (hk : k ≤ 9223372036854775807) {K : Bool → World → Prop} (h : ∀ w', Ext w0 w' → K true w') : C_law15_BalanceRepeats sl n k K w0 := by
  apply S_law15_BalanceRepeats
  unfold F_law15_BalanceRepeats
  have hlen := hv.len
  refine gd_dec (fun c => h _ (.refl _ _)) (fun c => ?_)
  refine law15_begun_spec (Sp.init w0) hv ho (by omega) fun p rs m w1 s => s.allocK fun a2 w2 s => s.st0 0 rfl rfl rfl fun w3 s => gd_f rfl ?_
  have hb := bld_ok (most := B20) (by decide) ho
  have s : Sp w0 [cel a2 (cells yevergreenref12_Store m), own (.int .i64) rs (bld B20 ops).2, rf2 m (bld B20 ops).1, sto p B20 (bld B20 ops).1] w3 := s
  generalize (bld B20 ops).1 = T at *
  generalize (bld B20 ops).2 = res at *
  have hT := hb.len
  have hg := hb.grow
  have hc := hb.cnt
  refine law15_pick_spec s 3 rfl 1 rfl (by omega) (by omega) fun w4 s => intern_Len_sp s 3 rfl ?_
  generalize rootP T res n = x
  by_cases he : repErr T x k = 0
  rotate_left
  · refine balance_Repeat_bad s 3 rfl he fun w5 s => s.ld0 (ty := yevergreenref12_Store) (x := m) 0 rfl rfl (ref15_Repeat_spec hg (by omega) s 2 rfl fun w6 s => ?_)
    refine gd_t (by simp [he]) (gd_t rfl (base_Num_err ?_))
    rw [beq_self_eq_true]
    exact h _ s.ext
  obtain ⟨hkx, hex, hk0, hle⟩ := repErr_zero he
  have wx := (hg.at_ hkx.1 hkx.2).1.len
  have lx := hg.len hkx.1 hkx.2
  have hn0 : 0 ≤ (eAt T x).2.1.1 * k := Int.mul_nonneg wx.1 hk0
  obtain ⟨B, hB⟩ := bound_ex ⟨hn0, hle⟩
  have hroom := rep_room hB.2.2 (k := k.toNat) (by omega)
  refine balance_Repeat_sp s 3 rfl he hk hB fun T' r w5 hr s => ?_
  have s : Sp w0 [cel a2 (cells yevergreenref12_Store m), own (.int .i64) rs res, rf2 m T, sto p B20 T'] w5 := s
  refine s.ld0 (ty := yevergreenref12_Store) (x := m) 0 rfl rfl (ref15_Repeat_spec hg (by omega) s 2 rfl fun w6 s => ?_)
  rw [he]
  rcases hr.out with ⟨e1, d, nd⟩ | ⟨_, hf⟩
  rotate_left
  · rw [B20_eq] at hf; omega
  obtain ⟨r1, r2⟩ := r
  dsimp only at e1 nd ⊢
  subst e1
  have hrl := hr.len
  have hg' := hr.grow
  have l1 := (nd.len hg').1
  have e1 : ((Rep k.toNat (txt T x)).length : Int) = (eAt T x).2.1.1 * k := by
    rw [Rep_len, lx, Int.natCast_mul, Int.toNat_of_nonneg hk0, Int.mul_comm]
  refine gd_f rfl (s.ld0 (ty := yevergreenref12_Store) (x := m) 0 rfl rfl (ref12_Length_spec s 2 rfl (decide_eq_true hkx) (by omega) fun w7 s => arith_i64 (by omega) (by omega) ?_))
  refine ⟨fun z w => z.1 = false ∧ Sp w0 [cel a2 (cells yevergreenref12_Store m), own (.int .i64) rs res, rf2 m T, sto p B20 T'] w, ?_, ?_⟩
  · refine nilIfc_nil (gd_f rfl (law15_fits_spec s 3 rfl nd fun w8 s => gd_f rfl (intern_Len_sp s 3 rfl (arith_i64 (by omega) (by omega) (ref15_Bound_spec ⟨hn0, hle⟩ fun b hb => ?_)))))
    have hb86 := hb.2.2
    refine arith_i64 (by omega) (by omega) (arith_i64 (by omega) (by omega) (ref15_Log_spec hk (arith_i64 (by omega) (by omega) ?_)))
    have := hb.unique hB
    subst this
    have e2 : (8 : Int) * ((b : Int) + 1) * ((log2 k.toNat : Int) + 1) = ((8 * (b + 1) * (log2 k.toNat + 1) : Nat) : Int) := by
      rw [Int.natCast_mul, Int.natCast_mul]; rfl
    refine arith_i64 (by omega) (by omega) ⟨?_, s⟩
    exact decide_eq_false (by omega)
  clear s
  rintro ⟨b, _⟩ w8 ⟨hb, s⟩ _
  dsimp only at hb ⊢
  subst hb
  refine gd_f rfl (intern_Weight_k s 3 rfl ⟨nd.pos, nd.le⟩ fun w9 s => s.allocK fun a25 w10 s => s.st0 0 rfl rfl rfl fun w11 s => JoinP.inl (nilIfc_nil (gd_f rfl (s.ldi (x := (eAt T' r1).2.1.1) 0 0 rfl rfl ?_))))
  intro _
  refine gd_f (by rw [l1, e1]; simp) ?_
  have s : Sp w0 [cel a2 (cells yevergreenref12_Store m), own (.int .i64) rs res, rf2 m T, sto p B20 T'] w11 := s.pop
  refine s.ld0 (ty := yevergreenref12_Store) (x := m) 0 rfl rfl (ref12_Text_spec hg (by omega) hkx (by decide) s 2 rfl (fun hl4 ts w12 s => ?_) (fun _ w12 s => JoinP.inl (gd_t rfl fun _ => gd_t rfl (h _ s.ext))))
  refine JoinP.inl (gd_f rfl ?_)
  intro _
  refine gd_dec (fun c2 => h _ s.ext) (fun c2 => ?_)
  have e3 : ((k.toNat * (txt T x).length : Nat) : Int) = (eAt T x).2.1.1 * k := by rw [← e1, Rep_len]
  refine ⟨fun z w => Sp w0 [own (.int .u8) z.1 (Rep k.toNat (txt T x)), sto p B20 T'] w, ?_, ?_⟩
  · have s := s.pick [0, 4] 5 rfl (by decide)
    refine loop_by (fun x => x.2.1) k.toNat (fun n z w => Sp w0 [own (.int .u8) z.1 (Rep n (txt T x)), own (.int .u8) ts (txt T x), sto p B20 T'] w) rfl (s.nil _) ?_
    clear s
    rintro n ⟨z, y, _⟩ w13 hn hy s _
    dsimp only at hy s ⊢
    subst hy
    have htl := (s.view 1 rfl).len
    refine ⟨fun _ w => n < k.toNat ∧ Sp w0 [own (.int .u8) z (Rep n (txt T x)), own (.int .u8) ts (txt T x), sto p B20 T'] w, gd_dec (fun c3 => gd_dec (fun c4 => ⟨by omega, s⟩) (fun c4 => ?_)) (fun c3 => ?_), ?_⟩
    · have : txt T x = [] := List.eq_nil_of_length_eq_zero (by omega)
      rw [this, Rep_nil] at s ⊢
      exact s.pick [0, 2] 3 rfl (by decide)
    · have : n = k.toNat := by omega
      subst this
      exact s.pick [0, 2] 3 rfl (by decide)
    · rintro _ w14 ⟨hlt, s⟩ _
      have hle2 := Rep_le (a := n + 1) (b := k.toNat) (by omega) (txt T x)
      rw [Nat.add_mul, Nat.one_mul] at hle2
      refine s.app 0 rfl (s.view 1 rfl) (by rw [Rep_len]; omega) fun s40 w15 s => arith_i64 (by omega) (by omega) (loop_nx hlt ?_)
      have : Rep n (txt T x) ++ txt T x = Rep (n + 1) (txt T x) := by
        rw [← Rep_add, Rep_one]
      rw [← this]
      exact s
  clear s
  rintro ⟨z, _⟩ w14 s _
  dsimp only at s ⊢
  exact law15_is_spec s 1 rfl ⟨nd.pos, nd.le⟩ nd.txt (by omega) (fun w' s => s.view 0 rfl) fun w15 s => h _ s.ext

end Go.Proofs.Ytnbkhhjklpoipaa

/- law15: texts one after the other (Concat); the walks of BalanceConcats. -/
set_option linter.unusedVariables false
set_option linter.unusedSimpArgs false
namespace Go.Proofs.Ytnbkhhjklpoipaa
open Go.Den

variable {w0 w : World} {Ω : List Ob} {most : Int} {T : List ET} {i j : Nat} {p : Addr} {m : yevergreenref12_Store.T}

def badAt (T : List ET) (x : Int) : Int := if ¬ (0 ≤ x ∧ x ≤ (T.length : Int)) then 1 else if evn T x = false then 4 else 0
theorem badAt_zero {x : Int} (h : badAt T x = 0) : (0 ≤ x ∧ x ≤ (T.length : Int)) ∧ evn T x = true := by
  unfold badAt at h
  split at h
  · omega
  · rename_i h1
    split at h
    · omega
    · rename_i h2
      exact ⟨Classical.not_not.1 h1, by simpa using h2⟩
def firstBad (T : List ET) : List Int → Int
  | [] => 0
  | x :: r => if badAt T x = 0 then firstBad T r else badAt T x
theorem firstBad_good : ∀ {ids : List Int}, (∀ x ∈ ids, badAt T x = 0) → firstBad T ids = 0
  | [], _ => rfl
  | x :: r, h => by
    rw [firstBad, if_pos (h x (by simp))]
    exact firstBad_good fun y hy => h y (List.mem_cons_of_mem _ hy)
theorem firstBad_at : ∀ {ids : List Int} {n : Nat} {x : Int}, (∀ y ∈ ids.take n, badAt T y = 0) → ids[n]? = some x → badAt T x ≠ 0 → firstBad T ids = badAt T x
  | [], n, x, _, h, _ => by simp at h
  | y :: r, 0, x, _, h, hb => by
    simp at h
    subst h
    rw [firstBad, if_neg hb]
  | y :: r, n + 1, x, hg, h, hb => by
    rw [firstBad, if_pos (hg y (by simp))]
    exact firstBad_at (n := n) (fun z hz => hg z (by rw [List.take_succ_cons]; exact List.mem_cons_of_mem _ hz)) (by simpa using h) hb
def lenL (T : List ET) (ids : List Int) : List (Ty.int .i64).T := ids.map fun x => (eAt T x).2.1.1
theorem lenL_len (T : List ET) (ids : List Int) : (lenL T ids).length = ids.length := List.length_map _
def sumL : List Int → Int
  | [] => 0
  | x :: r => x + sumL r
theorem sumL_append : ∀ (a b : List Int), sumL (a ++ b) = sumL a + sumL b
  | [], b => by simp [sumL]
  | x :: a, b => by simp only [List.cons_append, sumL, sumL_append a b]; omega
theorem sumL_nn : ∀ {a : List Int}, (∀ x ∈ a, 0 ≤ x) → 0 ≤ sumL a
  | [], _ => Int.le_refl _
  | x :: a, h => by
    have h1 := h x (by simp)
    have h2 := sumL_nn fun y hy => h y (List.mem_cons_of_mem x hy)
    simp only [sumL]; omega
theorem sumL_take {a : List Int} (h : ∀ x ∈ a, 0 ≤ x) (n : Nat) : sumL (a.take n) ≤ sumL a := by
  have h1 := sumL_append (a.take n) (a.drop n)
  rw [List.take_append_drop] at h1
  have h2 := sumL_nn (a := a.drop n) fun x hx => h x (List.mem_of_mem_drop hx)
  omega
theorem sumL_succ {a : List Int} {n : Nat} {x : Int} (h : a[n]? = some x) : sumL (a.take (n + 1)) = sumL (a.take n) + x := by
  rw [List.take_add_one, h, Option.toList_some, sumL_append]
  simp [sumL]
theorem length_Sum_spec {sl : Sl} {xs : List (Ty.int .i64).T} (hx : ∀ x ∈ xs, (0 : Int) ≤ x ∧ x ≤ 1152921504606846976) (hN : xs.length ≤ 1000000000) (s : Sp w0 Ω w) (hv : ∀ w', Sp w0 Ω w' → View (.int .i64) w' sl xs) {K : Int × Value → World → Prop}
    (h1 : sumL xs ≤ 1152921504606846976 → ∀ w', Sp w0 Ω w' → K (sumL xs, .nilIface) w') (h2 : 1152921504606846976 < sumL xs → ∀ w', Sp w0 Ω w' → K (0, errV 2) w') : C_length_Sum sl K w := by
  apply S_length_Sum
  unfold F_length_Sum
  have hl := (hv _ s).len
  have nn : ∀ x ∈ xs, (0 : Int) ≤ x := fun x h => (hx x h).1
  refine loop_by (fun x => x.2.1) xs.length (fun n z w => z.1 = sumL (xs.take n) ∧ sumL (xs.take n) ≤ 1152921504606846976 ∧ Sp w0 Ω w) rfl ⟨rfl, by simp [sumL], s⟩ ?_
  clear s
  rintro n ⟨a, y, _⟩ w1 hn hy ⟨ha, hle, s⟩ _
  dsimp only at hy ha ⊢
  subst hy ha
  refine gd_dec (fun hlt => ?_) (fun hge => ?_)
  · have hn' : n < xs.length := by omega
    have hget := List.getElem?_eq_getElem hn'
    have hb := hx _ (List.getElem_mem hn')
    generalize xs[n] = z at hget hb
    have h0 := sumL_nn (a := xs.take n) fun x hx => nn x (List.mem_of_mem_take hx)
    have hs := sumL_succ hget
    refine (hv _ s).idx rfl hget rfl fun q hq => ⟨z, hq, length_Add_spec ⟨h0, hle⟩ hb (fun hle2 => nilIfc_nil (gd_f rfl (arith_i64 (by omega) (by omega) (loop_nx hn' ⟨hs.symm, by omega, s⟩)))) (fun hgt => nilIfc_err (gd_t rfl ?_))⟩
    have := sumL_take nn (n + 1)
    exact h2 (by omega) _ s
  · have e : n = xs.length := by omega
    subst e
    rw [List.take_length] at hle ⊢
    exact h1 hle _ s

def concatErr (T : List ET) (ids : List Int) : Int := if firstBad T ids = 0 then (if 1152921504606846976 < sumL (lenL T ids) then 2 else 0) else firstBad T ids
def cat (T : List ET) (ids : List Int) : List Int := (ids.map (txt T)).flatten
theorem cat_nil (T : List ET) : cat T [] = [] := rfl
theorem cat_snoc (T : List ET) (ids : List Int) (x : Int) : cat T (ids ++ [x]) = cat T ids ++ txt T x := by simp [cat]
theorem cat_len (g : Grow T) : ∀ {ids : List Int}, (∀ x ∈ ids, 0 ≤ x ∧ x ≤ (T.length : Int)) → ((cat T ids).length : Int) = sumL (lenL T ids)
  | [], _ => rfl
  | x :: r, h => by
    have h1 := g.len (h x (by simp)).1 (h x (by simp)).2
    have h2 := cat_len g fun y hy => h y (List.mem_cons_of_mem x hy)
    unfold cat lenL at h2 ⊢
    rw [List.map_cons, List.flatten_cons, List.length_append, List.map_cons, sumL, h1, ← h2]
    omega
def CatQ (T : List ET) (ids : List Int) : List ET → Int → Prop := fun T' y => ∃ e, Nd0 T' y (cat T ids) e
theorem lenL_get {ids : List Int} {n : Nat} {x : Int} (h : ids[n]? = some x) : (lenL T ids)[n]? = some (eAt T x).2.1.1 := by unfold lenL; rw [List.getElem?_map, h]; rfl
theorem lenL_take (ids : List Int) (n : Nat) : lenL T (ids.take n) = (lenL T ids).take n := by unfold lenL; rw [List.map_take]
theorem concatErr_zero {ids : List Int} (h : concatErr T ids = 0) : firstBad T ids = 0 ∧ sumL (lenL T ids) ≤ 1152921504606846976 := by
  unfold concatErr at h
  split at h
  · rename_i h1
    split at h
    · omega
    · exact ⟨h1, by omega⟩
  · rename_i h1
    exact absurd h h1
theorem firstBad_all : ∀ {ids : List Int}, firstBad T ids = 0 → ∀ x ∈ ids, badAt T x = 0
  | [], _, x, hx => by simp at hx
  | y :: r, h, x, hx => by
    rw [firstBad] at h
    split at h
    · rename_i h1
      rcases List.mem_cons.1 hx with rfl | hx
      · exact h1
      · exact firstBad_all h x hx
    · rename_i h1
      exact absurd h h1

theorem balance_Concat_sp {isl : Sl} {ids : List (Ty.int .i64).T} {B : Nat} (s : Sp w0 Ω w) (i : Nat) (hi : Ω[i]? = some (sto p most T)) (hv : ∀ w' T', Sp w0 (Ω.set i (sto p most T')) w' → View (.int .i64) w' isl ids) (hN : ids.length ≤ 1000000) {K : Int × Value → World → Prop}
    (hbad : concatErr T ids ≠ 0 → ∀ w', Sp w0 Ω w' → K (0, errV (concatErr T ids)) w')
    (h : concatErr T ids = 0 → IsBound (sumL (lenL T ids)) B → ∀ T' r w', Res T most ((3 * B + 1) * ids.length) (CatQ T ids) T' r → Sp w0 (Ω.set i (sto p most T')) w' → K r w')
    (hB : concatErr T ids = 0 → IsBound (sumL (lenL T ids)) B) : C_balance_Concat (some p) isl K w := by
  apply S_balance_Concat
  unfold F_balance_Concat
  obtain ⟨_, _, _, hb0, hb1, hb2, hg⟩ := Sp.entry s i hi
  have hv0 : ∀ w', Sp w0 Ω w' → View (.int .i64) w' isl ids := fun w' s => hv w' T (by rw [setSame hi]; exact s)
  have hl := (hv0 _ s).len
  have hNt : ((isl.len : Int)).toNat = ids.length := by omega
  refine gd_f rfl ⟨by omega, by omega, by omega, by omega, s.mkS (.int .i64) (0 : Int) 0 ids.length (Nat.zero_le _) (fun a1 w1 s => ?_) rfl (by rw [hNt]; rfl)⟩
  rw [hNt]
  refine loop_by (fun x => x.2.1) ids.length (fun n x w => (∀ y ∈ ids.take n, badAt T y = 0) ∧ Sp w0 (own (.int .i64) x.1 (lenL T (ids.take n)) :: Ω) w) rfl ⟨by simp, s⟩ ?_
  clear s
  rintro n ⟨ls, y, _⟩ w2 hn hy ⟨hgood, s⟩ _
  dsimp only at hy s ⊢
  subst hy
  refine gd_dec (fun hlt => ?_) (fun hge => ?_)
  · have hn' : n < ids.length := by omega
    have hget := List.getElem?_eq_getElem hn'
    generalize ids[n] = x at hget
    have htk : ids.take (n + 1) = ids.take n ++ [x] := by rw [List.take_add_one, hget]; rfl
    have err : badAt T x ≠ 0 → concatErr T ids = badAt T x := fun hne => by
      have := firstBad_at hgood hget hne
      unfold concatErr
      rw [this, if_neg hne]
    refine (hv0 _ s.pop).idx rfl hget rfl fun q hq => ⟨x, hq, ?_⟩
    by_cases hk : 0 ≤ x ∧ x ≤ (T.length : Int)
    rotate_left
    · have e : badAt T x = 1 := by unfold badAt; rw [if_pos hk]
      have e2 := err (by rw [e]; decide)
      rw [e2, e] at hbad
      exact avl_Balanced_u s (i + 1) hi hk fun w3 s => nilIfc_err (gd_t rfl (hbad (by decide) _ s.pop))
    refine avl_Balanced_k s (i + 1) hi hk fun w3 s => nilIfc_nil (gd_f rfl ?_)
    cases he : evn T x with
    | false =>
      have e : badAt T x = 4 := by unfold badAt; rw [if_neg (fun h : ¬ (0 ≤ x ∧ x ≤ (T.length : Int)) => h hk), if_pos he]
      have e2 := err (by rw [e]; decide)
      rw [e2, e] at hbad
      exact gd_t (by rw [show (eAt T x).2.2.2 = false from he]; rfl) (hbad (by decide) _ s.pop)
    | true =>
      have e : badAt T x = 0 := by unfold badAt; rw [if_neg (fun h : ¬ (0 ≤ x ∧ x ≤ (T.length : Int)) => h hk), if_neg (by rw [he]; simp)]
      have hll := lenL_len T (ids.take n)
      rw [List.length_take] at hll
      refine gd_f (by rw [show (eAt T x).2.2.2 = true from he]; rfl) (intern_Weight_k s (i + 1) hi hk fun w4 s => s.allocK fun a9 w5 s => s.st0 0 rfl rfl rfl fun w6 s => nilIfc_nil (gd_f rfl (s.ldi (x := (eAt T x).2.1.1) 0 0 rfl rfl ?_)))
      refine s.allocK fun a12 w7 s => s.app 2 rfl ((s.lit (ty := .int .i64) 0 rfl [(eAt T x).2.1.1] 1 rfl rfl).view 0 rfl) (by simp only [List.length_cons, List.length_nil]; omega) fun s13 w8 s => arith_i64 (by omega) (by omega) (loop_nx hn' ⟨?_, ?_⟩)
      · rw [htk]
        intro z hz
        rcases List.mem_append.1 hz with hz | hz
        · exact hgood z hz
        · simp at hz; subst hz; exact e
      · have : lenL T (ids.take (n + 1)) = lenL T (ids.take n) ++ [(eAt T x).2.1.1] := by rw [htk]; simp [lenL]
        rw [this]
        exact s.pick [2] 3 rfl (by decide)
  have en : n = ids.length := by omega
  subst en
  rw [List.take_length] at hgood s
  have hkn : ∀ x ∈ ids, 0 ≤ x ∧ x ≤ (T.length : Int) := fun x hx => (badAt_zero (hgood x hx)).1
  have f0 := firstBad_good hgood
  have hll := lenL_len T ids
  refine length_Sum_spec (xs := lenL T ids) (fun z hz => ?_) (by omega) s (fun w' s => s.view 0 rfl) (fun hle w3 s => ?_) (fun hgt w3 s => ?_)
  · obtain ⟨x, hx, rfl⟩ := List.mem_map.1 hz
    exact (hg.at_ (hkn x hx).1 (hkn x hx).2).1.len
  rotate_left
  · have e : concatErr T ids = 2 := by unfold concatErr; rw [if_pos f0, if_pos hgt]
    rw [e] at hbad
    exact nilIfc_err (gd_t rfl (hbad (by decide) _ s.pop))
  have e0 : concatErr T ids = 0 := by unfold concatErr; rw [if_pos f0, if_neg (by omega)]
  have hB := hB e0
  have h := h e0 hB
  have nnl : ∀ z ∈ lenL T ids, (0 : Int) ≤ z := fun z hz => by
    obtain ⟨x, hx, rfl⟩ := List.mem_map.1 hz
    exact (hg.at_ (hkn x hx).1 (hkn x hx).2).1.len.1
  refine nilIfc_nil (gd_f rfl ?_)
  have s : Sp w0 Ω w3 := s.pop
  have s0 : Sp w0 (Ω.set i (sto p most T)) w3 := by rw [setSame hi]; exact s
  refine loop_by (fun x => x.2.1) ids.length (fun n x w => ∃ (T1 : List ET) (e1 : Int), Res T most ((3 * B + 1) * n) (fun _ _ => True) T1 (0, .nilIface) ∧ Nd0 T1 x.1 (cat T (ids.take n)) e1 ∧ Sp w0 (Ω.set i (sto p most T1)) w) rfl ⟨T, 0, .same hg hb2 trivial, by simp [cat_nil]; exact Nd0.zero, s0⟩ ?_
  clear s s0
  rintro n ⟨acc, y, _⟩ w4 hn hy ⟨T1, e1, hr1, na, s⟩ _
  dsimp only at hy na ⊢
  subst hy
  have hgt1 := hr1.grow
  have hln : (3 * B + 1) * n ≤ (3 * B + 1) * ids.length := Nat.mul_le_mul_left _ hn
  have hct : ∀ n, ((cat T (ids.take n)).length : Int) ≤ sumL (lenL T ids) := fun n => by
    rw [cat_len hg (fun x hx => hkn x (List.mem_of_mem_take hx)), lenL_take]
    exact sumL_take nnl n
  refine gd_dec (fun hlt => ?_) (fun hge => ?_)
  · have hn' : n < ids.length := by omega
    have hget := List.getElem?_eq_getElem hn'
    have hmem := List.getElem_mem hn'
    generalize ids[n] = x at hget hmem
    have htk : ids.take (n + 1) = ids.take n ++ [x] := by rw [List.take_add_one, hget]; rfl
    have hb' := badAt_zero (hgood x hmem)
    have nx := (nd0_of hb'.1 hb'.2).ext hr1.ext
    have hc1 := hct n
    have hc2 := hct (n + 1)
    rw [htk, cat_snoc, List.length_append] at hc2
    have ba := nd0_le hgt1 na hB hc1
    have bx := nd0_le hgt1 nx hB (by omega)
    have hln1 : (3 * B + 1) * n + (3 * B + 1) ≤ (3 * B + 1) * ids.length := by
      have := Nat.mul_le_mul_left (3 * B + 1) (show n + 1 ≤ ids.length by omega)
      rwa [Nat.mul_succ] at this
    refine (hv _ _ s).idx rfl hget rfl fun q hq => ⟨x, hq, avl_Join_sp s i (setGet hi) na nx (by omega) fun T2 z w5 hr2 s => ?_⟩
    rw [List.set_set] at s
    have r12 := (hr1.andThen hr2).mono (N' := (3 * B + 1) * n + (3 * B + 1)) (Q' := fun T' y => ∃ e, Nd0 T' y (cat T (ids.take (n + 1))) e) (by have := joinN_le (a := acc) (b := x) ba bx; omega) fun y hy => by
      obtain ⟨e, hn, _⟩ := hy
      rw [htk, cat_snoc]
      exact ⟨e, hn⟩
    obtain ⟨z1, z2⟩ := z
    rcases r12.out with ⟨e, e2, n2⟩ | ⟨e, hf⟩
    · dsimp only at e n2 ⊢
      subst e
      exact nilIfc_nil (gd_f rfl (arith_i64 (by omega) (by omega) (loop_nx hn' ⟨T2, e2, ⟨r12.ext, r12.grow, r12.cap, by have := r12.len; rw [Nat.mul_succ]; omega, Or.inl ⟨rfl, trivial⟩⟩, n2, s⟩)))
    · cases e
      exact nilIfc_err (gd_t rfl (h T2 _ w5 ⟨r12.ext, r12.grow, r12.cap, by have := r12.len; omega, Or.inr ⟨rfl, by omega⟩⟩ s))
  · have e : n = ids.length := by omega
    subst e
    rw [List.take_length] at na
    exact h T1 _ w4 ⟨hr1.ext, hr1.grow, hr1.cap, hr1.len, Or.inl ⟨rfl, e1, na⟩⟩ s
theorem balance_Concat_nil {isl : Sl} {K : Int × Value → World → Prop} (h : K (0, errV 5) w) : C_balance_Concat none isl K w := by
  apply S_balance_Concat
  unfold F_balance_Concat
  exact gd_t rfl h

theorem ref15_Concat_spec {isl : Sl} {ids : List (Ty.int .i64).T} (g : Grow T) (hT : T.length ≤ 1048576) (hN : ids.length ≤ 1000000) (s : Sp w0 Ω w) (j : Nat) (hj : Ω[j]? = some (rf2 m T)) (hv : ∀ w', Sp w0 Ω w' → View (.int .i64) w' isl ids) {K : Int → World → Prop}
    (h : ∀ w', Sp w0 Ω w' → K (concatErr T ids) w') : C_ref15_Concat m isl K w := by
  apply S_ref15_Concat
  unfold F_ref15_Concat
  have hl := (hv _ s).len
  refine s.allocK fun a1 w1 s => ?_
  refine loop_by (fun x => x.1) ids.length (fun n x w => (∀ y ∈ ids.take n, badAt T y = 0) ∧ Sp w0 (cel a1 (cells yevergreenref12_Store m) :: Ω) w) rfl ⟨by simp, s⟩ ?_
  clear s
  rintro n ⟨y, _⟩ w2 hn hy ⟨hgood, s⟩ _
  dsimp only at hy s ⊢
  subst hy
  refine gd_dec (fun hlt => ?_) (fun hge => ?_)
  · have hn' : n < ids.length := by omega
    have hget := List.getElem?_eq_getElem hn'
    generalize ids[n] = x at hget
    have htk : ids.take (n + 1) = ids.take n ++ [x] := by rw [List.take_add_one, hget]; rfl
    have err : badAt T x ≠ 0 → concatErr T ids = badAt T x := fun hne => by
      have := firstBad_at hgood hget hne
      unfold concatErr
      rw [this, if_neg hne]
    refine s.drawK fun w3 s => s.ld0 (ty := yevergreenref12_Store) (x := m) 0 rfl rfl ((hv _ s.pop).idx rfl hget rfl fun q hq => ⟨x, hq, ref12_Known_spec s (j + 1) hj fun w4 s => ?_⟩)
    by_cases hk : 0 ≤ x ∧ x ≤ (T.length : Int)
    rotate_left
    · have e : badAt T x = 1 := by unfold badAt; rw [if_pos hk]
      have e2 := err (by rw [e]; decide)
      rw [e2, e] at h
      rw [show known T x = false from decide_eq_false hk]
      exact gd_t rfl (h _ s.pop)
    rw [show known T x = true from decide_eq_true hk]
    refine gd_f rfl (s.drawK fun w5 s => s.ld0 (ty := yevergreenref12_Store) (x := m) 0 rfl rfl ((hv _ s.pop).idx rfl hget rfl fun q hq => ⟨x, hq, ref15_Is_spec g hT hk s (j + 1) hj fun w6 s => ?_⟩))
    cases he : evn T x with
    | false =>
      have e : badAt T x = 4 := by unfold badAt; rw [if_neg (fun h : ¬ (0 ≤ x ∧ x ≤ (T.length : Int)) => h hk), if_pos he]
      have e2 := err (by rw [e]; decide)
      rw [e2, e] at h
      exact gd_t rfl (h _ s.pop)
    | true =>
      have e : badAt T x = 0 := by unfold badAt; rw [if_neg (fun h : ¬ (0 ≤ x ∧ x ≤ (T.length : Int)) => h hk), if_neg (by rw [he]; simp)]
      refine gd_f rfl (arith_i64 (by omega) (by omega) (loop_nx hn' ⟨?_, s⟩))
      rw [htk]
      intro z hz
      rcases List.mem_append.1 hz with hz | hz
      · exact hgood z hz
      · simp at hz; subst hz; exact e
  have en : n = ids.length := by omega
  subst en
  rw [List.take_length] at hgood
  have hkn : ∀ x ∈ ids, 0 ≤ x ∧ x ≤ (T.length : Int) := fun x hx => (badAt_zero (hgood x hx)).1
  have f0 := firstBad_good hgood
  have nnl : ∀ z ∈ lenL T ids, (0 : Int) ≤ z := fun z hz => by
    obtain ⟨x, hx, rfl⟩ := List.mem_map.1 hz
    exact (g.at_ (hkn x hx).1 (hkn x hx).2).1.len.1
  refine loop_by (fun x => x.2.1) ids.length (fun n x w => x.1 = sumL ((lenL T ids).take n) ∧ sumL ((lenL T ids).take n) ≤ 1152921504606846976 ∧ Sp w0 (cel a1 (cells yevergreenref12_Store m) :: Ω) w) rfl ⟨rfl, by simp [sumL], s⟩ ?_
  clear s
  rintro n ⟨a, y, _⟩ w3 hn hy ⟨ha, hle, s⟩ _
  dsimp only at hy ha ⊢
  subst hy ha
  refine gd_dec (fun hlt => ?_) (fun hge => ?_)
  · have hn' : n < ids.length := by omega
    have hget := List.getElem?_eq_getElem hn'
    have hmem := List.getElem_mem hn'
    generalize ids[n] = x at hget hmem
    have hk := hkn x hmem
    have hb := (g.at_ hk.1 hk.2).1.len
    have h0 := sumL_nn (a := (lenL T ids).take n) fun x hx => nnl x (List.mem_of_mem_take hx)
    have hs := sumL_succ (lenL_get (T := T) hget)
    have hkk : known T x = true := decide_eq_true hk
    refine s.drawK fun w4 s => s.ld0 (ty := yevergreenref12_Store) (x := m) 0 rfl rfl ((hv _ s.pop).idx rfl hget rfl fun q hq => ⟨x, hq, arith_i64 (by omega) (by omega) (ref12_Length_spec s (j + 1) hj hkk hT fun w5 s => gd_dec (fun c => ?_) (fun c => ?_))⟩)
    · have := sumL_take nnl (n + 1)
      have e : concatErr T ids = 2 := by unfold concatErr; rw [if_pos f0, if_pos (by omega)]
      rw [e] at h
      exact h _ s.pop
    · refine s.drawK fun w6 s => s.ld0 (ty := yevergreenref12_Store) (x := m) 0 rfl rfl ((hv _ s.pop).idx rfl hget rfl fun q hq => ⟨x, hq, ref12_Length_spec s (j + 1) hj hkk hT fun w7 s => arith_i64 (by omega) (by omega) (arith_i64 (by omega) (by omega) (loop_nx hn' ⟨hs.symm, by omega, s⟩))⟩)
  · have e : n = (lenL T ids).length := by rw [lenL_len]; omega
    subst e
    rw [List.take_length] at hle
    have e : concatErr T ids = 0 := by unfold concatErr; rw [if_pos f0, if_neg (by omega)]
    rw [e] at h
    exact h _ s.pop

end Go.Proofs.Ytnbkhhjklpoipaa

/- law15: the walk of BalanceConcats. -/
set_option linter.unusedVariables false
set_option linter.unusedSimpArgs false
namespace Go.Proofs.Ytnbkhhjklpoipaa
open Go.Den

variable {w0 w : World} {Ω : List Ob} {most : Int} {T : List ET} {i j : Nat} {p : Addr} {m : yevergreenref12_Store.T}

theorem law15_BalanceConcats_spec {sl psl : Sl} {ops : List MakeT} {picks : List Int} (hv : View yevergreenref12_Make w0 sl ops) (ho : ∀ o ∈ ops, MakeOK o) (hvp : View (.int .i64) w0 psl picks) {K : Bool → World → Prop} (h : ∀ w', Ext w0 w' → K true w') : C_law15_BalanceConcats sl psl K w0 := by
  apply S_law15_BalanceConcats
  unfold F_law15_BalanceConcats
  have hlen := hv.len
  have hpl := hvp.len
  refine JoinP.inl (gd_dec (fun c => fun _ => gd_t rfl (h _ (.refl _ _))) (fun c => fun _ => gd_dec (fun c2 => h _ (.refl _ _)) (fun c2 => ?_)))
  refine law15_begun_spec (Sp.init w0) hv ho (by omega) fun p rs m w1 s => s.allocK fun a4 w2 s => s.st0 0 rfl rfl rfl fun w3 s => gd_f rfl ?_
  have hb := bld_ok (most := B20) (by decide) ho
  have s : Sp w0 [cel a4 (cells yevergreenref12_Store m), own (.int .i64) rs (bld B20 ops).2, rf2 m (bld B20 ops).1, sto p B20 (bld B20 ops).1] w3 := s
  generalize (bld B20 ops).1 = T at *
  generalize (bld B20 ops).2 = res at *
  have hT := hb.len
  have hg := hb.grow
  have hc := hb.cnt
  refine loop_by (fun x => x.2.1) picks.length (fun n x w => Sp w0 [own (.int .i64) x.1 (rootL T res (picks.take n)), cel a4 (cells yevergreenref12_Store m), own (.int .i64) rs res, rf2 m T, sto p B20 T] w) rfl (s.nil _) ?_
  clear s
  rintro n ⟨isl, y, _⟩ w4 hn hy s _
  dsimp only at hy s ⊢
  subst hy
  refine gd_dec (fun hlt => ?_) (fun hge => ?_)
  · have hn' : n < picks.length := by omega
    have hget := List.getElem?_eq_getElem hn'
    generalize picks[n] = z at hget
    have htk : rootL T res (picks.take (n + 1)) = rootL T res (picks.take n) ++ [rootP T res z] := by
      unfold rootL
      rw [List.take_add_one, hget, Option.toList_some, List.map_append]; rfl
    have hol := rootL_len T res (picks.take n)
    rw [List.length_take] at hol
    refine (hvp.ext s.ext).idx rfl hget rfl fun q hq => ⟨z, hq, law15_pick_spec s 4 rfl 2 rfl (by omega) (by omega) fun w5 s => s.allocK fun a10 w6 s => s.app 1 rfl ((s.lit (ty := .int .i64) 0 rfl [rootP T res z] 1 rfl rfl).view 0 rfl) (by simp only [List.length_cons, List.length_nil]; omega) fun s11 w7 s => arith_i64 (by omega) (by omega) (loop_nx hn' ?_)⟩
    rw [htk]
    exact s.pop
  have en : n = picks.length := by omega
  subst en
  rw [List.take_length] at s
  have hrl := rootL_len T res picks
  generalize rootL T res picks = ids at *
  have hisl := (s.view 0 rfl).len
  refine intern_Len_sp s 4 rfl ?_
  obtain ⟨B, hB⟩ : ∃ B, concatErr T ids = 0 → IsBound (sumL (lenL T ids)) B := by
    by_cases he : concatErr T ids = 0
    · obtain ⟨f0, hle⟩ := concatErr_zero he
      have hgood := firstBad_all f0
      obtain ⟨B, hB⟩ := bound_ex (n := sumL (lenL T ids)) ⟨sumL_nn fun z hz => by
        obtain ⟨x, hx, rfl⟩ := List.mem_map.1 hz
        have hk := (badAt_zero (hgood x hx)).1
        exact (hg.at_ hk.1 hk.2).1.len.1, hle⟩
      exact ⟨B, fun _ => hB⟩
    · exact ⟨0, fun h => absurd h he⟩
  refine balance_Concat_sp (B := B) s 4 rfl (fun w' T' s => s.view 0 rfl) (by omega) (fun hne w5 s => ?_) (fun he hB T' r w5 hr s => ?_) hB
  · refine s.ld0 (ty := yevergreenref12_Store) (x := m) 1 rfl rfl (ref15_Concat_spec hg (by omega) (by omega) s 3 rfl (fun w' s => s.view 0 rfl) fun w6 s => ?_)
    refine gd_t (by simp [hne]) (gd_t rfl (base_Num_err ?_))
    rw [beq_self_eq_true]
    exact h _ s.ext
  have s : Sp w0 [own (.int .i64) isl ids, cel a4 (cells yevergreenref12_Store m), own (.int .i64) rs res, rf2 m T, sto p B20 T'] w5 := s
  obtain ⟨f0, hle⟩ := concatErr_zero he
  have hgood := firstBad_all f0
  have hkn : ∀ x ∈ ids, 0 ≤ x ∧ x ≤ (T.length : Int) := fun x hx => (badAt_zero (hgood x hx)).1
  have nnl : ∀ z ∈ lenL T ids, (0 : Int) ≤ z := fun z hz => by
    obtain ⟨x, hx, rfl⟩ := List.mem_map.1 hz
    exact (hg.at_ (hkn x hx).1 (hkn x hx).2).1.len.1
  have h0 := sumL_nn nnl
  have hcl := cat_len hg hkn
  have hB86 := hB.2.2
  have room : (3 * B + 1) * ids.length ≤ 260 * 40 := Nat.mul_le_mul (by omega) (by omega)
  have room2 : (3 * B + 1) * ids.length ≤ 8 * (B + 1) * ids.length := Nat.mul_le_mul_right _ (by omega)
  have room3 : 8 * (B + 1) * ids.length ≤ 696 * 40 := Nat.mul_le_mul (by omega) (by omega)
  refine s.ld0 (ty := yevergreenref12_Store) (x := m) 1 rfl rfl (ref15_Concat_spec hg (by omega) (by omega) s 3 rfl (fun w' s => s.view 0 rfl) fun w6 s => ?_)
  rw [he]
  rcases hr.out with ⟨e1, d, nd⟩ | ⟨_, hf⟩
  rotate_left
  · rw [B20_eq] at hf; omega
  obtain ⟨r1, r2⟩ := r
  dsimp only at e1 nd ⊢
  subst e1
  have hrl' := hr.len
  have l1 := (nd.len hr.grow).1
  refine gd_f rfl ?_
  refine loop_by (fun x => x.2.2.1) ids.length (fun n x w => x.1 = sumL ((lenL T ids).take n) ∧ ∃ u : List (Ty.int .u8).T, u.length ≤ 4096 ∧ (sumL ((lenL T ids).take n) ≤ 4096 → u = cat T (ids.take n)) ∧ Sp w0 [own (.int .u8) x.2.1 u, own (.int .i64) isl ids, cel a4 (cells yevergreenref12_Store m), own (.int .i64) rs res, rf2 m T, sto p B20 T'] w) rfl ⟨rfl, [], by simp, fun _ => rfl, s.nil _⟩ ?_
  clear s
  rintro n ⟨a, ts, y, _⟩ w7 hn hy ⟨ha, u, hu, hue, s⟩ _
  dsimp only at hy ha s ⊢
  subst hy ha
  have hs0 := sumL_nn (a := (lenL T ids).take n) fun x hx => nnl x (List.mem_of_mem_take hx)
  have hs1 := sumL_take nnl n
  refine gd_dec (fun hlt => ?_) (fun hge => ?_)
  · have hn' : n < ids.length := by omega
    have hget := List.getElem?_eq_getElem hn'
    have hmem := List.getElem_mem hn'
    generalize ids[n] = x at hget hmem
    have htk : ids.take (n + 1) = ids.take n ++ [x] := by rw [List.take_add_one, hget]; rfl
    have hk := hkn x hmem
    have hwb := (hg.at_ hk.1 hk.2).1.len
    have hlx := hg.len hk.1 hk.2
    have hs := sumL_succ (lenL_get (T := T) hget)
    have hs2 := sumL_take nnl (n + 1)
    refine ⟨fun z w => z.1 = sumL ((lenL T ids).take (n + 1)) ∧ ∃ u : List (Ty.int .u8).T, u.length ≤ 4096 ∧ (sumL ((lenL T ids).take (n + 1)) ≤ 4096 → u = cat T (ids.take (n + 1))) ∧ Sp w0 [own (.int .u8) z.2.1 u, own (.int .i64) isl ids, cel a4 (cells yevergreenref12_Store m), own (.int .i64) rs res, rf2 m T, sto p B20 T'] w, ?_, ?_⟩
    · refine (s.view 1 rfl).idx rfl hget rfl fun q hq => ⟨x, hq, s.ld0 (ty := yevergreenref12_Store) (x := m) 2 rfl rfl (ref12_Length_spec s 4 rfl (decide_eq_true hk) (by omega) fun w8 s => arith_i64 (by omega) (by omega) (gd_dec (fun c3 => ?_) (fun c3 => ⟨hs.symm, u, hu, fun h => by omega, s⟩)))⟩
      have hul := hue (by omega)
      have hcl1 := cat_len hg (ids := ids.take n) fun x hx => hkn x (List.mem_of_mem_take hx)
      rw [lenL_take] at hcl1
      refine s.ld0 (ty := yevergreenref12_Store) (x := m) 2 rfl rfl (ref12_Text_spec hg (by omega) hk (by decide) s 4 rfl (fun hl4 ts2 w9 s => ?_) (fun hno => by omega))
      refine s.app 1 rfl (s.view 0 rfl) (by omega) fun s29 w10 s => ⟨hs.symm, u ++ txt T x, ?_, fun _ => ?_, s.pop⟩
      · rw [List.length_append, hul]; omega
      · rw [htk, cat_snoc, hul]
    · rintro ⟨a2, t2, _⟩ w8 ⟨ha2, u2, hu2, hue2, s⟩ _
      dsimp only at ha2 s ⊢
      exact arith_i64 (by omega) (by omega) (loop_nx hn' ⟨ha2, u2, hu2, hue2, s⟩)
  have en : n = ids.length := by omega
  have hlt : (lenL T ids).take n = lenL T ids := by rw [en, ← lenL_len T ids, List.take_length]
  rw [hlt] at hs0 hs1 hue ⊢
  rw [en, List.take_length] at hue
  refine intern_Weight_k s 5 rfl ⟨nd.pos, nd.le⟩ fun w8 s => s.allocK fun a32 w9 s => s.st0 0 rfl rfl rfl fun w10 s => ?_
  refine ⟨fun z w => z.1 = false ∧ Sp w0 [own (.int .u8) ts u, sto p B20 T'] w, ?_, ?_⟩
  · refine nilIfc_nil (gd_f rfl (nilIfc_nil (gd_f rfl (s.ldi (x := (eAt T' r1).2.1.1) 0 0 rfl rfl (gd_f (by rw [l1, hcl]; simp) (law15_fits_spec s 6 rfl nd fun w11 s => gd_f rfl (intern_Len_sp s 6 rfl (arith_i64 (by omega) (by omega) (ref15_Bound_spec ⟨h0, hle⟩ fun b hb => ?_)))))))))
    have := hb.unique hB
    subst this
    have e2 : (8 : Int) * ((b : Int) + 1) * (isl.len : Int) = ((8 * (b + 1) * ids.length : Nat) : Int) := by
      rw [Int.natCast_mul, Int.natCast_mul, hisl]; rfl
    refine arith_i64 (by omega) (by omega) (arith_i64 (by omega) (by omega) (arith_i64 (by omega) (by omega) ⟨?_, s.pick [1, 6] 7 rfl (by decide)⟩))
    exact decide_eq_false (by omega)
  clear s
  rintro ⟨z, _⟩ w12 ⟨hz, s⟩ _
  dsimp only at hz ⊢
  subst hz
  refine gd_f rfl (gd_dec (fun c3 => h _ s.ext) (fun c3 => ?_))
  have hul := hue (by omega)
  exact law15_is_spec s 1 rfl ⟨nd.pos, nd.le⟩ nd.txt (by omega) (fun w' s => by rw [← hul]; exact s.view 0 rfl) fun w15 s => h _ s.ext

end Go.Proofs.Ytnbkhhjklpoipaa

/- law15: any text made balanced (step, Of), and the specification's bound (Work). -/
set_option linter.unusedVariables false
set_option linter.unusedSimpArgs false
namespace Go.Proofs.Ytnbkhhjklpoipaa
open Go.Den

variable {w0 w : World} {Ω : List Ob} {most : Int} {T : List ET} {ids : List Int} {i j : Nat} {p : Addr} {m : yevergreenref12_Store.T}

/-! ### What a rule costs -/
def logP (T : List ET) (y : Int) : Nat := if (eAt T y).1.1 = 3 then log2 (eAt T y).1.2.2.2.2.toNat else 0
def cost (T : List ET) (B : Nat) (y : Int) : Nat := if evn T y = true then 0 else (3 * B + 2) * (1 + logP T y)
def sumN : List Nat → Nat
  | [] => 0
  | x :: r => x + sumN r
theorem sumN_append : ∀ (a b : List Nat), sumN (a ++ b) = sumN a + sumN b
  | [], b => by simp [sumN]
  | x :: a, b => by simp only [List.cons_append, sumN, sumN_append a b]; omega
def costL (T : List ET) (B : Nat) (ids : List Int) : Nat := sumN (ids.map (cost T B))
theorem costL_snoc (T : List ET) (B : Nat) (ids : List Int) (y : Int) : costL T B (ids ++ [y]) = costL T B ids + cost T B y := by
  unfold costL
  rw [List.map_append, sumN_append]
  simp [sumN]
theorem costL_take (T : List ET) (B : Nat) (ids : List Int) (n : Nat) : costL T B (ids.take n) ≤ costL T B ids := by
  have h : costL T B ids = costL T B (ids.take n) + costL T B (ids.drop n) := by
    unfold costL
    rw [← sumN_append, ← List.map_append, List.take_append_drop]
  omega
theorem costL_bound {T : List ET} {B C : Nat} : ∀ {ids : List Int}, (∀ y ∈ ids, cost T B y ≤ C) → costL T B ids ≤ C * ids.length
  | [], _ => Nat.zero_le _
  | y :: r, h => by
    have h1 := h y (by simp)
    have h2 := costL_bound fun z hz => h z (List.mem_cons_of_mem y hz)
    unfold costL at h2 ⊢
    rw [List.map_cons, sumN, List.length_cons, Nat.mul_succ]
    omega

/-! ### One rule -/
def DoneAt (T T1 : List ET) (mm : List (Int × (Ty.int .i64).T)) (x : Int) : Prop := ∃ v e, at? mm x = some v ∧ Nd0 T1 v (txt T x) e
theorem DoneAt.ext {T2 : List ET} {T1 : List ET} {mm : List (Int × (Ty.int .i64).T)} {x : Int} (h : DoneAt T T1 mm x) (e : T1 <+: T2) : DoneAt T T2 mm x := by
  obtain ⟨v, d, h1, h2⟩ := h
  exact ⟨v, d, h1, h2.ext e⟩
theorem balance_step_sp {T1 : List ET} {y n : Int} {B r : Nat} {mm : List (Int × (Ty.int .i64).T)} (s : Sp w0 Ω w) (i k : Nat) (hi : Ω[i]? = some (sto p most T1)) (hk : Ω[k]? = some (mc (.int .i64) r mm)) (g : Grow T) (hx : T <+: T1) (hy : 1 ≤ y ∧ y ≤ T.length)
    (hd : ∀ x ∈ refs (eAt T y).1, DoneAt T T1 mm x) (hB : IsBound n B) (hn : (eAt T y).2.1.1 ≤ n) {K : Int × Value → World → Prop}
    (h : ∀ T' v w', Res T1 most (cost T B y) (fun T' v => ∃ e, Nd0 T' v (txt T y) e) T' v → Sp w0 (Ω.set i (sto p most T')) w' → K v w') : C_balance_step (some p) y (some r) K w := by
  apply S_balance_step
  unfold F_balance_step
  obtain ⟨_, _, _, hb0, hb1, hb2, hg⟩ := Sp.entry s i hi
  have hle := ext_len hx
  have he : eAt T1 y = eAt T y := ext_eAt hx (by omega) hy.2
  have s0 : ∀ w', Sp w0 Ω w' → Sp w0 (Ω.set i (sto p most T1)) w' := fun w' s => by rw [setSame hi]; exact s
  have ly := g.len (id := y) (by omega) hy.2
  have wy := (g.at_ (id := y) (by omega) hy.2).1.len
  refine avl_Balanced_k s i hi (by omega) fun w1 s => nilIfc_nil (gd_f rfl ?_)
  rw [he]
  cases hev : evn T y with
  | true =>
    refine gd_t hev (h T1 _ w1 ((Res.same (N := 0) (Q := fun T' v => ∃ e, Nd0 T' v (txt T y) e) hg hb2 ⟨dep T y, (nd0_of ⟨by omega, hy.2⟩ hev).ext hx⟩).mono (Nat.zero_le _) fun _ h => h) (s0 _ s))
  | false =>
    have hcost : cost T B y = (3 * B + 2) * (1 + logP T y) := by unfold cost; rw [if_neg (by rw [hev]; simp)]
    refine gd_f hev (intern_Rule_k s i hi (by omega) fun w2 s => ?_)
    rw [he]
    refine s.allocK fun a4 w3 s => s.st0 0 rfl rfl rfl fun w4 s => nilIfc_nil (gd_f rfl ?_)
    cases g.txt hy.1 hy.2 with
    | letter b _ _ e _ => unfold evn at hev; rw [e] at hev; cases hev
    | power x k' h1 h2 h3 h4 e ht =>
      obtain ⟨v, d, hv, nv⟩ := hd x (by rw [e]; simp [refs, mkPower])
      have hlk : ∀ w', Sp w0 (cel a4 (cells yapi_Rule (eAt T y).1) :: Ω) w' → Lk1 P t_map_api_ID_api_ID (.int .i64) (.map (some r)) (.int .i64 x) v w' := fun w' s => by
        have := (s.mc_ (k + 1) hk).get (by decide) mapII eqID zeroII x
        rwa [hv] at this
      have hl1 : logP T y = log2 k'.toNat := by unfold logP; rw [e]; exact if_pos rfl
      have lx := g.len (id := x) (by omega) (by omega)
      have e3 : ((k'.toNat * (txt T x).length : Nat) : Int) = (eAt T y).2.1.1 := by rw [ly, ht, flat_rep_len]
      have hk64 : k' ≤ 1152921504606846976 := by
        have wx := (g.at_ (id := x) (by omega) (by omega)).2.2.2 h1
        have : 1 * k' ≤ (eAt T x).2.1.1 * k' := Int.mul_le_mul_of_nonneg_right wx (by omega)
        omega
      obtain ⟨B', hB'⟩ := bound_ex (n := ((k'.toNat * (txt T x).length : Nat) : Int)) ⟨by omega, by rw [e3]; exact wy.2⟩
      have hBB : B' ≤ B := by
        rcases hB'.1 with h0 | h0
        · omega
        · exact hB.le (by omega)
      refine s.ldi (x := 3) 0 0 rfl (by rw [e]; rfl) (gd_t rfl (s.ldi (x := x) 0 2 rfl (by rw [e]; rfl) ⟨v, hlk _ s, s.ldi (x := k') 0 4 rfl (by rw [e]; rfl) ?_⟩))
      rw [show k' = (k'.toNat : Int) by omega]
      refine balance_repeat_sp s (i + 1) hi nv (by omega) (by omega) (by rw [e3]; exact wy.2) hB' fun T' z w5 hr s => h T' z w5 (hr.mono ?_ fun u hu => ?_) s.pop
      · rw [hcost, hl1, Nat.add_comm 1]
        exact Nat.mul_le_mul_right _ (by omega)
      · obtain ⟨e', hu⟩ := hu
        exact ⟨e', by rw [ht]; exact hu⟩
    | pair l r' h1 h2 h3 h4 h5 e ht =>
      obtain ⟨v1, d1, hv1, n1⟩ := hd l (by rw [e]; simp [refs, mkPair])
      obtain ⟨v2, d2, hv2, n2⟩ := hd r' (by rw [e]; simp [refs, mkPair])
      have hlk : ∀ (x v : Int) w', at? mm x = some v → Sp w0 (cel a4 (cells yapi_Rule (eAt T y).1) :: Ω) w' → Lk1 P t_map_api_ID_api_ID (.int .i64) (.map (some r)) (.int .i64 x) v w' := fun x v w' hv s => by
        have := (s.mc_ (k + 1) hk).get (by decide) mapII eqID zeroII x
        rwa [hv] at this
      rw [ht, List.length_append] at ly
      have b1 := nd0_le hg n1 hB (by omega)
      have b2 := nd0_le hg n2 hB (by omega)
      refine s.ldi (x := 2) 0 0 rfl (by rw [e]; rfl) (gd_f rfl (s.ldi (x := l) 0 2 rfl (by rw [e]; rfl) ⟨v1, hlk _ _ _ hv1 s, s.ldi (x := r') 0 3 rfl (by rw [e]; rfl) ⟨v2, hlk _ _ _ hv2 s, ?_⟩⟩))
      refine avl_Join_sp s (i + 1) hi n1 n2 (by omega) fun T' z w5 hr s => h T' z w5 (hr.mono ?_ fun u hu => ?_) s.pop
      · have := joinN_le (a := v1) (b := v2) b1 b2
        have h1 : (3 * B + 2) * 1 ≤ (3 * B + 2) * (1 + logP T y) := Nat.mul_le_mul_left _ (by omega)
        rw [hcost]
        omega
      · obtain ⟨e', hu, _⟩ := hu
        exact ⟨e', by rw [ht]; exact hu⟩

/-! ### All rules of a text -/
theorem rch_len (g : Grow T) {id x : Int} (hk : 0 ≤ id ∧ id ≤ T.length) (h : Rch T [id] x) : (eAt T x).2.1.1 ≤ (eAt T id).2.1.1 := by
  have hS : ∀ x ∈ [id], 0 ≤ x ∧ x ≤ (T.length : Int) := fun x hx => by simp at hx; subst hx; exact hk
  induction h with
  | root h1 _ => simp at h1; subst h1; exact Int.le_refl _
  | @ref y x hy hx ih =>
    have hb := hy.bound g hS
    refine Int.le_trans ?_ ih
    have ly := g.len (id := y) (by omega) hb.2
    have hxb := refs_in g hb.1 hb.2 hx
    have lx := g.len (id := x) (by omega) (by omega)
    cases g.txt hb.1 hb.2 with
    | letter b _ _ e _ => rw [e] at hx; simp [refs, mkLetter] at hx
    | pair l r _ _ _ _ _ e ht =>
      rw [e] at hx
      simp [refs, mkPair] at hx
      rw [ht, List.length_append] at ly
      rcases hx with rfl | rfl <;> omega
    | power a k _ _ h3 _ e ht =>
      rw [e] at hx
      simp [refs, mkPower] at hx
      subst hx
      rw [ht, flat_rep_len] at ly
      have : (txt T x).length ≤ k.toNat * (txt T x).length := Nat.le_mul_of_pos_left _ (by omega)
      omega
theorem balance_Of_u {id : Int} (s : Sp w0 Ω w) (i : Nat) (hi : Ω[i]? = some (sto p most T)) (hk : ¬ (0 ≤ id ∧ id ≤ T.length)) {K : Int × Value → World → Prop} (h : ∀ w', Sp w0 Ω w' → K (0, errV 1) w') : C_balance_Of (some p) id K w := by
  apply S_balance_Of
  unfold F_balance_Of
  exact avl_Balanced_u s i hi hk fun w1 s => nilIfc_err (gd_t rfl (h _ s))
theorem balance_Of_even {id : Int} (s : Sp w0 Ω w) (i : Nat) (hi : Ω[i]? = some (sto p most T)) (hk : 0 ≤ id ∧ id ≤ T.length) (he : evn T id = true) {K : Int × Value → World → Prop} (h : ∀ w', Sp w0 Ω w' → K (id, .nilIface) w') : C_balance_Of (some p) id K w := by
  apply S_balance_Of
  unfold F_balance_Of
  exact avl_Balanced_k s i hi hk fun w1 s => nilIfc_nil (gd_f rfl (gd_t he (h _ s)))
theorem balance_Of_nil {id : Int} {K : Int × Value → World → Prop} (h : K (0, errV 5) w) : C_balance_Of none id K w := by
  apply S_balance_Of
  unfold F_balance_Of
  exact avl_Balanced_nil (nilIfc_err (gd_t rfl h))
def OfQ (T : List ET) (id : Int) : List ET → Int → Prop := fun T' y => (∃ e, Nd0 T' y (txt T id) e) ∧ (evn T id = true → y = id)
theorem balance_Of_sp {id : Int} {B : Nat} (s : Sp w0 Ω w) (i : Nat) (hi : Ω[i]? = some (sto p most T)) (hk : 0 ≤ id ∧ id ≤ T.length) (hB : IsBound (eAt T id).2.1.1 B) {K : Int × Value → World → Prop}
    (h : ∀ T' v w', Res T most (costL T B (rlist T [id])) (OfQ T id) T' v → Sp w0 (Ω.set i (sto p most T')) w' → K v w') : C_balance_Of (some p) id K w := by
  obtain ⟨_, _, _, hb0, hb1, hb2, hg⟩ := Sp.entry s i hi
  have s0 : ∀ w', Sp w0 Ω w' → Sp w0 (Ω.set i (sto p most T)) w' := fun w' s => by rw [setSame hi]; exact s
  cases he : evn T id with
  | true => exact balance_Of_even s i hi hk he fun w' s => h T _ w' ((Res.same (N := 0) hg hb2 (Q := OfQ T id) ⟨⟨_, nd0_of hk he⟩, fun _ => rfl⟩).mono (Nat.zero_le _) fun _ h => h) (s0 _ s)
  | false =>
    apply S_balance_Of
    unfold F_balance_Of
    have hid : id ≠ 0 := fun e => by subst e; cases he
    have hS : ∀ x ∈ [id], 0 ≤ x ∧ x ≤ (T.length : Int) := fun x hx => by simp at hx; subst hx; exact hk
    have hc := rlist_closed hg hS
    obtain ⟨kl, e1, e2⟩ := rlist_last hg (id := id) (by omega) hk.2
    have hrl := rlist_len T [id]
    have hrm : ∀ y ∈ rlist T [id], Rch T [id] y := fun y hy => (mem_rlist.1 hy).2
    refine avl_Balanced_k s i hi hk fun w1 s => nilIfc_nil (gd_f rfl (gd_f he (s.allocK fun a3 w2 s => ?_)))
    refine collect_Reach_sp (S := [id]) s (i + 1) hi (fun w' s => (s.lit (ty := .int .i64) 0 rfl [id] 1 rfl rfl).view 0 rfl) (by simp) (fun _ sl w3 s => ?_) (fun hn => absurd hS hn)
    generalize rlist T [id] = ids at *
    refine nilIfc_nil (gd_f rfl (s.allocC (.int .i64) fun r w4 s => ?_))
    have s : Sp w0 (mc (.int .i64) r [] :: own (.int .i64) sl ids :: Ω) w4 := s.pick [0, 1] 3 rfl (by decide)
    have hsl := (s.view 1 rfl).len
    refine loop_by (fun x => x.1) ids.length (fun n x w => ∃ (T1 : List ET) (mm : List (Int × (Ty.int .i64).T)), Res T most (costL T B (ids.take n)) (fun _ _ => True) T1 (0, .nilIface) ∧ (∀ (j : Nat) (y : Int), j < n → ids[j]? = some y → DoneAt T T1 mm y) ∧ Sp w0 (mc (.int .i64) r mm :: own (.int .i64) sl ids :: Ω.set i (sto p most T1)) w) rfl ⟨T, [], .same hg hb2 trivial, fun j y hj => by omega, by rw [setSame hi]; exact s⟩ ?_
    clear s
    rintro n ⟨x, _⟩ w5 hn hx ⟨T1, mm, hr1, hdone, s⟩ _
    dsimp only at hx ⊢
    subst hx
    refine gd_dec (fun hlt => ?_) (fun hge => ?_)
    · have hn' : n < ids.length := by omega
      have hget := List.getElem?_eq_getElem hn'
      have hmem := List.getElem_mem hn'
      generalize ids[n] = y at hget hmem
      have htk : ids.take (n + 1) = ids.take n ++ [y] := by rw [List.take_add_one, hget]; rfl
      have hyb := hc.bound y hmem
      have hcs : costL T B (ids.take n) + cost T B y = costL T B (ids.take (n + 1)) := by rw [htk, costL_snoc]
      have hct := costL_take T B ids (n + 1)
      have hyl := rch_len hg hk (hrm y hmem)
      refine (s.view 1 rfl).idx rfl hget rfl fun q hq => ⟨y, hq, balance_step_sp (T := T) (n := (eAt T id).2.1.1) (B := B) s (i + 2) 0 (setGet hi) rfl hg hr1.ext hyb (fun x hx => ?_) hB hyl fun T2 v w6 hr2 s => ?_⟩
      · obtain ⟨j1, q1, q2, _⟩ := hc.ref hg hget hx
        exact hdone j1 x q1 q2
      have s : Sp w0 (mc (.int .i64) r mm :: own (.int .i64) sl ids :: (Ω.set i (sto p most T1)).set i (sto p most T2)) w6 := s
      rw [List.set_set] at s
      refine s.upC (vt := .int .i64) 0 rfl (by decide) mapII eqID y v.1 fun w7 s => ?_
      have s : Sp w0 (mc (.int .i64) r (mupd mm y v.1) :: own (.int .i64) sl ids :: Ω.set i (sto p most T2)) w7 := s
      have r12 := (hr1.andThen hr2)
      rw [hcs] at r12
      obtain ⟨v1, v2⟩ := v
      rcases r12.out with ⟨ev, e3, n3⟩ | ⟨ev, hf⟩
      · dsimp only at ev n3 s ⊢
        have sz := s
        subst ev
        refine nilIfc_nil (gd_f rfl (arith_i64 (by omega) (by omega) (loop_nx hn' ⟨T2, mupd mm y v1, ⟨r12.ext, r12.grow, r12.cap, r12.len, Or.inl ⟨rfl, trivial⟩⟩, fun j z hj hz => ?_, sz⟩)))
        by_cases c : j = n
        · subst c
          rw [hget] at hz
          cases hz
          exact ⟨v1, e3, by rw [at_mupd, if_pos rfl], n3⟩
        · by_cases c2 : y = z
          · subst c2
            exact ⟨v1, e3, by rw [at_mupd, if_pos rfl], n3⟩
          · obtain ⟨u, e4, h5, h6⟩ := (hdone j z (by omega) hz).ext hr2.ext
            exact ⟨u, e4, by rw [at_mupd, if_neg c2]; exact h5, h6⟩
      · cases ev
        exact nilIfc_err (gd_t rfl (h T2 _ w7 ⟨r12.ext, r12.grow, r12.cap, by have := r12.len; omega, Or.inr ⟨rfl, by omega⟩⟩ (s.drop 2)))
    · have en : n = ids.length := by omega
      subst en
      rw [List.take_length] at hr1
      obtain ⟨v, e4, h5, h6⟩ := hdone kl id (by omega) e2
      have hlk := (s.mc_ 0 rfl).get (by decide) mapII eqID zeroII id
      rw [h5] at hlk
      exact ⟨v, hlk, h T1 _ w5 ⟨hr1.ext, hr1.grow, hr1.cap, hr1.len, Or.inl ⟨rfl, ⟨e4, h6⟩, fun hh => by rw [he] at hh; cases hh⟩⟩ (s.drop 2)⟩

/-! ### The specification's bound -/
def workL (T : List ET) (ids : List Int) : Nat := ids.length + sumN (ids.map (logP T))
theorem logP_le (g : Grow T) {y : Int} (h1 : 1 ≤ y) (h2 : y ≤ T.length) : logP T y ≤ 63 ∧ ((eAt T y).1.1 = 3 → 2 ≤ (eAt T y).1.2.2.2.2 ∧ (eAt T y).1.2.2.2.2 ≤ 1152921504606846976) := by
  unfold logP
  cases g.txt h1 h2 with
  | letter b _ _ e _ => rw [e]; exact ⟨by rw [if_neg (by simp [mkLetter])]; omega, fun h => by simp [mkLetter] at h⟩
  | pair l r _ _ _ _ _ e _ => rw [e]; exact ⟨by rw [if_neg (by simp [mkPair])]; omega, fun h => by simp [mkPair] at h⟩
  | power x k' h1 h2 h3 h4 e ht =>
    have hk64 : k' ≤ 1152921504606846976 := by
      have wx := (g.at_ (id := x) (by omega) (by omega)).2.2.2 h1
      have : 1 * k' ≤ (eAt T x).2.1.1 * k' := Int.mul_le_mul_of_nonneg_right wx (by omega)
      omega
    rw [e]
    refine ⟨?_, fun _ => ⟨h3, hk64⟩⟩
    show (if (3 : Int) = 3 then log2 k'.toNat else 0) ≤ 63
    rw [if_pos rfl]
    exact log2_lt 63 _ (by omega)
theorem sumN_le {f : Int → Nat} {C : Nat} : ∀ {ids : List Int}, (∀ y ∈ ids, f y ≤ C) → sumN (ids.map f) ≤ C * ids.length
  | [], _ => Nat.zero_le _
  | y :: r, h => by
    have h1 := h y (by simp)
    have h2 := sumN_le (f := f) fun z hz => h z (List.mem_cons_of_mem y hz)
    rw [List.map_cons, sumN, List.length_cons, Nat.mul_succ]
    omega
theorem costL_work (T : List ET) (B : Nat) : ∀ ids : List Int, costL T B ids ≤ (3 * B + 2) * workL T ids
  | [] => Nat.zero_le _
  | y :: r => by
    have h := costL_work T B r
    have h1 : cost T B y ≤ (3 * B + 2) * (1 + logP T y) := by unfold cost; split <;> omega
    unfold costL at h ⊢
    rw [List.map_cons, sumN]
    have e : workL T (y :: r) = (1 + logP T y) + workL T r := by unfold workL; rw [List.map_cons, sumN, List.length_cons]; omega
    rw [e, Nat.mul_add]
    omega
theorem ref15_Work_spec {sl : Sl} {n : Int} {B : Nat} (g : Grow T) (hN : T.length ≤ 1048576) (hb : ∀ y ∈ ids, 1 ≤ y ∧ y ≤ (T.length : Int)) (hl : ids.length ≤ 1048576) (hB : IsBound n B) (hn : 0 ≤ n ∧ n ≤ 1152921504606846976) (s : Sp w0 Ω w) (hv : ∀ w', Sp w0 Ω w' → View yapi_Rule w' sl (exp T ids)) {K : Int → World → Prop}
    (h : ∀ w', Sp w0 Ω w' → K ((8 * (B + 1) * workL T ids : Nat) : Int) w') : C_ref15_Work sl n K w := by
  apply S_ref15_Work
  unfold F_ref15_Work
  have hlen := (hv _ s).len
  rw [exp_len] at hlen
  refine loop_by (fun x => x.2.1) ids.length (fun k x w => x.1 = ((ids.length + sumN ((ids.take k).map (logP T)) : Nat) : Int) ∧ Sp w0 Ω w) rfl ⟨by simp [sumN, hlen], s⟩ ?_
  clear s
  rintro k ⟨a, y, _⟩ w1 hk hy ⟨ha, s⟩ _
  dsimp only at hy ha ⊢
  subst hy ha
  have hsn := sumN_le (f := logP T) (C := 63) (ids := ids.take k) fun y hy => (logP_le g (hb y (List.mem_of_mem_take hy)).1 (hb y (List.mem_of_mem_take hy)).2).1
  rw [List.length_take] at hsn
  refine gd_dec (fun hlt => ?_) (fun hge => ?_)
  · have hk' : k < ids.length := by omega
    have hget := List.getElem?_eq_getElem hk'
    have hmem := List.getElem_mem hk'
    generalize ids[k] = z at hget hmem
    have hzb := hb z hmem
    have hzl := logP_le g hzb.1 hzb.2
    have htk : ids.take (k + 1) = ids.take k ++ [z] := by rw [List.take_add_one, hget]; rfl
    have hex := exp_get (T := T) hget
    have hss : sumN ((ids.take (k + 1)).map (logP T)) = sumN ((ids.take k).map (logP T)) + logP T z := by
      rw [htk, List.map_append, sumN_append]
      simp [sumN]
    have hk1 : (mvr ids (eAt T z).1).1 = (eAt T z).1.1 ∧ (mvr ids (eAt T z).1).2.2.2.2 = (eAt T z).1.2.2.2.2 := ⟨rfl, rfl⟩
    refine ⟨fun x w => x.1 = ((ids.length + sumN ((ids.take (k + 1)).map (logP T)) : Nat) : Int) ∧ Sp w0 Ω w, ?_, ?_⟩
    · refine (hv _ s).idx2 rfl hex rfl fun q hq => ⟨(eAt T z).1.1, ((hq _ (hv _ s)).sub 0 rfl : At _ (q.add 0) (cells (.int .i64) (mvr ids (eAt T z).1).1)), gd_eq (fun c => ?_) (fun c => ⟨?_, s⟩)⟩
      · refine (hv _ s).idx2 rfl hex rfl fun q hq => ⟨(eAt T z).1.2.2.2.2, ((hq _ (hv _ s)).sub 4 rfl : At _ (q.add 4) (cells (.int .i64) (mvr ids (eAt T z).1).2.2.2.2)), ref15_Log_spec (by have := (hzl.2 c).2; omega) ?_⟩
        have e : log2 (eAt T z).1.2.2.2.2.toNat = logP T z := by unfold logP; rw [if_pos c]
        rw [e]
        refine arith_i64 (by omega) (by omega) ⟨?_, s⟩
        rw [hss]
        dsimp only
        omega
      · have e : logP T z = 0 := by unfold logP; rw [if_neg c]
        rw [hss, e]; rfl
    · rintro ⟨a2, _⟩ w2 ⟨ha2, s⟩ _
      dsimp only at ha2 ⊢
      exact arith_i64 (by omega) (by omega) (loop_nx hk' ⟨ha2, s⟩)
  · have en : k = ids.length := by omega
    subst en
    rw [List.take_length] at hsn ⊢
    refine ref15_Bound_spec hn fun b hb' => ?_
    have := hb'.unique hB
    subst this
    have h86 := hb'.2.2
    have hw : workL T ids ≤ 64 * 1048576 := by unfold workL; omega
    have hmul : 8 * (b + 1) * workL T ids ≤ 696 * (64 * 1048576) := Nat.mul_le_mul (by omega) hw
    have e2 : (8 : Int) * ((b : Int) + 1) * ((ids.length + sumN (ids.map (logP T)) : Nat) : Int) = ((8 * (b + 1) * workL T ids : Nat) : Int) := by
      rw [Int.natCast_mul, Int.natCast_mul]; rfl
    refine arith_i64 (by omega) (by omega) (arith_i64 (by omega) (by omega) (arith_i64 (by omega) (by omega) ?_))
    rw [e2]
    exact h _ s

end Go.Proofs.Ytnbkhhjklpoipaa

/- law15: the walks of BalanceOf, BalanceGreat and BalanceNone. -/
set_option linter.unusedVariables false
set_option linter.unusedSimpArgs false
namespace Go.Proofs.Ytnbkhhjklpoipaa
open Go.Den

variable {w0 w : World} {Ω : List Ob} {most : Int} {T : List ET} {ids : List Int} {i j : Nat} {p : Addr} {m : yevergreenref12_Store.T}

theorem of_room (g : Grow T) (hT : T.length ≤ 20) {B : Nat} (hB : B ≤ 86) {id : Int} (hk : 0 ≤ id ∧ id ≤ (T.length : Int)) : costL T B (rlist T [id]) ≤ 332800 ∧ costL T B (rlist T [id]) ≤ 8 * (B + 1) * workL T (rlist T [id]) := by
  have hS : ∀ x ∈ [id], 0 ≤ x ∧ x ≤ (T.length : Int) := fun x hx => by simp at hx; subst hx; exact hk
  have hc := rlist_closed g hS
  have hl := rlist_len T [id]
  have hw : workL T (rlist T [id]) ≤ 1280 := by
    have := sumN_le (f := logP T) (C := 63) (ids := rlist T [id]) fun y hy => (logP_le g (hc.bound y hy).1 (hc.bound y hy).2).1
    unfold workL; omega
  have h1 := costL_work T B (rlist T [id])
  have h2 : (3 * B + 2) * workL T (rlist T [id]) ≤ 260 * 1280 := Nat.mul_le_mul (by omega) hw
  exact ⟨by omega, Nat.le_trans h1 (Nat.mul_le_mul_right _ (by omega))⟩

theorem law15_BalanceOf_spec {sl : Sl} {ops : List MakeT} {n : Int} (hv : View yevergreenref12_Make w0 sl ops) (ho : ∀ o ∈ ops, MakeOK o) {K : Bool → World → Prop} (h : ∀ w', Ext w0 w' → K true w') : C_law15_BalanceOf sl n K w0 := by
  apply S_law15_BalanceOf
  unfold F_law15_BalanceOf
  have hlen := hv.len
  refine gd_dec (fun c => h _ (.refl _ _)) (fun c => ?_)
  refine law15_begun_spec (Sp.init w0) hv ho (by omega) fun p rs m w1 s => s.allocK fun a2 w2 s => s.st0 0 rfl rfl rfl fun w3 s => gd_f rfl ?_
  have hb := bld_ok (most := B20) (by decide) ho
  have s : Sp w0 [cel a2 (cells yevergreenref12_Store m), own (.int .i64) rs (bld B20 ops).2, rf2 m (bld B20 ops).1, sto p B20 (bld B20 ops).1] w3 := s
  generalize (bld B20 ops).1 = T at *
  generalize (bld B20 ops).2 = res at *
  have hT := hb.len
  have hg := hb.grow
  have hc := hb.cnt
  refine law15_pick_spec s 3 rfl 1 rfl (by omega) (by omega) fun w4 s => ?_
  generalize rootP T res n = x
  by_cases hk : 0 ≤ x ∧ x ≤ (T.length : Int)
  rotate_left
  · refine balance_Of_u s 3 rfl hk fun w5 s => s.ld0 (ty := yevergreenref12_Store) (x := m) 0 rfl rfl (ref12_Known_spec s 2 rfl fun w6 s => ?_)
    rw [show known T x = false from decide_eq_false hk]
    exact gd_t rfl (gd_t rfl (is_err (by decide) (h _ s.ext)))
  have wx := (hg.at_ hk.1 hk.2).1.len
  obtain ⟨B, hB⟩ := bound_ex wx
  have hroom := of_room hg (by omega) hB.2.2 hk
  refine balance_Of_sp s 3 rfl hk hB fun T' r w5 hr s => ?_
  have s : Sp w0 [cel a2 (cells yevergreenref12_Store m), own (.int .i64) rs res, rf2 m T, sto p B20 T'] w5 := s
  rcases hr.out with ⟨e1, ⟨d, nd⟩, hid⟩ | ⟨_, hf⟩
  rotate_left
  · rw [B20_eq] at hf; omega
  obtain ⟨r1, r2⟩ := r
  dsimp only at e1 nd hid ⊢
  subst e1
  refine s.ld0 (ty := yevergreenref12_Store) (x := m) 0 rfl rfl (ref12_Known_spec s 2 rfl fun w6 s => ?_)
  rw [show known T x = true from decide_eq_true hk]
  refine gd_f rfl ⟨fun z w => z.1 = false ∧ Sp w0 [cel a2 (cells yevergreenref12_Store m), own (.int .i64) rs res, rf2 m T, sto p B20 T'] w, ?_, ?_⟩
  · refine nilIfc_nil (gd_f rfl (law15_fits_spec s 3 rfl nd fun w7 s => gd_f rfl (s.ld0 (ty := yevergreenref12_Store) (x := m) 0 rfl rfl (ref15_Is_spec hg (by omega) hk s 2 rfl fun w8 s => gd_mk (fun e => ⟨?_, s⟩) (fun e => ⟨rfl, s⟩)))))
    dsimp only
    rw [hid e]; simp
  clear s
  rintro ⟨z, _⟩ w7 ⟨hz, s⟩ _
  dsimp only at hz ⊢
  subst hz
  refine gd_f rfl (balance_Of_even s 3 rfl ⟨nd.pos, nd.le⟩ nd.even fun w8 s => JoinP.inl (nilIfc_nil (gd_f rfl ?_)))
  intro _
  refine gd_f (by simp) (s.ld0 (ty := yevergreenref12_Store) (x := m) 0 rfl rfl (ref12_Text_spec hg (by omega) hk (by decide) s 2 rfl (fun hl4 ts w9 s => ?_) (fun _ w9 s => gd_t rfl (h _ s.ext))))
  exact gd_f rfl (law15_is_spec s 4 rfl ⟨nd.pos, nd.le⟩ nd.txt (by omega) (fun w' s => s.view 0 rfl) fun w15 s => h _ s.ext)

theorem law15_BalanceGreat_spec {sl : Sl} {ops : List MakeT} {n : Int} (hv : View yevergreenref12_Make w0 sl ops) (ho : ∀ o ∈ ops, MakeOK o) {K : Bool → World → Prop} (h : ∀ w', Ext w0 w' → K true w') : C_law15_BalanceGreat sl n K w0 := by
  apply S_law15_BalanceGreat
  unfold F_law15_BalanceGreat
  have hlen := hv.len
  refine gd_dec (fun c => h _ (.refl _ _)) (fun c => ?_)
  refine law15_begun_spec (Sp.init w0) hv ho (by omega) fun p rs m w1 s => s.allocK fun a2 w2 s => s.st0 0 rfl rfl rfl fun w3 s => gd_f rfl ?_
  have hb := bld_ok (most := B20) (by decide) ho
  have s : Sp w0 [cel a2 (cells yevergreenref12_Store m), own (.int .i64) rs (bld B20 ops).2, rf2 m (bld B20 ops).1, sto p B20 (bld B20 ops).1] w3 := s
  generalize (bld B20 ops).1 = T at *
  generalize (bld B20 ops).2 = res at *
  have hT := hb.len
  have hg := hb.grow
  have hc := hb.cnt
  have hrl := (s.view 1 rfl).len
  obtain ⟨kk, e1, hg1, hm1⟩ := rsAt_get (res := res) (by omega) n
  refine ref12_Pick_eq (many := (rs.len : Int)) (by omega) (by omega) ?_
  rw [show ((rs.len : Nat) : Int) = (res.length : Int) by omega]
  refine (s.view 1 rfl).idx e1 hg1 rfl fun q1 hq1 => ⟨_, hq1, ?_⟩
  have hk := hb.known _ hm1
  generalize rsAt res n = x at *
  have wx := (hg.at_ hk.1 hk.2).1.len
  obtain ⟨B, hB⟩ := bound_ex wx
  have hroom := of_room hg (by omega) hB.2.2 hk
  have hS : ∀ y ∈ [x], 0 ≤ y ∧ y ≤ (T.length : Int) := fun y hy => by simp at hy; subst hy; exact hk
  have hcl := rlist_closed hg hS
  have hil := rlist_len T [x]
  refine intern_Export_sp s 3 rfl (fun _ sl6 w5 s => ?_) (fun hno => absurd hk hno)
  refine intern_Len_sp s 4 rfl (balance_Of_sp s 4 rfl hk hB fun T' r w6 hr s => ?_)
  have s : Sp w0 [own yapi_Rule sl6 (exp T (rlist T [x])), cel a2 (cells yevergreenref12_Store m), own (.int .i64) rs res, rf2 m T, sto p B20 T'] w6 := s
  rcases hr.out with ⟨e1, ⟨d, nd⟩, hid⟩ | ⟨_, hf⟩
  rotate_left
  · rw [B20_eq] at hf; omega
  obtain ⟨r1, r2⟩ := r
  dsimp only at e1 nd hid ⊢
  subst e1
  have hle := ext_len hr.ext
  have hrl' := hr.len
  have hwt := nd.wt hr.grow
  have hwx : (eAt T' x).2.1 = wOf (txt T x) := by rw [ext_eAt hr.ext hk.1 hk.2]; exact (hg.weight hk.1 hk.2).1
  refine intern_Weight_k s 4 rfl ⟨hk.1, by omega⟩ fun w7 s => s.allocK fun a10 w8 s => s.st0 0 rfl rfl rfl fun w9 s => intern_Weight_k s 5 rfl ⟨nd.pos, nd.le⟩ fun w10 s => s.allocK fun a12 w11 s => s.st0 0 rfl rfl rfl fun w12 s => s.drawK fun w13 s => ?_
  refine nilIfc_nil (gd_t rfl (nilIfc_nil (gd_t rfl (nilIfc_nil (gd_t rfl (nilIfc_nil (gd_t rfl (s.ld0 (ty := yapi_Weight) (x := (eAt T' x).2.1) 1 rfl rfl (s.ld0 (ty := yapi_Weight) (x := (eAt T' r1).2.1) 0 rfl rfl (weight_eql (gd_t (decide_eq_true (hwx.trans hwt.symm)) ?_)))))))))))
  refine law15_fits_spec s 6 rfl nd fun w14 s => gd_t rfl (s.ld0 (ty := yevergreenref12_Store) (x := m) 3 rfl rfl (intern_Len_sp s 6 rfl ⟨s.at_ 3 rfl, arith_i64 (by omega) (by omega) (ref12_Length_spec s 5 rfl (decide_eq_true hk) (by omega) fun w15 s => ?_)⟩))
  refine ref15_Work_spec hg (by omega) hcl.bound (by omega) hB wx s (fun w' s => s.view 2 rfl) fun w16 s => ?_
  rw [decide_eq_true (by omega)]
  exact h _ s.ext

theorem balance_Repeat_nil {x k : Int} {K : Int × Value → World → Prop} (h : K (0, errV 5) w) : C_balance_Repeat none x k K w := by
  apply S_balance_Repeat
  unfold F_balance_Repeat
  exact avl_Balanced_nil (nilIfc_err (gd_t rfl h))
theorem law15_BalanceNone_spec {sl : Sl} {id k : Int} {K : Bool → World → Prop} (h : ∀ w', Ext w0 w' → K true w') : C_law15_BalanceNone sl id k K w0 := by
  apply S_law15_BalanceNone
  unfold F_law15_BalanceNone
  refine law15_begun_spec (ops := []) (Sp.init w0) .nil (fun o ho => (List.not_mem_nil ho).elim) (by decide) fun p rs m w1 s => s.allocK fun a2 w2 s => s.st0 0 rfl rfl rfl fun w3 s => gd_f rfl ?_
  refine balance_Text_nil (balance_Of_nil (balance_Repeat_nil (s.allocK fun a6 w4 s => balance_Concat_nil (gd_t rfl (gd_t rfl (gd_t rfl (gd_t rfl ?_)))))))
  exact is_err (by decide) (gd_t rfl (is_err (by decide) (gd_t rfl (is_err (by decide) (gd_t rfl (is_err (by decide) (h _ s.ext)))))))

end Go.Proofs.Ytnbkhhjklpoipaa

/- law15: the walk of BalancePowers. -/
set_option linter.unusedVariables false
set_option linter.unusedSimpArgs false
namespace Go.Proofs.Ytnbkhhjklpoipaa
open Go.Den

variable {w0 w : World} {Ω : List Ob} {most : Int} {T : List ET} {ids : List Int} {i j : Nat} {p : Addr} {m : yevergreenref12_Store.T}

theorem Rep_mul (a b : Nat) (t : List Int) : Rep a (Rep b t) = Rep (a * b) t := by
  induction a with
  | zero => rw [Nat.zero_mul]; rfl
  | succ a ih =>
    have h1 := Rep_add a 1 (Rep b t)
    rw [Rep_one] at h1
    rw [← h1, ih, Rep_add, Nat.succ_mul]
def PowQ (T : List ET) (x k : Int) (t : List Int) : List ET → Int → Prop := fun T' z => (0 ≤ z ∧ z ≤ (T'.length : Int)) ∧ txt T' z = Rep k.toNat t ∧ ∀ y ∈ refs (eAt T' z).1, evn T' y = true
theorem even_refs (g : Grow T) {z : Int} (h0 : 0 ≤ z) (h1 : z ≤ T.length) (he : evn T z = true) : ∀ y ∈ refs (eAt T z).1, evn T y = true := by
  intro y hy
  by_cases c : z = 0
  · subst c; simp [eAt, eZero, refs] at hy
  · unfold evn at he
    cases g.txt (id := z) (by omega) h1 with
    | letter b _ _ e _ => rw [e] at hy; simp [refs, mkLetter] at hy
    | pair l r _ _ _ _ _ e _ =>
      rw [e] at hy he
      simp only [mkPair, Bool.and_eq_true] at he
      simp [refs, mkPair] at hy
      rcases hy with rfl | rfl
      · exact he.1.1.1
      · exact he.1.1.2
    | power x k _ _ _ _ e _ => rw [e] at he; cases he
theorem pPower_txt (g : Grow T) (hm : (T.length : Int) ≤ most) {x k : Int} {t : List Int} {d : Int} (nx : Nd0 T x t d) (hk : 0 ≤ k) (hl : (eAt T x).2.1.1 * k ≤ 1152921504606846976) : Res T most 1 (PowQ T x k t) (pPower T most x k).1 (pPower T most x k).2 := by
  have kx : known T x = true := decide_eq_true ⟨nx.pos, nx.le⟩
  unfold pPower
  rw [if_neg (by rw [kx]; simp; omega)]
  by_cases c1 : k = 0 ∨ x = 0
  · rw [if_pos c1]
    refine (Res.same (N := 0) (Q := PowQ T x k t) g hm ⟨⟨Int.le_refl _, by omega⟩, ?_, fun y hy => by simp [eAt, eZero, refs] at hy⟩).mono (Nat.zero_le _) fun _ h => h
    rw [txt_zero]
    rcases c1 with rfl | rfl
    · rfl
    · rw [nx.nil.1, Rep_nil]
  rw [if_neg c1]
  by_cases c2 : k = 1
  · rw [if_pos c2]
    subst c2
    exact (Res.same (N := 0) (Q := PowQ T x 1 t) g hm ⟨⟨nx.pos, nx.le⟩, by rw [nx.txt]; exact (Rep_one t).symm, even_refs g nx.pos nx.le nx.even⟩).mono (Nat.zero_le _) fun _ h => h
  rw [if_neg c2, if_neg (by omega)]
  have hp := nx.pos
  have key : ∀ (T' : List ET) (z : Int), T <+: T' → Grow T' → 1 ≤ z → z ≤ T'.length → (eAt T' z).1 = (mkPower T x k).1 → PowQ T x k t T' z := fun T' z hx g' h1 h2 hr => by
    refine ⟨⟨by omega, h2⟩, ?_, fun y hy => ?_⟩
    · cases g'.txt h1 h2 with
      | letter b _ _ e _ => rw [e] at hr; simp [mkLetter, mkPower] at hr
      | pair l r _ _ _ _ _ e _ => rw [e] at hr; simp [mkPair, mkPower] at hr
      | power x' k' a1 a2 _ _ e ht =>
        rw [e] at hr
        simp only [mkPower, Prod.mk.injEq] at hr
        obtain ⟨_, _, rfl, _, rfl⟩ := hr
        rw [ht, ext_txt hx nx.pos nx.le, nx.txt]; rfl
    · rw [hr] at hy
      simp [refs, mkPower] at hy
      subst hy
      exact (nx.ext hx).even
  have hr := pAdd_res (Q := fun T' z => 1 ≤ z ∧ z ≤ (T'.length : Int) ∧ (eAt T' z).1 = (mkPower T x k).1) (e := mkPower T x k) (most := most) g hm (.power g (by omega) nx.le (by omega) hl) (fun i hi => ⟨(lkR_pos hi).1, (lkR_pos hi).2, lkR_rule hi⟩) (fun hn => ⟨by omega, by simp, by rw [eAt_last]⟩)
  exact hr.mono (Nat.le_refl _) fun z ⟨h1, h2, h3⟩ => key _ z hr.ext hr.grow h1 h2 h3
theorem cost_one (g : Grow T) {z : Int} {B : Nat} (hk : 0 ≤ z ∧ z ≤ (T.length : Int)) (hr : ∀ y ∈ refs (eAt T z).1, evn T y = true) (hB : B ≤ 86) : costL T B (rlist T [z]) ≤ 16640 := by
  by_cases c : z = 0
  · subst c
    rw [rlist_zero]; exact Nat.zero_le _
  have hS : ∀ y ∈ [z], 0 ≤ y ∧ y ≤ (T.length : Int) := fun y hy => by simp at hy; subst hy; exact hk
  have hc := rlist_closed g hS
  obtain ⟨kl, e1, e2⟩ := rlist_last g (id := z) (by omega) hk.2
  have claim : ∀ y, Rch T [z] y → y = z ∨ evn T y = true := fun y h => by
    induction h with
    | root h1 _ => simp at h1; exact Or.inl h1
    | @ref y x hy hx ih =>
      have hb := hy.bound g hS
      rcases ih with rfl | ih
      · exact Or.inr (hr x hx)
      · exact Or.inr (even_refs g (by omega) hb.2 ih x hx)
  have hsplit : rlist T [z] = (rlist T [z]).take kl ++ [z] := by
    have h1 : (rlist T [z]).take (kl + 1) = rlist T [z] := by rw [← e1, List.take_length]
    rw [List.take_add_one, e2] at h1
    exact h1.symm
  have h0 : costL T B ((rlist T [z]).take kl) ≤ 0 * ((rlist T [z]).take kl).length := costL_bound fun y hy => by
    obtain ⟨j, hj⟩ := List.getElem?_of_mem hy
    have hjl := (List.getElem?_eq_some_iff.1 hj).1
    rw [List.length_take] at hjl
    rw [List.getElem?_take_of_lt (by omega)] at hj
    have hlt := (sorted_lt hc.sorted hj e2).2 (by omega)
    rcases claim y (mem_rlist.1 (List.mem_of_getElem? hj)).2 with h | h
    · omega
    · unfold cost; rw [if_pos h]; exact Nat.le_refl _
  rw [hsplit, costL_snoc]
  have h1 : cost T B z ≤ 260 * 64 := by
    have := logP_le g (y := z) (by omega) hk.2
    unfold cost
    split
    · omega
    · exact Nat.mul_le_mul (by omega) (by omega)
  omega
theorem repErr_ok (g : Grow T) {x k : Int} {t : List Int} {d : Int} (nx : Nd0 T x t d) (hk : 0 ≤ k) (hl : (t.length : Int) * k ≤ 1152921504606846976) : repErr T x k = 0 := by
  unfold repErr
  rw [if_neg (fun h : ¬ (0 ≤ x ∧ x ≤ (T.length : Int)) => h ⟨nx.pos, nx.le⟩), if_neg (by rw [show evn T x = true from nx.even]; simp), if_neg (by omega), if_neg (by rw [(nx.len g).1]; omega)]
/-- Repeat, with a bound that needs no reading -/
theorem balance_Repeat_ok {x k : Int} {t : List Int} {d : Int} (s : Sp w0 Ω w) (i : Nat) (hi : Ω[i]? = some (sto p most T)) (nx : Nd0 T x t d) (hk : 0 ≤ k) (hl : (t.length : Int) * k ≤ 1152921504606846976) (hk2 : k ≤ 9223372036854775807) (hroom : (T.length : Int) + 16640 ≤ most) {K : Int × Value → World → Prop}
    (h : ∀ T' r e w', T <+: T' → Grow T' → (T'.length : Int) ≤ T.length + 16640 → Nd0 T' r (Rep k.toNat t) e → Sp w0 (Ω.set i (sto p most T')) w' → K (r, .nilIface) w') : C_balance_Repeat (some p) x k K w := by
  obtain ⟨_, _, _, hb0, hb1, hb2, hg⟩ := Sp.entry s i hi
  have hl' : (eAt T x).2.1.1 * k ≤ 1152921504606846976 := by rw [(nx.len hg).1]; exact hl
  have h0 : 0 ≤ (eAt T x).2.1.1 * k := by rw [(nx.len hg).1]; exact Int.mul_nonneg (by omega) hk
  obtain ⟨B, hB⟩ := bound_ex ⟨h0, hl'⟩
  have room := rep_room hB.2.2 (k := k.toNat) (by omega)
  refine balance_Repeat_sp s i hi (repErr_ok hg nx hk hl) hk2 hB fun T' r w' hr s => ?_
  rcases hr.out with ⟨e1, d', nd⟩ | ⟨_, hf⟩
  rotate_left
  · omega
  obtain ⟨r1, r2⟩ := r
  dsimp only at e1 nd
  subst e1
  rw [nx.txt] at nd
  exact h T' r1 d' w' hr.ext hr.grow (by have := hr.len; omega) nd s

theorem law15_BalancePowers_spec {sl : Sl} {bs : List Int} {a b : Int} (hv : View (.int .u8) w0 sl bs) (hb : ∀ c ∈ bs, 0 ≤ c ∧ c < 256) (hc : sl.len ≤ sl.cap) {K : Bool → World → Prop} (h : ∀ w', Ext w0 w' → K true w') : C_law15_BalancePowers sl a b K w0 := by
  apply S_law15_BalancePowers
  unfold F_law15_BalancePowers
  have hlen := hv.len
  refine gd_dec (fun c => h _ (.refl _ _)) (fun c => ?_)
  refine law15_begun_spec (ops := []) (Sp.init w0) .nil (fun o ho => (List.not_mem_nil ho).elim) (by decide) fun p rs m w1 s => s.allocK fun a2 w2 s => s.st0 0 rfl rfl rfl fun w3 s => gd_f rfl ?_
  have s : Sp w0 [cel a2 (cells yevergreenref12_Store m), own (.int .i64) rs [0], rf2 m [], sto p B20 []] w3 := s
  have s : Sp w0 [sto p B20 []] w3 := s.drop 3
  refine ⟨fun z w => (z.1 = false → (0 ≤ a ∧ a ≤ 268435456) ∧ (0 ≤ b ∧ b ≤ 268435456) ∧ (bs.length : Int) * (a * b) ≤ 1152921504606846976) ∧ Sp w0 [sto p B20 []] w, ?_, ?_⟩
  · refine gd_dec (fun c1 => ⟨fun e => (by cases e), s⟩) (fun c1 => gd_dec (fun c2 => ⟨fun e => (by cases e), s⟩) (fun c2 => gd_dec (fun c3 => ⟨fun e => (by cases e), s⟩) (fun c3 => gd_dec (fun c4 => ⟨fun e => (by cases e), s⟩) (fun c4 => gd_dec (fun c5 => ?_) (fun c5 => ⟨fun _ => ⟨by omega, by omega, ?_⟩, s⟩)))))
    · have hm0 := Int.mul_nonneg (show 0 ≤ a by omega) (show 0 ≤ b by omega)
      have hm1 := Int.mul_le_mul (show a ≤ 268435456 by omega) (show b ≤ 268435456 by omega) (by omega) (by decide)
      have hq : Int.tdiv 1152921504606846976 (sl.len : Int) = 1152921504606846976 / (sl.len : Int) := Int.tdiv_eq_ediv_of_nonneg (by omega)
      have hd0 := Int.ediv_nonneg (show (0 : Int) ≤ 1152921504606846976 by omega) (show 0 ≤ (sl.len : Int) by omega)
      have hd1 := Int.ediv_le_self (sl.len : Int) (show (0 : Int) ≤ 1152921504606846976 by omega)
      have hiff := Int.le_ediv_iff_mul_le (a := a * b) (b := 1152921504606846976) (show 0 < (sl.len : Int) by omega)
      refine arith_i64 (by omega) (by omega) ⟨by omega, arith_i64 (by omega) (by omega) ⟨fun e => ⟨by omega, by omega, ?_⟩, s⟩⟩
      have e := of_decide_eq_false e
      have h1 := hiff.1 (by omega)
      rw [Int.mul_comm, ← hlen]
      exact h1
    · have : bs.length = 0 := by omega
      rw [this]; simp
  clear s
  rintro ⟨z, _⟩ w4 ⟨hz, s⟩ _
  dsimp only at hz ⊢
  refine gd_mk (fun _ => h _ s.ext) (fun e => ?_)
  obtain ⟨ha, hbb, hl⟩ := hz e
  have hm0 := Int.mul_nonneg ha.1 hbb.1
  have hm1 := Int.mul_le_mul ha.2 hbb.2 hbb.1 (by decide)
  have hla : (bs.length : Int) * a ≤ 200 * 268435456 := Int.mul_le_mul (by omega) ha.2 ha.1 (by decide)
  have hla0 := Int.mul_nonneg (show 0 ≤ (bs.length : Int) by omega) ha.1
  refine balance_Text_sp (by omega) hb s 0 rfl (fun w' T' s => hv.ext s.ext) hc fun T1 r w5 hr s => ?_
  rcases hr.out with ⟨e1, d, nx⟩ | ⟨_, hf⟩
  rotate_left
  · simp only [List.length_nil, B20_eq] at hf; omega
  obtain ⟨x, r2⟩ := r
  dsimp only at e1 nx ⊢
  subst e1
  have l1 := hr.len
  simp only [List.length_nil] at l1
  have B20e : B20 = 1048576 := rfl
  refine arith_i64 (by omega) (by omega) (balance_Repeat_ok s 0 rfl nx hm0 hl (by omega) (by rw [B20e]; omega) fun T2 y1 e1 w6 x2 g2 l2 n1 s => arith_i64 (by omega) (by omega) ?_)
  have s : Sp w0 [sto p B20 T2] w6 := s
  have nx2 := nx.ext x2
  have hr3 := pPower_txt (most := B20) g2 (by rw [B20e]; omega) nx2 hm0 (by rw [(nx2.len g2).1]; exact hl)
  refine intern_Power_sp s 0 rfl (by omega) fun w7 s => ?_
  generalize pPower T2 B20 x (a * b) = pr at *
  obtain ⟨T3, zz⟩ := pr
  have s : Sp w0 [sto p B20 T3] w7 := s
  dsimp only at hr3 ⊢
  have l3 := hr3.len
  rcases hr3.out with ⟨e3, hk3, ht3, hrf⟩ | ⟨_, hf⟩
  rotate_left
  · rw [B20e] at hf; omega
  obtain ⟨z, z2⟩ := zz
  dsimp only at e3 hk3 ht3 hrf ⊢
  subst e3
  have s : Sp w0 [sto p B20 T3] w7 := s
  have g3 := hr3.grow
  obtain ⟨B, hB⟩ := bound_ex (g3.at_ hk3.1 hk3.2).1.len
  have hcost := cost_one g3 hk3 hrf hB.2.2
  refine balance_Of_sp s 0 rfl hk3 hB fun T4 u w8 hr4 s => ?_
  have s : Sp w0 [sto p B20 T4] w8 := s
  have l4 := hr4.len
  rcases hr4.out with ⟨e4, ⟨d4, n4⟩, _⟩ | ⟨_, hf⟩
  rotate_left
  · rw [B20e] at hf; omega
  obtain ⟨y2, u2⟩ := u
  dsimp only at e4 n4 ⊢
  subst e4
  rw [ht3] at n4
  have g4 := hr4.grow
  have n1' := (n1.ext hr3.ext).ext hr4.ext
  have nx4 := (nx2.ext hr3.ext).ext hr4.ext
  have w1e := n1'.wt g4
  have w2e := n4.wt g4
  have ln1 := (n1'.len g4).1
  have eRl : ((Rep (a * b).toNat bs).length : Int) = (bs.length : Int) * a * b := by
    rw [Rep_len, Int.natCast_mul, Int.toNat_of_nonneg hm0, Int.mul_comm, Int.mul_assoc]
  refine JoinP.inl (nilIfc_nil (gd_f rfl (nilIfc_nil (gd_f rfl (nilIfc_nil (gd_f rfl (nilIfc_nil ?_)))))))
  intro _
  refine gd_f rfl (intern_Weight_k s 0 rfl ⟨n1'.pos, n1'.le⟩ fun w9 s => s.allocK fun a20 w10 s => s.st0 0 rfl rfl rfl fun w11 s => intern_Weight_k s 1 rfl ⟨n4.pos, n4.le⟩ fun w12 s => s.allocK fun a22 w13 s => s.st0 0 rfl rfl rfl fun w14 s => ?_)
  refine JoinP.inl (nilIfc_nil (gd_f rfl (nilIfc_nil (gd_f rfl (s.ld0 (ty := yapi_Weight) (x := (eAt T4 y1).2.1) 1 rfl rfl (s.ld0 (ty := yapi_Weight) (x := (eAt T4 y2).2.1) 0 rfl rfl (weight_neq (gd_f (by rw [w1e, w2e]; simp) (s.ldi (x := (eAt T4 y1).2.1.1) 1 0 rfl rfl ?_)))))))))
  have hlab : (bs.length : Int) * a * b ≤ 1152921504606846976 := by rw [Int.mul_assoc]; exact hl
  have hlab0 := Int.mul_nonneg hla0 hbb.1
  rw [hlen]
  refine arith_i64 (by omega) (by omega) (arith_i64 (by omega) (by omega) ?_)
  intro _
  refine gd_f (by rw [ln1, eRl]; simp) ?_
  have s : Sp w0 [cel a20 (cells yapi_Weight (eAt T4 y1).2.1), sto p B20 T4] w14 := s.pop
  have ze : ∀ {y e : Int}, b = 0 → Nd0 T4 y (Rep (a * b).toNat bs) e → y = 0 := fun hb0 n => by
    have := (n.len g4).1
    rw [eRl, hb0, Int.mul_zero] at this
    apply Classical.byContradiction
    intro hne
    have h1 := (n.nd hne).len g4
    omega
  refine gd_eq (fun cb => ?_) (fun cb => ?_)
  · refine gd_t (by rw [ze cb n1']; rfl) ?_
    rw [ze cb n4, beq_self_eq_true]
    exact h _ s.ext
  refine balance_Repeat_ok s 1 rfl nx4 ha.1 (by omega) (by omega) (by rw [B20e]; omega) fun T5 z1 e5 w15 x5 g5 l5 n5 s => ?_
  have s : Sp w0 [cel a20 (cells yapi_Weight (eAt T4 y1).2.1), sto p B20 T5] w15 := s
  have eRa : ((Rep a.toNat bs).length : Int) = (bs.length : Int) * a := by
    rw [Rep_len, Int.natCast_mul, Int.toNat_of_nonneg ha.1, Int.mul_comm]
  refine balance_Repeat_ok s 1 rfl n5 hbb.1 (by rw [eRa]; exact hlab) (by omega) (by rw [B20e]; omega) fun T6 z2 e6 w16 x6 g6 l6 n6 s => ?_
  have s : Sp w0 [cel a20 (cells yapi_Weight (eAt T4 y1).2.1), sto p B20 T6] w16 := s
  have eab : b.toNat * a.toNat = (a * b).toNat := by
    rw [Int.toNat_mul ha.1 hbb.1, Nat.mul_comm]
  rw [Rep_mul, eab] at n6
  have w6e := n6.wt g6
  refine intern_Weight_k s 1 rfl ⟨n6.pos, n6.le⟩ fun w17 s => s.allocK fun a36 w18 s => s.st0 0 rfl rfl rfl fun w19 s => nilIfc_nil (gd_t rfl (nilIfc_nil (gd_t rfl (nilIfc_nil (gd_t rfl (s.ld0 (ty := yapi_Weight) (x := (eAt T6 z2).2.1) 0 rfl rfl (s.ld0 (ty := yapi_Weight) (x := (eAt T4 y1).2.1) 1 rfl rfl (weight_eql (gd_t (decide_eq_true (w6e.trans w1e.symm)) (law15_fits_spec s 2 rfl n6 fun w20 s => h _ s.ext))))))))))

end Go.Proofs.Ytnbkhhjklpoipaa
