/- Texts that belong together, joined: WlkA, WlkB, WlkC, WlkD, WlkE, WlkF, WlkG. No conditions. -/
import Derived.Test.YtcmncfglcjcmhaaGreatGF
import Derived.Test.YtcmncfglcjcmhaaGreatGE
import Derived.Test.YtcmncfglcjcmhaaGreatGD
import Derived.Test.YtcmncfglcjcmhaaGreatGR
/- walk: copies that have yet to be walked, forward or backward (take, forward, backward). -/
set_option linter.unusedVariables false
set_option linter.unusedSimpArgs false
namespace Go.Proofs.YtcmncfglcjcmhaaGreat
open Go.Den

variable {w0 w : World} {Ω : List Ob} {most : Int} {T : List ET} {p : Addr} {τ : Int → List Int}

def stG (τ : Int → List Int) : List CpT → List Int
  | [] => []
  | x :: st => stG τ st ++ Cp x.2.toNat (τ x.1)
theorem stG_append (τ : Int → List Int) (a b : List CpT) : stG τ (a ++ b) = stG τ b ++ stG τ a := by
  induction a with
  | nil => simp [stG]
  | cons x a ih => rw [List.cons_append, stG, stG, ih, List.append_assoc]
theorem stG_one (τ : Int → List Int) (x : CpT) : stG τ [x] = Cp x.2.toNat (τ x.1) := by simp [stG]
def rtxt (T : List ET) (id : Int) : List Int := (txt T id).reverse
theorem rtxt_len (id : Int) : (rtxt T id).length = (txt T id).length := List.length_reverse
theorem Cp_reverse (k : Nat) (t : List Int) : (Cp k t).reverse = Cp k t.reverse := by
  induction k with
  | zero => rfl
  | succ k ih => rw [Cp_succ, List.reverse_append, ih, Cp_add k 1, Cp_one]
theorem Cp_dropF (t : List Int) (ht : 0 < t.length) : ∀ (k f : Nat), f < k * t.length → (Cp k t).drop f = t.drop (f % t.length) ++ Cp (k - 1 - f / t.length) t
  | 0, f, h => by omega
  | k + 1, f, h => by
    rw [Cp_succ]
    by_cases c : f < t.length
    · rw [Nat.mod_eq_of_lt c, Nat.div_eq_of_lt c, List.drop_append_of_le_length (by omega)]
      rfl
    · obtain ⟨f', rfl⟩ : ∃ f', f = f' + t.length := ⟨f - t.length, by omega⟩
      rw [Nat.succ_mul] at h
      rw [Nat.add_comm f', List.drop_length_add_append, Nat.add_comm _ f', Nat.add_mod_right, Nat.add_div_right _ ht, Cp_dropF t ht k f' (by omega)]
      congr 2
      have : f' / t.length < k := Nat.div_lt_of_lt_mul (by rw [Nat.mul_comm]; omega)
      omega

structure GsOK (T : List ET) (τ : Int → List Int) (t : List Int) (st : List CpT) (done : List Int) : Prop where
  eq : t = done ++ stG τ st
  ok : ∀ x ∈ st, CpOK T x
  bd : ∀ (k : Nat) (x : CpT), st[k]? = some x → (k : Int) ≤ 2 * ((T.length : Int) - x.1)
theorem GsOK.len {t done : List Int} {st : List CpT} (h : GsOK T τ t st done) : (st.length : Int) ≤ 2 * T.length + 1 := by
  rcases st.length.eq_zero_or_pos with e | e
  · omega
  · have hx := List.getElem?_eq_getElem (show st.length - 1 < st.length by omega)
    have := h.bd _ _ hx
    have := (h.ok _ (List.getElem_mem (show st.length - 1 < st.length by omega))).id1
    omega
/-- one copy is taken off -/
structure Gff (T : List ET) (τ : Int → List Int) (t done : List Int) (st2 : List CpT) (y : Int) (m : Nat) : Prop where
  eq : t = done ++ (τ y ++ stG τ st2)
  ok : ∀ x ∈ st2, CpOK T x
  bd : ∀ (k : Nat) (x : CpT), st2[k]? = some x → (k : Int) ≤ 2 * ((T.length : Int) - x.1)
  len : (st2.length : Int) ≤ 2 * ((T.length : Int) - y) + 1
  m : cpM T st2 + cpW T y = m
theorem GsOK.last {t done : List Int} {st : List CpT} {y : Int} (h : GsOK T τ t (st ++ [(y, 1)]) done) : Gff T τ t done st y (cpM T (st ++ [(y, 1)])) := by
  have hb := h.bd st.length (y, 1) (by simp)
  refine ⟨?_, fun z hz => h.ok z (List.mem_append_left _ hz), fun k z hk => h.bd k z (by rw [List.getElem?_append_left (List.getElem?_eq_some_iff.1 hk).1]; exact hk), by dsimp only at hb; omega, ?_⟩
  · rw [h.eq, stG_append, stG_one]
    dsimp only
    rw [show (1 : Int).toNat = 1 from rfl, Cp_one]
  · rw [cpM_append]
    simp only [cpM]
    rw [show (1 : Int).toNat = 1 from rfl]; omega
theorem GsOK.more {t done : List Int} {st : List CpT} {y n : Int} (hn : 1 ≤ n) (h : GsOK T τ t (st ++ [(y, n + 1)]) done) : Gff T τ t done (st ++ [(y, n)]) y (cpM T (st ++ [(y, n + 1)])) := by
  have hb := h.bd st.length (y, n + 1) (by simp)
  have ho := h.ok (y, n + 1) (by simp)
  have en : (n + 1).toNat = n.toNat + 1 := by omega
  refine ⟨?_, fun z hz => ?_, fun k z hk => ?_, ?_, ?_⟩
  · rw [h.eq, stG_append, stG_append, stG_one, stG_one]
    dsimp only
    rw [en, Cp_succ, List.append_assoc]
  · rcases List.mem_append.1 hz with hz | hz
    · exact h.ok z (List.mem_append_left _ hz)
    · rw [List.mem_singleton.1 hz]; exact ⟨ho.id1, ho.id2, hn⟩
  · by_cases c : k < st.length
    · exact h.bd k z (by rw [List.getElem?_append_left c]; rwa [List.getElem?_append_left c] at hk)
    · rw [List.getElem?_append_right (by omega)] at hk
      have := (List.getElem?_eq_some_iff.1 hk).1
      simp only [List.length_singleton] at this
      rw [show k - st.length = 0 by omega] at hk
      cases hk
      dsimp only at hb ⊢; omega
  · rw [List.length_append, List.length_singleton]; dsimp only at hb; omega
  · rw [cpM_append, cpM_append]
    simp only [cpM]
    rw [en, Nat.succ_mul]; omega
theorem Gff.push {t done : List Int} {st2 xs : List CpT} {y : Int} {m : Nat} (h : Gff T τ t done st2 y m) (e : τ y = stG τ xs) (ho : ∀ z ∈ xs, CpOK T z ∧ z.1 < y) (hl : xs.length ≤ 2) : GsOK T τ t (st2 ++ xs) done := by
  refine ⟨?_, fun z hz => ?_, fun k z hk => ?_⟩
  · rw [h.eq, stG_append, e]
  · rcases List.mem_append.1 hz with hz | hz
    · exact h.ok z hz
    · exact (ho z hz).1
  · by_cases c : k < st2.length
    · exact h.bd k z (by rwa [List.getElem?_append_left c] at hk)
    · rw [List.getElem?_append_right (by omega)] at hk
      have := (ho z (List.mem_of_getElem? hk)).2
      have := (List.getElem?_eq_some_iff.1 hk).1
      have := h.len
      omega
theorem Gff.done_ {t done : List Int} {st2 : List CpT} {y : Int} {m : Nat} (h : Gff T τ t done st2 y m) : GsOK T τ t st2 (done ++ τ y) :=
  ⟨by rw [h.eq, List.append_assoc], h.ok, h.bd⟩
/-- the measures of what a rule derives -/
theorem cpM_pair {l r y : Int} {m : Nat} {st2 : List CpT} (ht : (txt T y).length = (txt T l).length + (txt T r).length) (posl : 1 ≤ (txt T l).length) (posr : 1 ≤ (txt T r).length) (hm : cpM T st2 + cpW T y = m) {a b : Int} (hab : (a = r ∧ b = l) ∨ (a = l ∧ b = r)) : cpM T (st2 ++ [(a, 1), (b, 1)]) < m := by
  rw [cpM_append, ← hm]
  simp only [cpM]
  rw [show (1 : Int).toNat = 1 from rfl]
  unfold cpW
  rw [ht]
  rcases hab with ⟨rfl, rfl⟩ | ⟨rfl, rfl⟩ <;> omega
theorem cpM_power {x k y : Int} {m : Nat} {st2 : List CpT} (ht : (txt T y).length = k.toNat * (txt T x).length) (hk : 2 ≤ k) (pos : 1 ≤ (txt T x).length) (hm : cpM T st2 + cpW T y = m) : cpM T (st2 ++ [(x, k)]) < m := by
  rw [cpM_append, ← hm]
  simp only [cpM]
  unfold cpW
  rw [ht]
  obtain ⟨a, ha⟩ : ∃ a, (txt T x).length = a + 1 := ⟨(txt T x).length - 1, by omega⟩
  obtain ⟨j, hj⟩ : ∃ j, k.toNat = j + 2 := ⟨k.toNat - 2, by omega⟩
  rw [ha, hj, show 2 * (a + 1) - 1 = 2 * a + 1 by omega, Nat.mul_succ, Nat.mul_succ, show (j + 2) * (2 * a) = 2 * ((j + 2) * a) by rw [Nat.mul_left_comm]]
  omega

theorem walk_take_sp {b : Nat} {sl : Sl} {st' : List CpT} {y n : Int} (s : Sp w0 (own ywalk_copies sl (st' ++ [(y, n + 1)]) :: cel b [.slice sl.a sl.len sl.cap] :: Ω) w) (i : Nat) (hi : Ω[i]? = some (sto p most T)) (hk : 1 ≤ y ∧ y ≤ T.length) (hn : 0 ≤ n) (hfit : n + 1 ≤ 9223372036854775807) (hst : st'.length ≤ 9223372036854775) {K : yapi_Rule.T → World → Prop}
    (h : ∀ sl2 (st2 : List CpT) w', ((n = 0 ∧ st2 = st') ∨ (1 ≤ n ∧ st2 = st' ++ [(y, n)])) → Sp w0 (own ywalk_copies sl2 st2 :: cel b [.slice sl2.a sl2.len sl2.cap] :: Ω) w' → K (eAt T y).1 w') : C_walk_take (some p) (some ⟨b, 0, none⟩) K w := by
  apply S_walk_take
  unfold F_walk_take
  have hlen2 := (s.view 0 rfl).len
  have hcap := (s.own_ 0 rfl).cap
  rw [List.length_append, List.length_singleton] at hlen2
  refine s.allocK fun a1 w1 s => nonNil_some (s.lds0 (x := sl) 2 rfl rfl (arith_i64 (by omega) (by omega) (Sp.elem s 1 rfl (n := st'.length) (by omega) (by simp) fun q hq => nonNil_some ⟨y, (Sp.elAt s 1 rfl hq (n := st'.length) (x := ((y, n + 1) : CpT)) (by simp)).sub 0 rfl, ?_⟩)))
  refine ⟨fun _ w => ∃ (sl2 : Sl) (st2 : List CpT), ((n = 0 ∧ st2 = st') ∨ (1 ≤ n ∧ st2 = st' ++ [(y, n)])) ∧ Sp w0 (cel a1 [.int .i64 0, .int .u8 0, .int .i64 0, .int .i64 0, .int .i64 0] :: own ywalk_copies sl2 st2 :: cel b [.slice sl2.a sl2.len sl2.cap] :: Ω) w, ?_, ?_⟩
  · refine nonNil_some ⟨n + 1, (Sp.elAt s 1 rfl hq (n := st'.length) (x := ((y, n + 1) : CpT)) (by simp)).sub 1 rfl, arith_i64 (by omega) (by omega) (nonNil_some ?_)⟩
    rw [Addr.add_add, show n + 1 - 1 = n by omega]
    refine s.put (ty := ywalk_copies) (n := st'.length) (off := 1) (x := ((y, n + 1) : CpT)) (y := ((y, n) : CpT)) 1 rfl hq (by simp) (Nat.le_refl 2) rfl rfl fun w4 s => ?_
    have e : (st' ++ [((y, n + 1) : CpT)]).set st'.length ((y, n) : CpT) = st' ++ [(y, n)] := by simp
    rw [e] at s
    change Sp w0 (cel a1 [.int .i64 0, .int .u8 0, .int .i64 0, .int .i64 0, .int .i64 0] :: own ywalk_copies sl (st' ++ [(y, n)]) :: cel b [.slice sl.a sl.len sl.cap] :: Ω) w4 at s
    refine nonNil_some ⟨n, (Sp.elAt s 1 rfl hq (n := st'.length) (x := ((y, n) : CpT)) (by simp)).sub 1 rfl, gd_eq (fun c => ?_) (fun c => ?_)⟩
    · subst c
      refine arith_i64 (by omega) (by omega) (slK_hd (h := st'.length) (by omega) (by omega) hcap ?_)
      have s := Sp.shrink s 1 rfl st'.length (by simp)
      rw [List.take_left] at s
      exact nonNil_some (s.st0 2 rfl rfl rfl fun w5 s => ⟨⟨sl.a, st'.length, sl.cap⟩, st', .inl ⟨rfl, rfl⟩, s⟩)
    · exact ⟨sl, _, .inr ⟨by omega, rfl⟩, s⟩
  clear s
  rintro ⟨⟩ w5 ⟨sl2, st2, h2, s⟩ _
  exact intern_Rule_k s (i + 3) hi hk fun w9 s => s.allocK fun a26 w10 s => s.st0 0 rfl rfl rfl fun w11 s => s.ld0 (ty := yapi_Rule) (x := (eAt T y).1) 0 rfl rfl (s.st0 1 rfl rfl rfl fun w12 s => s.ld0 (ty := yapi_Rule) (x := (eAt T y).1) 1 rfl rfl (h sl2 st2 _ h2 (s.drop 2)))

end Go.Proofs.YtcmncfglcjcmhaaGreat

/- walk: forward, backward: the stack of what follows, or precedes, an offset. -/
set_option linter.unusedVariables false
set_option linter.unusedSimpArgs false
namespace Go.Proofs.YtcmncfglcjcmhaaGreat
open Go.Den

variable {w0 w : World} {Ω : List Ob} {most : Int} {T : List ET} {p : Addr} {τ : Int → List Int}

theorem tdiv_nat' (a b : Nat) : Int.tdiv (a : Int) (b : Int) = ((a / b : Nat) : Int) := rfl
theorem bd_snoc {st : List CpT} {x : CpT} {y : Int} (hb : ∀ (k : Nat) (x : CpT), st[k]? = some x → (k : Int) ≤ 2 * ((T.length : Int) - x.1)) (hl : (st.length : Int) ≤ 2 * ((T.length : Int) - y)) (hx : x.1 ≤ y) : ∀ (k : Nat) (z : CpT), (st ++ [x])[k]? = some z → (k : Int) ≤ 2 * ((T.length : Int) - z.1) := by
  intro k z hk
  by_cases c : k < st.length
  · exact hb k z (by rwa [List.getElem?_append_left c] at hk)
  · rw [List.getElem?_append_right (by omega)] at hk
    have := (List.getElem?_eq_some_iff.1 hk).1
    simp only [List.length_singleton] at this
    rw [show k - st.length = 0 by omega] at hk
    cases hk
    omega
theorem ok_snoc {st : List CpT} {x : CpT} (h : ∀ z ∈ st, CpOK T z) (hx : CpOK T x) : ∀ z ∈ st ++ [x], CpOK T z := fun z hz => by
  rcases List.mem_append.1 hz with hz | hz
  · exact h z hz
  · rw [List.mem_singleton.1 hz]; exact hx

/-- what the loops of forward and backward keep; rest: what the rule at hand still yields -/
structure FwI (T : List ET) (τ : Int → List Int) (t : List Int) (y : Int) (rest : List Int) (st : List CpT) : Prop where
  k1 : 1 ≤ y
  k2 : y ≤ T.length
  eq : rest ++ stG τ st = t
  ok : ∀ x ∈ st, CpOK T x
  bd : ∀ (k : Nat) (x : CpT), st[k]? = some x → (k : Int) ≤ 2 * ((T.length : Int) - x.1)
  len : (st.length : Int) ≤ 2 * ((T.length : Int) - y)
theorem FwI.push {t rest rest2 : List Int} {y y2 : Int} {st : List CpT} {x : CpT} (h : FwI T τ t y rest st) (hx : CpOK T x) (hxy : x.1 < y) (h1 : 1 ≤ y2) (h2 : y2 < y) (e : rest = rest2 ++ Cp x.2.toNat (τ x.1)) : FwI T τ t y2 rest2 (st ++ [x]) := by
  refine ⟨h1, by have := h.k2; omega, ?_, ok_snoc h.ok hx, bd_snoc h.bd h.len (by omega), ?_⟩
  · rw [stG_append, stG_one, ← h.eq, e, List.append_assoc]
  · have := h.len
    rw [List.length_append, List.length_singleton]; omega
theorem FwI.down {t rest rest2 : List Int} {y y2 : Int} {st : List CpT} (h : FwI T τ t y rest st) (h1 : 1 ≤ y2) (h2 : y2 < y) (e : rest = rest2) : FwI T τ t y2 rest2 st :=
  ⟨h1, by have := h.k2; omega, e ▸ h.eq, h.ok, h.bd, by have := h.len; omega⟩
theorem FwI.fin {t : List Int} {y : Int} {st : List CpT} (h : FwI T τ t y (τ y) st) : GsOK T τ t (st ++ [(y, 1)]) [] := by
  refine ⟨?_, ok_snoc h.ok ⟨h.k1, h.k2, Int.le_refl _⟩, bd_snoc h.bd h.len (Int.le_refl _)⟩
  rw [stG_append, stG_one, ← h.eq]
  dsimp only
  rw [show (1 : Int).toNat = 1 from rfl, Cp_one]; rfl

theorem walk_forward_sp {id from_ : Int} (s : Sp w0 Ω w) (i : Nat) (hi : Ω[i]? = some (sto p most T)) (hk : 1 ≤ id ∧ id ≤ T.length) (h0 : 0 ≤ from_) (h1 : from_ < (txt T id).length) {K : Sl → World → Prop}
    (h : ∀ sl (st : List CpT) w', GsOK T (txt T) ((txt T id).drop from_.toNat) st [] → Sp w0 (own ywalk_copies sl st :: Ω) w' → K sl w') : C_walk_forward (some p) id from_ K w := by
  apply S_walk_forward
  unfold F_walk_forward
  obtain ⟨_, _, _, hb0, hb1, hb2, g⟩ := Sp.entry s i hi
  refine ⟨fun x w => 0 ≤ x.2.1 ∧ x.2.1 < ((txt T x.1).length : Int) ∧ ∃ st : List CpT, FwI T (txt T) ((txt T id).drop from_.toNat) x.1 ((txt T x.1).drop x.2.1.toNat) st ∧ Sp w0 (own ywalk_copies x.2.2.1 st :: Ω) w, fun x _ => x.1.toNat, ⟨h0, h1, [], ⟨hk.1, hk.2, by simp [stG], by simp, by simp, by dsimp only; have := hk.2; simp; omega⟩, s.nil ywalk_copies⟩, ?_⟩
  clear s
  rintro ⟨y, f, sl, _⟩ w1 ⟨hf0, hf1, st, hI, s⟩ _
  dsimp only at hf0 hf1 hI s ⊢
  have hy : 1 ≤ y ∧ y ≤ T.length := ⟨hI.k1, hI.k2⟩
  have hstl := hI.len
  have hslen := (s.view 0 rfl).len
  refine gd_dec (fun c => ?_) (fun c => ?_)
  rotate_left
  · have : f = 0 := by omega
    subst this
    exact s.allocK fun a30 w2 s => s.app 1 rfl ((s.lit (ty := ywalk_copies) 0 rfl [((y, 1) : CpT)] 1 rfl rfl).view 0 rfl) (by simp only [List.length_cons, List.length_nil]; omega) fun s31 w3 s => h s31 _ w3 hI.fin s.pop
  have hwy := g.len (id := y) (by omega) hy.2
  have hbig := (g.at_ (id := y) (by omega) hy.2).1.len
  refine intern_Rule_k s (i + 1) hi hy fun w2 s => s.allocK fun a4 w3 s => s.st0 0 rfl rfl rfl fun w4 s => s.ldi (x := (eAt T y).1.2.2.1) 0 2 rfl rfl ?_
  cases g.txt hy.1 hy.2 with
  | letter b _ _ e ht => rw [ht] at hf1; simp at hf1; omega
  | pair l r l1 l2 r1 r2 hs e ht =>
    have hll := g.len (id := l) (by omega) (by omega)
    have e1 : (eAt T y).1 = (2, 0, l, r, 0) := by rw [e]; rfl
    rw [e1] at s ⊢
    have hlt := congrArg List.length ht
    rw [List.length_append] at hlt
    refine intern_Weight_k s (i + 2) hi ⟨by (try dsimp only); omega, by (try dsimp only); omega⟩ fun w5 s => s.allocK fun a7 w6 s => s.st0 0 rfl rfl rfl fun w7 s => s.ldi (x := 2) 1 0 rfl rfl (gd_f rfl (s.ldi (x := (eAt T l).2.1.1) 0 0 rfl rfl (gd_dec (fun c2 => ?_) (fun c2 => ?_))))
    · refine s.ldi (x := r) 1 3 rfl rfl (s.allocK fun a24 w8 s => s.app 3 rfl ((s.lit (ty := ywalk_copies) 0 rfl [((r, 1) : CpT)] 1 rfl rfl).view 0 rfl) (by simp only [List.length_cons, List.length_nil]; omega) fun s31 w9 s => s.ldi (x := l) 2 2 rfl rfl ⟨⟨hf0, by (try dsimp only); omega, _, hI.push (x := (r, 1)) ⟨r1, by (try dsimp only); omega, Int.le_refl _⟩ r2 l1 l2 ?_, s.drop 3⟩, by (try dsimp only); omega⟩)
      (try dsimp only)
      rw [ht, List.drop_append_of_le_length (by omega), show (1 : Int).toNat = 1 from rfl, Cp_one]
    · refine s.drawK fun w8 s => s.ldi (x := r) 1 3 rfl rfl (s.ldi (x := (eAt T l).2.1.1) 0 0 rfl rfl (arith_i64 (by omega) (by omega) ⟨⟨by (try dsimp only); omega, by (try dsimp only); omega, _, hI.down r1 r2 ?_, s.drop 2⟩, by (try dsimp only); omega⟩))
      (try dsimp only)
      rw [ht, List.drop_append, List.drop_eq_nil_of_le (by omega), List.nil_append]
      congr 1
      omega
  | power x k x1 x2 hk2 hs e ht =>
    have hlx := g.len (id := x) (by omega) (by omega)
    have hx1 := (g.at_ (id := x) (by omega) (by omega)).2.2.2 x1
    have e1 : (eAt T y).1 = (3, 0, x, 0, k) := by rw [e]; rfl
    rw [e1] at s ⊢
    have ht : txt T y = Cp k.toNat (txt T x) := ht
    have hlt := congrArg List.length ht
    rw [Cp_len] at hlt
    obtain ⟨n, hn⟩ : ∃ n : Nat, f = n := ⟨f.toNat, by omega⟩
    subst hn
    obtain ⟨L, hL⟩ : ∃ L : Nat, (txt T x).length = L := ⟨_, rfl⟩
    have hnk : n < k.toNat * L := by rw [← hL]; omega
    have hq : n / L < k.toNat := Nat.div_lt_of_lt_mul (by rw [Nat.mul_comm]; exact hnk)
    have hm := Nat.mod_lt n (show L > 0 by omega)
    have hkb : k.toNat * 1 ≤ k.toNat * L := Nat.mul_le_mul_left _ (by omega)
    have hdr : (txt T y).drop n = (txt T x).drop (n % L) ++ Cp (k.toNat - 1 - n / L) (txt T x) := by rw [ht, ← hL]; exact Cp_dropF _ (by omega) _ _ (by rw [hL]; exact hnk)
    have hw : (eAt T x).2.1.1 = (L : Int) := by omega
    have htd : Int.tdiv (n : Int) (L : Int) = ((n / L : Nat) : Int) := rfl
    have htm : Int.tmod (n : Int) (L : Int) = ((n % L : Nat) : Int) := rfl
    rw [hL] at hlt
    generalize n / L = Q at *
    generalize n % L = M at *
    generalize k.toNat * L = W at *
    refine intern_Weight_k s (i + 2) hi ⟨by (try dsimp only); omega, by (try dsimp only); omega⟩ fun w5 s => s.allocK fun a7 w6 s => s.st0 0 rfl rfl rfl fun w7 s => s.ldi (x := 3) 1 0 rfl rfl (gd_t rfl ?_)
    refine ⟨fun z w => ∃ st2, FwI T (txt T) ((txt T id).drop from_.toNat) x ((txt T x).drop M) st2 ∧ Sp w0 (cel a7 (cells yapi_Weight (eAt T x).2.1) :: cel a4 (cells yapi_Rule (3, 0, x, 0, k)) :: own ywalk_copies z.1 st2 :: Ω) w, ?_, ?_⟩
    · refine s.drawK fun w8 s => s.ldi (x := k) 1 4 rfl rfl (arith_i64 (by omega) (by omega) (s.ldi (x := (eAt T x).2.1.1) 0 0 rfl rfl ⟨by omega, ?_⟩))
      rw [hw, htd]
      refine arith_i64 (by omega) (by omega) (arith_i64 (by omega) (by omega) (gd_dec (fun c2 => ?_) (fun c2 => ?_)))
      · refine s.ldi (x := x) 1 2 rfl rfl (s.allocK fun a24 w8 s => s.app 3 rfl ((s.lit (ty := ywalk_copies) 0 rfl [((x, k - 1 - (Q : Int)) : CpT)] 1 rfl rfl).view 0 rfl) (by simp only [List.length_cons, List.length_nil]; omega) fun s31 w9 s => ⟨_, hI.push (x := (x, k - 1 - (Q : Int))) ⟨x1, by (try dsimp only); omega, by (try dsimp only); omega⟩ x2 x1 x2 ?_, s.pop⟩)
        rw [Int.toNat_natCast, hdr]
        dsimp only
        congr 2
        omega
      · refine ⟨_, hI.down x1 x2 ?_, s⟩
        rw [Int.toNat_natCast, hdr, show k.toNat - 1 - Q = 0 by omega, Cp_zero, List.append_nil]
    · clear s
      rintro ⟨sl2, _⟩ w8 ⟨st2, hI2, s⟩ _
      refine s.drawK fun w9 s => s.ldi (x := x) 1 2 rfl rfl (s.ldi (x := (eAt T x).2.1.1) 0 0 rfl rfl ⟨by omega, letZ_mk ?_⟩)
      rw [hw, htm]
      exact ⟨⟨Int.natCast_nonneg _, by (try dsimp only); omega, st2, by (try dsimp only); rw [Int.toNat_natCast]; exact hI2, s.drop 2⟩, by (try dsimp only); omega⟩

theorem walk_backward_sp {id from_ : Int} (s : Sp w0 Ω w) (i : Nat) (hi : Ω[i]? = some (sto p most T)) (hk : 1 ≤ id ∧ id ≤ T.length) (h0 : 0 < from_) (h1 : from_ ≤ (txt T id).length) {K : Sl → World → Prop}
    (h : ∀ sl (st : List CpT) w', GsOK T (rtxt T) (((txt T id).take from_.toNat).reverse) st [] → Sp w0 (own ywalk_copies sl st :: Ω) w' → K sl w') : C_walk_backward (some p) id from_ K w := by
  apply S_walk_backward
  unfold F_walk_backward
  obtain ⟨_, _, _, hb0, hb1, hb2, g⟩ := Sp.entry s i hi
  refine ⟨fun x w => 0 < x.2.1 ∧ x.2.1 ≤ ((txt T x.1).length : Int) ∧ ∃ st : List CpT, FwI T (rtxt T) (((txt T id).take from_.toNat).reverse) x.1 (((txt T x.1).take x.2.1.toNat).reverse) st ∧ Sp w0 (own ywalk_copies x.2.2.1 st :: Ω) w, fun x _ => x.1.toNat, ⟨h0, h1, [], ⟨hk.1, hk.2, by simp [stG], by simp, by simp, by dsimp only; have := hk.2; simp; omega⟩, s.nil ywalk_copies⟩, ?_⟩
  clear s
  rintro ⟨y, f, sl, _⟩ w1 ⟨hf0, hf1, st, hI, s⟩ _
  dsimp only at hf0 hf1 hI s ⊢
  have hy : 1 ≤ y ∧ y ≤ T.length := ⟨hI.k1, hI.k2⟩
  have hstl := hI.len
  have hslen := (s.view 0 rfl).len
  have hwy := g.len (id := y) (by omega) hy.2
  have hbig := (g.at_ (id := y) (by omega) hy.2).1.len
  refine intern_Weight_k s (i + 1) hi ⟨by omega, hy.2⟩ fun w2 s => s.allocK fun a4 w3 s => s.st0 0 rfl rfl rfl fun w4 s => s.ldi (x := (eAt T y).2.1.1) 0 0 rfl rfl (gd_eq (fun c => ?_) (fun c => ?_))
  · rw [List.take_of_length_le (l := txt T y) (by omega)] at hI
    exact s.allocK fun a30 w2 s => s.app 2 rfl ((s.lit (ty := ywalk_copies) 0 rfl [((y, 1) : CpT)] 1 rfl rfl).view 0 rfl) (by simp only [List.length_cons, List.length_nil]; omega) fun s31 w3 s => h s31 _ w3 hI.fin (s.drop 2)
  refine intern_Rule_k s (i + 2) hi hy fun w2 s => s.allocK fun a9 w3 s => s.st0 0 rfl rfl rfl fun w4 s => s.ldi (x := (eAt T y).1.2.2.1) 0 2 rfl rfl ?_
  cases g.txt hy.1 hy.2 with
  | letter b _ _ e ht => rw [ht] at hf1 hwy; simp at hf1 hwy; omega
  | pair l r l1 l2 r1 r2 hs e ht =>
    have hll := g.len (id := l) (by omega) (by omega)
    have e1 : (eAt T y).1 = (2, 0, l, r, 0) := by rw [e]; rfl
    rw [e1] at s ⊢
    have hlt := congrArg List.length ht
    rw [List.length_append] at hlt
    refine intern_Weight_k s (i + 3) hi ⟨by (try dsimp only); omega, by (try dsimp only); omega⟩ fun w5 s => s.allocK fun a12 w6 s => s.st0 0 rfl rfl rfl fun w7 s => s.ldi (x := 2) 1 0 rfl rfl (gd_f rfl (s.ldi (x := (eAt T l).2.1.1) 0 0 rfl rfl (gd_dec (fun c2 => ?_) (fun c2 => ?_))))
    · refine s.ldi (x := l) 1 2 rfl rfl ⟨⟨hf0, by (try dsimp only at c2 ⊢); omega, _, hI.down l1 l2 ?_, s.drop 3⟩, by (try dsimp only); omega⟩
      rw [ht, List.take_append_of_le_length (by omega)]
    · refine s.ldi (x := l) 1 2 rfl rfl (s.allocK fun a24 w8 s => s.app 4 rfl ((s.lit (ty := ywalk_copies) 0 rfl [((l, 1) : CpT)] 1 rfl rfl).view 0 rfl) (by simp only [List.length_cons, List.length_nil]; omega) fun s31 w9 s => s.drawK fun w10 s => s.ldi (x := r) 2 3 rfl rfl (s.ldi (x := (eAt T l).2.1.1) 1 0 rfl rfl (arith_i64 (by (try dsimp only at c2 ⊢); omega) (by (try dsimp only at c2 ⊢); omega) ⟨⟨by (try dsimp only at c2 ⊢); omega, by (try dsimp only at c2 ⊢); omega, _, hI.push (x := (l, 1)) ⟨l1, by (try dsimp only); omega, Int.le_refl _⟩ l2 r1 r2 ?_, s.drop 4⟩, by (try dsimp only); omega⟩)))
      rw [ht, List.take_append, List.take_of_length_le (by omega), List.reverse_append, show (1 : Int).toNat = 1 from rfl, Cp_one]
      unfold rtxt
      congr 3
      omega
  | power x k x1 x2 hk2 hs e ht =>
    have hlx := g.len (id := x) (by omega) (by omega)
    have hx1 := (g.at_ (id := x) (by omega) (by omega)).2.2.2 x1
    have e1 : (eAt T y).1 = (3, 0, x, 0, k) := by rw [e]; rfl
    rw [e1] at s ⊢
    have ht : txt T y = Cp k.toNat (txt T x) := ht
    have hlt := congrArg List.length ht
    rw [Cp_len] at hlt
    obtain ⟨n, hn⟩ : ∃ n : Nat, f = (n : Int) + 1 := ⟨(f - 1).toNat, by omega⟩
    subst hn
    obtain ⟨L, hL⟩ : ∃ L : Nat, (txt T x).length = L := ⟨_, rfl⟩
    have hnk : n < k.toNat * L := by rw [← hL]; omega
    have hq : n / L < k.toNat := Nat.div_lt_of_lt_mul (by rw [Nat.mul_comm]; exact hnk)
    have hm := Nat.mod_lt n (show L > 0 by omega)
    have hdm := Nat.div_add_mod n L
    have hkb : k.toNat * 1 ≤ k.toNat * L := Nat.mul_le_mul_left _ (by omega)
    have hw : (eAt T x).2.1.1 = (L : Int) := by omega
    have hqm : n / L * L ≤ n := Nat.div_mul_le_self n L
    have htk : ((txt T y).take (n + 1)).reverse = ((txt T x).take (n % L + 1)).reverse ++ Cp (n / L) (rtxt T x) := by
      have e2 : Cp k.toNat (txt T x) = Cp (n / L) (txt T x) ++ (txt T x ++ Cp (k.toNat - 1 - n / L) (txt T x)) := by
        rw [← Cp_succ, ← Cp_add]; congr 1; omega
      rw [ht, e2, List.take_append, Cp_len, hL, List.take_of_length_le (by rw [Cp_len, hL]; omega), List.reverse_append, Cp_reverse]
      have e3 : n + 1 - n / L * L = n % L + 1 := by
        rw [Nat.mul_comm (n / L)]; omega
      rw [e3, List.take_append_of_le_length (by omega)]
      rfl
    have htd : Int.tdiv (n : Int) (L : Int) = ((n / L : Nat) : Int) := rfl
    have e3 : n + 1 - n / L * L = n % L + 1 := by
      rw [Nat.mul_comm (n / L)]; omega
    have e5 : ((n / L : Nat) : Int) * (L : Int) = ((n / L * L : Nat) : Int) := rfl
    rw [hL] at hlt
    clear hdm
    generalize n / L * L = P at *
    generalize n / L = Q at *
    generalize n % L = M at *
    generalize k.toNat * L = W at *
    refine intern_Weight_k s (i + 3) hi ⟨by (try dsimp only); omega, by (try dsimp only); omega⟩ fun w5 s => s.allocK fun a12 w6 s => s.st0 0 rfl rfl rfl fun w7 s => s.ldi (x := 3) 1 0 rfl rfl (gd_t rfl ?_)
    refine arith_i64 (by omega) (by omega) (s.ldi (x := (eAt T x).2.1.1) 0 0 rfl rfl ⟨by omega, ?_⟩)
    rw [hw, show (n : Int) + 1 - 1 = (n : Int) by omega, htd]
    refine arith_i64 (by omega) (by omega) ?_
    refine ⟨fun z w => ∃ st2, FwI T (rtxt T) (((txt T id).take from_.toNat).reverse) x (((txt T x).take (M + 1)).reverse) st2 ∧ Sp w0 (cel a12 (cells yapi_Weight (eAt T x).2.1) :: cel a9 (cells yapi_Rule (3, 0, x, 0, k)) :: cel a4 (cells yapi_Weight (eAt T y).2.1) :: own ywalk_copies z.1 st2 :: Ω) w, gd_dec (fun c2 => ?_) (fun c2 => ?_), ?_⟩
    · refine s.ldi (x := x) 1 2 rfl rfl (s.allocK fun a24 w8 s => s.app 4 rfl ((s.lit (ty := ywalk_copies) 0 rfl [((x, (Q : Int)) : CpT)] 1 rfl rfl).view 0 rfl) (by simp only [List.length_cons, List.length_nil]; omega) fun s31 w9 s => ⟨_, hI.push (x := (x, (Q : Int))) ⟨x1, by (try dsimp only); omega, by (try dsimp only); omega⟩ x2 x1 x2 ?_, s.pop⟩)
      rw [show ((n : Int) + 1).toNat = n + 1 by omega, htk]
      rfl
    · refine ⟨_, hI.down x1 x2 ?_, s⟩
      rw [show ((n : Int) + 1).toNat = n + 1 by omega, htk, show Q = 0 by omega, Cp_zero, List.append_nil]
    · clear s
      rintro ⟨sl2, _⟩ w8 ⟨st2, hI2, s⟩ _
      refine s.drawK fun w9 s => s.ldi (x := x) 1 2 rfl rfl (s.ldi (x := (eAt T x).2.1.1) 0 0 rfl rfl ?_)
      rw [hw]
      rw [e5]
      refine arith_i64 (by omega) (by omega) (arith_i64 (by omega) (by omega) ⟨⟨by (try dsimp only); omega, by (try dsimp only); omega, st2, ?_, s.drop 3⟩, by (try dsimp only); omega⟩)
      (try dsimp only)
      rw [show ((n : Int) + 1 - (P : Int)).toNat = M + 1 by omega]
      exact hI2

end Go.Proofs.YtcmncfglcjcmhaaGreat

/- walk: the iterators over letters, forward and backward, over whatever the rounds keep. -/
set_option linter.unusedVariables false
set_option linter.unusedSimpArgs false
namespace Go.Proofs.YtcmncfglcjcmhaaGreat
open Go.Den

variable {w0 w : World} {Ω : List Ob} {most : Int} {T : List ET} {p : Addr} {τ : Int → List Int}

/-- a call of yield with two arguments -/
@[irreducible] def Visit2 (v x y : Value) (K : Bool → World → Prop) (w : World) : Prop := callV P v [x, y] .bool w K
theorem Visit2.go {v x y : Value} {K : Bool → World → Prop} (h : Visit2 v x y K w) : callV P v [x, y] .bool w K := by
  unfold Visit2 at h; exact h
theorem Visit2.mk {v x y : Value} {K : Bool → World → Prop} (h : callV P v [x, y] .bool w K) : Visit2 v x y K w := by
  unfold Visit2; exact h
theorem GsOK.fit {t done : List Int} {st : List CpT} {y n : Int} {B : Nat} (h : GsOK T τ t (st ++ [(y, n)]) done) (hp : 1 ≤ (τ y).length) (hB : t.length ≤ B) : n ≤ B := by
  have e := congrArg List.length h.eq
  rw [stG_append, List.length_append, List.length_append, stG_one, Cp_len] at e
  dsimp only at e
  have : n.toNat * 1 ≤ n.toNat * (τ y).length := Nat.mul_le_mul_left _ hp
  omega

theorem walk_Letters_2_sp {yv : Value} {b1 b2 b3 : Nat} {id from_ : Int} {Qv : List Int → List Ob → Prop} (s : Sp w0 (cel b1 [.pointer (some p)] :: cel b2 [.int .i64 id] :: cel b3 [.int .i64 from_] :: Ω) w) (i : Nat) (hQ : ∀ done Ωv, Qv done Ωv → Ωv[i]? = some (sto p most T)) (q0 : Qv [] Ω) (hk : 1 ≤ id ∧ id ≤ T.length) (h0 : 0 ≤ from_) (h1 : from_ < (txt T id).length)
    (hv : ∀ (c : Int) (done : List Int) (Ωv : List Ob) (o1 o2 o3 o4 o5 o6 : Ob) (w : World) (K : Bool → World → Prop), (done ++ [c]) <+: ((txt T id).drop from_.toNat) → Qv done Ωv → Sp w0 (o1 :: o2 :: o3 :: o4 :: o5 :: o6 :: Ωv) w → (∀ Ωv' w', Qv (done ++ [c]) Ωv' → Sp w0 (o1 :: o2 :: o3 :: o4 :: o5 :: o6 :: Ωv') w' → K true w') → Visit2 yv (.int .i64 (from_ + done.length)) (.int .u8 c) K w)
    {K : Unit → World → Prop} (h : ∀ Ωv w', Qv ((txt T id).drop from_.toNat) Ωv → Sp w0 Ωv w' → K () w') : C_walk_Letters_2 yv ⟨b1, 0, none⟩ ⟨b2, 0, none⟩ ⟨b3, 0, none⟩ K w := by
  apply S_walk_Letters_2
  unfold F_walk_Letters_2
  obtain ⟨_, _, _, hb0, hb1, hb2, g⟩ := Sp.entry s (i + 3) (hQ _ _ q0)
  have hbig := (g.at_ (id := id) (by omega) hk.2).1.len
  have hwl := g.len (id := id) (by omega) hk.2
  have htl : ((txt T id).drop from_.toNat).length + from_.toNat = (txt T id).length := by rw [List.length_drop]; omega
  have hi0 := hQ _ _ q0
  refine s.ldp0 0 rfl rfl (s.ldi0 1 rfl rfl (s.ldi0 2 rfl rfl (walk_forward_sp s (i + 3) hi0 hk h0 h1 fun sl st w1 hst s => ?_)))
  generalize ((txt T id).drop from_.toNat) = t at *
  refine s.allocK fun a5 w2 s => s.st0 0 rfl rfl rfl fun w3 s => s.ldi0 4 rfl rfl ?_
  have s := s.pick [1, 0] 2 rfl (by decide)
  change Sp w0 (own ywalk_copies sl st :: cel a5 [.slice sl.a sl.len sl.cap] :: cel b1 [.pointer (some p)] :: cel b2 [.int .i64 id] :: cel b3 [.int .i64 from_] :: Ω) w3 at s
  refine loop_g (G := List CpT × List Int × List Ob) (fun g x w => GsOK T (txt T) t g.1 g.2.1 ∧ Qv g.2.1 g.2.2 ∧ x.1 = from_ + g.2.1.length ∧ ∃ sl : Sl, Sp w0 (own ywalk_copies sl g.1 :: cel a5 [.slice sl.a sl.len sl.cap] :: cel b1 [.pointer (some p)] :: cel b2 [.int .i64 id] :: cel b3 [.int .i64 from_] :: g.2.2) w) (fun g => cpM T g.1) (st, [], Ω) ⟨hst, q0, by simp, sl, s⟩ ?_
  clear s hst
  rintro ⟨st, dn, Ωv⟩ ⟨x, _⟩ w4 next ⟨hs, hq, hx, sl, s⟩ hnext _
  dsimp only at hs hq hx s ⊢
  subst hx
  have hlen2 := (s.view 0 rfl).len
  have hsl := hs.len
  have hi := hQ _ _ hq
  refine s.lds0 (x := sl) 1 rfl rfl (gd_dec (fun c => ?_) (fun c => ?_))
  rotate_left
  · have : st = [] := List.eq_nil_of_length_eq_zero (by omega)
    subst this
    have e := hs.eq
    simp only [stG, List.append_nil] at e
    subst e
    exact h _ _ hq (s.drop 5)
  obtain ⟨st', ⟨y, times⟩, rfl⟩ : ∃ st' x, st = st' ++ [x] := ⟨st.dropLast, st.getLast (by intro h'; rw [h'] at hlen2; simp at hlen2; omega), (List.dropLast_concat_getLast _).symm⟩
  have ho := hs.ok (y, times) (by simp)
  have hy1 := ho.id1
  have hy2 := ho.id2
  have ht1 := ho.t0
  dsimp only at hy1 hy2 ht1
  rw [List.length_append, List.length_singleton] at hlen2 hsl
  have hly := g.len (id := y) (by omega) hy2
  have hpos := (g.at_ (id := y) (by omega) hy2).2.2.2 hy1
  have hτ : ((txt T) y).length = (txt T y).length := rfl
  have hfit := hs.fit (B := 1152921504606846976) (by omega) (by omega)
  obtain ⟨n, rfl⟩ : ∃ n : Int, times = n + 1 := ⟨times - 1, by omega⟩
  refine s.ldp0 2 rfl rfl (walk_take_sp s (i + 3) hi ⟨hy1, hy2⟩ (by omega) (by omega) (by omega) fun sl2 st2 w5 h2 s => s.allocK fun a12 w6 s => s.st0 0 rfl rfl rfl fun w7 s => ?_)
  have hof : Gff T (txt T) t dn st2 y (cpM T (st' ++ [(y, n + 1)])) := by
    rcases h2 with ⟨rfl, rfl⟩ | ⟨hn, rfl⟩
    · exact hs.last
    · exact hs.more hn
  have hm := hof.m
  have hl2 := hof.len
  have hdl : dn.length + (txt T y).length ≤ t.length := by
    have := congrArg List.length hof.eq
    rw [List.length_append, List.length_append] at this
    omega
  cases g.txt hy1 hy2 with
  | letter c c0 c1 e ht =>
    have e1 : (eAt T y).1 = (1, c, 0, 0, 0) := by rw [e]; rfl
    rw [e1] at s
    have ht2 : (txt T) y = [c] := by exact ht
    have hpre : (dn ++ [c]) <+: t := by
      rw [hof.eq, ht2, ← List.append_assoc]
      exact List.prefix_append _ _
    rw [ht] at hdl
    simp only [List.length_cons, List.length_nil] at hdl
    refine s.ldi (x := 1) 0 0 rfl rfl (gd_t rfl (s.ldi (x := c) 0 1 rfl rfl (Visit2.go (hv c dn Ωv _ _ _ _ _ _ _ _ hpre hq s fun Ωv' w12 hq' s => gd_f rfl (arith_i64 (by omega) (by omega) (hnext (st2, dn ++ [c], Ωv') _ _ ⟨?_, hq', ?_, sl2, s.pop⟩ ?_))))))
    · dsimp only; rw [← ht2]; exact hof.done_
    · dsimp only; rw [List.length_append, List.length_singleton]; omega
    · dsimp only; unfold cpW at hm; rw [ht] at hm; simp only [List.length_cons, List.length_nil] at hm; omega
  | pair l r l1 l2 r1 r2 hs2 e ht =>
    have e1 : (eAt T y).1 = (2, 0, l, r, 0) := by rw [e]; rfl
    rw [e1] at s
    have lenl := g.len (id := l) (by omega) (by omega)
    have lenr := g.len (id := r) (by omega) (by omega)
    have posl := (g.at_ (id := l) (by omega) (by omega)).2.2.2 l1
    have posr := (g.at_ (id := r) (by omega) (by omega)).2.2.2 r1
    refine s.ldi (x := 2) 0 0 rfl rfl (gd_f rfl (gd_t rfl (s.lds0 (x := sl2) 2 rfl rfl (s.ldi (x := r) 0 3 rfl rfl (s.ldi (x := l) 0 2 rfl rfl (s.allocK fun a30 w12 s => s.app 2 rfl ((s.lit (ty := ywalk_copies) 0 rfl [((r, 1) : CpT), (l, 1)] 2 rfl rfl).view 0 rfl) (by simp only [List.length_cons, List.length_nil]; omega) fun s31 w13 s => s.st0 3 rfl rfl rfl fun w14 s => hnext (st2 ++ [(r, 1), (l, 1)], dn, Ωv) _ _ ⟨hof.push ?_ ?_ (by simp), hq, rfl, s31, s.drop 2⟩ ?_))))))
    · rw [show [((r, 1) : CpT), (l, 1)] = [(r, 1)] ++ [(l, 1)] from rfl, stG_append, stG_one, stG_one]
      dsimp only
      rw [show (1 : Int).toNat = 1 from rfl, Cp_one, Cp_one]
      exact ht
    · intro z hz
      rcases List.mem_cons.1 hz with hz | hz
      · rw [hz]; exact ⟨⟨r1, by dsimp only; omega, Int.le_refl _⟩, r2⟩
      · rw [List.mem_singleton.1 hz]; exact ⟨⟨l1, by dsimp only; omega, Int.le_refl _⟩, l2⟩
    · exact cpM_pair (l := l) (r := r) (by rw [ht, List.length_append]) (by omega) (by omega) hm (by simp)
  | power x k x1 x2 hk2 hs2 e ht =>
    have e1 : (eAt T y).1 = (3, 0, x, 0, k) := by rw [e]; rfl
    rw [e1] at s
    have lenx := g.len (id := x) (by omega) (by omega)
    have posx := (g.at_ (id := x) (by omega) (by omega)).2.2.2 x1
    refine s.ldi (x := 3) 0 0 rfl rfl (gd_f rfl (gd_f rfl (gd_t rfl (s.lds0 (x := sl2) 2 rfl rfl (s.ldi (x := x) 0 2 rfl rfl (s.ldi (x := k) 0 4 rfl rfl (s.allocK fun a30 w12 s => s.app 2 rfl ((s.lit (ty := ywalk_copies) 0 rfl [((x, k) : CpT)] 1 rfl rfl).view 0 rfl) (by simp only [List.length_cons, List.length_nil]; omega) fun s31 w13 s => s.st0 3 rfl rfl rfl fun w14 s => hnext (st2 ++ [(x, k)], dn, Ωv) _ _ ⟨hof.push ?_ ?_ (by simp), hq, rfl, s31, s.drop 2⟩ ?_)))))))
    · rw [stG_one]
      dsimp only
      exact ht
    · intro z hz
      rw [List.mem_singleton.1 hz]; exact ⟨⟨x1, by dsimp only; omega, by dsimp only; omega⟩, x2⟩
    · exact cpM_power (by rw [ht, flat_rep_len]) hk2 (by omega) hm

theorem walk_Back_2_sp {yv : Value} {b1 b2 b3 : Nat} {id from_ : Int} {Qv : List Int → List Ob → Prop} (s : Sp w0 (cel b1 [.pointer (some p)] :: cel b2 [.int .i64 id] :: cel b3 [.int .i64 from_] :: Ω) w) (i : Nat) (hQ : ∀ done Ωv, Qv done Ωv → Ωv[i]? = some (sto p most T)) (q0 : Qv [] Ω) (hk : 1 ≤ id ∧ id ≤ T.length) (h0 : 0 < from_) (h1 : from_ ≤ (txt T id).length)
    (hv : ∀ (c : Int) (done : List Int) (Ωv : List Ob) (o1 o2 o3 o4 o5 o6 : Ob) (w : World) (K : Bool → World → Prop), (done ++ [c]) <+: (((txt T id).take from_.toNat).reverse) → Qv done Ωv → Sp w0 (o1 :: o2 :: o3 :: o4 :: o5 :: o6 :: Ωv) w → (∀ Ωv' w', Qv (done ++ [c]) Ωv' → Sp w0 (o1 :: o2 :: o3 :: o4 :: o5 :: o6 :: Ωv') w' → K true w') → Visit2 yv (.int .i64 (from_ - done.length - 1)) (.int .u8 c) K w)
    {K : Unit → World → Prop} (h : ∀ Ωv w', Qv (((txt T id).take from_.toNat).reverse) Ωv → Sp w0 Ωv w' → K () w') : C_walk_Back_2 yv ⟨b1, 0, none⟩ ⟨b2, 0, none⟩ ⟨b3, 0, none⟩ K w := by
  apply S_walk_Back_2
  unfold F_walk_Back_2
  obtain ⟨_, _, _, hb0, hb1, hb2, g⟩ := Sp.entry s (i + 3) (hQ _ _ q0)
  have hbig := (g.at_ (id := id) (by omega) hk.2).1.len
  have hwl := g.len (id := id) (by omega) hk.2
  have htl : (((txt T id).take from_.toNat).reverse).length = from_.toNat := by rw [List.length_reverse, List.length_take]; omega
  have hi0 := hQ _ _ q0
  refine s.ldp0 0 rfl rfl (s.ldi0 1 rfl rfl (s.ldi0 2 rfl rfl (walk_backward_sp s (i + 3) hi0 hk h0 h1 fun sl st w1 hst s => ?_)))
  generalize (((txt T id).take from_.toNat).reverse) = t at *
  refine s.allocK fun a5 w2 s => s.st0 0 rfl rfl rfl fun w3 s => s.ldi0 4 rfl rfl ?_
  have s := s.pick [1, 0] 2 rfl (by decide)
  change Sp w0 (own ywalk_copies sl st :: cel a5 [.slice sl.a sl.len sl.cap] :: cel b1 [.pointer (some p)] :: cel b2 [.int .i64 id] :: cel b3 [.int .i64 from_] :: Ω) w3 at s
  refine loop_g (G := List CpT × List Int × List Ob) (fun g x w => GsOK T (rtxt T) t g.1 g.2.1 ∧ Qv g.2.1 g.2.2 ∧ x.1 = from_ - g.2.1.length ∧ ∃ sl : Sl, Sp w0 (own ywalk_copies sl g.1 :: cel a5 [.slice sl.a sl.len sl.cap] :: cel b1 [.pointer (some p)] :: cel b2 [.int .i64 id] :: cel b3 [.int .i64 from_] :: g.2.2) w) (fun g => cpM T g.1) (st, [], Ω) ⟨hst, q0, by simp, sl, s⟩ ?_
  clear s hst
  rintro ⟨st, dn, Ωv⟩ ⟨x, _⟩ w4 next ⟨hs, hq, hx, sl, s⟩ hnext _
  dsimp only at hs hq hx s ⊢
  subst hx
  have hlen2 := (s.view 0 rfl).len
  have hsl := hs.len
  have hi := hQ _ _ hq
  refine s.lds0 (x := sl) 1 rfl rfl (gd_dec (fun c => ?_) (fun c => ?_))
  rotate_left
  · have : st = [] := List.eq_nil_of_length_eq_zero (by omega)
    subst this
    have e := hs.eq
    simp only [stG, List.append_nil] at e
    subst e
    exact h _ _ hq (s.drop 5)
  obtain ⟨st', ⟨y, times⟩, rfl⟩ : ∃ st' x, st = st' ++ [x] := ⟨st.dropLast, st.getLast (by intro h'; rw [h'] at hlen2; simp at hlen2; omega), (List.dropLast_concat_getLast _).symm⟩
  have ho := hs.ok (y, times) (by simp)
  have hy1 := ho.id1
  have hy2 := ho.id2
  have ht1 := ho.t0
  dsimp only at hy1 hy2 ht1
  rw [List.length_append, List.length_singleton] at hlen2 hsl
  have hly := g.len (id := y) (by omega) hy2
  have hpos := (g.at_ (id := y) (by omega) hy2).2.2.2 hy1
  have hτ : ((rtxt T) y).length = (txt T y).length := rtxt_len y
  have hfit := hs.fit (B := 1152921504606846976) (by omega) (by omega)
  obtain ⟨n, rfl⟩ : ∃ n : Int, times = n + 1 := ⟨times - 1, by omega⟩
  refine s.ldp0 2 rfl rfl (walk_take_sp s (i + 3) hi ⟨hy1, hy2⟩ (by omega) (by omega) (by omega) fun sl2 st2 w5 h2 s => s.allocK fun a12 w6 s => s.st0 0 rfl rfl rfl fun w7 s => ?_)
  have hof : Gff T (rtxt T) t dn st2 y (cpM T (st' ++ [(y, n + 1)])) := by
    rcases h2 with ⟨rfl, rfl⟩ | ⟨hn, rfl⟩
    · exact hs.last
    · exact hs.more hn
  have hm := hof.m
  have hl2 := hof.len
  have hdl : dn.length + (txt T y).length ≤ t.length := by
    have := congrArg List.length hof.eq
    rw [List.length_append, List.length_append] at this
    omega
  cases g.txt hy1 hy2 with
  | letter c c0 c1 e ht =>
    have e1 : (eAt T y).1 = (1, c, 0, 0, 0) := by rw [e]; rfl
    rw [e1] at s
    have ht2 : (rtxt T) y = [c] := by unfold rtxt; rw [ht]; rfl
    have hpre : (dn ++ [c]) <+: t := by
      rw [hof.eq, ht2, ← List.append_assoc]
      exact List.prefix_append _ _
    rw [ht] at hdl
    simp only [List.length_cons, List.length_nil] at hdl
    refine s.ldi (x := 1) 0 0 rfl rfl (gd_t rfl (arith_i64 (by omega) (by omega) (s.ldi (x := c) 0 1 rfl rfl (Visit2.go (hv c dn Ωv _ _ _ _ _ _ _ _ hpre hq s fun Ωv' w12 hq' s => gd_f rfl (hnext (st2, dn ++ [c], Ωv') _ _ ⟨?_, hq', ?_, sl2, s.pop⟩ ?_))))))
    · dsimp only; rw [← ht2]; exact hof.done_
    · dsimp only; rw [List.length_append, List.length_singleton]; omega
    · dsimp only; unfold cpW at hm; rw [ht] at hm; simp only [List.length_cons, List.length_nil] at hm; omega
  | pair l r l1 l2 r1 r2 hs2 e ht =>
    have e1 : (eAt T y).1 = (2, 0, l, r, 0) := by rw [e]; rfl
    rw [e1] at s
    have lenl := g.len (id := l) (by omega) (by omega)
    have lenr := g.len (id := r) (by omega) (by omega)
    have posl := (g.at_ (id := l) (by omega) (by omega)).2.2.2 l1
    have posr := (g.at_ (id := r) (by omega) (by omega)).2.2.2 r1
    refine s.ldi (x := 2) 0 0 rfl rfl (gd_f rfl (gd_t rfl (s.lds0 (x := sl2) 2 rfl rfl (s.ldi (x := l) 0 2 rfl rfl (s.ldi (x := r) 0 3 rfl rfl (s.allocK fun a30 w12 s => s.app 2 rfl ((s.lit (ty := ywalk_copies) 0 rfl [((l, 1) : CpT), (r, 1)] 2 rfl rfl).view 0 rfl) (by simp only [List.length_cons, List.length_nil]; omega) fun s31 w13 s => s.st0 3 rfl rfl rfl fun w14 s => hnext (st2 ++ [(l, 1), (r, 1)], dn, Ωv) _ _ ⟨hof.push ?_ ?_ (by simp), hq, rfl, s31, s.drop 2⟩ ?_))))))
    · rw [show [((l, 1) : CpT), (r, 1)] = [(l, 1)] ++ [(r, 1)] from rfl, stG_append, stG_one, stG_one]
      dsimp only
      rw [show (1 : Int).toNat = 1 from rfl, Cp_one, Cp_one]
      unfold rtxt; rw [ht, List.reverse_append]
    · intro z hz
      rcases List.mem_cons.1 hz with hz | hz
      · rw [hz]; exact ⟨⟨l1, by dsimp only; omega, Int.le_refl _⟩, l2⟩
      · rw [List.mem_singleton.1 hz]; exact ⟨⟨r1, by dsimp only; omega, Int.le_refl _⟩, r2⟩
    · exact cpM_pair (l := l) (r := r) (by rw [ht, List.length_append]) (by omega) (by omega) hm (by simp)
  | power x k x1 x2 hk2 hs2 e ht =>
    have e1 : (eAt T y).1 = (3, 0, x, 0, k) := by rw [e]; rfl
    rw [e1] at s
    have lenx := g.len (id := x) (by omega) (by omega)
    have posx := (g.at_ (id := x) (by omega) (by omega)).2.2.2 x1
    refine s.ldi (x := 3) 0 0 rfl rfl (gd_f rfl (gd_f rfl (gd_t rfl (s.lds0 (x := sl2) 2 rfl rfl (s.ldi (x := x) 0 2 rfl rfl (s.ldi (x := k) 0 4 rfl rfl (s.allocK fun a30 w12 s => s.app 2 rfl ((s.lit (ty := ywalk_copies) 0 rfl [((x, k) : CpT)] 1 rfl rfl).view 0 rfl) (by simp only [List.length_cons, List.length_nil]; omega) fun s31 w13 s => s.st0 3 rfl rfl rfl fun w14 s => hnext (st2 ++ [(x, k)], dn, Ωv) _ _ ⟨hof.push ?_ ?_ (by simp), hq, rfl, s31, s.drop 2⟩ ?_)))))))
    · rw [stG_one]
      dsimp only
      unfold rtxt; rw [← Cp_reverse, ht]; rfl
    · intro z hz
      rw [List.mem_singleton.1 hz]; exact ⟨⟨x1, by dsimp only; omega, by dsimp only; omega⟩, x2⟩
    · exact cpM_power (by rw [ht, flat_rep_len]) hk2 (by omega) hm

end Go.Proofs.YtcmncfglcjcmhaaGreat

/- walk: the maximal subtrees of a range, over whatever the rounds keep. -/
set_option linter.unusedVariables false
set_option linter.unusedSimpArgs false
namespace Go.Proofs.YtcmncfglcjcmhaaGreat
open Go.Den

variable {w0 w : World} {Ω : List Ob} {most : Int} {T : List ET} {p : Addr}

abbrev NoT := Int × Int
def ndL (T : List ET) (x : Int) : Nat := (txt T x).length
def ndM (T : List ET) : List NoT → Nat
  | [] => 0
  | x :: st => (if ndL T x.1 = 0 then 1 else 2 * ndL T x.1 - 1) + ndM T st
theorem ndM_append (a b : List NoT) : ndM T (a ++ b) = ndM T a + ndM T b := by
  induction a with
  | nil => simp [ndM]
  | cons x a ih => rw [List.cons_append, ndM, ndM, ih, Nat.add_assoc]
/-- the nodes of a stack, from the top on, stand side by side in the text from pos on -/
def ndC (T : List ET) (t : List Int) : List NoT → Nat → Nat → Prop
  | [], pos, N => pos = N
  | x :: st, pos, N => ∃ mid, ndC T t st pos mid ∧ x.2 = (mid : Int) ∧ mid + ndL T x.1 = N ∧ sub t mid (ndL T x.1) = txt T x.1
theorem ndC_append {t : List Int} : ∀ (a b : List NoT) (pos N : Nat), ndC T t (a ++ b) pos N ↔ ∃ mid, ndC T t b pos mid ∧ ndC T t a mid N
  | [], b, pos, N => ⟨fun h => ⟨N, h, rfl⟩, fun ⟨m, h1, h2⟩ => by
    have h2 : m = N := h2
    subst h2; exact h1⟩
  | x :: a, b, pos, N => by
    rw [List.cons_append]
    constructor
    · rintro ⟨mid, h1, h2⟩
      obtain ⟨m2, h3, h4⟩ := (ndC_append a b pos mid).1 h1
      exact ⟨m2, h3, mid, h4, h2⟩
    · rintro ⟨m2, h3, mid, h4, h2⟩
      exact ⟨mid, (ndC_append a b pos mid).2 ⟨m2, h3, h4⟩, h2⟩
structure NoOK (T : List ET) (x : NoT) : Prop where
  nd : x.1 = 0 ∨ ∃ t d, Nd T x.1 t d
structure PcOK (T : List ET) (t : List Int) (F E : Nat) (st : List NoT) (pos : Nat) (done : List Int) : Prop where
  ch : ndC T t st pos t.length
  eq : done = (t.take (min E pos)).drop F
  ok : ∀ x ∈ st, NoOK T x
  bd : ∀ (k : Nat) (x : NoT), st[k]? = some x → (k : Int) ≤ 2 * ((T.length : Int) - x.1)
theorem NoOK.range (g : Grow T) {x : NoT} (h : NoOK T x) : 0 ≤ x.1 ∧ x.1 ≤ T.length := by
  rcases h.nd with h | ⟨t, d, n⟩
  · rw [h]; omega
  · have := n.pos; have := n.le; omega
theorem PcOK.len (g : Grow T) {t done : List Int} {F E pos : Nat} {st : List NoT} (h : PcOK T t F E st pos done) : (st.length : Int) ≤ 2 * T.length + 1 := by
  rcases st.length.eq_zero_or_pos with e | e
  · omega
  · have hx := List.getElem?_eq_getElem (show st.length - 1 < st.length by omega)
    have := h.bd _ _ hx
    have := ((h.ok _ (List.getElem_mem (show st.length - 1 < st.length by omega))).range g).1
    omega
structure Top (T : List ET) (t done : List Int) (F E : Nat) (st : List NoT) (y at_ : Int) (pos : Nat) : Prop where
  at_ : at_ = (pos : Int)
  ch : ndC T t st (pos + ndL T y) t.length
  sg : sub t pos (ndL T y) = txt T y
  le : pos + ndL T y ≤ t.length
theorem ndC_le {t : List Int} : ∀ (st : List NoT) (pos N : Nat), ndC T t st pos N → pos ≤ N
  | [], pos, N, h => Nat.le_of_eq h
  | x :: st, pos, N, ⟨mid, h1, _, h3, _⟩ => by have := ndC_le st pos mid h1; omega
theorem PcOK.top {t done : List Int} {F E pos : Nat} {st : List NoT} {y at_ : Int} (h : PcOK T t F E (st ++ [(y, at_)]) pos done) : Top T t done F E st y at_ pos := by
  obtain ⟨mid, h1, h2⟩ := (ndC_append _ _ _ _).1 h.ch
  obtain ⟨m2, h3, h4, h5, h6⟩ := h1
  have h3 : pos = m2 := h3
  subst h3
  dsimp only at h4 h5 h6
  subst h5
  exact ⟨h4, h2, h6, ndC_le _ _ _ h2⟩
theorem PcOK.rest {t done : List Int} {F E pos : Nat} {st : List NoT} {x : NoT} (h : PcOK T t F E (st ++ [x]) pos done) : (∀ x ∈ st, NoOK T x) ∧ (∀ (k : Nat) (x : NoT), st[k]? = some x → (k : Int) ≤ 2 * ((T.length : Int) - x.1)) :=
  ⟨fun y hy => h.ok y (List.mem_append_left _ hy), fun k y hk => h.bd k y (by rw [List.getElem?_append_left (List.getElem?_eq_some_iff.1 hk).1]; exact hk)⟩
theorem PcOK.skip {t done : List Int} {F E pos : Nat} {st : List NoT} {y at_ : Int} (h : PcOK T t F E (st ++ [(y, at_)]) pos done) (hF : F ≤ E) (hs : min E (pos + ndL T y) ≤ max F pos) : PcOK T t F E st (pos + ndL T y) done := by
  refine ⟨h.top.ch, ?_, h.rest.1, h.rest.2⟩
  rw [h.eq]
  have hl := h.top.le
  by_cases c1 : E ≤ pos
  · rw [Nat.min_eq_left c1, Nat.min_eq_left (by omega)]
  · by_cases c2 : F ≤ pos
    · have : ndL T y = 0 := by omega
      rw [this]; rfl
    · rw [List.drop_eq_nil_of_le (by rw [List.length_take]; omega), List.drop_eq_nil_of_le (by rw [List.length_take]; omega)]
theorem PcOK.visit {t done : List Int} {F E pos : Nat} {st : List NoT} {y at_ : Int} (h : PcOK T t F E (st ++ [(y, at_)]) pos done) (h1 : F ≤ pos) (h2 : pos + ndL T y ≤ E) : PcOK T t F E st (pos + ndL T y) (done ++ txt T y) ∧ F + done.length = pos := by
  have hl := h.top.le
  refine ⟨⟨h.top.ch, ?_, h.rest.1, h.rest.2⟩, ?_⟩
  · rw [h.eq, Nat.min_eq_right (by omega), Nat.min_eq_right h2, ← h.top.sg]
    unfold sub
    rw [List.take_add, List.drop_append_of_le_length (by rw [List.length_take]; omega)]
  · rw [h.eq, Nat.min_eq_right (by omega), List.length_drop, List.length_take]; omega
theorem sub_drop_append {t a b : List Int} {pos : Nat} (h : sub t pos (a.length + b.length) = a ++ b) : sub t pos a.length = a ∧ sub t (pos + a.length) b.length = b := by
  unfold sub at *
  rw [List.take_add] at h
  have hl := congrArg List.length h
  rw [List.length_append, List.length_append, List.length_take, List.length_take, List.length_drop, List.length_drop] at hl
  have hl2 : ((t.drop pos).take a.length).length = a.length := by rw [List.length_take, List.length_drop]; omega
  obtain ⟨e1, e2⟩ := List.append_inj h hl2
  refine ⟨e1, ?_⟩
  rw [← List.drop_drop]; exact e2
theorem PcOK.split {t done : List Int} {F E pos : Nat} {st : List NoT} {y at_ l r : Int} (h : PcOK T t F E (st ++ [(y, at_)]) pos done) (ht : txt T y = txt T l ++ txt T r) (hl : l < y) (hr : r < y) (ol : NoOK T (l, at_)) (or : NoOK T (r, at_)) : PcOK T t F E (st ++ [(r, (pos : Int) + (ndL T l : Nat)), (l, (pos : Int))]) pos done := by
  have hb := h.bd st.length (y, at_) (by simp)
  have hsg := h.top.sg
  have hn : ndL T y = (txt T l).length + (txt T r).length := by unfold ndL; rw [ht, List.length_append]
  rw [hn, ht] at hsg
  obtain ⟨s1, s2⟩ := sub_drop_append hsg
  refine ⟨(ndC_append _ _ _ _).2 ⟨pos + ndL T y, ⟨pos + ndL T l, ⟨pos, rfl, rfl, rfl, s1⟩, rfl, ?_, s2⟩, h.top.ch⟩, h.eq, fun z hz => ?_, fun k z hk => ?_⟩
  · rw [hn]; unfold ndL; dsimp only; omega
  · rcases List.mem_append.1 hz with hz | hz
    · exact h.rest.1 z hz
    · rcases List.mem_cons.1 hz with hz | hz
      · rw [hz]; exact ⟨or.nd⟩
      · rw [List.mem_singleton.1 hz]; exact ⟨ol.nd⟩
  · by_cases c : k < st.length
    · exact h.rest.2 k z (by rwa [List.getElem?_append_left c] at hk)
    · rw [List.getElem?_append_right (by omega)] at hk
      have hlt := (List.getElem?_eq_some_iff.1 hk).1
      simp only [List.length_cons, List.length_nil] at hlt
      dsimp only at hb
      rcases List.mem_cons.1 (List.mem_of_getElem? hk) with hz | hz
      · rw [hz]; dsimp only; omega
      · rw [List.mem_singleton.1 hz]; dsimp only; omega

end Go.Proofs.YtcmncfglcjcmhaaGreat

/- walk: pieces; the functions that hand out the iterators. -/
set_option linter.unusedVariables false
set_option linter.unusedSimpArgs false
namespace Go.Proofs.YtcmncfglcjcmhaaGreat
open Go.Den

variable {w0 w : World} {Ω : List Ob} {most : Int} {T : List ET} {p : Addr}

theorem Visit2.at_ {v y : Value} {x x' : Int} {K : Bool → World → Prop} (h : Visit2 v (.int .i64 x) y K w) (e : x = x') : Visit2 v (.int .i64 x') y K w := e ▸ h
theorem walk_pieces_sp {yv : Value} {id : Int} {F E : Nat} {Qv : List Int → List Ob → Prop} (s : Sp w0 Ω w) (i : Nat) (hQ : ∀ done Ωv, Qv done Ωv → Ωv[i]? = some (sto p most T)) (q0 : Qv [] Ω) (hid : NoOK T (id, 0)) (hF : F ≤ E) (hE : E ≤ (txt T id).length)
    (hv : ∀ (x : Int) (done : List Int) (Ωv : List Ob) (o1 o2 o3 : Ob) (w : World) (K : Bool → World → Prop), (1 ≤ x ∧ x ≤ T.length) → (done ++ txt T x) <+: sub (txt T id) F (E - F) → Qv done Ωv → Sp w0 (o1 :: o2 :: o3 :: Ωv) w → (∀ Ωv' w', Qv (done ++ txt T x) Ωv' → Sp w0 (o1 :: o2 :: o3 :: Ωv') w' → K true w') → Visit2 yv (.int .i64 (F + done.length)) (.int .i64 x) K w)
    {K : Unit → World → Prop} (h : ∀ Ωv w', Qv (sub (txt T id) F (E - F)) Ωv → Sp w0 Ωv w' → K () w') : C_walk_pieces (some p) id F E yv K w := by
  apply S_walk_pieces
  unfold F_walk_pieces
  obtain ⟨_, _, _, hb0, hb1, hb2, g⟩ := Sp.entry s i (hQ _ _ q0)
  have hidr := hid.range g
  dsimp only at hidr
  have hbig := (g.at_ hidr.1 hidr.2).1.len
  have hwl := g.len hidr.1 hidr.2
  refine s.allocK fun a1 w1 s => ?_
  have s := s.lit (ty := ywalk_node) 0 rfl [((id, 0) : NoT)] 1 rfl rfl
  have hst : PcOK T (txt T id) F E [((id, 0) : NoT)] 0 [] := by
    refine ⟨⟨0, rfl, rfl, ?_, ?_⟩, ?_, fun x hx => ?_, fun k x hk => ?_⟩
    · exact Nat.zero_add _
    · unfold sub ndL; rw [List.drop_zero, List.take_length]
    · simp
    · rw [List.mem_singleton.1 hx]; exact hid
    · cases k with
      | zero => cases hk; have := hidr.2; dsimp only; omega
      | succ k => cases hk
  have etake : sub (txt T id) F (E - F) = ((txt T id).take E).drop F := by
    unfold sub
    rw [List.drop_take]
  generalize txt T id = t at *
  refine loop_g (G := List NoT × Nat × List Int × List Ob) (fun g x w => PcOK T t F E g.1 g.2.1 g.2.2.1 ∧ Qv g.2.2.1 g.2.2.2 ∧ Sp w0 (own ywalk_node x.1 g.1 :: g.2.2.2) w) (fun g => ndM T g.1) ([((id, 0) : NoT)], 0, [], Ω) ⟨hst, q0, s⟩ ?_
  clear s hst
  rintro ⟨st, pos, dn, Ωv⟩ ⟨sl, _⟩ w4 next ⟨hs, hq, s⟩ hnext _
  dsimp only at hs hq s ⊢
  have hlen2 := (s.view 0 rfl).len
  have hcap := (s.own_ 0 rfl).cap
  have hsl := hs.len g
  have hi := hQ _ _ hq
  refine gd_dec (fun c => ?_) (fun c => ?_)
  rotate_left
  · have : st = [] := List.eq_nil_of_length_eq_zero (by omega)
    subst this
    have e := hs.eq
    have hch : pos = t.length := hs.ch
    rw [hch, Nat.min_eq_left hE, ← etake] at e
    subst e
    exact h _ _ hq s.pop
  obtain ⟨st', ⟨y, at_⟩, rfl⟩ : ∃ st' x, st = st' ++ [x] := ⟨st.dropLast, st.getLast (by intro h'; rw [h'] at hlen2; simp at hlen2; omega), (List.dropLast_concat_getLast _).symm⟩
  have ho := hs.ok (y, at_) (by simp)
  have hr := ho.range g
  have htop := hs.top
  have hat := htop.at_
  subst hat
  have hle := htop.le
  dsimp only at hr
  rw [List.length_append, List.length_singleton] at hlen2 hsl
  have hly := g.len hr.1 hr.2
  have hlL : (ndL T y : Int) = (txt T y).length := rfl
  refine arith_i64 (by omega) (by omega) ((s.view 0 rfl).idx (n := st'.length) (x := ((y, (pos : Int)) : NoT)) (by omega) (by simp) rfl fun p5 hatp => ⟨(y, (pos : Int)), hatp, s.allocK fun a7 w5 s => s.st0 0 rfl rfl rfl fun w6 s => arith_i64 (by omega) (by omega) (slK_hd (h := st'.length) (by omega) (by omega) hcap ?_)⟩)
  have s := Sp.shrink s 1 rfl st'.length (by simp)
  rw [List.take_left] at s
  change Sp w0 (cel a7 (cells ywalk_node (y, (pos : Int))) :: own ywalk_node ⟨sl.a, st'.length, sl.cap⟩ st' :: Ωv) w6 at s
  have hdec : ndM T st' < ndM T (st' ++ [(y, (pos : Int))]) := by
    rw [ndM_append]
    simp only [ndM]
    split <;> omega
  refine s.ldi (x := y) 0 0 rfl rfl (intern_Weight_k s (i + 2) hi hr fun w7 s => s.allocK fun a12 w8 s => s.st0 0 rfl rfl rfl fun w9 s => s.ldi (x := (pos : Int)) 1 1 rfl rfl (s.ldi (x := (eAt T y).2.1.1) 0 0 rfl rfl (arith_i64 (by omega) (by omega) (s.ldi (x := (pos : Int)) 1 1 rfl rfl (gd_dec (fun c2 => ?_) (fun c2 => ?_))))))
  · refine hnext (st', pos + ndL T y, dn, Ωv) _ _ ⟨hs.skip hF ?_, hq, s.drop 2⟩ hdec
    rw [hly, ← hlL] at c2
    split at c2 <;> split at c2 <;> omega
  have hc2 : ¬ min E (pos + ndL T y) ≤ max F pos := by
    intro hh
    apply c2
    rw [hly, ← hlL]
    split <;> split <;> omega
  refine ⟨fun z w => z.1 = decide (F ≤ pos ∧ pos + ndL T y ≤ E) ∧ Sp w0 (cel a12 (cells yapi_Weight (eAt T y).2.1) :: cel a7 (cells ywalk_node (y, (pos : Int))) :: own ywalk_node ⟨sl.a, st'.length, sl.cap⟩ st' :: Ωv) w, ?_, ?_⟩
  · refine s.ldi (x := (pos : Int)) 1 1 rfl rfl (gd_dec (fun c3 => ⟨?_, s⟩) (fun c3 => ⟨?_, s⟩))
    · dsimp only
      rw [decide_eq_decide, hly, ← hlL]; omega
    · exact (decide_eq_false (by omega)).symm
  clear s
  rintro ⟨z, _⟩ w10 ⟨hz, s⟩ _
  dsimp only at hz ⊢
  subst hz
  refine gd_dec (fun c3 => ?_) (fun c3 => ?_)
  · obtain ⟨hv1, hv2⟩ := hs.visit c3.1 c3.2
    have hy1 : 1 ≤ y := by
      rcases Int.lt_or_le 0 y with h | h
      · omega
      · have : y = 0 := by omega
        subst this
        unfold ndL at hc2
        rw [txt_zero] at hc2
        simp at hc2; omega
    have hpre : (dn ++ txt T y) <+: sub t F (E - F) := by
      rw [hv1.eq, etake, Nat.min_eq_right c3.2]
      have : t.take (pos + ndL T y) <+: t.take E := by
        rw [show t.take (pos + ndL T y) = (t.take E).take (pos + ndL T y) by rw [List.take_take, Nat.min_eq_left c3.2]]
        exact List.take_prefix _ _
      obtain ⟨u, hu⟩ := this
      rw [← hu, List.drop_append_of_le_length (by rw [List.length_take]; omega)]
      exact List.prefix_append _ _
    refine s.ldi (x := (pos : Int)) 1 1 rfl rfl (s.ldi (x := y) 1 0 rfl rfl (Visit2.go (Visit2.at_ (hv y dn Ωv _ _ _ w10 _ ⟨hy1, hr.2⟩ hpre hq s fun Ωv' w12 hq' s => gd_f rfl (hnext (st', pos + ndL T y, dn ++ txt T y, Ωv') _ _ ⟨hv1, hq', s.drop 2⟩ hdec)) (by omega))))
  · have hy0 : y ≠ 0 := by
      intro h
      apply hc2
      rw [h]
      unfold ndL
      rw [txt_zero]
      simp; omega
    obtain ⟨t0, d0, n0⟩ := ho.nd.resolve_left hy0
    rcases n0.parts g with ⟨_, b, hb, _⟩ | ⟨l, r, t1, t2, d1, d2, e1, hl, hrr, n1, n2, et, _⟩
    · exfalso
      have : ndL T y = 1 := by unfold ndL; rw [n0.txt, hb]; rfl
      omega
    have ht : txt T y = txt T l ++ txt T r := by rw [n0.txt, et, n1.txt, n2.txt]
    have l1 := n1.pos
    have l2 := n1.le
    have r1 := n2.pos
    have r2 := n2.le
    have lenl := g.len (id := l) (by omega) l2
    have posl := (g.at_ (id := l) (by omega) l2).2.2.2 l1
    have posr := (g.at_ (id := r) (by omega) r2).2.2.2 r1
    have lenr := g.len (id := r) (by omega) r2
    have hlt := congrArg List.length ht
    rw [List.length_append] at hlt
    have hlLl : (ndL T l : Int) = (txt T l).length := rfl
    refine s.ldi (x := y) 1 0 rfl rfl (intern_Rule_k s (i + 3) hi ⟨by omega, hr.2⟩ fun w11 s => s.allocK fun a25 w12 s => s.st0 0 rfl rfl rfl fun w13 s => ?_)
    rw [e1] at s
    refine s.ldi (x := l) 0 2 rfl rfl (intern_Weight_k s (i + 4) hi ⟨by omega, l2⟩ fun w14 s => s.allocK fun a28 w15 s => s.st0 0 rfl rfl rfl fun w16 s => s.ldi (x := r) 1 3 rfl rfl (s.ldi (x := (pos : Int)) 3 1 rfl rfl (s.ldi (x := (eAt T l).2.1.1) 0 0 rfl rfl (arith_i64 (by omega) (by omega) (s.ldi (x := l) 1 2 rfl rfl (s.ldi (x := (pos : Int)) 3 1 rfl rfl ?_))))))
    rw [lenl, ← hlLl]
    refine s.allocK fun a35 w17 s => s.app 5 rfl ((s.lit (ty := ywalk_node) 0 rfl [((r, (pos : Int) + (ndL T l : Nat)) : NoT), (l, (pos : Int))] 2 rfl rfl).view 0 rfl) (by simp only [List.length_cons, List.length_nil]; omega) fun s36 w18 s => hnext (st' ++ [(r, (pos : Int) + (ndL T l : Nat)), (l, (pos : Int))], pos, dn, Ωv) _ _ ⟨hs.split ht hl hrr ⟨.inr ⟨_, _, n1⟩⟩ ⟨.inr ⟨_, _, n2⟩⟩, hq, s.drop 5⟩ ?_
    dsimp only
    rw [ndM_append, ndM_append]
    simp only [ndM]
    unfold ndL
    rw [if_neg (by omega), if_neg (by omega), if_neg (by omega)]
    omega

theorem walk_known_sp {id : Int} (s : Sp w0 Ω w) (i : Nat) (hi : Ω[i]? = some (sto p most T)) (hk : 0 ≤ id ∧ id ≤ T.length) {K : Int × Bool → World → Prop} (h : ∀ w', Sp w0 Ω w' → K ((eAt T id).2.1.1, true) w') : C_walk_known (some p) id K w := by
  apply S_walk_known
  unfold F_walk_known
  exact intern_Weight_k s i hi hk fun w1 s => s.allocK fun a2 w2 s => s.st0 0 rfl rfl rfl fun w3 s => s.drawK fun w4 s => s.ldi (x := (eAt T id).2.1.1) 0 0 rfl rfl (nilIfc_nil (h _ s.pop))

theorem walk_Letters_1_sp {yv : Value} {K : Unit → World → Prop} (h : K () w) : C_walk_Letters_1 yv K w := by
  apply S_walk_Letters_1
  exact h
theorem walk_Back_1_sp {yv : Value} {K : Unit → World → Prop} (h : K () w) : C_walk_Back_1 yv K w := by
  apply S_walk_Back_1
  exact h
theorem walk_Pieces_3_sp {yv : Value} {b1 b2 b3 b4 : Nat} {id : Int} {F E : Nat} {Qv : List Int → List Ob → Prop} (s : Sp w0 (cel b1 [.pointer (some p)] :: cel b2 [.int .i64 id] :: cel b3 [.int .i64 F] :: cel b4 [.int .i64 ((E : Int) - F)] :: Ω) w) (i : Nat) (hQ : ∀ done Ωv, Qv done Ωv → Ωv[i]? = some (sto p most T)) (q0 : Qv [] Ω) (hid : NoOK T (id, 0)) (hF : F ≤ E) (hE : E ≤ (txt T id).length)
    (hv : ∀ (x : Int) (done : List Int) (Ωv : List Ob) (o1 o2 o3 o4 o5 o6 o7 : Ob) (w : World) (K : Bool → World → Prop), (1 ≤ x ∧ x ≤ T.length) → (done ++ txt T x) <+: sub (txt T id) F (E - F) → Qv done Ωv → Sp w0 (o1 :: o2 :: o3 :: o4 :: o5 :: o6 :: o7 :: Ωv) w → (∀ Ωv' w', Qv (done ++ txt T x) Ωv' → Sp w0 (o1 :: o2 :: o3 :: o4 :: o5 :: o6 :: o7 :: Ωv') w' → K true w') → Visit2 yv (.int .i64 (F + done.length)) (.int .i64 x) K w)
    {K : Unit → World → Prop} (h : ∀ Ωv w', Qv (sub (txt T id) F (E - F)) Ωv → Sp w0 Ωv w' → K () w') : C_walk_Pieces_3 yv ⟨b1, 0, none⟩ ⟨b2, 0, none⟩ ⟨b3, 0, none⟩ ⟨b4, 0, none⟩ K w := by
  apply S_walk_Pieces_3
  unfold F_walk_Pieces_3
  obtain ⟨_, _, _, hb0, hb1, hb2, g⟩ := Sp.entry s (i + 4) (hQ _ _ q0)
  have hidr := hid.range g
  dsimp only at hidr
  have hbig := (g.at_ hidr.1 hidr.2).1.len
  have hwl := g.len hidr.1 hidr.2
  refine s.ldp0 0 rfl rfl (s.ldi0 1 rfl rfl (s.ldi0 2 rfl rfl (s.ldi0 2 rfl rfl (s.ldi0 3 rfl rfl (arith_i64 (by omega) (by omega) ?_)))))
  rw [show (F : Int) + ((E : Int) - F) = (E : Int) by omega]
  refine walk_pieces_sp (most := most) (Qv := fun done Ωv => ∃ o1 o2 o3 o4 Ω', Ωv = o1 :: o2 :: o3 :: o4 :: Ω' ∧ Qv done Ω') s (i + 4) ?_ ⟨_, _, _, _, _, rfl, q0⟩ hid hF hE ?_ ?_
  · rintro done Ωv ⟨o1, o2, o3, o4, Ω', rfl, hq⟩
    exact hQ _ _ hq
  · rintro x done Ωv o1 o2 o3 w K hx hpre ⟨o4, o5, o6, o7, Ω', rfl, hq⟩ s hK
    exact hv x done Ω' _ _ _ _ _ _ _ w K hx hpre hq s fun Ωv' w' hq' s => hK _ w' ⟨_, _, _, _, _, rfl, hq'⟩ s
  · rintro Ωv w' ⟨o4, o5, o6, o7, Ω', rfl, hq⟩ s
    exact h Ω' w' hq (s.drop 4)

end Go.Proofs.YtcmncfglcjcmhaaGreat

/- walk: the functions that hand out the iterators. -/
set_option linter.unusedVariables false
set_option linter.unusedSimpArgs false
namespace Go.Proofs.YtcmncfglcjcmhaaGreat
open Go.Den

variable {w0 w : World} {Ω : List Ob} {most : Int} {T : List ET} {p : Addr}

theorem walk_Letters_sp {id from_ : Int} (s : Sp w0 Ω w) (i : Nat) (hi : Ω[i]? = some (sto p most T)) (hk : 0 ≤ id ∧ id ≤ T.length) {K : Value → World → Prop}
    (h1 : ¬ (0 ≤ from_ ∧ from_ < (txt T id).length) → ∀ w', Sp w0 Ω w' → K (.func (.func 34) #[] #[]) w')
    (h2 : (0 ≤ from_ ∧ from_ < (txt T id).length) → ∀ b1 b2 b3 w', Sp w0 (cel b1 [.pointer (some p)] :: cel b2 [.int .i64 id] :: cel b3 [.int .i64 from_] :: Ω) w' → K (.func (.func 35) #[] #[.pointer (some ⟨b1, 0, none⟩), .pointer (some ⟨b2, 0, none⟩), .pointer (some ⟨b3, 0, none⟩)]) w') : C_walk_Letters (some p) id from_ K w := by
  apply S_walk_Letters
  unfold F_walk_Letters
  obtain ⟨_, _, _, hb0, hb1, hb2, g⟩ := Sp.entry s i hi
  have hlen := g.len hk.1 hk.2
  refine Sp.allocK (cs := [.pointer (some p)]) s fun b1 w1 s => Sp.allocK (cs := [.int .i64 id]) s fun b2 w2 s => Sp.allocK (cs := [.int .i64 from_]) s fun b3 w3 s => s.ldp0 2 rfl rfl (s.ldi0 1 rfl rfl (walk_known_sp s (i + 3) hi hk fun w4 s => ?_))
  have s := s.pick [2, 1, 0] 3 rfl (by decide)
  change Sp w0 (cel b1 [.pointer (some p)] :: cel b2 [.int .i64 id] :: cel b3 [.int .i64 from_] :: Ω) w4 at s
  refine ⟨fun z w => z.1 = decide (¬ (0 ≤ from_ ∧ from_ < (txt T id).length)) ∧ Sp w0 (cel b1 [.pointer (some p)] :: cel b2 [.int .i64 id] :: cel b3 [.int .i64 from_] :: Ω) w, gd_f rfl (s.ldi0 2 rfl rfl (gd_dec (fun c => ⟨?_, s⟩) (fun c => s.ldi0 2 rfl rfl ⟨?_, s⟩))), ?_⟩
  · exact (decide_eq_true (by omega)).symm
  · dsimp only; rw [decide_eq_decide]; omega
  clear s
  rintro ⟨z, _⟩ w5 ⟨hz, s⟩ _
  dsimp only at hz ⊢
  subst hz
  exact gd_dec (fun c => h1 c _ (s.drop 3)) (fun c => h2 (Classical.not_not.1 c) b1 b2 b3 _ s)
theorem walk_Back_sp {id from_ : Int} (s : Sp w0 Ω w) (i : Nat) (hi : Ω[i]? = some (sto p most T)) (hk : 0 ≤ id ∧ id ≤ T.length) {K : Value → World → Prop}
    (h1 : ¬ (0 < from_ ∧ from_ ≤ (txt T id).length) → ∀ w', Sp w0 Ω w' → K (.func (.func 38) #[] #[]) w')
    (h2 : (0 < from_ ∧ from_ ≤ (txt T id).length) → ∀ b1 b2 b3 w', Sp w0 (cel b1 [.pointer (some p)] :: cel b2 [.int .i64 id] :: cel b3 [.int .i64 from_] :: Ω) w' → K (.func (.func 39) #[] #[.pointer (some ⟨b1, 0, none⟩), .pointer (some ⟨b2, 0, none⟩), .pointer (some ⟨b3, 0, none⟩)]) w') : C_walk_Back (some p) id from_ K w := by
  apply S_walk_Back
  unfold F_walk_Back
  obtain ⟨_, _, _, hb0, hb1, hb2, g⟩ := Sp.entry s i hi
  have hlen := g.len hk.1 hk.2
  refine Sp.allocK (cs := [.pointer (some p)]) s fun b1 w1 s => Sp.allocK (cs := [.int .i64 id]) s fun b2 w2 s => Sp.allocK (cs := [.int .i64 from_]) s fun b3 w3 s => s.ldp0 2 rfl rfl (s.ldi0 1 rfl rfl (walk_known_sp s (i + 3) hi hk fun w4 s => ?_))
  have s := s.pick [2, 1, 0] 3 rfl (by decide)
  change Sp w0 (cel b1 [.pointer (some p)] :: cel b2 [.int .i64 id] :: cel b3 [.int .i64 from_] :: Ω) w4 at s
  refine ⟨fun z w => z.1 = decide (¬ (0 < from_ ∧ from_ ≤ (txt T id).length)) ∧ Sp w0 (cel b1 [.pointer (some p)] :: cel b2 [.int .i64 id] :: cel b3 [.int .i64 from_] :: Ω) w, gd_f rfl (s.ldi0 2 rfl rfl (gd_dec (fun c => ⟨?_, s⟩) (fun c => s.ldi0 2 rfl rfl ⟨?_, s⟩))), ?_⟩
  · exact (decide_eq_true (by omega)).symm
  · dsimp only; rw [decide_eq_decide]; omega
  clear s
  rintro ⟨z, _⟩ w5 ⟨hz, s⟩ _
  dsimp only at hz ⊢
  subst hz
  exact gd_dec (fun c => h1 c _ (s.drop 3)) (fun c => h2 (Classical.not_not.1 c) b1 b2 b3 _ s)
theorem walk_Pieces_sp {id : Int} {F E : Nat} (s : Sp w0 Ω w) (i : Nat) (hi : Ω[i]? = some (sto p most T)) (hk : 0 ≤ id ∧ id ≤ T.length) (hev : (eAt T id).2.2.2 = true) (hF : F ≤ E) (hE : E ≤ (txt T id).length) {K : Value → World → Prop}
    (h2 : ∀ b1 b2 b3 b4 w', Sp w0 (cel b1 [.pointer (some p)] :: cel b2 [.int .i64 id] :: cel b3 [.int .i64 F] :: cel b4 [.int .i64 ((E : Int) - F)] :: Ω) w' → K (.func (.func 45) #[] #[.pointer (some ⟨b1, 0, none⟩), .pointer (some ⟨b2, 0, none⟩), .pointer (some ⟨b3, 0, none⟩), .pointer (some ⟨b4, 0, none⟩)]) w') : C_walk_Pieces (some p) id F ((E : Int) - F) K w := by
  apply S_walk_Pieces
  unfold F_walk_Pieces
  obtain ⟨_, _, _, hb0, hb1, hb2, g⟩ := Sp.entry s i hi
  have hlen := g.len hk.1 hk.2
  have hbig := (g.at_ hk.1 hk.2).1.len
  refine Sp.allocK (cs := [.pointer (some p)]) s fun b1 w1 s => Sp.allocK (cs := [.int .i64 id]) s fun b2 w2 s => Sp.allocK (cs := [.int .i64 F]) s fun b3 w3 s => Sp.allocK (cs := [.int .i64 ((E : Int) - F)]) s fun b4 w3 s => s.ldp0 3 rfl rfl (s.ldi0 2 rfl rfl (walk_known_sp s (i + 4) hi hk fun w4 s => ?_))
  have s := s.pick [3, 2, 1, 0] 4 rfl (by decide)
  change Sp w0 (cel b1 [.pointer (some p)] :: cel b2 [.int .i64 id] :: cel b3 [.int .i64 F] :: cel b4 [.int .i64 ((E : Int) - F)] :: Ω) w4 at s
  refine JoinP.inl (gd_f rfl (s.ldi0 2 rfl rfl (s.ldi0 3 rfl rfl (length_Range_spec hbig (fun _ => nilIfc_nil ?_) (fun c => absurd ⟨by omega, by omega, by omega⟩ c)))))
  intro _
  refine gd_f rfl (s.ldp0 0 rfl rfl (s.ldi0 1 rfl rfl (avl_Balanced_k s (i + 4) hi hk fun w5 s => JoinP.inl (nilIfc_nil (gd_f rfl ?_)))))
  rw [hev]
  intro _
  exact gd_f rfl (h2 b1 b2 b3 b4 _ s)

theorem bodyful_34 : bodyful P 34 = true := by decide +kernel
theorem bodyful_35 : bodyful P 35 = true := by decide +kernel
theorem bodyful_38 : bodyful P 38 = true := by decide +kernel
theorem bodyful_39 : bodyful P 39 = true := by decide +kernel
theorem bodyful_45 : bodyful P 45 = true := by decide +kernel

end Go.Proofs.YtcmncfglcjcmhaaGreat

/- walk: the ranges over the iterators, over whatever the rounds keep. -/
set_option linter.unusedVariables false
set_option linter.unusedSimpArgs false
namespace Go.Proofs.YtcmncfglcjcmhaaGreat
open Go.Den

variable {w0 w : World} {Ω : List Ob} {most : Int} {T : List ET} {p : Addr}

theorem range_Letters {id from_ : Int} {Qv : List Int → List Ob → Prop} {B : Nat → Loop → Int × Int × Unit → World → (Bool → World → Prop) → Prop} {Q : World → Option Code → World → Prop} (s : Sp w0 Ω w) (i : Nat) (hk : 0 ≤ id ∧ id ≤ T.length) (hf : 0 ≤ from_ ∧ from_ ≤ (txt T id).length) (hQ : ∀ done Ωv, Qv done Ωv → Ωv[i]? = some (sto p most T)) (q0 : Qv [] Ω)
    (hround : ∀ (l : Nat) (r : Loop) (c : Int) (done : List Int) (Ωv : List Ob) (o1 o2 o3 o4 o5 o6 o7 : Ob) (w : World) (K : Bool → World → Prop), (done ++ [c]) <+: (txt T id).drop from_.toNat → Qv done Ωv → Sp w0 (o1 :: o2 :: o3 :: o4 :: o5 :: o6 :: lp l r .ready none :: o7 :: Ωv) w → (∀ Ωv' w', Qv (done ++ [c]) Ωv' → Sp w0 (o1 :: o2 :: o3 :: o4 :: o5 :: o6 :: lp l r .ready none :: o7 :: Ωv') w' → K true w') → B l r (from_ + done.length, c, ()) w K)
    (hfin : ∀ wr Ωv w', Qv ((txt T id).drop from_.toNat) Ωv → Sp w0 (df wr.heap.size :: Ωv) w' → Q wr none w') :
    C_walk_Letters (some p) id from_ (fun x w => RangeP P x w (Int × Int × Unit) (fun x => [.int .i64 x.1, .int .u8 x.2.1]) B (Q w)) w := by
  obtain ⟨_, _, _, hb0, hb1, hb2, g⟩ := Sp.entry s i (hQ _ _ q0)
  refine walk_Letters_sp s i (hQ _ _ q0) hk (fun hno w1 s => ?_) (fun hyes b1 b2 b3 w1 s => ?_)
  · refine Sp.range s rfl bodyful_34 fun l r w2 s2 hr => ?_
    refine walk_Letters_1_sp ⟨_, 0, rfl, s2, fun w4 s4 => hfin w1 Ω w4 ?_ (s4.drop 1)⟩
    have e : (txt T id).drop from_.toNat = [] := List.drop_eq_nil_of_le (by omega)
    rw [e]; exact q0
  · refine Sp.range s rfl bodyful_35 fun l r w2 s2 hr => ?_
    have s2 := s2.pick [2, 3, 4, 0, 1] 5 rfl (by decide)
    change Sp w0 (cel b1 [.pointer (some p)] :: cel b2 [.int .i64 id] :: cel b3 [.int .i64 from_] :: lp l r .ready none :: df w1.heap.size :: Ω) w2 at s2
    have hid : 1 ≤ id := by
      rcases Int.lt_or_le 0 id with h | h
      · omega
      · have : id = 0 := by omega
        subst this
        rw [txt_zero] at hyes
        simp at hyes; omega
    refine walk_Letters_2_sp (most := most) (Qv := fun done Ωv => ∃ Ω', Ωv = lp l r .ready none :: df w1.heap.size :: Ω' ∧ Qv done Ω') s2 (i + 2) ?_ ⟨_, rfl, q0⟩ ⟨hid, hk.2⟩ hyes.1 hyes.2 ?_ ?_
    · rintro done Ωv ⟨Ω', rfl, hq⟩
      exact hQ _ _ hq
    · rintro c done Ωv o1 o2 o3 o4 o5 o6 w K hpre ⟨Ω', rfl, hq⟩ s hK
      exact Visit2.mk (hr (from_ + done.length, c, ()) w K (s.lpAt 6 rfl) (hround l r c done Ω' _ _ _ _ _ _ _ w K hpre hq s fun Ωv' w' hq' s => hK _ w' ⟨_, rfl, hq'⟩ s))
    · rintro Ωv w' ⟨Ω', rfl, hq⟩ s
      exact ⟨_, 0, rfl, s, fun w4 s4 => hfin w1 Ω' w4 hq (s4.drop 1)⟩
theorem range_Back {id from_ : Int} {Qv : List Int → List Ob → Prop} {B : Nat → Loop → Int × Int × Unit → World → (Bool → World → Prop) → Prop} {Q : World → Option Code → World → Prop} (s : Sp w0 Ω w) (i : Nat) (hk : 0 ≤ id ∧ id ≤ T.length) (hf : 0 ≤ from_ ∧ from_ ≤ (txt T id).length) (hQ : ∀ done Ωv, Qv done Ωv → Ωv[i]? = some (sto p most T)) (q0 : Qv [] Ω)
    (hround : ∀ (l : Nat) (r : Loop) (c : Int) (done : List Int) (Ωv : List Ob) (o1 o2 o3 o4 o5 o6 o7 : Ob) (w : World) (K : Bool → World → Prop), (done ++ [c]) <+: ((txt T id).take from_.toNat).reverse → Qv done Ωv → Sp w0 (o1 :: o2 :: o3 :: o4 :: o5 :: o6 :: lp l r .ready none :: o7 :: Ωv) w → (∀ Ωv' w', Qv (done ++ [c]) Ωv' → Sp w0 (o1 :: o2 :: o3 :: o4 :: o5 :: o6 :: lp l r .ready none :: o7 :: Ωv') w' → K true w') → B l r (from_ - done.length - 1, c, ()) w K)
    (hfin : ∀ wr Ωv w', Qv (((txt T id).take from_.toNat).reverse) Ωv → Sp w0 (df wr.heap.size :: Ωv) w' → Q wr none w') :
    C_walk_Back (some p) id from_ (fun x w => RangeP P x w (Int × Int × Unit) (fun x => [.int .i64 x.1, .int .u8 x.2.1]) B (Q w)) w := by
  obtain ⟨_, _, _, hb0, hb1, hb2, g⟩ := Sp.entry s i (hQ _ _ q0)
  refine walk_Back_sp s i (hQ _ _ q0) hk (fun hno w1 s => ?_) (fun hyes b1 b2 b3 w1 s => ?_)
  · refine Sp.range s rfl bodyful_38 fun l r w2 s2 hr => ?_
    refine walk_Back_1_sp ⟨_, 0, rfl, s2, fun w4 s4 => hfin w1 Ω w4 ?_ (s4.drop 1)⟩
    have e : ((txt T id).take from_.toNat).reverse = [] := by rw [show from_.toNat = 0 by omega]; rfl
    rw [e]; exact q0
  · refine Sp.range s rfl bodyful_39 fun l r w2 s2 hr => ?_
    have s2 := s2.pick [2, 3, 4, 0, 1] 5 rfl (by decide)
    change Sp w0 (cel b1 [.pointer (some p)] :: cel b2 [.int .i64 id] :: cel b3 [.int .i64 from_] :: lp l r .ready none :: df w1.heap.size :: Ω) w2 at s2
    have hid : 1 ≤ id := by
      rcases Int.lt_or_le 0 id with h | h
      · omega
      · have : id = 0 := by omega
        subst this
        rw [txt_zero] at hyes
        simp at hyes; omega
    refine walk_Back_2_sp (most := most) (Qv := fun done Ωv => ∃ Ω', Ωv = lp l r .ready none :: df w1.heap.size :: Ω' ∧ Qv done Ω') s2 (i + 2) ?_ ⟨_, rfl, q0⟩ ⟨hid, hk.2⟩ hyes.1 hyes.2 ?_ ?_
    · rintro done Ωv ⟨Ω', rfl, hq⟩
      exact hQ _ _ hq
    · rintro c done Ωv o1 o2 o3 o4 o5 o6 w K hpre ⟨Ω', rfl, hq⟩ s hK
      exact Visit2.mk (hr (from_ - done.length - 1, c, ()) w K (s.lpAt 6 rfl) (hround l r c done Ω' _ _ _ _ _ _ _ w K hpre hq s fun Ωv' w' hq' s => hK _ w' ⟨_, rfl, hq'⟩ s))
    · rintro Ωv w' ⟨Ω', rfl, hq⟩ s
      exact ⟨_, 0, rfl, s, fun w4 s4 => hfin w1 Ω' w4 hq (s4.drop 1)⟩
theorem range_Pieces {id : Int} {F E : Nat} {Qv : List Int → List Ob → Prop} {B : Nat → Loop → Int × Int × Unit → World → (Bool → World → Prop) → Prop} {Q : World → Option Code → World → Prop} (s : Sp w0 Ω w) (i : Nat) (hk : 0 ≤ id ∧ id ≤ T.length) (hev : (eAt T id).2.2.2 = true) (hid : NoOK T (id, 0)) (hF : F ≤ E) (hE : E ≤ (txt T id).length) (hQ : ∀ done Ωv, Qv done Ωv → Ωv[i]? = some (sto p most T)) (q0 : Qv [] Ω)
    (hround : ∀ (l : Nat) (r : Loop) (x : Int) (done : List Int) (Ωv : List Ob) (o1 o2 o3 o4 o5 o6 o7 o8 : Ob) (w : World) (K : Bool → World → Prop), (1 ≤ x ∧ x ≤ T.length) → (done ++ txt T x) <+: sub (txt T id) F (E - F) → Qv done Ωv → Sp w0 (o1 :: o2 :: o3 :: o4 :: o5 :: o6 :: o7 :: lp l r .ready none :: o8 :: Ωv) w → (∀ Ωv' w', Qv (done ++ txt T x) Ωv' → Sp w0 (o1 :: o2 :: o3 :: o4 :: o5 :: o6 :: o7 :: lp l r .ready none :: o8 :: Ωv') w' → K true w') → B l r (F + done.length, x, ()) w K)
    (hfin : ∀ wr Ωv w', Qv (sub (txt T id) F (E - F)) Ωv → Sp w0 (df wr.heap.size :: Ωv) w' → Q wr none w') :
    C_walk_Pieces (some p) id F ((E : Int) - F) (fun x w => RangeP P x w (Int × Int × Unit) (fun x => [.int .i64 x.1, .int .i64 x.2.1]) B (Q w)) w := by
  refine walk_Pieces_sp s i (hQ _ _ q0) hk hev hF hE fun b1 b2 b3 b4 w1 s => ?_
  refine Sp.range s rfl bodyful_45 fun l r w2 s2 hr => ?_
  have s2 := s2.pick [2, 3, 4, 5, 0, 1] 6 rfl (by decide)
  change Sp w0 (cel b1 [.pointer (some p)] :: cel b2 [.int .i64 id] :: cel b3 [.int .i64 F] :: cel b4 [.int .i64 ((E : Int) - F)] :: lp l r .ready none :: df w1.heap.size :: Ω) w2 at s2
  refine walk_Pieces_3_sp (most := most) (Qv := fun done Ωv => ∃ Ω', Ωv = lp l r .ready none :: df w1.heap.size :: Ω' ∧ Qv done Ω') s2 (i + 2) ?_ ⟨_, rfl, q0⟩ hid hF hE ?_ ?_
  · rintro done Ωv ⟨Ω', rfl, hq⟩
    exact hQ _ _ hq
  · rintro x done Ωv o1 o2 o3 o4 o5 o6 o7 w K hx hpre ⟨Ω', rfl, hq⟩ s hK
    exact Visit2.mk (hr (F + done.length, x, ()) w K (s.lpAt 7 rfl) (hround l r x done Ω' _ _ _ _ _ _ _ _ w K hx hpre hq s fun Ωv' w' hq' s => hK _ w' ⟨_, rfl, hq'⟩ s))
  · rintro Ωv w' ⟨Ω', rfl, hq⟩ s
    exact ⟨_, 0, rfl, s, fun w4 s4 => hfin w1 Ω' w4 hq (s4.drop 1)⟩

end Go.Proofs.YtcmncfglcjcmhaaGreat
