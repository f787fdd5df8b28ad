/- Texts that belong together, joined: AccA, AccB, AccC, AccD, AccE, AccF, AccG, AccH, AccI, AccJ, AccK, AccL. No conditions. -/
import Derived.Test.YtcmncfglcjcmhaaGreatGE
import Derived.Test.YtcmncfglcjcmhaaGreatGC
import Derived.Test.YtcmncfglcjcmhaaGreatGD
/- access: one letter, and the way to it (At, Path). -/
set_option linter.unusedVariables false
set_option linter.unusedSimpArgs false
namespace Go.Proofs.YtcmncfglcjcmhaaGreat
open Go.Den

variable {w0 w : World} {Ω : List Ob} {most : Int} {T : List ET} {p : Addr}

/-- what one step down does with an offset -/
structure Down (T : List ET) (id at_ : Int) (id2 at2 : Int) : Prop where
  pos : 1 ≤ id2
  lt : id2 < id
  at0 : 0 ≤ at2
  at1 : at2 < (txt T id2).length
  get : (txt T id)[at_.toNat]? = (txt T id2)[at2.toNat]?
  dep : (eAt T id2).2.2.1 + 1 ≤ (eAt T id).2.2.1
theorem rep_get {k : Nat} {t : List Int} {n : Nat} (h : n < k * t.length) : (List.replicate k t).flatten[n]? = t[n % t.length]? := by
  induction k generalizing n with
  | zero => omega
  | succ k ih =>
    rw [List.replicate_succ, List.flatten_cons]
    by_cases c : n < t.length
    · rw [List.getElem?_append_left c, Nat.mod_eq_of_lt c]
    · rw [List.getElem?_append_right (by omega), ih (by rw [Nat.succ_mul] at h; omega), ← Nat.mod_eq_sub_mod (by omega)]
theorem access_below_sp {id at_ : Int} (g : Grow T) (hk : 1 ≤ id ∧ id ≤ T.length) (hl : (eAt T id).1.1 ≠ 1) (h0 : 0 ≤ at_) (h1 : at_ < (txt T id).length) (s : Sp w0 Ω w) {K : Int × Int → World → Prop}
    (h : ∀ id2 at2 w', Down T id at_ id2 at2 → Sp w0 Ω w' → K (id2, at2) w') : C_access_below (eAt T id).1 ((eAt T (eAt T id).1.2.2.1).2.1.1) at_ K w := by
  apply S_access_below
  unfold F_access_below
  have hb := g.len (id := id) (by omega) hk.2
  have hbig := (g.at_ (id := id) (by omega) hk.2).1.len
  refine s.allocK fun a1 w1 s => s.ldi (x := (eAt T id).1.1) 0 0 rfl rfl ?_
  cases g.txt hk.1 hk.2 with
  | letter b _ _ e _ => rw [e] at hl; exact absurd rfl hl
  | pair l r l1 l2 r1 r2 hs e ht =>
    have hll := g.len (id := l) (by omega) (by omega)
    have hlr := g.len (id := r) (by omega) (by omega)
    have hlen : (txt T id).length = (txt T l).length + (txt T r).length := by rw [ht, List.length_append]
    have hdep : (eAt T id).2.2.1 = 1 + (if (eAt T l).2.2.1 < (eAt T r).2.2.1 then (eAt T r).2.2.1 else (eAt T l).2.2.1) := by rw [e]; rfl
    have e1 : (eAt T id).1 = (2, 0, l, r, 0) := by rw [e]; rfl
    rw [e1] at s ⊢
    refine gd_f rfl (gd_dec (fun c => s.ldi (x := l) 0 2 rfl rfl (h _ _ _ ⟨l1, l2, h0, by dsimp only at c; omega, ?_, by split at hdep <;> omega⟩ s.pop)) (fun c => s.ldi (x := r) 0 3 rfl rfl (arith_i64 (by dsimp only at c ⊢; omega) (by dsimp only at c ⊢; omega) (h _ _ _ ⟨r1, r2, by dsimp only at c ⊢; omega, by dsimp only at c ⊢; omega, ?_, by split at hdep <;> omega⟩ s.pop))))
    · dsimp only at c
      rw [ht, List.getElem?_append_left (by omega)]
    · dsimp only at c ⊢
      rw [ht, List.getElem?_append_right (by omega)]
      congr 1
      omega
  | power x k x1 x2 hk2 hs e ht =>
    have hlx := g.len (id := x) (by omega) (by omega)
    have hx1 := (g.at_ (id := x) (by omega) (by omega)).2.2.2 x1
    have hlen : (txt T id).length = k.toNat * (txt T x).length := by rw [ht, flat_rep_len]
    have hdep : (eAt T id).2.2.1 = 1 + (eAt T x).2.2.1 := by rw [e]; rfl
    have e1 : (eAt T id).1 = (3, 0, x, 0, k) := by rw [e]; rfl
    rw [e1] at s ⊢
    dsimp only
    have m0 := Int.tmod_nonneg (a := at_) (eAt T x).2.1.1 h0
    have m1 := Int.tmod_lt_of_pos at_ (show 0 < (eAt T x).2.1.1 by omega)
    have em : (Int.tmod at_ (eAt T x).2.1.1).toNat = at_.toNat % (txt T x).length := by
      obtain ⟨n, hn⟩ : ∃ n : Nat, at_ = n := ⟨at_.toNat, by omega⟩
      subst hn
      rw [Int.tmod_eq_emod_of_nonneg h0, hlx, ← Int.natCast_emod, Int.toNat_natCast, Int.toNat_natCast]
    refine gd_t rfl (s.drawK fun w2 s => s.ldi (x := x) 0 2 rfl rfl ⟨by omega, letZ_mk (h _ _ _ ⟨x1, x2, m0, by omega, ?_, by omega⟩ s.pop)⟩)
    rw [ht, em]
    exact rep_get (by omega)
theorem txt_one {id : Int} (g : Grow T) (hk : 1 ≤ id ∧ id ≤ T.length) (hl : (eAt T id).1.1 = 1) : ∃ b, (eAt T id).1 = (1, b, 0, 0, 0) ∧ txt T id = [b] ∧ 0 ≤ b ∧ b < 256 ∧ (eAt T id).2.2.1 = 0 := by
  cases g.txt hk.1 hk.2 with
  | letter b b0 b1 e ht => exact ⟨b, by rw [e]; rfl, ht, b0, b1, by rw [e]; rfl⟩
  | pair l r _ _ _ _ _ e _ => rw [e] at hl; exact absurd hl (by show ¬ ((2 : Int) = 1); decide)
  | power x k _ _ _ _ e _ => rw [e] at hl; exact absurd hl (by show ¬ ((3 : Int) = 1); decide)
theorem left_known {id : Int} (g : Grow T) (hk : 1 ≤ id ∧ id ≤ T.length) (hl : (eAt T id).1.1 ≠ 1) : 1 ≤ (eAt T id).1.2.2.1 ∧ (eAt T id).1.2.2.1 < id := by
  cases g.txt hk.1 hk.2 with
  | letter b _ _ e _ => rw [e] at hl; exact absurd rfl hl
  | pair l r h1 h2 _ _ _ e _ => rw [e]; exact ⟨h1, h2⟩
  | power x k h1 h2 _ _ e _ => rw [e]; exact ⟨h1, h2⟩
theorem access_At_sp {id at_ : Int} (s : Sp w0 Ω w) (i : Nat) (hi : Ω[i]? = some (sto p most T)) (hk : 0 ≤ id ∧ id ≤ T.length) (h0 : 0 ≤ at_) (h1 : at_ < (txt T id).length) {K : Int × Value → World → Prop}
    (h : ∀ c w', (txt T id)[at_.toNat]? = some c → Sp w0 Ω w' → K (c, .nilIface) w') : C_access_At (some p) id at_ K w := by
  apply S_access_At
  unfold F_access_At
  obtain ⟨_, _, _, hb0, hb1, hb2, g⟩ := Sp.entry s i hi
  have hlen := g.len hk.1 hk.2
  refine intern_Weight_k s i hi hk fun w1 s => s.allocK fun a2 w2 s => s.st0 0 rfl rfl rfl fun w3 s => nilIfc_nil (gd_f rfl (JoinP.inl (gd_f (decide_eq_false (by omega)) (s.ldi (x := (eAt T id).2.1.1) 0 0 rfl rfl ?_))))
  intro _
  refine gd_f (decide_eq_false (by omega)) ?_
  have s : Sp w0 Ω w3 := s.pop
  have hid : 1 ≤ id := by
    rcases Int.lt_or_le 0 id with h | h
    · omega
    · have : id = 0 := by omega
      subst this
      rw [txt_zero] at h1
      simp at h1; omega
  refine ⟨fun x w => (1 ≤ x.1 ∧ x.1 ≤ (T.length : Int)) ∧ 0 ≤ x.2.1 ∧ x.2.1 < ((txt T x.1).length : Int) ∧ (txt T id)[at_.toNat]? = (txt T x.1)[x.2.1.toNat]? ∧ Sp w0 Ω w, fun x _ => x.1.toNat, ⟨⟨hid, hk.2⟩, h0, h1, rfl, s⟩, ?_⟩
  clear s
  rintro ⟨y, a, _⟩ w5 ⟨hy, ha0, ha1, hg, s⟩ _
  dsimp only at hy ha0 ha1 hg ⊢
  refine intern_Rule_k s i hi hy fun w6 s => s.allocK fun a10 w7 s => s.st0 0 rfl rfl rfl fun w8 s => nilIfc_nil (gd_f rfl (s.ldi (x := (eAt T y).1.1) 0 0 rfl rfl (gd_eq (fun c => ?_) (fun c => ?_))))
  · obtain ⟨b, e1, e2, _⟩ := txt_one g hy c
    have hl1 : (txt T y).length = 1 := by rw [e2]; rfl
    have ha : a = 0 := by omega
    rw [e1] at s
    refine s.ldi (x := b) 0 1 rfl rfl (h b _ ?_ s.pop)
    rw [hg, ha, e2]; rfl
  · have hlk := left_known g hy c
    refine s.ldi (x := (eAt T y).1.2.2.1) 0 2 rfl rfl (intern_Weight_k s (i + 1) hi ⟨by omega, by omega⟩ fun w9 s => s.allocK fun a16 w10 s => s.st0 0 rfl rfl rfl fun w11 s => nilIfc_nil (gd_f rfl (s.ld0 (ty := yapi_Rule) (x := (eAt T y).1) 1 rfl rfl (s.ldi (x := (eAt T (eAt T y).1.2.2.1).2.1.1) 0 0 rfl rfl (access_below_sp g hy c ha0 ha1 s fun id2 at2 w12 hd s => ⟨⟨⟨hd.pos, by have := hd.lt; omega⟩, hd.at0, hd.at1, hg.trans hd.get, s.drop 2⟩, by have := hd.lt; have := hd.pos; dsimp only; omega⟩)))))
theorem access_Path_sp {id at_ : Int} (s : Sp w0 Ω w) (i : Nat) (hi : Ω[i]? = some (sto p most T)) (hk : 0 ≤ id ∧ id ≤ T.length) (h0 : 0 ≤ at_) (h1 : at_ < (txt T id).length) {K : Sl × Value → World → Prop}
    (h : ∀ sl (path : List (Ty.int .i64).T) (last c : Int) w', path[0]? = some id → path.getLast? = some last → (path.length : Int) ≤ (eAt T id).2.2.1 + 1 → (1 ≤ last ∧ last ≤ (T.length : Int)) → (eAt T last).1 = (1, c, 0, 0, 0) → (txt T id)[at_.toNat]? = some c → Sp w0 (own (.int .i64) sl path :: Ω) w' → K (sl, .nilIface) w') : C_access_Path (some p) id at_ K w := by
  apply S_access_Path
  unfold F_access_Path
  obtain ⟨_, _, _, hb0, hb1, hb2, g⟩ := Sp.entry s i hi
  have hlen := g.len hk.1 hk.2
  refine intern_Weight_k s i hi hk fun w1 s => s.allocK fun a2 w2 s => s.st0 0 rfl rfl rfl fun w3 s => nilIfc_nil (gd_f rfl (JoinP.inl (gd_f (decide_eq_false (by omega)) (s.ldi (x := (eAt T id).2.1.1) 0 0 rfl rfl ?_))))
  intro _
  refine gd_f (decide_eq_false (by omega)) ?_
  have s : Sp w0 Ω w3 := s.pop
  have hid : 1 ≤ id := by
    rcases Int.lt_or_le 0 id with h | h
    · omega
    · have : id = 0 := by omega
      subst this
      rw [txt_zero] at h1
      simp at h1; omega
  have hdep := (g.at_ hk.1 hk.2).2
  refine ⟨fun x w => (1 ≤ x.1 ∧ x.1 ≤ (T.length : Int)) ∧ 0 ≤ x.2.1 ∧ x.2.1 < ((txt T x.1).length : Int) ∧ (txt T id)[at_.toNat]? = (txt T x.1)[x.2.1.toNat]? ∧ ∃ path : List (Ty.int .i64).T, (path ++ [x.1])[0]? = some id ∧ (path.length : Int) + (eAt T x.1).2.2.1 ≤ (eAt T id).2.2.1 ∧ Sp w0 (own (.int .i64) x.2.2.1 path :: Ω) w, fun x _ => x.1.toNat, ⟨⟨hid, hk.2⟩, h0, h1, rfl, [], rfl, by simp, s.nil _⟩, ?_⟩
  clear s
  rintro ⟨y, a, sl, _⟩ w5 ⟨hy, ha0, ha1, hg, path, hp0, hpl, s⟩ _
  dsimp only at hy ha0 ha1 hg hp0 hpl s ⊢
  have hdy := (g.at_ (id := y) (by omega) hy.2).2
  refine s.allocK fun a9 w6 s => s.app 1 rfl ((s.lit (ty := .int .i64) 0 rfl [y] 1 rfl rfl).view 0 rfl) (by simp only [List.length_cons, List.length_nil]; omega) fun s10 w7 s => ?_
  have s : Sp w0 (own (.int .i64) s10 (path ++ [y]) :: Ω) w7 := s.pop
  refine intern_Rule_k s (i + 1) hi hy fun w6 s => s.allocK fun a10 w7 s => s.st0 0 rfl rfl rfl fun w8 s => nilIfc_nil (gd_f rfl (s.ldi (x := (eAt T y).1.1) 0 0 rfl rfl (gd_eq (fun c => ?_) (fun c => ?_))))
  · obtain ⟨b, e1, e2, _, _, e3⟩ := txt_one g hy c
    have hl1 : (txt T y).length = 1 := by rw [e2]; rfl
    have ha : a = 0 := by omega
    refine h s10 _ y b _ hp0 (by simp) (by rw [List.length_append]; simp only [List.length_cons, List.length_nil]; omega) hy e1 ?_ s.pop
    rw [hg, ha, e2]; rfl
  · have hlk := left_known g hy c
    refine s.ldi (x := (eAt T y).1.2.2.1) 0 2 rfl rfl (intern_Weight_k s (i + 2) hi ⟨by omega, by omega⟩ fun w9 s => s.allocK fun a16 w10 s => s.st0 0 rfl rfl rfl fun w11 s => nilIfc_nil (gd_f rfl (s.ld0 (ty := yapi_Rule) (x := (eAt T y).1) 1 rfl rfl (s.ldi (x := (eAt T (eAt T y).1.2.2.1).2.1.1) 0 0 rfl rfl (access_below_sp g hy c ha0 ha1 s fun id2 at2 w12 hd s => ⟨⟨⟨hd.pos, by have := hd.lt; omega⟩, hd.at0, hd.at1, hg.trans hd.get, path ++ [y], ?_, ?_, s.drop 2⟩, by have := hd.lt; have := hd.pos; dsimp only; omega⟩)))))
    · rw [List.getElem?_append_left (by rw [List.length_append]; simp)]; exact hp0
    · have := hd.dep
      rw [List.length_append]
      simp only [List.length_cons, List.length_nil]
      omega

end Go.Proofs.YtcmncfglcjcmhaaGreat

/- access: the parts of a range (halve, divide, parts): the plain law and the walk. -/
set_option linter.unusedVariables false
set_option linter.unusedSimpArgs false
namespace Go.Proofs.YtcmncfglcjcmhaaGreat
open Go.Den

variable {w0 w : World} {Ω : List Ob} {most : Int} {T : List ET} {p : Addr}

/-! ### Loops with a ghost -/
theorem least_of {P : Nat → Prop} : ∀ n, P n → ∃ m, P m ∧ ∀ k, P k → m ≤ k := by
  intro n
  induction n using Nat.strongRecOn with
  | _ n ih =>
    intro h
    by_cases c : ∃ k, k < n ∧ P k
    · obtain ⟨k, hk, hp⟩ := c
      exact ih k hk hp
    · exact ⟨n, h, fun k hk => by
        apply Classical.byContradiction
        intro hlt
        exact c ⟨k, by omega, hk⟩⟩
theorem loop_g {X G : Type} {x₀ : X} {body : (X → World → Prop) → X → World → Prop} (I : G → X → World → Prop) (μ : G → Nat) (g0 : G) (h0 : I g0 x₀ w)
    (h : ∀ g x w (next : X → World → Prop), I g x w → (∀ g' x' w', I g' x' w' → μ g' < μ g → next x' w') → body next x w) : LoopP x₀ w body := by
  let P : X → World → Nat → Prop := fun x w n => ∃ g, I g x w ∧ μ g = n
  have hm : ∀ x w, (∃ n, P x w n) → ∃ m, P x w m ∧ ∀ k, P x w k → m ≤ k := fun x w ⟨n, hn⟩ => least_of n hn
  refine ⟨fun x w => ∃ g, I g x w, fun x w => Classical.epsilon fun m => P x w m ∧ ∀ k, P x w k → m ≤ k, ⟨g0, h0⟩, ?_⟩
  rintro x w ⟨g, hg⟩
  have e := Classical.epsilon_spec (hm x w ⟨_, g, hg, rfl⟩)
  obtain ⟨g1, hg1, e1⟩ := e.1
  refine h g1 x w _ hg1 fun g' x' w' hg' hlt => ⟨⟨g', hg'⟩, ?_⟩
  have e' := (Classical.epsilon_spec (hm x' w' ⟨_, g', hg', rfl⟩)).2 _ ⟨g', hg', rfl⟩
  exact Nat.lt_of_le_of_lt e' (Nat.lt_of_lt_of_eq hlt e1)

/-! ### The shortening of a slice that is owned -/
theorem Own.take_ {ty : Ty} {w : World} {s : Sl} {xs : List ty.T} (o : Own ty w s xs) (n : Nat) (hn : n ≤ xs.length) : Own ty w ⟨s.a, n, s.cap⟩ (xs.take n) := by
  refine ⟨⟨by rw [List.length_take]; show n = _; omega, fun q hq => ?_, fun hne => o.view.ne fun e => hne (by rw [e]; simp)⟩, by have := o.cap; have := o.view.len; show n ≤ s.cap; omega, o.wr, o.nil, o.lt, o.spot⟩
  have := o.view.mem q hq
  rw [← List.take_append_drop n xs, flat_append] at this
  exact this.left
theorem Sp.shrink {ty : Ty} {L : List Ob} {sl : Sl} {xs : List ty.T} (s : Sp w0 L w) (i : Nat) (h : L[i]? = some (own ty sl xs)) (n : Nat) (hn : n ≤ xs.length) : Sp w0 (L.set i (own ty ⟨sl.a, n, sl.cap⟩ (xs.take n))) w :=
  s.weak i h (own ty ⟨sl.a, n, sl.cap⟩ (xs.take n)) (fun B hp hlt => ⟨B, ⟨Own.take_ hp.1 n hn, hp.2⟩, fun _ hb => hb⟩) (fun h => by cases h)
theorem slK_hd {sz len cap h : Nat} {a : Option Addr} {hi : Int} {K : Sl → Prop} (hhi : hi = (h : Int)) (h1 : h ≤ len) (hc : len ≤ cap) (k : K ⟨a, h, cap⟩) : slK sz a len cap none (some hi) K := by
  subst hhi
  refine ⟨fun x e => (by cases e; omega), fun x e => (by cases e), ?_⟩
  have e : (if cap = 0 then a else a.map (·.add (0 * sz))) = a := by
    split
    · rfl
    · cases a with
      | none => rfl
      | some q => show some (q.add _) = _; rw [Nat.zero_mul]; rfl
  show K ⟨if cap = 0 then a else a.map (·.add (0 * sz)), h - 0, cap - 0⟩
  rw [e]; exact k

/-! ### Ranges of texts -/
def sub (t : List Int) (f n : Nat) : List Int := (t.drop f).take n
def Cp (k : Nat) (t : List Int) : List Int := (List.replicate k t).flatten
theorem Cp_zero (t : List Int) : Cp 0 t = [] := rfl
theorem Cp_succ (k : Nat) (t : List Int) : Cp (k + 1) t = t ++ Cp k t := by unfold Cp; rw [List.replicate_succ, List.flatten_cons]
theorem Cp_one (t : List Int) : Cp 1 t = t := by rw [Cp_succ, Cp_zero, List.append_nil]
theorem Cp_len (k : Nat) (t : List Int) : (Cp k t).length = k * t.length := flat_rep_len k t
theorem Cp_add (j k : Nat) (t : List Int) : Cp (j + k) t = Cp j t ++ Cp k t := by
  unfold Cp
  rw [← List.replicate_append_replicate, List.flatten_append]
theorem sub_append (a b : List Int) (f n : Nat) : sub (a ++ b) f n = sub a (min f a.length) (min n (a.length - f)) ++ sub b (f - a.length) (n - (a.length - f)) := by
  unfold sub
  rw [List.drop_append, List.take_append, List.length_drop]
  congr 1
  by_cases c : f ≤ a.length
  · rw [Nat.min_eq_left c]
    rw [List.take_eq_take_iff, List.length_drop]
    omega
  · rw [List.drop_eq_nil_of_le (by omega), List.drop_eq_nil_of_le (by omega)]
    simp
theorem Cp_take (t : List Int) (ht : 0 < t.length) : ∀ (k m : Nat), m ≤ k * t.length → (Cp k t).take m = Cp (m / t.length) t ++ t.take (m % t.length)
  | 0, m, h => by
    have : m = 0 := by omega
    subst this
    simp [Cp]
  | k + 1, m, h => by
    rw [Cp_succ, List.take_append]
    by_cases c : m < t.length
    · rw [Nat.div_eq_of_lt c, Nat.mod_eq_of_lt c, Cp_zero, show m - t.length = 0 by omega]
      simp
    · obtain ⟨m', rfl⟩ : ∃ m', m = m' + t.length := ⟨m - t.length, by omega⟩
      rw [Nat.succ_mul] at h
      rw [Nat.add_sub_cancel, Cp_take t ht k m' (by omega), Nat.add_mod_right, Nat.add_div_right _ ht, Cp_succ, List.take_of_length_le (by omega), List.append_assoc]
theorem Cp_drop (t : List Int) (ht : 0 < t.length) : ∀ (k f : Nat), f < k * t.length → ∃ j, (Cp k t).drop f = t.drop (f % t.length) ++ Cp j t ∧ f + (t.length - f % t.length) + j * t.length = k * t.length
  | 0, f, h => by omega
  | k + 1, f, h => by
    rw [Cp_succ, List.drop_append]
    rw [Nat.succ_mul] at h ⊢
    by_cases c : f < t.length
    · exact ⟨k, by rw [Nat.mod_eq_of_lt c, show f - t.length = 0 by omega]; rfl, by rw [Nat.mod_eq_of_lt c]; omega⟩
    · obtain ⟨f', rfl⟩ : ∃ f', f = f' + t.length := ⟨f - t.length, by omega⟩
      obtain ⟨j, e1, e2⟩ := Cp_drop t ht k f' (by omega)
      exact ⟨j, by rw [Nat.add_sub_cancel, Nat.add_mod_right, List.drop_eq_nil_of_le (by omega), e1]; rfl, by rw [Nat.add_mod_right]; omega⟩
theorem sub_Cp_in {t : List Int} {k f n : Nat} (ht : 0 < t.length) (hf : f < k * t.length) (h : f % t.length + n ≤ t.length) : sub (Cp k t) f n = sub t (f % t.length) n := by
  obtain ⟨j, e1, _⟩ := Cp_drop t ht k f hf
  unfold sub
  rw [e1, List.take_append_of_le_length (by rw [List.length_drop]; omega)]
theorem sub_Cp_out {t : List Int} {k f n : Nat} (ht : 0 < t.length) (hf : f < k * t.length) (hn : f + n ≤ k * t.length) (h : t.length < f % t.length + n) :
    sub (Cp k t) f n = sub t (f % t.length) ((t.length - f % t.length) % t.length) ++ Cp ((n - (t.length - f % t.length) % t.length) / t.length) t ++ sub t 0 ((n - (t.length - f % t.length) % t.length) % t.length) := by
  obtain ⟨j, e1, e2⟩ := Cp_drop t ht k f hf
  have hm := Nat.mod_lt f ht
  unfold sub
  rw [e1]
  by_cases c : f % t.length = 0
  · rw [c, Nat.sub_zero, Nat.mod_self]
    rw [c] at e2
    rw [show List.drop 0 t ++ Cp j t = Cp (j + 1) t by rw [Cp_succ]; rfl, Cp_take t ht _ _ (by rw [Nat.succ_mul]; omega)]
    simp
  · rw [Nat.mod_eq_of_lt (show t.length - f % t.length < t.length by omega), List.take_append, List.length_drop, Cp_take t ht _ _ (by omega), List.take_of_length_le (by rw [List.length_drop]; omega), List.take_of_length_le (i := t.length - f % t.length) (by rw [List.length_drop]; omega), List.append_assoc]
    rfl

/-! ### Spans -/
abbrev SpT := Int × Int × Int × Int
def spT (T : List ET) (x : SpT) : List Int := Cp x.2.2.2.toNat (sub (txt T x.1) x.2.1.toNat x.2.2.1.toNat)
def stT (T : List ET) : List SpT → List Int
  | [] => []
  | x :: st => stT T st ++ spT T x
theorem stT_append (T : List ET) (a b : List SpT) : stT T (a ++ b) = stT T b ++ stT T a := by
  induction a with
  | nil => simp [stT]
  | cons x a ih => rw [List.cons_append, stT, stT, ih, List.append_assoc]
def spM : List SpT → Nat
  | [] => 0
  | x :: st => 4 ^ x.1.toNat + spM st
theorem spM_append (a b : List SpT) : spM (a ++ b) = spM a + spM b := by
  induction a with
  | nil => simp [spM]
  | cons x a ih => rw [List.cons_append, spM, spM, ih, Nat.add_assoc]
structure SpanOK (T : List ET) (x : SpT) : Prop where
  id0 : 0 ≤ x.1
  id1 : x.1 ≤ T.length
  f0 : 0 ≤ x.2.1
  n0 : 0 ≤ x.2.2.1
  le : x.2.1 + x.2.2.1 ≤ (txt T x.1).length
  t0 : 0 ≤ x.2.2.2
  one : x.2.2.1 ≠ (txt T x.1).length → x.2.2.2 ≤ 1

/-! ### halve and divide -/
def clipZ (n lo hi : Int) : Int := if n < lo then lo else if hi < n then hi else n
theorem access_halve_sp {sl : Sl} {st : List yaccess_span.T} {x : SpT} {r : RT} {left : Int} (s : Sp w0 (own yaccess_span sl st :: Ω) w) (hf : 0 ≤ x.2.1 ∧ x.2.1 ≤ 1152921504606846976) (hn : 0 ≤ x.2.2.1 ∧ x.2.2.1 ≤ 1152921504606846976) (hl : 0 ≤ left ∧ left ≤ 1152921504606846976) (hst : st.length ≤ 4194304) {K : Sl → World → Prop}
    (h : ∀ sl' w', Sp w0 (own yaccess_span sl' (st ++ [((r.2.2.2.1, (if x.2.1 - left < 0 then 0 else x.2.1 - left), x.2.2.1 - clipZ (left - x.2.1) 0 x.2.2.1, 1) : SpT), (r.2.2.1, (if left < x.2.1 then left else x.2.1), clipZ (left - x.2.1) 0 x.2.2.1, 1)]) :: Ω) w' → K sl' w') : C_access_halve sl r left x K w := by
  apply S_access_halve
  unfold F_access_halve
  have hc : 0 ≤ clipZ (left - x.2.1) 0 x.2.2.1 ∧ clipZ (left - x.2.1) 0 x.2.2.1 ≤ x.2.2.1 := by unfold clipZ; split <;> (try split) <;> omega
  refine s.allocK fun a1 w1 s => s.allocK fun a2 w2 s => s.ldi (x := x.2.1) 0 1 rfl rfl (arith_i64 (by omega) (by omega) (s.ldi (x := x.2.2.1) 0 2 rfl rfl (length_Clip_spec ?_)))
  change _ at hc
  refine s.ldi (x := r.2.2.2.1) 1 3 rfl rfl (s.ldi (x := x.2.1) 0 1 rfl rfl (arith_i64 (by omega) (by omega) (s.ldi (x := x.2.2.1) 0 2 rfl rfl (arith_i64 (by unfold clipZ at hc; omega) (by unfold clipZ at hc; omega) (s.ldi (x := r.2.2.1) 1 2 rfl rfl (s.ldi (x := x.2.1) 0 1 rfl rfl (s.allocK fun a14 w3 s => ?_)))))))
  refine s.app 3 rfl ((s.lit (ty := yaccess_span) 0 rfl [((r.2.2.2.1, (if x.2.1 - left < 0 then 0 else x.2.1 - left), x.2.2.1 - clipZ (left - x.2.1) 0 x.2.2.1, 1) : SpT), (r.2.2.1, (if left < x.2.1 then left else x.2.1), clipZ (left - x.2.1) 0 x.2.2.1, 1)] 2 rfl rfl).view 0 rfl) (by simp only [List.length_cons, List.length_nil]; omega) fun sl' w4 s => h _ _ (s.drop 3)
theorem access_divide_sp {sl : Sl} {st : List yaccess_span.T} {x : SpT} {r : RT} {left : Int} (s : Sp w0 (own yaccess_span sl st :: Ω) w) (hf : 0 ≤ x.2.1 ∧ x.2.1 ≤ 1152921504606846976) (hn : 0 ≤ x.2.2.1 ∧ x.2.2.1 ≤ 1152921504606846976) (hl : 1 ≤ left ∧ left ≤ 1152921504606846976) (hst : st.length ≤ 4194304) {K : Sl → World → Prop}
    (h1 : Int.tmod x.2.1 left + x.2.2.1 ≤ left → ∀ sl' w', Sp w0 (own yaccess_span sl' (st ++ [((r.2.2.1, Int.tmod x.2.1 left, x.2.2.1, 1) : SpT)]) :: Ω) w' → K sl' w')
    (h2 : left < Int.tmod x.2.1 left + x.2.2.1 → ∀ sl' w', Sp w0 (own yaccess_span sl' (st ++ [((r.2.2.1, 0, Int.tmod (x.2.2.1 - Int.tmod (left - Int.tmod x.2.1 left) left) left, 1) : SpT), (r.2.2.1, 0, left, Int.tdiv (x.2.2.1 - Int.tmod (left - Int.tmod x.2.1 left) left) left), (r.2.2.1, Int.tmod x.2.1 left, Int.tmod (left - Int.tmod x.2.1 left) left, 1)]) :: Ω) w' → K sl' w') : C_access_divide sl r left x K w := by
  apply S_access_divide
  unfold F_access_divide
  have m0 := Int.tmod_nonneg (a := x.2.1) left hf.1
  have m1 := Int.tmod_lt_of_pos x.2.1 (show 0 < left by omega)
  have q0 := Int.tmod_nonneg (a := left - Int.tmod x.2.1 left) left (by omega)
  have q1 := Int.tmod_lt_of_pos (left - Int.tmod x.2.1 left) (show 0 < left by omega)
  refine s.allocK fun a1 w1 s => s.allocK fun a2 w2 s => s.ldi (x := x.2.1) 0 1 rfl rfl ⟨by omega, letZ_mk (s.ldi (x := x.2.2.1) 0 2 rfl rfl (arith_i64 (by omega) (by omega) (gd_dec (fun c => ?_) (fun c => ?_))))⟩
  · exact s.ldi (x := r.2.2.1) 1 2 rfl rfl (s.ldi (x := x.2.2.1) 0 2 rfl rfl (s.allocK fun a9 w3 s => s.app 3 rfl ((s.lit (ty := yaccess_span) 0 rfl [((r.2.2.1, Int.tmod x.2.1 left, x.2.2.1, 1) : SpT)] 1 rfl rfl).view 0 rfl) (by simp only [List.length_cons, List.length_nil]; omega) fun sl' w4 s => h1 c _ _ (s.drop 3)))
  · have q2 : Int.tmod (left - Int.tmod x.2.1 left) left ≤ left - Int.tmod x.2.1 left := by
      rw [Int.tmod_eq_emod_of_nonneg (by omega)]
      obtain ⟨a, ha⟩ : ∃ a : Nat, left - Int.tmod x.2.1 left = a := ⟨_, (Int.toNat_of_nonneg (by omega)).symm⟩
      obtain ⟨b, hb⟩ : ∃ b : Nat, left = b := ⟨_, (Int.toNat_of_nonneg (by omega)).symm⟩
      rw [ha, hb, ← Int.natCast_emod]
      exact Int.ofNat_le.2 (Nat.mod_le a b)
    have hr : 0 ≤ x.2.2.1 - Int.tmod (left - Int.tmod x.2.1 left) left := by omega
    have hd : 0 ≤ Int.tdiv (x.2.2.1 - Int.tmod (left - Int.tmod x.2.1 left) left) left ∧ Int.tdiv (x.2.2.1 - Int.tmod (left - Int.tmod x.2.1 left) left) left ≤ x.2.2.1 := by
      rw [Int.tdiv_eq_ediv_of_nonneg hr]
      refine ⟨Int.ediv_nonneg hr (by omega), Int.le_trans (Int.ediv_le_self _ hr) (by omega)⟩
    refine arith_i64 (by omega) (by omega) ⟨by omega, letZ_mk (s.ldi (x := x.2.2.1) 0 2 rfl rfl (arith_i64 (by omega) (by omega) (s.drawK fun w3 s => s.ldi (x := r.2.2.1) 1 2 rfl rfl ⟨by omega, letZ_mk (s.ldi (x := r.2.2.1) 1 2 rfl rfl ⟨by omega, arith_i64 (by omega) (by omega) (s.ldi (x := r.2.2.1) 1 2 rfl rfl (s.allocK fun a9 w3 s => ?_))⟩)⟩)))⟩
    exact s.app 3 rfl ((s.lit (ty := yaccess_span) 0 rfl [((r.2.2.1, 0, Int.tmod (x.2.2.1 - Int.tmod (left - Int.tmod x.2.1 left) left) left, 1) : SpT), (r.2.2.1, 0, left, Int.tdiv (x.2.2.1 - Int.tmod (left - Int.tmod x.2.1 left) left) left), (r.2.2.1, Int.tmod x.2.1 left, Int.tmod (left - Int.tmod x.2.1 left) left, 1)] 3 rfl rfl).view 0 rfl) (by simp only [List.length_cons, List.length_nil]; omega) fun sl' w4 s => h2 (by omega) _ _ (s.drop 3)

end Go.Proofs.YtcmncfglcjcmhaaGreat

/- access: parts (the walk). -/
set_option linter.unusedVariables false
set_option linter.unusedSimpArgs false
namespace Go.Proofs.YtcmncfglcjcmhaaGreat
open Go.Den

variable {w0 w : World} {Ω : List Ob} {most : Int} {T : List ET} {p : Addr}

theorem tmod_nat (a b : Nat) : Int.tmod (a : Int) (b : Int) = ((a % b : Nat) : Int) := by rw [Int.tmod_eq_emod_of_nonneg (by omega), Int.natCast_emod]
theorem tdiv_nat (a b : Nat) : Int.tdiv (a : Int) (b : Int) = ((a / b : Nat) : Int) := by rw [Int.tdiv_eq_ediv_of_nonneg (by omega), Int.natCast_ediv]

theorem span_pair {id l r f n : Int} {x : SpT} (o : SpanOK T (id, f, n, 1)) (ht : txt T id = txt T l ++ txt T r) (hl : 0 ≤ l ∧ l ≤ T.length) (hr : 0 ≤ r ∧ r ≤ T.length) {left : Int} (hleft : left = (txt T l).length) {f1 n1 f2 n2 : Int}
    (e1 : f1 = if left < f then left else f) (e2 : n1 = clipZ (left - f) 0 n) (e3 : f2 = if f - left < 0 then 0 else f - left) (e4 : n2 = n - n1) :
    SpanOK T (l, f1, n1, 1) ∧ SpanOK T (r, f2, n2, 1) ∧ spT T (id, f, n, 1) = stT T [(r, f2, n2, 1), (l, f1, n1, 1)] := by
  have h0 := o.f0
  have h1 := o.n0
  have h2 := o.le
  dsimp only at h0 h1 h2
  rw [ht, List.length_append] at h2
  have c1 : f1.toNat = min f.toNat (txt T l).length := by subst e1; split <;> omega
  have c2 : n1.toNat = min n.toNat ((txt T l).length - f.toNat) := by subst e2; unfold clipZ; split <;> (try split) <;> omega
  have c3 : f2.toNat = f.toNat - (txt T l).length := by subst e3; split <;> omega
  have c6 : 0 ≤ n1 ∧ n1 ≤ n := by subst e2; unfold clipZ; split <;> (try split) <;> omega
  have c4 : n2.toNat = n.toNat - ((txt T l).length - f.toNat) := by omega
  have c5 : 0 ≤ f1 := by subst e1; split <;> omega
  have c7 : 0 ≤ f2 := by subst e3; split <;> omega
  refine ⟨⟨hl.1, hl.2, c5, c6.1, by dsimp only; omega, by dsimp only; omega, fun _ => Int.le_refl _⟩, ⟨hr.1, hr.2, c7, by dsimp only; omega, by dsimp only; omega, by dsimp only; omega, fun _ => Int.le_refl _⟩, ?_⟩
  simp only [stT, spT, List.nil_append]
  rw [show (1 : Int).toNat = 1 from rfl, Cp_one, Cp_one, Cp_one, ht, sub_append, c1, c2, c3, c4]
theorem span_power {id l k f n : Int} (o : SpanOK T (id, f, n, 1)) (ht : txt T id = Cp k.toNat (txt T l)) (hl : 0 ≤ l ∧ l ≤ T.length) (hp : 0 < (txt T l).length) (hn : n ≠ 0) {left : Int} (hleft : left = (txt T l).length) :
    (Int.tmod f left + n ≤ left → SpanOK T (l, Int.tmod f left, n, 1) ∧ spT T (id, f, n, 1) = stT T [(l, Int.tmod f left, n, 1)]) ∧
    (left < Int.tmod f left + n → SpanOK T (l, 0, Int.tmod (n - Int.tmod (left - Int.tmod f left) left) left, 1) ∧ SpanOK T (l, 0, left, Int.tdiv (n - Int.tmod (left - Int.tmod f left) left) left) ∧ SpanOK T (l, Int.tmod f left, Int.tmod (left - Int.tmod f left) left, 1) ∧
      spT T (id, f, n, 1) = stT T [(l, 0, Int.tmod (n - Int.tmod (left - Int.tmod f left) left) left, 1), (l, 0, left, Int.tdiv (n - Int.tmod (left - Int.tmod f left) left) left), (l, Int.tmod f left, Int.tmod (left - Int.tmod f left) left, 1)]) := by
  have h0 := o.f0
  have h1 := o.n0
  have h2 := o.le
  dsimp only at h0 h1 h2
  rw [ht, Cp_len] at h2
  obtain ⟨f, rfl⟩ : ∃ a : Nat, f = a := ⟨_, (Int.toNat_of_nonneg h0).symm⟩
  obtain ⟨n, rfl⟩ : ∃ a : Nat, n = a := ⟨_, (Int.toNat_of_nonneg h1).symm⟩
  subst hleft
  generalize hX : txt T l = X at *
  have hm := Nat.mod_lt f hp
  rw [tmod_nat]
  refine ⟨fun c => ?_, fun c => ?_⟩
  · refine ⟨⟨hl.1, hl.2, by dsimp only; omega, by dsimp only; omega, by dsimp only; rw [hX]; omega, by dsimp only; omega, fun _ => Int.le_refl _⟩, ?_⟩
    simp only [stT, spT, List.nil_append]
    rw [show (1 : Int).toNat = 1 from rfl, Cp_one, Cp_one, ht, hX]
    simp only [Int.toNat_natCast]
    exact sub_Cp_in hp (by omega) (by omega)
  · have hle : (X.length - f % X.length) % X.length ≤ X.length - f % X.length := Nat.mod_le _ _
    have e1 : (X.length : Int) - ((f % X.length : Nat) : Int) = ((X.length - f % X.length : Nat) : Int) := by omega
    rw [e1, tmod_nat]
    have e2 : (n : Int) - (((X.length - f % X.length) % X.length : Nat) : Int) = ((n - (X.length - f % X.length) % X.length : Nat) : Int) := by omega
    rw [e2, tmod_nat, tdiv_nat]
    have hm2 := Nat.mod_lt (n - (X.length - f % X.length) % X.length) hp
    refine ⟨⟨hl.1, hl.2, by dsimp only; omega, by dsimp only; omega, by dsimp only; rw [hX]; omega, by dsimp only; omega, fun _ => Int.le_refl _⟩, ⟨hl.1, hl.2, by dsimp only; omega, by dsimp only; omega, by dsimp only; rw [hX]; omega, Int.natCast_nonneg _, fun h => absurd (by dsimp only; rw [hX]) h⟩, ⟨hl.1, hl.2, by dsimp only; omega, by dsimp only; omega, by dsimp only; rw [hX]; omega, by dsimp only; omega, fun _ => Int.le_refl _⟩, ?_⟩
    simp only [stT, spT, List.nil_append]
    rw [show (1 : Int).toNat = 1 from rfl, Cp_one, Cp_one, Cp_one, ht, hX]
    simp only [Int.toNat_natCast]
    rw [sub_Cp_out hp (by omega) (by omega) (by omega)]
    congr 2
    rw [show (0 : Int).toNat = 0 from rfl]
    unfold sub
    rw [List.drop_zero, List.take_length]

/-- what a stack of spans keeps -/
structure StOK (T : List ET) (t : List Int) (st : List SpT) (done : List Int) : Prop where
  eq : t = done ++ stT T st
  ok : ∀ x ∈ st, SpanOK T x
  bd : ∀ (k : Nat) (x : SpT), st[k]? = some x → (k : Int) ≤ 2 * ((T.length : Int) - x.1)
theorem StOK.len {t done : List Int} {st : List SpT} (h : StOK T t st done) : (st.length : Int) ≤ 2 * T.length + 1 := by
  rcases st.length.eq_zero_or_pos with e | e
  · omega
  · have hx := List.getElem?_eq_getElem (show st.length - 1 < st.length by omega)
    have := h.bd _ _ hx
    have := (h.ok _ (List.getElem_mem (show st.length - 1 < st.length by omega))).id0
    omega
theorem StOK.skip {t done : List Int} {st : List SpT} {x : SpT} (h : StOK T t (st ++ [x]) done) (e : spT T x = []) : StOK T t st done := by
  refine ⟨?_, fun y hy => h.ok y (List.mem_append_left _ hy), fun k y hk => h.bd k y (by rw [List.getElem?_append_left (List.getElem?_eq_some_iff.1 hk).1]; exact hk)⟩
  rw [h.eq, stT_append]
  simp [stT, e]
theorem StOK.visit {t done : List Int} {st : List SpT} {x : SpT} (h : StOK T t (st ++ [x]) done) : StOK T t st (done ++ spT T x) := by
  refine ⟨?_, fun y hy => h.ok y (List.mem_append_left _ hy), fun k y hk => h.bd k y (by rw [List.getElem?_append_left (List.getElem?_eq_some_iff.1 hk).1]; exact hk)⟩
  rw [h.eq, stT_append]
  simp [stT]
theorem StOK.split {t done : List Int} {st xs : List SpT} {x : SpT} (h : StOK T t (st ++ [x]) done) (e : spT T x = stT T xs) (ho : ∀ y ∈ xs, SpanOK T y ∧ y.1 < x.1) (hl : xs.length ≤ 3) : StOK T t (st ++ xs) done := by
  have hb := h.bd st.length x (by simp)
  refine ⟨?_, fun y hy => ?_, fun k y hk => ?_⟩
  · rw [h.eq, stT_append, stT_append, ← e]
    simp [stT]
  · rcases List.mem_append.1 hy with hy | hy
    · exact h.ok y (List.mem_append_left _ hy)
    · exact (ho y hy).1
  · by_cases c : k < st.length
    · exact h.bd k y (by rw [List.getElem?_append_left c]; rwa [List.getElem?_append_left c] at hk)
    · rw [List.getElem?_append_right (by omega)] at hk
      have := (ho y (List.mem_of_getElem? hk)).2
      have := (List.getElem?_eq_some_iff.1 hk).1
      omega
theorem spM_less {st xs : List SpT} {x : SpT} (ho : ∀ y ∈ xs, 0 ≤ y.1 ∧ y.1 < x.1) (hl : xs.length ≤ 3) : spM (st ++ xs) < spM (st ++ [x]) := by
  have h1 : ∀ (n : Nat) (xs : List SpT), xs.length ≤ n → (∀ y ∈ xs, 0 ≤ y.1 ∧ y.1 < x.1) → spM xs ≤ n * 4 ^ (x.1.toNat - 1) := by
    intro n
    induction n with
    | zero => intro xs hl _; rw [show xs = [] from List.eq_nil_of_length_eq_zero (by omega)]; simp [spM]
    | succ n ih =>
      intro xs hl ho
      cases xs with
      | nil => simp [spM]
      | cons y ys =>
        have hy := ho y (List.mem_cons_self ..)
        have := ih ys (by simpa using hl) fun z hz => ho z (List.mem_cons_of_mem _ hz)
        have hp : 4 ^ y.1.toNat ≤ 4 ^ (x.1.toNat - 1) := Nat.pow_le_pow_right (by decide) (by omega)
        rw [spM, Nat.succ_mul]; omega
  rw [spM_append, spM_append]
  have h2 := h1 3 xs hl ho
  have h3 : spM [x] = 4 ^ x.1.toNat := by simp [spM]
  have hpos : 0 < 4 ^ (x.1.toNat - 1) := Nat.pow_pos (by decide)
  have h4 : 4 * 4 ^ (x.1.toNat - 1) ≤ 4 ^ x.1.toNat ∨ xs = [] := by
    cases xs with
    | nil => exact Or.inr rfl
    | cons y ys =>
      have hy := ho y (List.mem_cons_self ..)
      refine Or.inl ?_
      obtain ⟨m, hm⟩ : ∃ m, x.1.toNat = m + 1 := ⟨x.1.toNat - 1, by omega⟩
      rw [hm, Nat.add_sub_cancel, Nat.pow_succ]; omega
  rcases h4 with h4 | h4
  · omega
  · subst h4
    have : 0 < 4 ^ x.1.toNat := Nat.pow_pos (by decide)
    rw [h3]; simp only [spM]; omega

/-- a call of what visits a part -/
@[irreducible] def Visit (v : Value) (x times : Int) (K : Value → World → Prop) (w : World) : Prop := callV P v [.int .i64 x, .int .i64 times] .iface w K
theorem Visit.go {v : Value} {x times : Int} {K : Value → World → Prop} (h : Visit v x times K w) : callV P v [.int .i64 x, .int .i64 times] .iface w K := by
  unfold Visit at h; exact h

theorem access_parts_sp {id from_ n : Int} {v : Value} {Qv : List Int → List Ob → Prop} {t : List Int} (s : Sp w0 Ω w) (i : Nat) (hQ : ∀ done Ωv, Qv done Ωv → Ωv[i]? = some (sto p most T)) (q0 : Qv [] Ω) (o : SpanOK T (id, from_, n, 1)) (ht : t = sub (txt T id) from_.toNat n.toNat)
    (hv : ∀ (x times : Int) (done : List Int) (Ωv : List Ob) (o1 o2 o3 : Ob) (w : World) (K : Value → World → Prop), (1 ≤ x ∧ x ≤ T.length) → 1 ≤ times → (done ++ Cp times.toNat (txt T x)) <+: t → Qv done Ωv → Sp w0 (o1 :: o2 :: o3 :: Ωv) w → (∀ Ωv' w', Qv (done ++ Cp times.toNat (txt T x)) Ωv' → Sp w0 (o1 :: o2 :: o3 :: Ωv') w' → K .nilIface w') → Visit v x times K w)
    {K : Value → World → Prop} (h : ∀ Ωv w', Qv t Ωv → Sp w0 Ωv w' → K .nilIface w') : C_access_parts (some p) id from_ n v K w := by
  apply S_access_parts
  unfold F_access_parts
  obtain ⟨_, _, _, hb0, hb1, hb2, g⟩ := Sp.entry s i (hQ _ _ q0)
  refine s.allocK fun a1 w1 s => ?_
  have s := s.lit (ty := yaccess_span) 0 rfl [((id, from_, n, 1) : SpT)] 1 rfl rfl
  refine loop_g (G := List SpT × List Int × List Ob) (fun g x w => StOK T t g.1 g.2.1 ∧ Qv g.2.1 g.2.2 ∧ Sp w0 (own yaccess_span x.1 g.1 :: g.2.2) w) (fun g => spM g.1) ([(id, from_, n, 1)], [], Ω) ⟨⟨?_, ?_, ?_⟩, q0, s⟩ ?_
  · rw [ht]; simp only [stT, spT, List.nil_append]; rw [show (1 : Int).toNat = 1 from rfl, Cp_one]
  · intro y hy
    rw [List.mem_singleton.1 hy]; exact o
  · intro k y hk
    cases k with
    | zero => cases hk; have := o.id1; dsimp only at this ⊢; omega
    | succ k => cases hk
  clear s
  rintro ⟨st, done, Ωv⟩ ⟨sl, _⟩ w2 next ⟨hs, hq, s⟩ hnext _
  dsimp only at hs hq s ⊢
  have hlen := (s.view 0 rfl).len
  have hsl := hs.len
  have hcap := (s.own_ 0 rfl).cap
  refine gd_dec (fun c => ?_) (fun c => ?_)
  rotate_left
  · have : st = [] := List.eq_nil_of_length_eq_zero (by omega)
    subst this
    have e := hs.eq
    simp only [stT, List.append_nil] at e
    subst e
    exact h _ _ hq s.pop
  obtain ⟨st', ⟨y, f, m, times⟩, rfl⟩ : ∃ st' x, st = st' ++ [x] := ⟨st.dropLast, st.getLast (by intro h'; rw [h'] at hlen; simp at hlen; omega), (List.dropLast_concat_getLast _).symm⟩
  have hi := hQ _ _ hq
  have ho := hs.ok (y, f, m, times) (by simp)
  have hf0 := ho.f0
  have hn0 := ho.n0
  have hle := ho.le
  have ht0 := ho.t0
  have hone := ho.one
  have hid0 := ho.id0
  have hid1 := ho.id1
  dsimp only at hf0 hn0 hle ht0 hone hid0 hid1
  rw [List.length_append, List.length_singleton] at hlen hsl
  have hwl := g.len hid0 hid1
  have hbig := (g.at_ hid0 hid1).1.len
  refine arith_i64 (by omega) (by omega) ((s.view 0 rfl).idx (n := st'.length) (x := ((y, f, m, times) : SpT)) (by omega) (by simp) rfl fun p5 hat => ⟨(y, f, m, times), hat, s.allocK fun a7 w3 s => s.st0 0 rfl rfl rfl fun w4 s => arith_i64 (by omega) (by omega) (slK_hd (h := st'.length) (by omega) (by omega) hcap ?_)⟩)
  have s := Sp.shrink s 1 rfl st'.length (by simp)
  rw [List.take_left] at s
  change Sp w0 (cel a7 (cells yaccess_span (y, f, m, times)) :: own yaccess_span ⟨sl.a, st'.length, sl.cap⟩ st' :: Ωv) w4 at s
  have hdec : spM st' < spM (st' ++ [(y, f, m, times)]) := by
    have := spM_less (st := st') (xs := []) (x := (y, f, m, times)) (fun _ h => absurd h (List.not_mem_nil)) (by simp)
    rwa [List.append_nil] at this
  refine ⟨fun _ w => m ≠ 0 ∧ times ≠ 0 ∧ Sp w0 (cel a7 (cells yaccess_span (y, f, m, times)) :: own yaccess_span ⟨sl.a, st'.length, sl.cap⟩ st' :: Ωv) w, ?_, ?_⟩
  · refine s.ldi (x := m) 0 2 rfl rfl (gd_eq (fun c => ?_) (fun c => s.ldi (x := times) 0 3 rfl rfl (gd_eq (fun c2 => ?_) (fun c2 => ⟨c, c2, s⟩))))
    · refine hnext (st', done, Ωv) _ _ ⟨hs.skip ?_, hq, s.pop⟩ hdec
      simp only [spT, sub, c]
      simp [Cp]
    · refine hnext (st', done, Ωv) _ _ ⟨hs.skip ?_, hq, s.pop⟩ hdec
      simp only [spT, c2]; rfl
  clear s
  rintro ⟨⟩ w5 ⟨hm, htn, s⟩ _
  have hy1 : 1 ≤ y := by
    rcases Int.lt_or_le 0 y with h | h
    · omega
    · have : y = 0 := by omega
      subst this
      rw [txt_zero] at hle
      simp at hle; omega
  refine s.ldi (x := y) 0 0 rfl rfl (intern_Weight_k s (i + 2) hi ⟨hid0, hid1⟩ fun w6 s => s.allocK fun a16 w7 s => s.st0 0 rfl rfl rfl fun w8 s => nilIfc_nil (gd_f rfl (s.ldi (x := m) 1 2 rfl rfl (s.ldi (x := (eAt T y).2.1.1) 0 0 rfl rfl (gd_eq (fun c => ?_) (fun c => ?_))))))
  · have hf : f = 0 := by omega
    have esp : spT T (y, f, m, times) = Cp times.toNat (txt T y) := by
      simp only [spT, sub]
      rw [hf, show m.toNat = (txt T y).length by omega]
      simp
    refine s.ldi (x := y) 1 0 rfl rfl (s.ldi (x := times) 1 3 rfl rfl (Visit.go (hv y times done Ωv _ _ _ w8 _ ⟨hy1, hid1⟩ (by omega) ?_ hq s fun Ωv' w9 hq' s => ?_)))
    · rw [← esp, hs.eq, stT_append]
      simp only [stT, List.nil_append]
      rw [← List.append_assoc]
      exact List.prefix_append _ _
    · refine nilIfc_nil (gd_f rfl (hnext (st', done ++ Cp times.toNat (txt T y), Ωv') _ _ ⟨?_, hq', s.drop 2⟩ hdec))
      rw [← esp]; exact hs.visit
  · have ht1 : times = 1 := by
      have := hone (by omega)
      omega
    subst ht1
    refine s.ldi (x := y) 1 0 rfl rfl (intern_Rule_k s (i + 3) hi ⟨hy1, hid1⟩ fun w9 s => s.allocK fun a26 w10 s => s.st0 0 rfl rfl rfl fun w11 s => nilIfc_nil (gd_f rfl ?_))
    have hsl' : st'.length ≤ 4194304 := by omega
    cases g.txt hy1 hid1 with
    | letter b b0 b1 e ht =>
      have : (txt T y).length = 1 := by rw [ht]; rfl
      omega
    | pair l r l1 l2 r1 r2 hs2 e ht =>
      have hll := g.len (id := l) (by omega) (by omega)
      have hbl := (g.at_ (id := l) (by omega) (by omega)).1.len
      have e1 : (eAt T y).1 = (2, 0, l, r, 0) := by rw [e]; rfl
      rw [e1] at s
      refine s.ldi (x := l) 0 2 rfl rfl (intern_Weight_k s (i + 4) hi ⟨by omega, by omega⟩ fun w12 s => s.allocK fun a30 w13 s => s.st0 0 rfl rfl rfl fun w14 s => nilIfc_nil (gd_f rfl (s.ldi (x := 2) 1 0 rfl rfl (gd_t rfl (s.ld0 (ty := yapi_Rule) (x := (2, 0, l, r, 0)) 1 rfl rfl (s.ldi (x := (eAt T l).2.1.1) 0 0 rfl rfl (s.ld0 (ty := yaccess_span) (x := (y, f, m, 1)) 3 rfl rfl (access_halve_sp (s.drop 4) ⟨hf0, by dsimp only; omega⟩ ⟨hn0, by dsimp only; omega⟩ ⟨by omega, hbl.2⟩ hsl' fun sl' w15 s => ?_))))))))
      obtain ⟨p1, p2, p3⟩ := span_pair (x := (0, 0, 0, 0)) ho ht ⟨by omega, by omega⟩ ⟨by omega, by omega⟩ hll rfl rfl rfl rfl
      have hoo : ∀ z ∈ [((r, (if f - (eAt T l).2.1.1 < 0 then 0 else f - (eAt T l).2.1.1), m - clipZ ((eAt T l).2.1.1 - f) 0 m, 1) : SpT), (l, (if (eAt T l).2.1.1 < f then (eAt T l).2.1.1 else f), clipZ ((eAt T l).2.1.1 - f) 0 m, 1)], SpanOK T z ∧ z.1 < y := fun z hz => by
        rcases List.mem_cons.1 hz with hz | hz
        · rw [hz]; exact ⟨p2, r2⟩
        · rw [List.mem_singleton.1 hz]; exact ⟨p1, l2⟩
      exact hnext (_, done, Ωv) _ _ ⟨hs.split p3 hoo (by simp), hq, s⟩ (spM_less (fun z hz => ⟨(hoo z hz).1.id0, (hoo z hz).2⟩) (by simp))
    | power x k x1 x2 hk2 hs2 e ht =>
      have hlx := g.len (id := x) (by omega) (by omega)
      have hbl := (g.at_ (id := x) (by omega) (by omega)).1.len
      have hx1 := (g.at_ (id := x) (by omega) (by omega)).2.2.2 x1
      have e1 : (eAt T y).1 = (3, 0, x, 0, k) := by rw [e]; rfl
      rw [e1] at s
      obtain ⟨p1, p2⟩ := span_power ho ht ⟨by omega, by omega⟩ (by omega) hm hlx
      refine s.ldi (x := x) 0 2 rfl rfl (intern_Weight_k s (i + 4) hi ⟨by omega, by omega⟩ fun w12 s => s.allocK fun a30 w13 s => s.st0 0 rfl rfl rfl fun w14 s => nilIfc_nil (gd_f rfl (s.ldi (x := 3) 1 0 rfl rfl (gd_f rfl (s.ld0 (ty := yapi_Rule) (x := (3, 0, x, 0, k)) 1 rfl rfl (s.ldi (x := (eAt T x).2.1.1) 0 0 rfl rfl (s.ld0 (ty := yaccess_span) (x := (y, f, m, 1)) 3 rfl rfl (access_divide_sp (s.drop 4) ⟨hf0, by dsimp only; omega⟩ ⟨hn0, by dsimp only; omega⟩ ⟨by omega, hbl.2⟩ hsl' (fun c sl' w15 s => ?_) (fun c sl' w15 s => ?_)))))))))
      · obtain ⟨p3, p4⟩ := p1 c
        have hoo : ∀ z ∈ [((x, Int.tmod f (eAt T x).2.1.1, m, 1) : SpT)], SpanOK T z ∧ z.1 < y := fun z hz => by
          rw [List.mem_singleton.1 hz]; exact ⟨p3, x2⟩
        exact hnext (_, done, Ωv) _ _ ⟨hs.split p4 hoo (by simp), hq, s⟩ (spM_less (fun z hz => ⟨(hoo z hz).1.id0, (hoo z hz).2⟩) (by simp))
      · obtain ⟨p3, p4, p5, p6⟩ := p2 c
        refine hnext (_, done, Ωv) _ _ ⟨hs.split p6 ?_ (by simp), hq, s⟩ (spM_less (fun z hz => ?_) (by simp))
        · intro z hz
          rcases List.mem_cons.1 hz with hz | hz
          · rw [hz]; exact ⟨p3, x2⟩
          rcases List.mem_cons.1 hz with hz | hz
          · rw [hz]; exact ⟨p4, x2⟩
          · rw [List.mem_singleton.1 hz]; exact ⟨p5, x2⟩
        · rcases List.mem_cons.1 hz with hz | hz
          · rw [hz]; exact ⟨p3.id0, x2⟩
          rcases List.mem_cons.1 hz with hz | hz
          · rw [hz]; exact ⟨p4.id0, x2⟩
          · rw [List.mem_singleton.1 hz]; exact ⟨p5.id0, x2⟩

end Go.Proofs.YtcmncfglcjcmhaaGreat

/- access: the whole text of an ID (spell). -/
set_option linter.unusedVariables false
set_option linter.unusedSimpArgs false
namespace Go.Proofs.YtcmncfglcjcmhaaGreat
open Go.Den

variable {w0 w : World} {Ω : List Ob} {most : Int} {T : List ET} {p : Addr}

/-! ### An element that is reached by its address -/
theorem Sp.elem {ty : Ty} {L : List Ob} {sl : Sl} {xs : List ty.T} {K : Addr → Prop} {a : Option Addr} {len : Nat} {i' : Int} {sz : Nat} (s : Sp w0 L w) (i : Nat) (h : L[i]? = some (own ty sl xs)) {n : Nat} (hi : i' = (n : Int)) (hn : n < xs.length)
    (hK : ∀ q, sl.a = some q → K (q.add (n * ty.size))) (ha : a = sl.a := by rfl) (hl : len = sl.len := by rfl) (hs : sz = ty.size := by rfl) : idxK a len i' sz K := by
  subst ha hl hs hi
  have o := s.own_ i h
  have hsl := o.view.len
  obtain ⟨q, hq⟩ := o.view.ne (fun e => by rw [e] at hn; simp at hn)
  exact ⟨q, hq, by omega, by omega, hK q hq⟩
theorem Sp.elAt {ty : Ty} {L : List Ob} {sl : Sl} {xs : List ty.T} {q : Addr} {x : ty.T} {n : Nat} (s : Sp w0 L w) (i : Nat) (h : L[i]? = some (own ty sl xs)) (hq : sl.a = some q) (hx : xs[n]? = some x) : At w (q.add (n * ty.size)) (cells ty x) :=
  ((s.view i h).mem q hq).sub _ (flat_get xs n x hx)

/-- what is appended stays in the same array, where it has room -/
theorem Sp.appIn {ty : Ty} {L : List Ob} {sl : Sl} {xs ys : List ty.T} {E sz by_ : Nat} {zs : Array Value} {K : Sl → World → Prop} {a ta : Option Addr} {len cap tl tc : Nat} (s : Sp w0 L w) (i : Nat) (h : L[i]? = some (own ty sl xs)) (v : View ty w ⟨ta, tl, tc⟩ ys)
    (hc : (xs.length + ys.length) * by_ ≤ 140737488355328) (hfit : xs.length + ys.length ≤ sl.cap) (hK : ∀ w', Sp w0 (L.set i (own ty ⟨sl.a, (xs ++ ys).length, sl.cap⟩ (xs ++ ys))) w' → K ⟨sl.a, (xs ++ ys).length, sl.cap⟩ w')
    (ha : (⟨a, len, cap⟩ : Sl) = sl := by rfl) (hs : sz = ty.size := by rfl) (hz : zs.size = ty.size := by rfl) (ho : oneT ty = true := by rfl) (hb : by_ ≠ 0 := by decide) : appK E sz by_ zs a len cap (.slice ta tl tc) tl w K := by
  subst ha
  have hl := (s.view i h).len
  have hl2 := v.len
  dsimp only at hl hl2 hfit
  have e : len + tl = (xs ++ ys).length := by rw [List.length_append]; omega
  obtain ⟨cs, h1, h2, h3, h4⟩ := s.app (K := fun s' w' => Sp w0 (L.set i (own ty s' (xs ++ ys))) w') (E := E) (sz := sz) (by_ := by_) (zs := zs) i h v hc (fun _ _ s => s) rfl hs hz ho hb
  refine ⟨cs, h1, h2, fun hf => ?_, fun hf => by omega⟩
  rcases h3 hf with ⟨q, eq, hw, s⟩ | ⟨eq, s⟩
  · refine Or.inl ⟨q, eq, hw, ?_⟩
    subst eq
    rw [e] at s ⊢
    exact hK _ s
  · refine Or.inr ⟨eq, ?_⟩
    subst eq
    rw [e] at s ⊢
    exact hK _ s

/-! ### Copies -/
abbrev CpT := Int × Int
def stC (T : List ET) : List CpT → List Int
  | [] => []
  | x :: st => stC T st ++ Cp x.2.toNat (txt T x.1)
theorem stC_append (T : List ET) (a b : List CpT) : stC T (a ++ b) = stC T b ++ stC T a := by
  induction a with
  | nil => simp [stC]
  | cons x a ih => rw [List.cons_append, stC, stC, ih, List.append_assoc]
def cpW (T : List ET) (id : Int) : Nat := 2 * (txt T id).length - 1
def cpM (T : List ET) : List CpT → Nat
  | [] => 0
  | x :: st => x.2.toNat * cpW T x.1 + cpM T st
theorem cpM_append (T : List ET) (a b : List CpT) : cpM T (a ++ b) = cpM T a + cpM T b := by
  induction a with
  | nil => simp [cpM]
  | cons x a ih => rw [List.cons_append, cpM, cpM, ih, Nat.add_assoc]
structure CpOK (T : List ET) (x : CpT) : Prop where
  id1 : 1 ≤ x.1
  id2 : x.1 ≤ T.length
  t0 : 1 ≤ x.2
structure CsOK (T : List ET) (t : List Int) (st : List CpT) (done : List Int) : Prop where
  eq : t = done ++ stC T st
  ok : ∀ x ∈ st, CpOK T x
  bd : ∀ (k : Nat) (x : CpT), st[k]? = some x → (k : Int) ≤ 2 * ((T.length : Int) - x.1)
theorem CsOK.len {t done : List Int} {st : List CpT} (h : CsOK T t st done) : (st.length : Int) ≤ 2 * T.length + 1 := by
  rcases st.length.eq_zero_or_pos with e | e
  · omega
  · have hx := List.getElem?_eq_getElem (show st.length - 1 < st.length by omega)
    have := h.bd _ _ hx
    have := (h.ok _ (List.getElem_mem (show st.length - 1 < st.length by omega))).id1
    omega
/-- one copy is taken off -/
structure Off (T : List ET) (t done : List Int) (st st2 : List CpT) (y : Int) (m : Nat) : Prop where
  eq : t = done ++ (txt T y ++ stC T st2)
  ok : ∀ x ∈ st2, CpOK T x
  bd : ∀ (k : Nat) (x : CpT), st2[k]? = some x → (k : Int) ≤ 2 * ((T.length : Int) - x.1)
  len : (st2.length : Int) ≤ 2 * ((T.length : Int) - y) + 1
  m : cpM T st2 + cpW T y = m
theorem CsOK.last {t done : List Int} {st : List CpT} {y : Int} (h : CsOK T t (st ++ [(y, 1)]) done) : Off T t done (st ++ [(y, 1)]) st y (cpM T (st ++ [(y, 1)])) := by
  have hb := h.bd st.length (y, 1) (by simp)
  refine ⟨?_, fun z hz => h.ok z (List.mem_append_left _ hz), fun k z hk => h.bd k z (by rw [List.getElem?_append_left (List.getElem?_eq_some_iff.1 hk).1]; exact hk), by dsimp only at hb; omega, ?_⟩
  · rw [h.eq, stC_append]
    simp only [stC, List.nil_append]
    rw [show (1 : Int).toNat = 1 from rfl, Cp_one]
  · rw [cpM_append]
    simp only [cpM]
    rw [show (1 : Int).toNat = 1 from rfl]; omega
theorem CsOK.more {t done : List Int} {st : List CpT} {y n : Int} (hn : 1 ≤ n) (h : CsOK T t (st ++ [(y, n + 1)]) done) : Off T t done (st ++ [(y, n + 1)]) (st ++ [(y, n)]) y (cpM T (st ++ [(y, n + 1)])) := by
  have hb := h.bd st.length (y, n + 1) (by simp)
  have ho := h.ok (y, n + 1) (by simp)
  have en : (n + 1).toNat = n.toNat + 1 := by omega
  refine ⟨?_, fun z hz => ?_, fun k z hk => ?_, ?_, ?_⟩
  · rw [h.eq, stC_append, stC_append]
    simp only [stC, List.nil_append]
    rw [en, Cp_succ, List.append_assoc]
  · rcases List.mem_append.1 hz with hz | hz
    · exact h.ok z (List.mem_append_left _ hz)
    · rw [List.mem_singleton.1 hz]; exact ⟨ho.id1, ho.id2, hn⟩
  · by_cases c : k < st.length
    · exact h.bd k z (by rw [List.getElem?_append_left c]; rwa [List.getElem?_append_left c] at hk)
    · rw [List.getElem?_append_right (by omega)] at hk
      have := (List.getElem?_eq_some_iff.1 hk).1
      simp only [List.length_singleton] at this
      rw [show k - st.length = 0 by omega] at hk
      cases hk
      dsimp only at hb ⊢; omega
  · rw [List.length_append, List.length_singleton]; dsimp only at hb; omega
  · rw [cpM_append, cpM_append]
    simp only [cpM]
    rw [en, Nat.succ_mul]; omega
theorem Off.push {t done : List Int} {st st2 xs : List CpT} {y : Int} {m : Nat} (h : Off T t done st st2 y m) (e : txt T y = stC T xs) (ho : ∀ z ∈ xs, CpOK T z ∧ z.1 < y) (hl : xs.length ≤ 2) : CsOK T t (st2 ++ xs) done := by
  refine ⟨?_, fun z hz => ?_, fun k z hk => ?_⟩
  · rw [h.eq, stC_append, e]
  · rcases List.mem_append.1 hz with hz | hz
    · exact h.ok z hz
    · exact (ho z hz).1
  · by_cases c : k < st2.length
    · exact h.bd k z (by rwa [List.getElem?_append_left c] at hk)
    · rw [List.getElem?_append_right (by omega)] at hk
      have := (ho z (List.mem_of_getElem? hk)).2
      have := (List.getElem?_eq_some_iff.1 hk).1
      have := h.len
      omega
theorem Off.done_ {t done : List Int} {st st2 : List CpT} {y : Int} {m : Nat} (h : Off T t done st st2 y m) : CsOK T t st2 (done ++ txt T y) :=
  ⟨by rw [h.eq, List.append_assoc], h.ok, h.bd⟩

theorem access_spell_sp {b : Nat} {a : Option Addr} {cap : Nat} {id : Int} {done : List (Ty.int .u8).T} (s : Sp w0 (own (.int .u8) ⟨a, done.length, cap⟩ done :: cel b [.slice a done.length cap] :: Ω) w) (i : Nat) (hi : Ω[i]? = some (sto p most T)) (hk : 1 ≤ id ∧ id ≤ T.length) (hlen : done.length + (txt T id).length ≤ cap) (hmax : cap ≤ 140737488355328) {K : Value → World → Prop}
    (h : ∀ w', Sp w0 (own (.int .u8) ⟨a, (done ++ txt T id).length, cap⟩ (done ++ txt T id) :: cel b [.slice a (done ++ txt T id).length cap] :: Ω) w' → K .nilIface w') : C_access_spell (some p) id (some ⟨b, 0, none⟩) K w := by
  apply S_access_spell
  unfold F_access_spell
  obtain ⟨_, _, _, hb0, hb1, hb2, g⟩ := Sp.entry s (i + 2) hi
  refine s.allocK fun a1 w1 s => ?_
  have s := s.lit (ty := yaccess_copies) 0 rfl [((id, 1) : CpT)] 1 rfl rfl
  refine loop_g (G := List CpT × List Int) (fun g x w => CsOK T (done ++ txt T id) g.1 g.2 ∧ Sp w0 (own yaccess_copies x.1 g.1 :: own (.int .u8) ⟨a, g.2.length, cap⟩ g.2 :: cel b [.slice a g.2.length cap] :: Ω) w) (fun g => cpM T g.1) ([(id, 1)], done) ⟨⟨?_, ?_, ?_⟩, s⟩ ?_
  · simp only [stC, List.nil_append]; rw [show (1 : Int).toNat = 1 from rfl, Cp_one]
  · intro y hy
    rw [List.mem_singleton.1 hy]; exact ⟨hk.1, hk.2, Int.le_refl _⟩
  · intro k y hk'
    cases k with
    | zero => cases hk'; have := hk.2; dsimp only at this ⊢; omega
    | succ k => cases hk'
  clear s
  rintro ⟨st, dn⟩ ⟨sl, _⟩ w2 next ⟨hs, s⟩ hnext _
  dsimp only at hs s ⊢
  have hlen2 := (s.view 0 rfl).len
  have hsl := hs.len
  have hcap := (s.own_ 0 rfl).cap
  refine gd_dec (fun c => ?_) (fun c => ?_)
  rotate_left
  · have : st = [] := List.eq_nil_of_length_eq_zero (by omega)
    subst this
    have e := hs.eq
    simp only [stC, List.append_nil] at e
    rw [← e] at s
    exact h _ s.pop
  obtain ⟨st', ⟨y, times⟩, rfl⟩ : ∃ st' x, st = st' ++ [x] := ⟨st.dropLast, st.getLast (by intro h'; rw [h'] at hlen2; simp at hlen2; omega), (List.dropLast_concat_getLast _).symm⟩
  have ho := hs.ok (y, times) (by simp)
  have hy1 := ho.id1
  have hy2 := ho.id2
  have ht1 := ho.t0
  dsimp only at hy1 hy2 ht1
  rw [List.length_append, List.length_singleton] at hlen2 hsl
  obtain ⟨n, rfl⟩ : ∃ n : Int, times = n + 1 := ⟨times - 1, by omega⟩
  have hfit : n + 1 ≤ 9223372036854775807 := by
    have e := congrArg List.length hs.eq
    have hpos := (g.at_ (id := y) (by omega) hy2).2.2.2 hy1
    have hly := g.len (id := y) (by omega) hy2
    rw [stC_append, List.length_append, List.length_append] at e
    simp only [stC, List.nil_append, List.length_append, Cp_len] at e
    have : (n + 1).toNat * 1 ≤ (n + 1).toNat * (txt T y).length := Nat.mul_le_mul_left _ (by omega)
    omega
  refine arith_i64 (by omega) (by omega) (Sp.elem s 0 rfl (n := st'.length) (by omega) (by simp) fun q hq => nonNil_some ⟨y, (Sp.elAt s 0 rfl hq (n := st'.length) (x := ((y, n + 1) : CpT)) (by simp)).sub 0 rfl, ?_⟩)
  refine ⟨fun z w => ∃ st2, Off T (done ++ txt T id) dn (st' ++ [(y, n + 1)]) st2 y (cpM T (st' ++ [(y, n + 1)])) ∧ Sp w0 (own yaccess_copies z.1 st2 :: own (.int .u8) ⟨a, dn.length, cap⟩ dn :: cel b [.slice a dn.length cap] :: Ω) w, ?_, ?_⟩
  · refine nonNil_some ⟨n + 1, (Sp.elAt s 0 rfl hq (n := st'.length) (x := ((y, n + 1) : CpT)) (by simp)).sub 1 rfl, arith_i64 (by omega) (by omega) (nonNil_some ?_)⟩
    rw [Addr.add_add, show n + 1 - 1 = n by omega]
    refine s.put (ty := yaccess_copies) (n := st'.length) (off := 1) (x := ((y, n + 1) : CpT)) (y := ((y, n) : CpT)) 0 rfl hq (by simp) (Nat.le_refl 2) rfl rfl fun w4 s => ?_
    have e : (st' ++ [((y, n + 1) : CpT)]).set st'.length ((y, n) : CpT) = st' ++ [(y, n)] := by simp
    rw [e] at s
    change Sp w0 (own yaccess_copies sl (st' ++ [(y, n)]) :: own (.int .u8) ⟨a, dn.length, cap⟩ dn :: cel b [.slice a dn.length cap] :: Ω) w4 at s
    refine nonNil_some ⟨n, (Sp.elAt s 0 rfl hq (n := st'.length) (x := ((y, n) : CpT)) (by simp)).sub 1 rfl, gd_eq (fun c => ?_) (fun c => ?_)⟩
    · subst c
      refine arith_i64 (by omega) (by omega) (slK_hd (h := st'.length) (by omega) (by omega) hcap ⟨st', hs.last, ?_⟩)
      have s := Sp.shrink s 0 rfl st'.length (by simp)
      rw [List.take_left] at s
      exact s
    · exact ⟨_, hs.more (by omega), s⟩
  clear s
  rintro ⟨sl2, _⟩ w5 ⟨st2, hof, s⟩ _
  dsimp only at hof s ⊢
  have hm := hof.m
  have hl2 := hof.len
  refine intern_Rule_k s (i + 3) hi ⟨hy1, hy2⟩ fun w9 s => s.allocK fun a26 w10 s => s.st0 0 rfl rfl rfl fun w11 s => nilIfc_nil (gd_f rfl ?_)
  cases g.txt hy1 hy2 with
  | letter c c0 c1 e ht =>
    have e1 : (eAt T y).1 = (1, c, 0, 0, 0) := by rw [e]; rfl
    rw [e1] at s
    have hdn : dn.length + 1 ≤ done.length + (txt T id).length := by
      have := congrArg List.length hof.eq
      rw [ht] at this
      simp only [List.length_append, List.length_cons, List.length_nil] at this
      omega
    refine s.ldi (x := 1) 0 0 rfl rfl (gd_t rfl (s.drawK fun w12 s => nonNil_some (s.lds0 (x := ⟨a, dn.length, cap⟩) 3 rfl rfl (s.ldi (x := c) 0 1 rfl rfl (s.allocK fun a25 w13 s => ⟨s.still 4 0 rfl rfl, Sp.appIn s 3 rfl ((s.lit (ty := .int .u8) 0 rfl [c] 1 rfl rfl).view 0 rfl) (by simp only [List.length_cons, List.length_nil]; omega) (by simp only [List.length_cons, List.length_nil]; omega) fun w14 s => nonNil_some (s.st0 4 rfl rfl rfl fun w15 s => hnext (st2, dn ++ txt T y) _ _ ⟨hof.done_, ?_⟩ ?_)⟩)))))
    · rw [ht]; exact s.drop 2
    · dsimp only; unfold cpW at hm; rw [ht] at hm; simp only [List.length_cons, List.length_nil] at hm; omega
  | pair l r l1 l2 r1 r2 hs2 e ht =>
    have e1 : (eAt T y).1 = (2, 0, l, r, 0) := by rw [e]; rfl
    rw [e1] at s
    have lenl := g.len (id := l) (by omega) (by omega)
    have lenr := g.len (id := r) (by omega) (by omega)
    have posl := (g.at_ (id := l) (by omega) (by omega)).2.2.2 l1
    have posr := (g.at_ (id := r) (by omega) (by omega)).2.2.2 r1
    refine s.ldi (x := 2) 0 0 rfl rfl (gd_f rfl (gd_t rfl (s.ldi (x := r) 0 3 rfl rfl (s.ldi (x := l) 0 2 rfl rfl (s.allocK fun a30 w12 s => s.app 2 rfl ((s.lit (ty := yaccess_copies) 0 rfl [((r, 1) : CpT), (l, 1)] 2 rfl rfl).view 0 rfl) (by simp only [List.length_cons, List.length_nil]; omega) fun s31 w13 s => hnext (st2 ++ [(r, 1), (l, 1)], dn) _ _ ⟨hof.push ?_ ?_ (by simp), s.drop 2⟩ ?_)))))
    · simp only [stC, List.nil_append]
      rw [show (1 : Int).toNat = 1 from rfl, Cp_one, Cp_one, ht]
    · intro z hz
      rcases List.mem_cons.1 hz with hz | hz
      · rw [hz]; exact ⟨⟨r1, by dsimp only; omega, Int.le_refl _⟩, r2⟩
      · rw [List.mem_singleton.1 hz]; exact ⟨⟨l1, by dsimp only; omega, Int.le_refl _⟩, l2⟩
    · dsimp only
      rw [cpM_append, ← hm]
      simp only [cpM]
      rw [show (1 : Int).toNat = 1 from rfl]
      unfold cpW
      rw [ht, List.length_append]
      omega
  | power x k x1 x2 hk2 hs2 e ht =>
    have e1 : (eAt T y).1 = (3, 0, x, 0, k) := by rw [e]; rfl
    rw [e1] at s
    have lenx := g.len (id := x) (by omega) (by omega)
    have posx := (g.at_ (id := x) (by omega) (by omega)).2.2.2 x1
    refine s.ldi (x := 3) 0 0 rfl rfl (gd_f rfl (gd_f rfl (s.ldi (x := x) 0 2 rfl rfl (s.ldi (x := k) 0 4 rfl rfl (s.allocK fun a30 w12 s => s.app 2 rfl ((s.lit (ty := yaccess_copies) 0 rfl [((x, k) : CpT)] 1 rfl rfl).view 0 rfl) (by simp only [List.length_cons, List.length_nil]; omega) fun s31 w13 s => hnext (st2 ++ [(x, k)], dn) _ _ ⟨hof.push ?_ ?_ (by simp), s.drop 2⟩ ?_)))))
    · simp only [stC, List.nil_append]
      rw [ht]; rfl
    · intro z hz
      rw [List.mem_singleton.1 hz]; exact ⟨⟨x1, by dsimp only; omega, by dsimp only; omega⟩, x2⟩
    · dsimp only
      rw [cpM_append, ← hm]
      simp only [cpM]
      unfold cpW
      rw [ht, flat_rep_len]
      obtain ⟨a, ha⟩ : ∃ a, (txt T x).length = a + 1 := ⟨(txt T x).length - 1, by omega⟩
      obtain ⟨j, hj⟩ : ∃ j, k.toNat = j + 2 := ⟨k.toNat - 2, by omega⟩
      rw [ha, hj, show 2 * (a + 1) - 1 = 2 * a + 1 by omega, Nat.mul_succ, Nat.mul_succ, show (j + 2) * (2 * a) = 2 * ((j + 2) * a) by rw [Nat.mul_left_comm]]
      omega

end Go.Proofs.YtcmncfglcjcmhaaGreat

/- access: Extract. -/
set_option linter.unusedVariables false
set_option linter.unusedSimpArgs false
namespace Go.Proofs.YtcmncfglcjcmhaaGreat
open Go.Den

variable {w0 w : World} {Ω : List Ob} {most : Int} {T : List ET} {p : Addr}

theorem Own.pre {ty : Ty} {w : World} {a : Option Addr} {cap n : Nat} {xs ys : List ty.T} (o : Own ty w ⟨a, n, cap⟩ (xs ++ ys)) : View ty w ⟨a, xs.length, cap⟩ xs := by
  have := (Own.take_ o xs.length (by simp)).view
  rwa [List.take_left] at this

theorem access_Extract_1_sp {a : Option Addr} {cap b1 b2 : Nat} {x times : Int} {done : List (Ty.int .u8).T} {o1 o2 o3 : Ob} (s : Sp w0 (o1 :: o2 :: o3 :: own (.int .u8) ⟨a, done.length, cap⟩ done :: cel b1 [.slice a done.length cap] :: cel b2 [.pointer (some p)] :: Ω) w) (i : Nat) (hi : Ω[i]? = some (sto p most T)) (hk : 1 ≤ x ∧ x ≤ T.length) (ht : 1 ≤ times) (hlen : done.length + (Cp times.toNat (txt T x)).length ≤ cap) (hmax : cap ≤ 65536) {K : Value → World → Prop}
    (h : ∀ w', Sp w0 (o1 :: o2 :: o3 :: own (.int .u8) ⟨a, (done ++ Cp times.toNat (txt T x)).length, cap⟩ (done ++ Cp times.toNat (txt T x)) :: cel b1 [.slice a (done ++ Cp times.toNat (txt T x)).length cap] :: cel b2 [.pointer (some p)] :: Ω) w' → K .nilIface w') : C_access_Extract_1 x times ⟨b1, 0, none⟩ ⟨b2, 0, none⟩ K w := by
  apply S_access_Extract_1
  unfold F_access_Extract_1
  have s := s.pick [3, 4, 5, 0, 1, 2] 6 rfl (by decide)
  change Sp w0 (own (.int .u8) ⟨a, done.length, cap⟩ done :: cel b1 [.slice a done.length cap] :: cel b2 [.pointer (some p)] :: o1 :: o2 :: o3 :: Ω) w at s
  obtain ⟨_, _, _, hb0, hb1, hb2, g⟩ := Sp.entry s (i + 6) hi
  obtain ⟨m, hm⟩ : ∃ m : Nat, times = (m : Int) + 1 := ⟨(times - 1).toNat, by omega⟩
  subst hm
  have em : ((m : Int) + 1).toNat = m + 1 := by omega
  rw [em] at hlen h
  rw [Cp_len] at hlen
  have hpos := (g.at_ (id := x) (by omega) hk.2).2.2.2 hk.1
  have hlx := g.len (id := x) (by omega) hk.2
  have hm1 : (m + 1) * 1 ≤ (m + 1) * (txt T x).length := Nat.mul_le_mul_left _ (by omega)
  have hm2 : 1 * (txt T x).length ≤ (m + 1) * (txt T x).length := Nat.mul_le_mul_right _ (by omega)
  refine s.lds0 (x := ⟨a, done.length, cap⟩) 1 rfl rfl (s.ldp0 2 rfl rfl (access_spell_sp s (i + 4) hi hk (by omega) (by omega) fun w2 s => nilIfc_nil (gd_f rfl (s.lds0 (x := ⟨a, (done ++ txt T x).length, cap⟩) 1 rfl rfl ?_))))
  have hcap := (s.own_ 0 rfl).cap
  refine View.part (ty := .int .u8) (s := ⟨a, (done ++ txt T x).length, cap⟩) (xs := done ++ txt T x) (l := done.length) (h := (done ++ txt T x).length) rfl (Or.inr rfl) (Or.inl ⟨rfl, rfl⟩) (by simp) (Nat.le_refl _) hcap fun s6 hs6 _ => ?_
  rw [List.take_length, List.drop_left] at hs6
  refine arith_i64 (by omega) (by omega) (loop_by (fun x => x.1) m (fun n z w => Sp w0 (own (.int .u8) ⟨a, (done ++ Cp (n + 1) (txt T x)).length, cap⟩ (done ++ Cp (n + 1) (txt T x)) :: cel b1 [.slice a (done ++ Cp (n + 1) (txt T x)).length cap] :: cel b2 [.pointer (some p)] :: o1 :: o2 :: o3 :: Ω) w) rfl ?_ ?_)
  · rw [show 0 + 1 = 1 from rfl, Cp_one]; exact s
  clear s
  rintro n ⟨_, _⟩ w3 hn rfl s _
  dsimp only
  refine gd_dec (fun c => ?_) (fun c => ?_)
  · have hn' : n < m := by omega
    have e : done ++ Cp (n + 1) (txt T x) = (done ++ txt T x) ++ Cp n (txt T x) := by rw [Cp_succ, List.append_assoc]
    have v : View (.int .u8) w3 s6 (txt T x) := by
      refine hs6 _ ?_
      have o := s.own_ 0 rfl
      rw [e] at o
      exact Own.pre o
    have hfit : (n + 1 + 1) * (txt T x).length ≤ (m + 1) * (txt T x).length := Nat.mul_le_mul_right _ (by omega)
    have hlen3 : (done ++ Cp (n + 1) (txt T x)).length + (txt T x).length ≤ cap := by
      rw [List.length_append, Cp_len]
      rw [Nat.succ_mul] at hfit; omega
    refine s.lds0 (x := ⟨a, (done ++ Cp (n + 1) (txt T x)).length, cap⟩) 1 rfl rfl (Sp.appIn s 0 rfl v (by omega) hlen3 fun w4 s => s.st0 1 rfl rfl rfl fun w5 s => arith_i64 (by omega) (by omega) (loop_nx hn' ?_))
    have e2 : done ++ Cp (n + 1 + 1) (txt T x) = done ++ Cp (n + 1) (txt T x) ++ txt T x := by rw [Cp_add (n + 1) 1, Cp_one, List.append_assoc]
    rw [e2]; exact s
  · have : n = m := by omega
    subst this
    exact h _ (s.pick [3, 4, 5, 0, 1, 2] 6 rfl (by decide))

theorem bodyful_50 : bodyful P 50 = true := by decide +kernel
theorem callV_Extract {x times : Int} {a b : Addr} {K : Value → World → Prop} (h : C_access_Extract_1 x times a b K w) : Visit (.func (.func 50) #[] #[.pointer (some a), .pointer (some b)]) x times K w := by
  unfold Visit
  unfold C_access_Extract_1 at h
  unfold callV
  dsimp only
  rw [bodyful_50]
  exact h

theorem access_Extract_sp {id from_ n : Int} (s : Sp w0 Ω w) (i : Nat) (hi : Ω[i]? = some (sto p most T)) (hk : 0 ≤ id ∧ id ≤ T.length) (hr : 0 ≤ from_ ∧ 0 ≤ n ∧ from_ + n ≤ (txt T id).length) (hn : n ≤ 65536) {K : Sl × Value → World → Prop}
    (h : ∀ sl w', Sp w0 (own (.int .u8) sl (sub (txt T id) from_.toNat n.toNat) :: Ω) w' → K (sl, .nilIface) w') : C_access_Extract (some p) id from_ n K w := by
  apply S_access_Extract
  unfold F_access_Extract
  obtain ⟨_, _, _, hb0, hb1, hb2, g⟩ := Sp.entry s i hi
  have hlen := g.len hk.1 hk.2
  have hbig := (g.at_ hk.1 hk.2).1.len
  refine s.allocK fun a1 w1 s => s.ldp0 0 rfl rfl (intern_Weight_k s (i + 1) hi hk fun w2 s => s.allocK fun a4 w3 s => s.st0 0 rfl rfl rfl fun w4 s => nilIfc_nil (gd_f rfl (s.ldi (x := (eAt T id).2.1.1) 0 0 rfl rfl (length_Range_spec hbig (fun _ => nilIfc_nil (gd_f rfl (gd_f (decide_eq_false (by omega)) ⟨Int.le_refl _, hr.2.1, by omega, by omega, ?_⟩))) (fun c => absurd ⟨hr.1, hr.2.1, by omega⟩ c)))))
  refine s.mkS (ty := .int .u8) (0 : Int) 0 n.toNat (Nat.zero_le _) (fun a9 w5 s => ?_) rfl (by rfl)
  refine s.allocK fun a10 w6 s => s.st0 0 rfl rfl rfl fun w7 s => s.ldp0 3 rfl rfl ?_
  have s := s.pick [1, 0, 3] 4 rfl (by decide)
  change Sp w0 (own (.int .u8) ⟨some ⟨a9, 0, none⟩, 0, n.toNat⟩ [] :: cel a10 [.slice (some ⟨a9, 0, none⟩) 0 n.toNat] :: cel a1 [.pointer (some p)] :: Ω) w7 at s
  have o : SpanOK T (id, from_, n, 1) := ⟨hk.1, hk.2, hr.1, hr.2.1, hr.2.2, by dsimp only; omega, fun _ => Int.le_refl _⟩
  have hsub : (sub (txt T id) from_.toNat n.toNat).length ≤ n.toNat := by unfold sub; rw [List.length_take]; omega
  refine access_parts_sp (v := .func (.func 50) #[] #[.pointer (some ⟨a10, 0, none⟩), .pointer (some ⟨a1, 0, none⟩)]) (Qv := fun done Ωv => Ωv = own (.int .u8) ⟨some ⟨a9, 0, none⟩, done.length, n.toNat⟩ done :: cel a10 [.slice (some ⟨a9, 0, none⟩) done.length n.toNat] :: cel a1 [.pointer (some p)] :: Ω) s (i + 3) (fun done Ωv e => by rw [e]; exact hi) rfl o rfl ?_ ?_
  · rintro x times done Ωv o1 o2 o3 w K hx ht hpre rfl s hK
    have := hpre.length_le
    rw [List.length_append] at this
    refine callV_Extract ?_
    exact access_Extract_1_sp s i hi hx ht (by omega) (by omega) fun w' s => hK _ _ rfl s
  · rintro Ωv w' rfl s
    exact nilIfc_nil (gd_f rfl (s.lds0 1 rfl rfl (h _ _ (s.pick [0] 3 rfl (by decide)))))

end Go.Proofs.YtcmncfglcjcmhaaGreat

/- access: Weight. -/
set_option linter.unusedVariables false
set_option linter.unusedSimpArgs false
namespace Go.Proofs.YtcmncfglcjcmhaaGreat
open Go.Den

variable {w0 w : World} {Ω : List Ob} {most : Int} {T : List ET} {p : Addr}

theorem wOK_of {b : List Int} (h : ∀ c ∈ b, 0 ≤ c ∧ c < 256) (hl : (b.length : Int) ≤ 1152921504606846976) : wOK (wOf b) := by
  induction b with
  | nil => exact wOK_unit
  | cons c b ih =>
    have hl2 : (b.length : Int) + 1 ≤ 1152921504606846976 := by rw [List.length_cons] at hl; exact hl
    have h1 := h c (List.mem_cons_self ..)
    have h2 := ih (fun d hd => h d (List.mem_cons_of_mem _ hd)) (by omega)
    have h3 := wOK_letter h1
    have e : wOf (c :: b) = wJoin (wLetter c) (wOf b) := by
      rw [show c :: b = [c] ++ b from rfl, wOf_append, wOf_one h1]
    rw [e]
    have l1 : (wLetter c).1 = 1 := by rw [← wOf_one h1, wOf_len]; rfl
    refine wOK_join h3 h2 ?_
    rw [l1, wOf_len]; omega

theorem access_join_spec {a b : WT} (ha : wOK a) (hb : wOK b) {K : WT → World → Prop} (hl : a.1 + b.1 ≤ 1152921504606846976) (h : ∀ w', Ext w0 w' → K (wJoin a b) w') : C_access_join a b K w0 := by
  apply S_access_join
  unfold F_access_join
  have da := ha.dOK
  have db := hb.dOK
  have la : a.2.1 ≤ a.1 := by
    by_cases e : a.2.1 = 0
    · rw [e]; exact ha.len.1
    · have := ha.pos e; omega
  have lb : b.2.1 ≤ b.1 := by
    by_cases e : b.2.1 = 0
    · rw [e]; exact hb.len.1
    · have := hb.pos e; omega
  have ha2 := ha.len
  have hb2 := hb.len
  have ha3 := ha.lines
  have hb3 := hb.lines
  refine (St.init w0).allocK fun b1 w1 s _ _ => s.allocK fun b2 w2 s _ _ => s.allocK fun b3 w3 s _ _ => ?_
  refine ⟨fun x w => ∃ b4, x.1 = ⟨b4, 0, none⟩ ∧ St w0 (fun _ => False) [(b4, [.int .i64 (a.1 + b.1), .int .i64 (a.2.1 + b.2.1), .int .i64 a.2.2.1, .int .i64 b.2.2.2.1, .int .u64 (dJoin a.2.2.2.2 b.2.2.2.2).1, .int .u64 (dJoin a.2.2.2.2 b.2.2.2.2).2]), (b3, [.int .i64 0, .int .i64 0, .int .i64 0, .int .i64 0, .int .u64 0, .int .u64 0]), (b2, cells yapi_Weight b), (b1, cells yapi_Weight a)] w, ?_, ?_⟩
  · refine s.drawK fun w11 s _ _ => s.ldi 2 0 rfl rfl (s.ldi 1 0 rfl rfl (arith_i64 (by omega) (by omega) (s.ldi 2 1 rfl rfl (s.ldi 1 1 rfl rfl (arith_i64 (by omega) (by omega) (s.ldi 2 2 rfl rfl (s.ldi 1 3 rfl rfl (s.ld 2 4 rfl rfl (s.ld 1 4 rfl rfl ⟨?_, ?_⟩)))))))))
    · refine digest_Join_spec da db fun w12 e => ?_
      have s := s.ext e
      refine ⟨s.still 1 3 rfl rfl, s.still 2 2 rfl rfl, s.still 1 1 rfl rfl, s.still 2 1 rfl rfl, s.still 1 0 rfl rfl, s.still 2 0 rfl rfl, s.allocK fun b4 w13 s _ _ => ⟨s.still 2 3 rfl rfl, s.still 3 2 rfl rfl, s.still 2 1 rfl rfl, s.still 3 1 rfl rfl, s.still 2 0 rfl rfl, s.still 3 0 rfl rfl, s.st0 0 rfl rfl rfl fun w14 s _ => ⟨b4, rfl, s⟩⟩⟩
    · refine s.allocK fun b4 w13 s _ _ => ⟨s.still 2 4 rfl rfl, s.still 3 4 rfl rfl, s.still 2 3 rfl rfl, s.still 3 2 rfl rfl, s.still 2 1 rfl rfl, s.still 3 1 rfl rfl, s.still 2 0 rfl rfl, s.still 3 0 rfl rfl, digest_Join_spec da db fun w12 e => ?_⟩
      have s := s.ext e
      exact ⟨s.still 2 3 rfl rfl, s.still 3 2 rfl rfl, s.still 2 1 rfl rfl, s.still 3 1 rfl rfl, s.still 2 0 rfl rfl, s.still 3 0 rfl rfl, s.st0 0 rfl rfl rfl fun w14 s _ => ⟨b4, rfl, s⟩⟩
  · rintro ⟨x, _⟩ w10 ⟨b4, rfl, s⟩ _
    refine ⟨fun _ w => St w0 (fun _ => False) [(b4, [.int .i64 (a.1 + b.1), .int .i64 (a.2.1 + b.2.1), .int .i64 (if a.2.1 = 0 then a.1 + b.2.2.1 else a.2.2.1), .int .i64 b.2.2.2.1, .int .u64 (dJoin a.2.2.2.2 b.2.2.2.2).1, .int .u64 (dJoin a.2.2.2.2 b.2.2.2.2).2]), (b3, [.int .i64 0, .int .i64 0, .int .i64 0, .int .i64 0, .int .u64 0, .int .u64 0]), (b2, cells yapi_Weight b), (b1, cells yapi_Weight a)] w, s.ldi 3 1 rfl rfl (gd_eq (fun hz => ?_) (fun hz => ?_)), ?_⟩
    · have : 0 ≤ b.2.2.1 ∧ b.2.2.1 ≤ b.1 := by
        by_cases e : b.2.1 = 0
        · have := hb.zero e; omega
        · have := hb.pos e; omega
      refine s.ldi 3 0 rfl rfl (s.ldi 2 2 rfl rfl (arith_i64 (by omega) (by omega) (s.st 0 2 rfl (by simp) rfl fun w19 s _ => ?_)))
      rw [if_pos hz]; exact s
    · rw [if_neg hz]; exact s
    · rintro _ w18 s _
      refine ⟨fun _ w => St w0 (fun _ => False) [(b4, cells yapi_Weight (wJoin a b)), (b3, [.int .i64 0, .int .i64 0, .int .i64 0, .int .i64 0, .int .u64 0, .int .u64 0]), (b2, cells yapi_Weight b), (b1, cells yapi_Weight a)] w, s.ldi 2 1 rfl rfl (gd_eq (fun hz => ?_) (fun hz => ?_)), ?_⟩
      · have : 0 ≤ a.2.2.2.1 ∧ a.2.2.2.1 ≤ a.1 := by
          by_cases e : a.2.1 = 0
          · have := ha.zero e; omega
          · have := ha.pos e; omega
        refine s.ldi 2 0 rfl rfl (s.ldi 3 3 rfl rfl (arith_i64 (by omega) (by omega) (s.st 0 3 rfl (by simp) rfl fun w19 s _ => ?_)))
        have e : cells yapi_Weight (wJoin a b) = splice [.int .i64 (a.1 + b.1), .int .i64 (a.2.1 + b.2.1), .int .i64 (if a.2.1 = 0 then a.1 + b.2.2.1 else a.2.2.1), .int .i64 b.2.2.2.1, .int .u64 (dJoin a.2.2.2.2 b.2.2.2.2).1, .int .u64 (dJoin a.2.2.2.2 b.2.2.2.2).2] 3 [.int .i64 (b.1 + a.2.2.2.1)] := by
          simp [cells, wJoin, splice, hz]
        rw [e]; exact s
      · have e : cells yapi_Weight (wJoin a b) = [.int .i64 (a.1 + b.1), .int .i64 (a.2.1 + b.2.1), .int .i64 (if a.2.1 = 0 then a.1 + b.2.2.1 else a.2.2.1), .int .i64 b.2.2.2.1, .int .u64 (dJoin a.2.2.2.2 b.2.2.2.2).1, .int .u64 (dJoin a.2.2.2.2 b.2.2.2.2).2] := by
          simp [cells, wJoin, hz]
        rw [e]; exact s
      · rintro _ w20 s _
        exact s.ld0 0 rfl rfl (s.st0 1 rfl rfl rfl fun w22 s _ => s.ld0 1 rfl rfl (h _ s.fr))

theorem access_Weight_1_sp {b1 b2 : Nat} {x times : Int} {done : List Int} (s : Sp w0 Ω w) (i1 : Nat) (h1 : Ω[i1]? = some (cel b1 [.pointer (some p)])) (i2 : Nat) (h2 : Ω[i2]? = some (cel b2 (cells yapi_Weight (wOf done)))) (i : Nat) (hi : Ω[i]? = some (sto p most T)) (hk : 1 ≤ x ∧ x ≤ T.length) (ht : 1 ≤ times) (hbytes : ∀ c ∈ done, 0 ≤ c ∧ c < 256)
    (hlen : ((done ++ Cp times.toNat (txt T x)).length : Int) ≤ 1152921504606846976) {K : Value → World → Prop}
    (h : ∀ w', Sp w0 (Ω.set i2 (cel b2 (cells yapi_Weight (wOf (done ++ Cp times.toNat (txt T x)))))) w' → K .nilIface w') : C_access_Weight_1 x times ⟨b1, 0, none⟩ ⟨b2, 0, none⟩ K w := by
  apply S_access_Weight_1
  unfold F_access_Weight_1
  obtain ⟨_, _, _, hb0, hb1, hb2, g⟩ := Sp.entry s i hi
  obtain ⟨m, hm⟩ : ∃ m : Nat, times = (m : Int) := ⟨times.toNat, by omega⟩
  subst hm
  rw [Int.toNat_natCast] at hlen h
  rw [List.length_append, Cp_len] at hlen
  have hpos := (g.at_ (id := x) (by omega) hk.2).2.2.2 hk.1
  have hok := (g.at_ (id := x) (by omega) hk.2).1
  have hlx := g.len (id := x) (by omega) hk.2
  have hw := (g.weight (id := x) (by omega) hk.2).1
  have hby := (g.weight (id := x) (by omega) hk.2).2
  have e : wOf (Cp m (txt T x)) = wRep (eAt T x).2.1 m := by rw [hw]; exact wOf_rep (by omega) m
  have hm2 : m * 1 ≤ m * (txt T x).length := Nat.mul_le_mul_left _ (by omega)
  have hml : (eAt T x).2.1.1 * (m : Int) ≤ 1152921504606846976 := by
    have : (eAt T x).2.1.1 * (m : Int) = ((m * (txt T x).length : Nat) : Int) := by rw [hlx, Int.mul_comm]; simp
    rw [this]; omega
  refine s.ldp0 i1 h1 rfl (intern_Weight_k s i hi ⟨by omega, hk.2⟩ fun w1 s => s.allocK fun a3 w2 s => s.st0 0 rfl rfl rfl fun w3 s => nilIfc_nil (gd_f rfl ⟨fun _ w => Sp w0 (cel a3 (cells yapi_Weight (wOf (Cp m (txt T x)))) :: Ω) w, ?_, ?_⟩))
  · refine gd_dec (fun c => s.ld0 (ty := yapi_Weight) (x := (eAt T x).2.1) 0 rfl rfl (weight_Repeat_spec hok ⟨by omega, by omega⟩ hml fun w4 ext => ?_)) (fun c => ?_)
    · have s := s.toExt ext
      refine s.st0 0 rfl rfl rfl fun w5 s => nilIfc_nil (gd_f rfl ?_)
      rw [e]; exact s
    · have : m = 1 := by omega
      subst this
      rw [Cp_one, ← hw]; exact s
  · clear s
    rintro ⟨⟩ w4 s _
    have hbc : ∀ c ∈ Cp m (txt T x), 0 ≤ c ∧ c < 256 := fun c hc => by
      unfold Cp at hc
      obtain ⟨l, hl, hc⟩ := List.mem_flatten.1 hc
      rw [List.eq_of_mem_replicate hl] at hc
      exact hby c hc
    refine s.ld0 (ty := yapi_Weight) (x := wOf done) (i2 + 1) h2 rfl (s.ld0 (ty := yapi_Weight) (x := wOf (Cp m (txt T x))) 0 rfl rfl (access_join_spec (wOK_of hbytes (by omega)) (wOK_of hbc (by rw [Cp_len]; omega)) (by rw [wOf_len, wOf_len, Cp_len]; omega) fun w5 ext => ?_))
    have s := s.toExt ext
    rw [← wOf_append]
    exact s.st0 (i2 + 1) h2 rfl rfl fun w6 s => h _ s.pop

theorem bodyful_53 : bodyful P 53 = true := by decide +kernel
theorem callV_Weight {x times : Int} {a b : Addr} {K : Value → World → Prop} (h : C_access_Weight_1 x times a b K w) : Visit (.func (.func 53) #[] #[.pointer (some a), .pointer (some b)]) x times K w := by
  unfold Visit
  unfold C_access_Weight_1 at h
  unfold callV
  dsimp only
  rw [bodyful_53]
  exact h

theorem access_Weight_sp {id from_ n : Int} (s : Sp w0 Ω w) (i : Nat) (hi : Ω[i]? = some (sto p most T)) (hk : 0 ≤ id ∧ id ≤ T.length) (hr : 0 ≤ from_ ∧ 0 ≤ n ∧ from_ + n ≤ (txt T id).length) {K : WT × Value → World → Prop}
    (h : ∀ w', Sp w0 Ω w' → K (wOf (sub (txt T id) from_.toNat n.toNat), .nilIface) w') : C_access_Weight (some p) id from_ n K w := by
  apply S_access_Weight
  unfold F_access_Weight
  obtain ⟨_, _, _, hb0, hb1, hb2, g⟩ := Sp.entry s i hi
  have hlen := g.len hk.1 hk.2
  have hbig := (g.at_ hk.1 hk.2).1.len
  have hby := (g.weight (id := id) hk.1 hk.2).2
  refine s.allocK fun a1 w1 s => s.allocK fun a2 w2 s => s.ldp0 1 rfl rfl (intern_Weight_k s (i + 2) hi hk fun w2 s => s.allocK fun a4 w3 s => s.st0 0 rfl rfl rfl fun w4 s => nilIfc_nil (gd_f rfl (s.ldi (x := (eAt T id).2.1.1) 0 0 rfl rfl (length_Range_spec hbig (fun _ => nilIfc_nil (gd_f rfl (weight_Unit_spec fun w5 ext => ?_))) (fun c => absurd ⟨hr.1, hr.2.1, by omega⟩ c)))))
  have s := s.toExt ext
  refine s.allocK fun a13 w6 s => s.st0 0 rfl rfl rfl fun w7 s => s.ldp0 3 rfl rfl ?_
  have o : SpanOK T (id, from_, n, 1) := ⟨hk.1, hk.2, hr.1, hr.2.1, hr.2.2, by dsimp only; omega, fun _ => Int.le_refl _⟩
  have hsub : (sub (txt T id) from_.toNat n.toNat).length ≤ (txt T id).length := by unfold sub; rw [List.length_take, List.length_drop]; omega
  have s := s.pick [0, 3, 2] 4 rfl (by decide)
  change Sp w0 (cel a13 (cells yapi_Weight (wOf [])) :: cel a1 [.pointer (some p)] :: cel a2 [.int .i64 0, .int .i64 0, .int .i64 0, .int .i64 0, .int .u64 0, .int .u64 0] :: Ω) w7 at s
  refine access_parts_sp (Qv := fun done Ωv => Ωv = cel a13 (cells yapi_Weight (wOf done)) :: cel a1 [.pointer (some p)] :: cel a2 [.int .i64 0, .int .i64 0, .int .i64 0, .int .i64 0, .int .u64 0, .int .u64 0] :: Ω) s (i + 3) (fun done Ωv e => by rw [e]; exact hi) rfl o rfl ?_ ?_
  · rintro x times done Ωv o1 o2 o3 w K hx ht hpre rfl s hK
    have hl := hpre.length_le
    have hmem : ∀ c ∈ done, 0 ≤ c ∧ c < 256 := fun c hc => hby c (by
      have h1 := hpre.subset (List.mem_append_left _ hc)
      unfold sub at h1
      exact List.mem_of_mem_drop (List.mem_of_mem_take h1))
    exact callV_Weight (access_Weight_1_sp s 4 rfl 3 rfl (i + 6) hi hx ht hmem (by omega) fun w' s => hK _ _ rfl s)
  · rintro Ωv w' rfl s
    exact nilIfc_nil (gd_f rfl (s.ld0 0 rfl rfl (s.st0 2 rfl rfl rfl fun w8 s => s.ld0 2 rfl rfl (h _ (s.drop 3)))))

end Go.Proofs.YtcmncfglcjcmhaaGreat

/- access: how many letters of a set (the set of Count's law: one letter). -/
set_option linter.unusedVariables false
set_option linter.unusedSimpArgs false
namespace Go.Proofs.YtcmncfglcjcmhaaGreat
open Go.Den

variable {w0 w : World} {Ω : List Ob} {most : Int} {T : List ET} {p : Addr}

/-- how many letters 'a' a text has -/
def cntA (t : List Int) : Int := ((t.filter fun c => c == 97).length : Nat)
theorem cntA_append (a b : List Int) : cntA (a ++ b) = cntA a + cntA b := by
  unfold cntA; rw [List.filter_append, List.length_append]; simp
theorem cntA_nil : cntA [] = 0 := rfl
theorem cntA_one (c : Int) : cntA [c] = if c = 97 then 1 else 0 := by
  unfold cntA
  by_cases h : c = 97
  · subst h; rfl
  · rw [if_neg h, List.filter_cons_of_neg (by simpa using h)]; rfl
theorem cntA_le (t : List Int) : 0 ≤ cntA t ∧ cntA t ≤ t.length := by
  have := List.length_filter_le (fun c : Int => c == 97) t
  unfold cntA; omega
theorem cntA_Cp (k : Nat) (t : List Int) : cntA (Cp k t) = k * cntA t := by
  induction k with
  | zero => rw [Cp_zero, cntA_nil]; simp
  | succ k ih => rw [Cp_succ, cntA_append, ih]; rw [Int.natCast_add, Int.add_mul]; simp [Int.add_comm]

def hasB (b : Nat) : Bool := ((BitVec.ofInt 64 (Int.fdiv (if b / 64 = 1 then 8589934592 else 0) (2 ^ min (Int.toNat ((b % 64 : Nat) : Int)) 64)) &&& BitVec.ofInt 64 (1 : Int)).toNat : Int) == 1
theorem hasB_all : ∀ b : Fin 256, hasB b.1 = decide (b.1 = 97) := by decide +kernel

end Go.Proofs.YtcmncfglcjcmhaaGreat

/- access: how many letters stand before an offset (before). -/
set_option linter.unusedVariables false
set_option linter.unusedSimpArgs false
namespace Go.Proofs.YtcmncfglcjcmhaaGreat
open Go.Den

variable {w0 w : World} {Ω : List Ob} {most : Int} {T : List ET} {p : Addr} {ids : List Int}

theorem access_before_sp {sl ll cl : Sl} {lens cnts : List (Ty.int .i64).T} {at_ : Int} {t : List Int} (s : Sp w0 Ω w) (g : Grow T) (hN : T.length ≤ 1048576) (hc : Closed T ids) (hv : ∀ w', Sp w0 Ω w' → View yapi_Rule w' sl (exp T ids)) (hl : ∀ w', Sp w0 Ω w' → View (.int .i64) w' ll lens) (hcv : ∀ w', Sp w0 Ω w' → View (.int .i64) w' cl cnts)
    (lv : LV ids (fun y => ((txt T y).length : Int)) 0 ids.length lens) (cv : LV ids (fun y => cntA (txt T y)) 0 ids.length cnts) (h0 : 0 ≤ at_) (hbig : (t.length : Int) ≤ 1152921504606846976) (ht : at_ = 0 ∨ ∃ (k : Nat) (y : Int), ids[k]? = some y ∧ ids.length = k + 1 ∧ t = txt T y ∧ at_ ≤ t.length) {K : Int → World → Prop}
    (h : ∀ w', Sp w0 Ω w' → K (cntA (t.take at_.toNat)) w') : C_access_before sl ll cl at_ K w := by
  apply S_access_before
  unfold F_access_before
  have hlen := (hv _ s).len
  rw [exp_len] at hlen
  have hil := ids_len g hc
  have htg := cntA_le (t.take at_.toNat)
  have htl : (t.take at_.toNat).length ≤ t.length := by rw [List.length_take]; omega
  generalize htgt : cntA (t.take at_.toNat) = tgt at h htg
  refine ⟨fun x w => 0 ≤ x.1 ∧ 0 ≤ x.2.2.1 ∧ Sp w0 Ω w ∧ ((x.1 = 0 ∧ x.2.2.1 = tgt) ∨ ∃ (k : Nat) (y : Int), ids[k]? = some y ∧ x.2.1 = (k : Int) + 1 ∧ x.1 ≤ (txt T y).length ∧ x.2.2.1 + cntA ((txt T y).take x.1.toNat) = tgt), fun x _ => x.2.1.toNat, ⟨h0, Int.le_refl _, s, ?_⟩, ?_⟩
  · rcases ht with ht | ⟨k, y, h1, h2, h3, h4⟩
    · refine Or.inl ⟨ht, ?_⟩
      rw [← htgt, ht]; rfl
    · refine Or.inr ⟨k, y, h1, by dsimp only; omega, by rw [← h3]; exact h4, ?_⟩
      dsimp only
      rw [← h3, htgt]; omega
  clear s
  rintro ⟨at1, x, sum, _⟩ w1 ⟨ha, hs0, s, hd⟩ _
  dsimp only at ha hs0 hd ⊢
  refine gd_dec (fun c => ?_) (fun c => ?_)
  rotate_left
  · rcases hd with ⟨_, e⟩ | ⟨k, y, _, _, _, e⟩
    · rw [e]; exact h _ s
    · rw [show at1.toNat = 0 by omega, List.take_zero, cntA_nil] at e
      rw [show sum = tgt by omega]; exact h _ s
  rcases hd with ⟨e, _⟩ | ⟨k, y, hk, hx, hle, e⟩
  · omega
  subst hx
  have hkl : k < ids.length := (List.getElem?_eq_some_iff.1 hk).1
  have hyb := hc.bound y (List.mem_of_getElem? hk)
  have lat : ∀ {j : Nat} {z : Int}, ids[j]? = some z → lens[j + 1]? = some (((txt T z).length : Int)) := fun hz => lv.at_ hz (List.getElem?_eq_some_iff.1 hz).1
  have cat : ∀ {j : Nat} {z : Int}, ids[j]? = some z → cnts[j + 1]? = some (cntA (txt T z)) := fun hz => cv.at_ hz (List.getElem?_eq_some_iff.1 hz).1
  have hct := cntA_le ((txt T y).take at1.toNat)
  have hyB : ((txt T y).length : Int) ≤ 1152921504606846976 := by
    have h2 := g.len (id := y) (by omega) hyb.2
    have h3 := (g.at_ (id := y) (by omega) hyb.2).1.len
    omega
  refine (hl _ s).idx (n := k + 1) (by omega) (lat hk) rfl fun q hq => ⟨_, hq, gd_eq (fun c1 => ?_) (fun c1 => ?_)⟩
  · rw [List.take_of_length_le (by omega)] at e hct
    refine (hcv _ s).idx (n := k + 1) (by omega) (cat hk) rfl fun q2 hq2 => ⟨_, hq2, arith_i64 (by omega) (by omega) ?_⟩
    rw [e]; exact h _ s
  refine arith_i64 (by omega) (by omega) ((hv _ s).idx (n := k) (by omega) (exp_get hk) rfl fun q2 hq2 => ⟨_, hq2, s.allocK fun a11 w2 s => s.st0 0 rfl rfl rfl fun w3 s => ?_⟩)
  have glen : ∀ {z : Int}, z ∈ ids → 1 ≤ (txt T z).length := fun hz => by
    have hb := hc.bound _ hz
    have h1 := (g.at_ (show 0 ≤ _ by omega) hb.2).2.2.2 hb.1
    have h2 := g.len (show 0 ≤ _ by omega) hb.2
    omega
  cases gr_of g hc hk with
  | letter b _ _ _ _ ht1 =>
    rw [ht1] at hle c1
    simp only [List.length_cons, List.length_nil] at hle c1
    omega
  | pair l r jl jr q1 q2 q3 q4 e1 _ _ ht1 =>
    rw [e1] at s
    refine s.ldi (x := (jl : Int) + 1) 0 2 rfl rfl ((hl _ s.pop).idx (n := jl + 1) (by omega) (lat q3) rfl fun q5 hq5 => ⟨_, hq5, s.ldi (x := 2) 0 0 rfl rfl (gd_f rfl (gd_dec (fun c2 => ?_) (fun c2 => ?_)))⟩)
    · refine s.ldi (x := (jl : Int) + 1) 0 2 rfl rfl ⟨⟨ha, hs0, s.pop, Or.inr ⟨jl, l, q3, rfl, by omega, ?_⟩⟩, by omega⟩
      rwa [ht1, List.take_append_of_le_length (by omega)] at e
    · rw [ht1, List.take_append, List.take_of_length_le (by omega), cntA_append] at e
      have hcl := cntA_le (txt T l)
      have hcr := cntA_le ((txt T r).take (at1.toNat - (txt T l).length))
      rw [ht1, List.length_append] at hle hyB
      refine s.ldi (x := (jl : Int) + 1) 0 2 rfl rfl ((hcv _ s.pop).idx (n := jl + 1) (by omega) (cat q3) rfl fun q6 hq6 => ⟨_, hq6, arith_i64 (by omega) (by omega) (arith_i64 (by omega) (by omega) (s.ldi (x := (jr : Int) + 1) 0 3 rfl rfl ⟨⟨by omega, by omega, s.pop, Or.inr ⟨jr, r, q4, rfl, by omega, ?_⟩⟩, by omega⟩))⟩)
      rw [show (at1 - ((txt T l).length : Int)).toNat = at1.toNat - (txt T l).length by omega]; omega
  | power x1 m j q1 q3 hm e1 _ _ ht1 =>
    rw [e1] at s
    have hp := glen (List.mem_of_getElem? q3)
    obtain ⟨a, rfl⟩ : ∃ a : Nat, at1 = a := ⟨at1.toNat, by omega⟩
    have hmod := Nat.mod_lt a hp
    rw [ht1] at hle e
    change _ ≤ ((Cp m.toNat (txt T x1)).length : Int) at hle
    change _ + cntA ((Cp m.toNat (txt T x1)).take _) = _ at e
    rw [Cp_len] at hle
    rw [Int.toNat_natCast, Cp_take _ hp _ _ (by omega), cntA_append, cntA_Cp] at e
    have hcm := cntA_le ((txt T x1).take (a % (txt T x1).length))
    have hcq := cntA_le (Cp (a / (txt T x1).length) (txt T x1))
    rw [cntA_Cp] at hcq
    have hdiv := Nat.div_le_self a (txt T x1).length
    have hab : (a : Int) ≤ 1152921504606846976 := by
      have h4 : (txt T y).length = m.toNat * (txt T x1).length := by rw [ht1]; exact Cp_len _ _
      omega
    have hd0 : (0 : Int) ≤ ((a / (txt T x1).length : Nat) : Int) := Int.natCast_nonneg _
    have hm0 : (0 : Int) ≤ ((a % (txt T x1).length : Nat) : Int) := Int.natCast_nonneg _
    refine s.ldi (x := (j : Int) + 1) 0 2 rfl rfl ((hl _ s.pop).idx (n := j + 1) (by omega) (lat q3) rfl fun q5 hq5 => ⟨_, hq5, s.ldi (x := 3) 0 0 rfl rfl (gd_t rfl (s.drawK fun w4 s => ⟨by omega, ?_⟩))⟩)
    rw [tdiv_nat, tmod_nat]
    refine arith_i64 (by omega) (by omega) (s.ldi (x := (j : Int) + 1) 0 2 rfl rfl ((hcv _ s.pop).idx (n := j + 1) (by omega) (cat q3) rfl fun q6 hq6 => ⟨_, hq6, arith_i64 (by omega) (by omega) (arith_i64 (by omega) (by omega) ⟨by omega, letZ_mk (s.ldi (x := (j : Int) + 1) 0 2 rfl rfl ⟨⟨by omega, by omega, s.pop, Or.inr ⟨j, x1, q3, rfl, by omega, ?_⟩⟩, by omega⟩)⟩)⟩))
    rw [Int.toNat_natCast]; omega

end Go.Proofs.YtcmncfglcjcmhaaGreat

/- access: Count. -/
set_option linter.unusedVariables false
set_option linter.unusedSimpArgs false
namespace Go.Proofs.YtcmncfglcjcmhaaGreat
open Go.Den

variable {w0 w : World} {Ω : List Ob} {most : Int} {T : List ET} {p : Addr} {ids : List Int}

abbrev setA : yapi_Letters.T := ((0 : Int), ((8589934592 : Int), ((0 : Int), (0 : Int))))
theorem letterset_Has_sp {b : Int} (hb : 0 ≤ b ∧ b < 256) (s : Sp w0 Ω w) {K : Bool → World → Prop} (h : ∀ w', Sp w0 Ω w' → K (decide (b = 97)) w') : C_letterset_Has setA b K w := by
  apply S_letterset_Has
  unfold F_letterset_Has
  obtain ⟨n, rfl⟩ : ∃ n : Nat, b = n := ⟨b.toNat, by omega⟩
  have hn : n < 256 := by omega
  refine s.allocK fun a1 w1 s => ⟨by decide, ?_⟩
  rw [show (64 : Int) = ((64 : Nat) : Int) from rfl, tdiv_nat, tmod_nat]
  refine arith_u8' ?_
  rw [show ((n / 64 : Nat) : Int) % 256 = ((n / 64 : Nat) : Int) by omega]
  have e : ∀ k, k < 4 → ((cells yapi_Letters setA).drop (k * 1)).take 1 = [.int .u64 (if k = 1 then 8589934592 else 0)] := fun k hk => by
    match k, hk with
    | 0, _ => rfl
    | 1, _ => rfl
    | 2, _ => rfl
    | 3, _ => rfl
  refine ⟨by omega, by omega, (if n / 64 = 1 then 8589934592 else 0), s.still 0 _ rfl (e (n / 64) (by omega)), by decide, letZ_mk ⟨Int.natCast_nonneg _, letZ_mk (arith_u64 (Int.natCast_nonneg _) ?_ ?_)⟩⟩
  · have := (BitVec.ofInt (IntKind.bits .u64) (Int.fdiv (if n / 64 = 1 then 8589934592 else 0) (2 ^ min (Int.toNat ((n % 64 : Nat) : Int)) (IntKind.bits .u64))) &&& BitVec.ofInt (IntKind.bits .u64) (1 : Int)).isLt
    have e2 : 2 ^ IntKind.bits .u64 = 18446744073709551616 := rfl
    omega
  · have h1 := hasB_all ⟨n, hn⟩
    have h2 : hasB n = decide ((n : Int) = 97) := by rw [h1, decide_eq_decide]; dsimp only; omega
    have h3 := h _ s.pop
    rw [← h2] at h3
    exact h3

end Go.Proofs.YtcmncfglcjcmhaaGreat

/- access: Count. -/
set_option linter.unusedVariables false
set_option linter.unusedSimpArgs false
namespace Go.Proofs.YtcmncfglcjcmhaaGreat
open Go.Den

variable {w0 w : World} {Ω : List Ob} {most : Int} {T : List ET} {p : Addr} {ids : List Int}

theorem access_Count_sp {id from_ n : Int} (s : Sp w0 Ω w) (i : Nat) (hi : Ω[i]? = some (sto p most T)) (hk : 0 ≤ id ∧ id ≤ T.length) (hr : 0 ≤ from_ ∧ 0 ≤ n ∧ from_ + n ≤ (txt T id).length) {K : Int × Value → World → Prop}
    (h : ∀ w', Sp w0 Ω w' → K (cntA (sub (txt T id) from_.toNat n.toNat), .nilIface) w') : C_access_Count (some p) id setA from_ n K w := by
  apply S_access_Count
  unfold F_access_Count
  obtain ⟨_, _, _, hb0, hb1, hb2, g⟩ := Sp.entry s i hi
  have hlen := g.len hk.1 hk.2
  have hbig := (g.at_ hk.1 hk.2).1.len
  have hN : T.length ≤ 1048576 := by omega
  refine s.allocK fun a1 w1 s => intern_Weight_k s (i + 1) hi hk fun w2 s => s.allocK fun a3 w3 s => s.st0 0 rfl rfl rfl fun w4 s => nilIfc_nil (gd_f rfl (s.ldi (x := (eAt T id).2.1.1) 0 0 rfl rfl (length_Range_spec hbig (fun _ => nilIfc_nil (gd_f rfl (intern_Export_sp s (i + 2) hi (fun _ sl w5 s => nilIfc_nil (gd_f rfl ?_)) (fun c => absurd hk c)))) (fun c => absurd ⟨hr.1, hr.2.1, by omega⟩ c))))
  have hc : Closed T (rlist T [id]) := rlist_closed g fun x hx => by rw [List.mem_singleton.1 hx]; exact hk
  have hlast : id = 0 ∨ ∃ k : Nat, (rlist T [id]).length = k + 1 ∧ (rlist T [id])[k]? = some id := by
    rcases Int.lt_or_le 0 id with h | h
    · exact Or.inr (rlist_last g (by omega) hk.2)
    · exact Or.inl (by omega)
  generalize rlist T [id] = ids at hc hlast s
  have hsl := (s.view 0 rfl).len
  rw [exp_len] at hsl
  have hil := ids_len g hc
  have hNt : ((sl.len : Int) + 1).toNat = ids.length + 1 := by omega
  dsimp only
  refine arith_i64 (by omega) (by omega) ⟨by omega, by omega, by omega, by omega, s.mkS (.int .i64) (0 : Int) (ids.length + 1) (ids.length + 1) (Nat.le_refl _) (fun a11 w6 s => ?_) rfl (by rw [hNt]; rfl)⟩
  refine arith_i64 (by omega) (by omega) ⟨by omega, by omega, by omega, by omega, s.mkS (.int .i64) (0 : Int) (ids.length + 1) (ids.length + 1) (Nat.le_refl _) (fun a13 w7 s => ?_) rfl (by rw [hNt]; rfl)⟩
  rw [hNt]
  have hz : ∀ f : Int → Int, LV ids f 0 0 (List.replicate (ids.length + 1) (0 : Int)) := fun f => ⟨by simp, fun j y hj => by
    have := (List.getElem?_eq_some_iff.1 hj).1
    rw [List.getElem?_replicate, if_pos (by omega), if_neg (by omega)]⟩
  refine loop_by (fun x => x.1) ids.length (fun n x w => ∃ (hL hC : List (Ty.int .i64).T), LV ids (fun y => ((txt T y).length : Int)) 0 n hL ∧ LV ids (fun y => cntA (txt T y)) 0 n hC ∧ Sp w0 (own (.int .i64) ⟨some ⟨a13, 0, none⟩, ids.length + 1, ids.length + 1⟩ hC :: own (.int .i64) ⟨some ⟨a11, 0, none⟩, ids.length + 1, ids.length + 1⟩ hL :: own yapi_Rule sl (exp T ids) :: cel a3 (cells yapi_Weight (eAt T id).2.1) :: cel a1 (cells yapi_Letters setA) :: Ω) w) rfl
    ⟨_, _, hz _, hz _, s⟩ ?_
  clear s
  rintro m ⟨_, _⟩ w8 hm rfl ⟨hL, hC, lv, cv, s⟩ _
  dsimp only
  have hll := lv.1
  have hcl := cv.1
  refine gd_dec (fun hlt => ?_) (fun hge => ?_)
  rotate_left
  · have e : m = ids.length := by omega
    subst e
    have ht : ∀ at_ : Int, 0 ≤ at_ → at_ ≤ (txt T id).length → at_ = 0 ∨ ∃ (k : Nat) (y : Int), ids[k]? = some y ∧ ids.length = k + 1 ∧ txt T id = txt T y ∧ at_ ≤ (txt T id).length := fun at_ h0 h1 => by
      rcases hlast with e | ⟨k, e1, e2⟩
      · subst e
        rw [txt_zero] at h1
        simp at h1
        exact Or.inl (by omega)
      · exact Or.inr ⟨k, id, e2, e1, rfl, h1⟩
    refine arith_i64 (by omega) (by omega) (access_before_sp (t := txt T id) s g hN hc (fun _ s => s.view 2 rfl) (fun _ s => s.view 1 rfl) (fun _ s => s.view 0 rfl) lv cv (by omega) (by omega) (ht _ (by omega) (by omega)) fun w9 s => access_before_sp (t := txt T id) s g hN hc (fun _ s => s.view 2 rfl) (fun _ s => s.view 1 rfl) (fun _ s => s.view 0 rfl) lv cv hr.1 (by omega) (ht _ hr.1 (by omega)) fun w10 s => ?_)
    have e : cntA ((txt T id).take (from_ + n).toNat) = cntA ((txt T id).take from_.toNat) + cntA (sub (txt T id) from_.toNat n.toNat) := by
      rw [show (from_ + n).toNat = from_.toNat + n.toNat by omega, List.take_add, cntA_append]; rfl
    have c1 := cntA_le (sub (txt T id) from_.toNat n.toNat)
    have c2 : (sub (txt T id) from_.toNat n.toNat).length ≤ n.toNat := by unfold sub; rw [List.length_take]; omega
    rw [e, show ∀ a b : Int, a + b - a = b from fun a b => by omega]
    exact arith_i64 (by omega) (by omega) (h _ (s.drop 5))
  have hm' : m < ids.length := by omega
  have hg : ids[m]? = some ids[m] := List.getElem?_eq_getElem hm'
  generalize ids[m] = y at hg
  have hex := exp_get (T := T) hg
  have hyb := hc.bound y (List.mem_of_getElem? hg)
  have hyl := g.len (id := y) (by omega) hyb.2
  have hyB := (g.at_ (id := y) (by omega) hyb.2).1.len
  have hcy := cntA_le (txt T y)
  refine ⟨fun _ w => ∃ (hL hC : List (Ty.int .i64).T), LV ids (fun y => ((txt T y).length : Int)) 0 (m + 1) hL ∧ LV ids (fun y => cntA (txt T y)) 0 (m + 1) hC ∧ Sp w0 (own (.int .i64) ⟨some ⟨a13, 0, none⟩, ids.length + 1, ids.length + 1⟩ hC :: own (.int .i64) ⟨some ⟨a11, 0, none⟩, ids.length + 1, ids.length + 1⟩ hL :: own yapi_Rule sl (exp T ids) :: cel a3 (cells yapi_Weight (eAt T id).2.1) :: cel a1 (cells yapi_Letters setA) :: Ω) w, ?_, ?_⟩
  · refine (s.view 2 rfl).idx rfl hex rfl fun q hq => ⟨_, hq, s.allocK fun a20 w9 s => s.st0 0 rfl rfl rfl fun w10 s => s.drawK fun w11 s => arith_i64 (by omega) (by omega) ?_⟩
    cases gr_of g hc hg with
    | letter b b0 b1 e1 _ ht =>
      rw [e1] at s
      have elen : ((txt T y).length : Int) = 1 := by rw [ht]; rfl
      have ecnt : cntA (txt T y) = if b = 97 then 1 else 0 := by rw [ht, cntA_one]
      refine s.ldi (x := 0) 0 2 rfl rfl (s.ldi (x := 1) 0 0 rfl rfl (gd_t rfl (s.setI 2 rfl (n := m + 1) (y := (1 : Int)) (by omega) (by omega) fun w12 s => s.ld0 (ty := yapi_Letters) (x := setA) 5 rfl rfl (s.ldi (x := b) 0 1 rfl rfl (letterset_Has_sp ⟨b0, b1⟩ s fun w13 s => gd_dec (fun c => ?_) (fun c => ?_))))))
      · exact s.setI 1 rfl (n := m + 1) (y := (1 : Int)) (by omega) (by omega) fun w14 s => ⟨_, _, lv.put hg elen.symm, cv.put hg (by rw [ecnt, if_pos c]), s.pop⟩
      · exact ⟨_, _, lv.put hg elen.symm, cv.skip hg (by rw [ecnt, if_neg c]), s.pop⟩
    | pair l r jl jr q1 q2 q3 q4 e1 _ _ ht =>
      rw [e1] at s
      have elen : ((txt T y).length : Int) = ((txt T l).length : Int) + ((txt T r).length : Int) := by rw [ht, List.length_append]; simp
      have ecnt : cntA (txt T y) = cntA (txt T l) + cntA (txt T r) := by rw [ht, cntA_append]
      have cl := cntA_le (txt T l)
      have cr := cntA_le (txt T r)
      refine s.ldi (x := (jl : Int) + 1) 0 2 rfl rfl (s.ldi (x := 2) 0 0 rfl rfl (gd_f rfl (gd_t rfl (s.drawK fun w12 s => (s.view 2 rfl).idx (n := jl + 1) (by omega) (lv.at_ q3 q1) rfl fun q5 hq5 => ⟨_, hq5, s.ldi (x := (jr : Int) + 1) 0 3 rfl rfl ((s.view 2 rfl).idx (n := jr + 1) (by omega) (lv.at_ q4 q2) rfl fun q6 hq6 => ⟨_, hq6, arith_i64 (by omega) (by omega) (s.setI 2 rfl (n := m + 1) (y := ((txt T l).length : Int) + ((txt T r).length : Int)) (by omega) (by omega) fun w13 s => s.drawK fun w14 s => ?_)⟩)⟩))))
      refine (s.view 1 rfl).idx (n := jl + 1) (by omega) (cv.at_ q3 q1) rfl fun q7 hq7 => ⟨_, hq7, s.ldi (x := (jr : Int) + 1) 0 3 rfl rfl ((s.view 1 rfl).idx (n := jr + 1) (by omega) (cv.at_ q4 q2) rfl fun q8 hq8 => ⟨_, hq8, arith_i64 (by omega) (by omega) (s.setI 1 rfl (n := m + 1) (y := cntA (txt T l) + cntA (txt T r)) (by omega) (by omega) fun w15 s => ⟨_, _, lv.put hg elen.symm, cv.put hg ecnt.symm, s.pop⟩)⟩)⟩
    | power x k j q1 q3 hk2 e1 _ _ ht =>
      rw [e1] at s
      have elen : ((txt T y).length : Int) = ((txt T x).length : Int) * k := by
        have : (txt T y).length = k.toNat * (txt T x).length := by rw [ht]; exact Cp_len _ _
        rw [this, Int.mul_comm, Int.natCast_mul, Int.toNat_of_nonneg (by omega)]
      have ecnt : cntA (txt T y) = cntA (txt T x) * k := by
        have : cntA (txt T y) = k.toNat * cntA (txt T x) := by rw [ht]; exact cntA_Cp _ _
        rw [this, Int.mul_comm, Int.toNat_of_nonneg (by omega)]
      refine s.ldi (x := (j : Int) + 1) 0 2 rfl rfl (s.ldi (x := 3) 0 0 rfl rfl (gd_f rfl (gd_f rfl (s.drawK fun w12 s => (s.view 2 rfl).idx (n := j + 1) (by omega) (lv.at_ q3 q1) rfl fun q5 hq5 => ⟨_, hq5, s.ldi (x := k) 0 4 rfl rfl (arith_i64 (by omega) (by omega) (s.setI 2 rfl (n := m + 1) (y := ((txt T x).length : Int) * k) (by omega) (by omega) fun w13 s => s.drawK fun w14 s => ?_))⟩))))
      refine (s.view 1 rfl).idx (n := j + 1) (by omega) (cv.at_ q3 q1) rfl fun q7 hq7 => ⟨_, hq7, s.ldi (x := k) 0 4 rfl rfl (arith_i64 (by omega) (by omega) (s.setI 1 rfl (n := m + 1) (y := cntA (txt T x) * k) (by omega) (by omega) fun w15 s => ⟨_, _, lv.put hg elen.symm, cv.put hg ecnt.symm, s.pop⟩))⟩
  rintro ⟨⟩ w9 ⟨hL', hC', lv', cv', s⟩ _
  exact arith_i64 (by omega) (by omega) (loop_nx hm' ⟨_, _, lv', cv', s⟩)

end Go.Proofs.YtcmncfglcjcmhaaGreat

/- weight.Of and digest.Of: the weight of plain bytes. -/
set_option linter.unusedVariables false
set_option linter.unusedSimpArgs false
namespace Go.Proofs.YtcmncfglcjcmhaaGreat
open Go.Den

variable {w0 w : World} {Ω : List Ob} {most : Int} {T : List ET} {p : Addr}

theorem wOf_dig_snoc (b : List Int) {c : Int} (hc : 0 ≤ c ∧ c < 256) : (wOf (b ++ [c])).2.2.2.2 = dJoin (wOf b).2.2.2.2 (dLetter c) := by
  rw [wOf_append, wOf_one hc]
  show dJoin (wOf b).2.2.2.2 (wLetter c).2.2.2.2 = _
  congr 1
  unfold wLetter dLetter
  split <;> rfl

theorem digest_Of_spec {sl : Sl} {b : List (Ty.int .u8).T} (hb : ∀ c ∈ b, 0 ≤ (c : Int) ∧ (c : Int) < 256) (hl : b.length ≤ 1000000) (s : Sp w0 Ω w) (hv : ∀ w' Ω', Sp w0 (Ω' ++ Ω) w' → View (.int .u8) w' sl b) {K : Int × Int → World → Prop} (h : ∀ w', Sp w0 Ω w' → K (wOf b).2.2.2.2 w') : C_digest_Of sl K w := by
  apply S_digest_Of
  unfold F_digest_Of
  have hlen := (hv _ [] s).len
  refine s.allocK fun a1 w1 s => digest_Unit_spec fun w2 ext => ?_
  have s := s.toExt ext
  refine s.allocK fun a3 w3 s => s.st0 0 rfl rfl rfl fun w4 s => ?_
  refine loop_by (fun x => x.1) b.length (fun n x w => Sp w0 (cel a3 (cells yapi_Digest (wOf (b.take n)).2.2.2.2) :: cel a1 [.int .u64 0, .int .u64 0] :: Ω) w) rfl s ?_
  clear s
  rintro n ⟨_, _⟩ w5 hn rfl s _
  dsimp only
  refine gd_dec (fun c => ?_) (fun c => ?_)
  · have hn' : n < b.length := by omega
    have hg : b[n]? = some b[n] := List.getElem?_eq_getElem hn'
    have hz := hb _ (List.getElem_mem hn')
    have et : b.take (n + 1) = b.take n ++ [b[n]] := List.take_succ_eq_append_getElem hn'
    generalize b[n] = z at hg hz et
    refine (hv _ [_, _] s).idx rfl hg rfl fun q hq => ⟨z, hq, s.drawK fun w6 s => s.ld0 (ty := yapi_Digest) (x := (wOf (b.take n)).2.2.2.2) 0 rfl rfl (digest_Letter_spec hz fun w7 ext => ?_)⟩
    have s := s.toExt ext
    refine ⟨s.at_ 0 rfl, digest_Join_spec (dOf_ok _) (dOK_letter hz) fun w8 ext => ?_⟩
    have s := s.toExt ext
    refine s.st0 0 rfl rfl rfl fun w9 s => arith_i64 (by omega) (by omega) (loop_nx hn' ?_)
    rw [et, wOf_dig_snoc _ hz]
    exact s
  · have : n = b.length := by omega
    subst this
    rw [List.take_length] at s
    exact s.ld0 (ty := yapi_Digest) (x := (wOf b).2.2.2.2) 0 rfl rfl (s.st0 1 rfl rfl rfl fun w6 s => s.ld0 (ty := yapi_Digest) (x := (wOf b).2.2.2.2) 1 rfl rfl (h _ (s.drop 2)))

end Go.Proofs.YtcmncfglcjcmhaaGreat

/- weight.Of. -/
set_option linter.unusedVariables false
set_option linter.unusedSimpArgs false
namespace Go.Proofs.YtcmncfglcjcmhaaGreat
open Go.Den

variable {w0 w : World} {Ω : List Ob} {most : Int} {T : List ET} {p : Addr}

/-- what weight.Of holds after n bytes of the text -/
def ofS (b : List Int) (n : Nat) : WT := (b.length, (wOf (b.take n)).2.1, (if (wOf (b.take n)).2.1 = 0 then (b.length : Int) else (wOf (b.take n)).2.2.1), (if (wOf (b.take n)).2.1 = 0 then (b.length : Int) else b.length - n + (wOf (b.take n)).2.2.2.1), (wOf b).2.2.2.2)
theorem ofS_zero (b : List Int) : ofS b 0 = ((b.length : Int), 0, (b.length : Int), (b.length : Int), (wOf b).2.2.2.2) := rfl
theorem ofS_end (b : List Int) : ofS b b.length = wOf b := by
  unfold ofS
  rw [List.take_length]
  have h1 := wOf_len b
  have h2 := wOf_zero b
  generalize wOf b = W at h1 h2
  obtain ⟨l, n, hd, tl, d⟩ := W
  dsimp only at h1 h2 ⊢
  by_cases c : n = 0
  · obtain ⟨e1, e2⟩ := h2 c
    rw [if_pos c, if_pos c, e1, e2, h1]
  · rw [if_neg c, if_neg c, h1]
    simp
theorem ofS_other {b : List Int} {n : Nat} {c : Int} (hg : b[n]? = some c) (hc : 0 ≤ c ∧ c < 256) (h10 : c ≠ 10) : ofS b (n + 1) = ofS b n ∧ (wOf (b.take (n + 1))).2.1 = (wOf (b.take n)).2.1 := by
  have hn := (List.getElem?_eq_some_iff.1 hg).1
  have et : b.take (n + 1) = b.take n ++ [c] := by
    rw [List.take_add_one, hg]; rfl
  have ew : wOf (b.take (n + 1)) = wJoin (wOf (b.take n)) (1, 0, 1, 1, c + 1, 1103515245) := by
    rw [et, wOf_append, wOf_one hc]
    unfold wLetter; rw [if_neg h10]
  unfold ofS
  rw [ew]
  simp only [wJoin, Int.add_zero, if_true]
  refine ⟨?_, trivial⟩
  by_cases c0 : (wOf (b.take n)).2.1 = 0
  · rw [if_pos c0, if_pos c0, if_pos c0, if_pos c0]
  · rw [if_neg c0, if_neg c0, if_neg c0, if_neg c0, if_neg c0]
    rw [show (b.length : Int) - ((n + 1 : Nat) : Int) + (1 + (wOf (b.take n)).2.2.2.1) = b.length - n + (wOf (b.take n)).2.2.2.1 by omega]
theorem ofS_line {b : List Int} {n : Nat} (hg : b[n]? = some 10) : ofS b (n + 1) = ((b.length : Int), (wOf (b.take n)).2.1 + 1, (if (wOf (b.take n)).2.1 = 0 then (n : Int) else (wOf (b.take n)).2.2.1), (b.length : Int) - 1 - n, (wOf b).2.2.2.2) ∧ (wOf (b.take (n + 1))).2.1 = (wOf (b.take n)).2.1 + 1 := by
  have hn := (List.getElem?_eq_some_iff.1 hg).1
  have et : b.take (n + 1) = b.take n ++ [10] := by
    rw [List.take_add_one, hg]; rfl
  have ew : wOf (b.take (n + 1)) = wJoin (wOf (b.take n)) (1, 1, 0, 0, 11, 1103515245) := by
    rw [et, wOf_append, wOf_one (by decide)]; rfl
  have h0 := lines_nn (b.take n)
  have h1 := wOf_len (b.take n)
  rw [List.length_take, Nat.min_eq_left (by omega)] at h1
  unfold ofS
  rw [ew]
  simp only [wJoin]
  refine ⟨?_, trivial⟩
  rw [if_neg (show ¬ (wOf (b.take n)).2.1 + 1 = 0 by omega), if_neg (show ¬ (wOf (b.take n)).2.1 + 1 = 0 by omega), if_neg (show ¬ (1 : Int) = 0 by decide), h1]
  rw [show (b.length : Int) - ((n + 1 : Nat) : Int) + 0 = b.length - 1 - n by omega, Int.add_zero]

theorem weight_Of_spec {sl : Sl} {b : List (Ty.int .u8).T} (hb : ∀ c ∈ b, 0 ≤ (c : Int) ∧ (c : Int) < 256) (hl : b.length ≤ 1000000) (s : Sp w0 Ω w) (hv : ∀ w' Ω', Sp w0 (Ω' ++ Ω) w' → View (.int .u8) w' sl b) {K : WT → World → Prop} (h : ∀ w', Sp w0 Ω w' → K (wOf b) w') : C_weight_Of sl K w := by
  apply S_weight_Of
  unfold F_weight_Of
  have hlen := (hv _ [] s).len
  refine s.allocK fun a1 w1 s => digest_Of_spec hb hl s (fun w' Ω' s => hv _ (Ω' ++ [_]) (by rw [List.append_assoc]; exact s)) fun w2 s => s.allocK fun a3 w3 s => s.st0 0 rfl rfl rfl fun w4 s => ?_
  rw [hlen] at s ⊢
  refine loop_by (fun x => x.1) b.length (fun n x w => (wOf (b.take n)).2.1 ≤ n ∧ Sp w0 (cel a3 (cells yapi_Weight (ofS b n)) :: cel a1 [.int .i64 0, .int .i64 0, .int .i64 0, .int .i64 0, .int .u64 0, .int .u64 0] :: Ω) w) rfl ⟨Int.le_refl _, s⟩ ?_
  clear s
  rintro n ⟨_, _⟩ w5 hn rfl ⟨hL, s⟩ _
  dsimp only
  have h0 := lines_nn (b.take n)
  refine gd_dec (fun c => ?_) (fun c => ?_)
  · have hn' : n < b.length := by omega
    have hg : b[n]? = some b[n] := List.getElem?_eq_getElem hn'
    have hz := hb _ (List.getElem_mem hn')
    generalize b[n] = z at hg hz
    refine ⟨fun _ w => (wOf (b.take (n + 1))).2.1 ≤ ((n + 1 : Nat) : Int) ∧ Sp w0 (cel a3 (cells yapi_Weight (ofS b (n + 1))) :: cel a1 [.int .i64 0, .int .i64 0, .int .i64 0, .int .i64 0, .int .u64 0, .int .u64 0] :: Ω) w, ?_, ?_⟩
    · rw [← hlen]
      refine (hv _ [_, _] s).idx rfl hg rfl fun q hq => ⟨z, hq, gd_mk (fun c => ?_) (fun c => ?_)⟩
      · obtain ⟨e1, e2⟩ := ofS_other hg hz (by simpa using c)
        rw [e1, e2]
        exact ⟨by omega, s⟩
      · have ez : z = (10 : Int) := by simpa using c
        subst ez
        obtain ⟨e1, e2⟩ := ofS_line hg
        rw [e1, e2]
        refine ⟨fun _ w => Sp w0 (cel a3 (cells yapi_Weight ((b.length, (wOf (b.take n)).2.1, (if (wOf (b.take n)).2.1 = 0 then (n : Int) else (wOf (b.take n)).2.2.1), (ofS b n).2.2.2.1, (wOf b).2.2.2.2) : WT)) :: cel a1 [.int .i64 0, .int .i64 0, .int .i64 0, .int .i64 0, .int .u64 0, .int .u64 0] :: Ω) w, ?_, ?_⟩
        · refine s.ldi (x := (wOf (b.take n)).2.1) 0 1 rfl rfl (gd_eq (fun c => ?_) (fun c => ?_))
          · refine s.st 0 2 rfl rfl rfl fun w6 s => ?_
            rw [if_pos c]; exact s
          · rw [if_neg c]
            unfold ofS at s ⊢
            rw [if_neg c] at s
            exact s
        · clear s
          rintro ⟨⟩ w6 s _
          refine s.ldi (x := (wOf (b.take n)).2.1) 0 1 rfl rfl (arith_i64 (by omega) (by omega) (s.st 0 1 rfl rfl rfl fun w7 s => arith_i64 (by omega) (by omega) (arith_i64 (by omega) (by omega) (s.st 0 3 rfl rfl rfl fun w8 s => ⟨by omega, ?_⟩))))
          rw [hlen] at s
          exact s
    · clear s
      rintro ⟨⟩ w6 ⟨hL, s⟩ _
      exact arith_i64 (by omega) (by omega) (loop_nx hn' ⟨hL, s⟩)
  · have : n = b.length := by omega
    subst this
    rw [ofS_end] at s
    exact s.ld0 (ty := yapi_Weight) (x := wOf b) 0 rfl rfl (s.st0 1 rfl rfl rfl fun w6 s => s.ld0 (ty := yapi_Weight) (x := wOf b) 1 rfl rfl (h _ (s.drop 2)))

end Go.Proofs.YtcmncfglcjcmhaaGreat
