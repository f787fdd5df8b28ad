/- Texts that belong together, joined: Made, MadeB, AvlC, Deep, Bld, SplitC, BalA, Reach, ExpB, RefK, RefL, RefM, MapC, GarA, LawDE, BalB, BalC, GarB, BalD, BalE, BalH, BalF, BalI, BalJ, Byt. No conditions. -/
import Derived.Maps.RangeRun
import Derived.Lib.SlBytesConst
import Derived.Lib.ConvBytes
import Derived.Laws.AppendOwn
import Derived.Test.YtcmncfglcjcmhaaGreatGD
import Derived.Test.YtcmncfglcjcmhaaGreatGB
/- Texts side by side, read only. -/
set_option linter.unusedVariables false
set_option linter.unusedSimpArgs false
namespace Go.Proofs.YtcmncfglcjcmhaaGreat
open Go.Den

variable {w0 w : World} {Ω : List Ob} {j : Nat}

/-- many texts, each by its slice -/
def tvs (ts : List Sl) (vs : List (List Int)) : Ob :=
  ⟨true, fun B w => ts.length = vs.length ∧ ∀ (k : Nat) (s : Sl) (v : List Int), ts[k]? = some s → vs[k]? = some v → View (.int .u8) w s v ∧ s.len ≤ s.cap ∧ ∀ b, blk s b → B b,
    fun h f hB => ⟨h.1, fun k s v h1 h2 => ⟨(h.2 k s v h1 h2).1.fr f fun b hb => hB b ((h.2 k s v h1 h2).2.2 b hb), (h.2 k s v h1 h2).2⟩⟩⟩
theorem Sp.tvs_ {ts : List Sl} {vs : List (List Int)} (s : Sp w0 Ω w) (j : Nat) (h : Ω[j]? = some (tvs ts vs)) : ts.length = vs.length ∧ ∀ (k : Nat) (s : Sl) (v : List Int), ts[k]? = some s → vs[k]? = some v → View (.int .u8) w s v ∧ s.len ≤ s.cap := by
  obtain ⟨B, h, _⟩ := s.get j h
  exact ⟨h.1, fun k s v h1 h2 => ⟨(h.2 k s v h1 h2).1, (h.2 k s v h1 h2).2.1⟩⟩
theorem Sp.tvs0 (s : Sp w0 Ω w) : Sp w0 (tvs [] [] :: Ω) w :=
  s.push (B := fun _ => False) (.refl _ _) ⟨rfl, fun k s v h1 _ => by simp at h1⟩ (fun _ h => h.elim)
theorem Sp.tvs_add {ts : List Sl} {vs : List (List Int)} {sl : Sl} {v : List Int} (s : Sp w0 (own (.int .u8) sl v :: Ω) w) (j : Nat) (h : Ω[j]? = some (tvs ts vs)) : Sp w0 (tvs (ts ++ [sl]) (vs ++ [v]) :: Ω) w := by
  have s2 : Sp w0 (tvs ts vs :: own (.int .u8) sl v :: Ω) w := s.dup (j + 1) h rfl
  refine s2.fold 2 _ (Or.inl rfl) fun f hP _ => ?_
  have o1 := (hP 0 _ (by decide) rfl).1
  have o2 := (hP 1 _ (by decide) rfl).1
  refine ⟨by simp [o1.1], fun k s' v' h1 h2 => ?_⟩
  have hl := o1.1
  rcases Nat.lt_or_ge k ts.length with hk | hk
  · rw [List.getElem?_append_left hk] at h1
    rw [List.getElem?_append_left (by omega)] at h2
    obtain ⟨a, b, c⟩ := o1.2 k s' v' h1 h2
    exact ⟨a, b, fun x hx => ⟨0, by decide, by simp, c x hx⟩⟩
  · rw [List.getElem?_append_right hk] at h1
    rw [List.getElem?_append_right (by omega)] at h2
    have e : k - ts.length = 0 := by
      have := (List.getElem?_eq_some_iff.1 h1).1
      simp at this; omega
    rw [e] at h1
    rw [show k - vs.length = 0 by omega] at h2
    simp at h1 h2
    subst h1 h2
    exact ⟨o2.1.view, o2.1.cap, fun x hx => ⟨1, by decide, by simp, o2.2 x hx⟩⟩

end Go.Proofs.YtcmncfglcjcmhaaGreat

/- Build of law14: the texts that a script makes. The walks of its orders of evaluation are printed by wip/gen/walk14.py. -/
set_option linter.unusedVariables false
set_option linter.unusedSimpArgs false
namespace Go.Proofs.YtcmncfglcjcmhaaGreat
open Go.Den

variable {w0 w : World} {Ω : List Ob} {most : Int} {T : List ET} {i : Nat} {p : Addr}

abbrev StepT := Bool × Int × Int × Int
def sJoin (o : StepT) : Bool := o.1
def sLet (o : StepT) : Int := o.2.1
def sA (o : StepT) : Int := o.2.2.1
def sB (o : StepT) : Int := o.2.2.2
structure StepOK (o : StepT) : Prop where
  l : 0 ≤ sLet o ∧ sLet o < 256
  a : 0 ≤ sA o ∧ sA o < 256
  b : 0 ≤ sB o ∧ sB o < 256
def txAt (ts : List (List Int)) (n : Int) : List Int := ts.getD (n % (ts.length : Int)).toNat []
/-- what one step makes -/
def btStep (ts : List (List Int)) (o : StepT) : List (List Int) :=
  if sJoin o = false ∨ ts.length = 0 then ts ++ [[sLet o]]
  else if 1152921504606846976 < ((txAt ts (sA o)).length : Int) + (txAt ts (sB o)).length then ts
  else ts ++ [txAt ts (sA o) ++ txAt ts (sB o)]
def btF (ts : List (List Int)) : List StepT → List (List Int)
  | [] => ts
  | o :: ops => btF (btStep ts o) ops
/-- the texts of a script -/
def bt (ops : List StepT) : List (List Int) := btF [] (ops.take 90)
def clipT (t : List Int) : List Int := if (t.length : Int) ≤ 4096 then t else []
structure Fine (T : List ET) (ids : List Int) (ts : List (List Int)) : Prop where
  len : ids.length = ts.length
  nd : ∀ (k : Nat) (x : Int) (t : List Int), ids[k]? = some x → ts[k]? = some t → ∃ d, Nd T x t d
theorem Fine.ext {T' : List ET} {ids : List Int} {ts : List (List Int)} (f : Fine T ids ts) (h : T <+: T') : Fine T' ids ts :=
  ⟨f.len, fun k x t h1 h2 => by obtain ⟨d, n⟩ := f.nd k x t h1 h2; exact ⟨d, n.ext h⟩⟩
theorem Fine.snoc {ids : List Int} {ts : List (List Int)} {x d : Int} {t : List Int} (f : Fine T ids ts) (n : Nd T x t d) : Fine T (ids ++ [x]) (ts ++ [t]) := by
  have hl := f.len
  refine ⟨by simp [hl], fun k y u h1 h2 => ?_⟩
  rcases Nat.lt_or_ge k ids.length with hk | hk
  · rw [List.getElem?_append_left hk] at h1
    rw [List.getElem?_append_left (by omega)] at h2
    exact f.nd k y u h1 h2
  · rw [List.getElem?_append_right hk] at h1
    rw [List.getElem?_append_right (by omega)] at h2
    have e : k - ids.length = 0 := by
      have := (List.getElem?_eq_some_iff.1 h1).1
      simp at this; omega
    rw [e] at h1
    rw [show k - ts.length = 0 by omega] at h2
    simp at h1 h2
    subst h1 h2
    exact ⟨_, n⟩
def lensT (ts : List (List Int)) : List (Ty.int .i64).T := ts.map fun t => (t.length : Int)

end Go.Proofs.YtcmncfglcjcmhaaGreat

/- The greatest depths of lengths; the walks of AvlLeasts and AvlNil. -/
set_option linter.unusedVariables false
set_option linter.unusedSimpArgs false
namespace Go.Proofs.YtcmncfglcjcmhaaGreat
open Go.Den

variable {w0 w : World} {Ω : List Ob} {p : Addr} {most : Int} {T : List ET} {i : Nat}

theorem fibL_small {j : Nat} (h : (fibL j : Int) ≤ 1152921504606846976) : j ≤ 86 := by
  rcases Nat.lt_or_ge 86 j with h' | h'
  · have h1 := fibL_le (m := 87) (n := j) (by omega)
    have h2 := fibL_big
    omega
  · exact h'
theorem fibL_88 : fibL 88 ≤ 4611686018427387904 := by decide
/-- d is the greatest depth of a balanced text of n letters -/
def IsBound (n : Int) (d : Nat) : Prop := (d = 0 ∨ (fibL d : Int) ≤ n) ∧ n < fibL (d + 1) ∧ d ≤ 86
theorem IsBound.unique {n : Int} {d e : Nat} (hd : IsBound n d) (he : IsBound n e) : d = e := by
  rcases Nat.lt_trichotomy d e with h | h | h
  · have h1 := fibL_le (m := d + 1) (n := e) h
    rcases he.1 with h2 | h2
    · omega
    · have := hd.2.1; omega
  · exact h
  · have h1 := fibL_le (m := e + 1) (n := d) h
    rcases hd.1 with h2 | h2
    · omega
    · have := he.2.1; omega
theorem IsBound.le {n : Int} {d e : Nat} (hd : IsBound n d) (he : (fibL e : Int) ≤ n) : e ≤ d := by
  rcases Nat.lt_or_ge d e with h | h
  · have h1 := fibL_le (m := d + 1) (n := e) h
    have := hd.2.1; omega
  · exact h
theorem least_le {d : Nat} {n : Int} (hn : n ≤ 1152921504606846976) : least (d : Int) ≤ n ↔ (fibL d : Int) ≤ n := by
  unfold least
  rw [if_neg (by omega), show ((d : Int)).toNat = d by omega]
  split <;> omega
/-! ### Letters -/
theorem pLetter_res (g : Grow T) (hm : (T.length : Int) ≤ most) {b : Int} (hb : 0 ≤ b ∧ b < 256) : Res T most 1 (fun T' x => Nd T' x [b] 0) (pLetter T most b).1 (pLetter T most b).2 := by
  refine pAdd_res g hm (.letter g hb.1 hb.2) (fun i hi => ?_) (fun hn => ?_)
  · have hp := lkR_pos hi
    have hr := lkR_rule hi
    cases g.txt hp.1 hp.2 with
    | letter c _ _ e ht =>
      rw [e] at hr
      have hcb : c = b := congrArg (fun r : RT => r.2.1) hr
      subst hcb
      exact ⟨hp.1, hp.2, ht, by rw [e]; rfl, by rw [e]; rfl⟩
    | pair l r _ _ _ _ _ e _ => rw [e] at hr; simp [mkLetter, mkPair] at hr
    | power x k _ _ _ _ e _ => rw [e] at hr; simp [mkPower, mkLetter] at hr
  · refine ⟨by omega, by simp, ?_, by rw [eAt_last]; rfl, by rw [eAt_last]; rfl⟩
    unfold txt
    have := gt_last (acc := txts T) (t := tx1 (txts T) (mkLetter b).1)
    rw [txts_len] at this
    rw [txts_append, this]; rfl
theorem letter_nd {b : Int} (s : Sp w0 Ω w) (i : Nat) (hi : Ω[i]? = some (sto p most T)) (hb : 0 ≤ b ∧ b < 256) {K : Int × Value → World → Prop}
    (h : ∀ T' x w', Res T most 1 (fun T' x => Nd T' x [b] 0) T' x → Sp w0 (Ω.set i (sto p most T')) w' → K x w') : C_intern_Store_Letter (some p) b K w := by
  obtain ⟨_, _, _, hb0, hb1, hb2, hg⟩ := Sp.entry s i hi
  exact intern_Letter_sp s i hi hb fun w' s => h _ _ _ (pLetter_res hg hb2 hb) s

/-! ### The example -/
end Go.Proofs.YtcmncfglcjcmhaaGreat

/- Joined texts at any length: the walk of AvlDeep. -/
set_option linter.unusedVariables false
set_option linter.unusedSimpArgs false
namespace Go.Proofs.YtcmncfglcjcmhaaGreat
open Go.Den

variable {w0 w : World} {Ω : List Ob} {p : Addr} {most : Int} {T : List ET} {i : Nat}

theorem Nd0.deep (g : Grow T) {x : Int} {t : List Int} {d : Int} (n : Nd0 T x t d) : 0 ≤ d ∧ d ≤ 86 := by
  refine ⟨(n.len g).2, ?_⟩
  by_cases c : x = 0
  · subst c; have := n.nil.2; omega
  · have nd := n.nd c
    have h1 := nd.fib g _ rfl
    have h2 := (nd.bound g).2
    have h3 := fibL_small (j := d.toNat) (by omega)
    have := (n.len g).2
    omega

/-- some balanced text -/
def IsNd (T : List ET) (x : Int) : Prop := ∃ t d, Nd0 T x t d
theorem IsNd.ext {T' : List ET} {x : Int} (n : IsNd T x) (h : T <+: T') : IsNd T' x := by
  obtain ⟨t, d, n⟩ := n
  exact ⟨t, d, n.ext h⟩
theorem getN {xs : List Int} {x : Int} (h0 : 0 ≤ x) (h1 : x < xs.length) : ∃ (n : Nat) (y : Int), x = n ∧ xs[n]? = some y ∧ y ∈ xs := by
  have hn : x.toNat < xs.length := by omega
  exact ⟨x.toNat, xs[x.toNat], by omega, List.getElem?_eq_getElem hn, List.getElem_mem hn⟩

end Go.Proofs.YtcmncfglcjcmhaaGreat

/- Build of law14, walked. The walks of its orders of evaluation are printed by wip/gen/walk14.py. -/
set_option linter.unusedVariables false
set_option linter.unusedSimpArgs false
namespace Go.Proofs.YtcmncfglcjcmhaaGreat
open Go.Den

variable {w0 w : World} {Ω : List Ob} {most : Int} {T : List ET} {i : Nat} {p : Addr}

theorem btF_snoc (o : StepT) : ∀ (ops : List StepT) (ts : List (List Int)), btF ts (ops ++ [o]) = btStep (btF ts ops) o
  | [], ts => rfl
  | x :: ops, ts => btF_snoc o ops _
def btN (ops : List StepT) (n : Nat) : List (List Int) := btF [] (ops.take n)
theorem btN_succ {ops : List StepT} {n : Nat} (h : n < ops.length) : btN ops (n + 1) = btStep (btN ops n) ops[n] := by
  unfold btN
  rw [List.take_add_one, List.getElem?_eq_getElem h]
  exact btF_snoc _ _ _
theorem btStep_len (ts : List (List Int)) (o : StepT) : (btStep ts o).length ≤ ts.length + 1 := by
  unfold btStep
  split
  · simp
  · split
    · omega
    · simp
theorem btN_len (ops : List StepT) : ∀ n, (btN ops n).length ≤ n
  | 0 => Nat.le_refl _
  | n + 1 => by
    by_cases h : n < ops.length
    · rw [btN_succ h]
      have := btStep_len (btN ops n) ops[n]
      have := btN_len ops n
      omega
    · have : btN ops (n + 1) = btN ops n := by unfold btN; rw [List.take_of_length_le (by omega), List.take_of_length_le (by omega)]
      rw [this]
      have := btN_len ops n
      omega

theorem emodN {a : Int} {n : Nat} (hn : 1 ≤ n) (h0 : 0 ≤ a) : ∃ k : Nat, Int.tmod a (n : Int) = k ∧ k < n ∧ (a % (n : Int)).toNat = k := by
  rw [Int.tmod_eq_emod_of_nonneg h0]
  have h1 := Int.emod_nonneg a (show (n : Int) ≠ 0 by omega)
  have h2 := Int.emod_lt_of_pos a (show 0 < (n : Int) by omega)
  exact ⟨(a % (n : Int)).toNat, by omega, by omega, rfl⟩
theorem clip_snoc (ts : List (List Int)) (t : List Int) : (ts ++ [t]).map clipT = ts.map clipT ++ [clipT t] := by simp
theorem lens_snoc (ts : List (List Int)) (t : List Int) : lensT (ts ++ [t]) = lensT ts ++ [(t.length : Int)] := by simp [lensT]
theorem clip_le (t : List Int) : (clipT t).length ≤ 4096 := by
  unfold clipT
  split
  · omega
  · simp

end Go.Proofs.YtcmncfglcjcmhaaGreat

/- Section and Cut as a whole; what split answers where it refuses; ranges; parts of a text. -/
set_option linter.unusedVariables false
set_option linter.unusedSimpArgs false
namespace Go.Proofs.YtcmncfglcjcmhaaGreat
open Go.Den

variable {w0 w : World} {Ω : List Ob} {p : Addr} {most : Int} {T : List ET} {i : Nat}

/-! ### Ranges -/
theorem length_Range_spec {from_ n len : Int} (hl : 0 ≤ len ∧ len ≤ 1152921504606846976) {K : Value → World → Prop} (h1 : (0 ≤ from_ ∧ 0 ≤ n ∧ from_ + n ≤ len) → K .nilIface w) (h2 : ¬ (0 ≤ from_ ∧ 0 ≤ n ∧ from_ + n ≤ len) → K (errV 1) w) : C_length_Range from_ n len K w := by
  apply S_length_Range
  unfold F_length_Range
  refine ⟨fun x w' => w' = w ∧ (x.1 = true ↔ ¬ (0 ≤ from_ ∧ 0 ≤ n ∧ from_ + n ≤ len)), length_Valid_spec ?_, ?_⟩
  · rw [decide_eq_true hl]
    refine gd_f rfl (gd_dec (fun c => ⟨rfl, by simp; omega⟩) (fun c => gd_dec (fun c2 => ⟨rfl, by simp; omega⟩) (fun c2 => gd_dec (fun c3 => ⟨rfl, by simp; omega⟩) (fun c3 => arith_i64 (by omega) (by omega) ⟨rfl, ?_⟩))))
    rw [decide_eq_true_iff]; omega
  rintro ⟨b, _⟩ w1 ⟨rfl, hb⟩ _
  dsimp only at hb ⊢
  refine gd_mk (fun c => h2 (hb.1 c)) (fun c => h1 ?_)
  apply Classical.byContradiction
  intro hc
  rw [hb.2 hc] at c; cases c
/-! ### Refusals -/
/-- the error for an ID that is no balanced one -/
def BadId (T : List ET) (id n : Int) : Prop := (¬ (0 ≤ id ∧ id ≤ T.length) ∧ n = 1) ∨ ((0 ≤ id ∧ id ≤ T.length) ∧ (eAt T id).2.2.2 = false ∧ n = 4)
theorem split_Split_bad {id at_ n : Int} (s : Sp w0 Ω w) (i : Nat) (hi : Ω[i]? = some (sto p most T)) (hn : BadId T id n) {K : Int × Int × Value → World → Prop} (h : ∀ w', Sp w0 Ω w' → K (0, 0, errV n) w') : C_split_Split (some p) id at_ K w := by
  apply S_split_Split
  unfold F_split_Split
  exact split_check_bad s i hi hn fun w1 s => nilIfc_err (gd_t rfl (h _ s))
theorem split_Section_bad {id at_ m n : Int} (s : Sp w0 Ω w) (i : Nat) (hi : Ω[i]? = some (sto p most T)) (hn : BadId T id n) {K : Int × Value → World → Prop} (h : ∀ w', Sp w0 Ω w' → K (0, errV n) w') : C_split_Section (some p) id at_ m K w := by
  apply S_split_Section
  unfold F_split_Section
  exact split_check_bad s i hi hn fun w1 s => nilIfc_err (gd_t rfl (h _ s))
theorem split_check_nil {id : Int} {K : Int × Value → World → Prop} (h : K (0, errV 5) w) : C_split_check none id K w := by
  apply S_split_check
  unfold F_split_check
  exact avl_Balanced_nil (nilIfc_err (gd_t rfl h))
theorem split_Split_nil {id at_ : Int} {K : Int × Int × Value → World → Prop} (h : K (0, 0, errV 5) w) : C_split_Split none id at_ K w := by
  apply S_split_Split
  unfold F_split_Split
  exact split_check_nil (nilIfc_err (gd_t rfl h))
theorem split_Section_nil {id at_ m : Int} {K : Int × Value → World → Prop} (h : K (0, errV 5) w) : C_split_Section none id at_ m K w := by
  apply S_split_Section
  unfold F_split_Section
  exact split_check_nil (nilIfc_err (gd_t rfl h))
/-- an offset that the text does not have -/
theorem split_Split_off {x n : Int} {t : List Int} {d : Int} (s : Sp w0 Ω w) (i : Nat) (hi : Ω[i]? = some (sto p most T)) (nx : Nd0 T x t d) (hn : ¬ (0 ≤ n ∧ n ≤ t.length)) {K : Int × Int × Value → World → Prop}
    (h : ∀ w', Sp w0 Ω w' → K (0, 0, errV 1) w') : C_split_Split (some p) x n K w := by
  apply S_split_Split
  unfold F_split_Split
  obtain ⟨_, _, _, hb0, hb1, hb2, hg⟩ := Sp.entry s i hi
  have lx := nx.len hg
  refine split_check_e s i hi ⟨nx.pos, nx.le⟩ nx.even fun w1 s => nilIfc_nil (gd_f rfl (JoinP.inl (gd_dec (fun c => ?_) (fun c => ?_))))
  · intro _
    exact gd_t rfl (h _ s)
  · intro _
    exact gd_t (decide_eq_true (by dsimp only; omega)) (h _ s)

/-! ### Section and Cut -/
theorem split_Section_sp {x from_ n : Int} {t : List Int} {d : Int} (s : Sp w0 Ω w) (i : Nat) (hi : Ω[i]? = some (sto p most T)) (nx : Nd0 T x t d) {K : Int × Value → World → Prop}
    (h1 : (0 ≤ from_ ∧ 0 ≤ n ∧ from_ + n ≤ t.length) → ∀ T' r w', Res T most (14 * d).toNat (SecQ ((t.drop from_.toNat).take n.toNat) d) T' r → Sp w0 (Ω.set i (sto p most T')) w' → K r w')
    (h2 : ¬ (0 ≤ from_ ∧ 0 ≤ n ∧ from_ + n ≤ t.length) → ∀ w', Sp w0 Ω w' → K (0, errV 1) w') : C_split_Section (some p) x from_ n K w := by
  apply S_split_Section
  unfold F_split_Section
  obtain ⟨_, _, _, hb0, hb1, hb2, hg⟩ := Sp.entry s i hi
  have lx := nx.len hg
  have wlx := (hg.at_ nx.pos nx.le).1.len
  refine split_check_e s i hi ⟨nx.pos, nx.le⟩ nx.even fun w1 s => nilIfc_nil (gd_f rfl (length_Range_spec ⟨by dsimp only; omega, by dsimp only; omega⟩ (fun c => ?_) (fun c => ?_)))
  · refine nilIfc_nil (gd_f rfl (split_section_sp s i hi nx c.1 c.2.1 (by dsimp only at c; omega) fun T' r w' hr s => ?_))
    exact h1 (by dsimp only at c; omega) T' r w' hr s
  · exact nilIfc_err (gd_t rfl (h2 (by dsimp only at c; omega) _ s))

/-- the bounds of the parts of a text of length L -/
def bnd (ats : List Int) (L : Int) (k : Nat) : Int := if k = 0 then 0 else ats.getD (k - 1) L
theorem bnd_zero (ats : List Int) (L : Int) : bnd ats L 0 = 0 := rfl
theorem bnd_succ (ats : List Int) (L : Int) (k : Nat) : bnd ats L (k + 1) = ats.getD k L := rfl
theorem bnd_at {ats : List Int} {L : Int} {k : Nat} {y : Int} (h : ats[k]? = some y) : bnd ats L (k + 1) = y := by rw [bnd_succ, List.getD_eq_getElem?_getD, h]; rfl
theorem bnd_end (ats : List Int) (L : Int) : bnd ats L (ats.length + 1) = L := by rw [bnd_succ, List.getD_eq_getElem?_getD, List.getElem?_eq_none (Nat.le_refl _)]; rfl
def GoodN (ats : List Int) (L : Int) (n : Nat) : Prop := ∀ (k : Nat) (y : Int), k < n → ats[k]? = some y → bnd ats L k ≤ y ∧ y ≤ L
def Good (ats : List Int) (L : Int) : Prop := GoodN ats L ats.length
theorem GoodN.step {ats : List Int} {L : Int} {n : Nat} (g : GoodN ats L n) {y : Int} (hy : ats[n]? = some y) (h1 : bnd ats L n ≤ y) (h2 : y ≤ L) : GoodN ats L (n + 1) := fun k z hk hz => by
  by_cases c : k < n
  · exact g k z c hz
  · have : k = n := by omega
    subst this
    rw [hy] at hz; cases hz
    exact ⟨h1, h2⟩
theorem Good.no {ats : List Int} {L : Int} {n : Nat} {y : Int} (hy : ats[n]? = some y) (h : y < bnd ats L n ∨ L < y) : ¬ Good ats L := fun g => by
  have := g n y (List.getElem?_eq_some_iff.1 hy).1 hy
  omega
theorem Good.mono {ats : List Int} {L : Int} (g : Good ats L) (hL : 0 ≤ L) : ∀ k, k ≤ ats.length → 0 ≤ bnd ats L k ∧ bnd ats L k ≤ L ∧ bnd ats L k ≤ bnd ats L (k + 1) := by
  intro k
  induction k with
  | zero =>
    intro _
    rw [bnd_zero]
    refine ⟨Int.le_refl _, hL, ?_⟩
    by_cases c : 0 < ats.length
    · have hy := List.getElem?_eq_getElem c
      rw [bnd_at hy]
      exact (g 0 _ c hy).1
    · have : ats = [] := List.eq_nil_of_length_eq_zero (by omega)
      subst this
      exact hL
  | succ k ih =>
    intro hk
    have i1 := ih (by omega)
    have hy := List.getElem?_eq_getElem (show k < ats.length by omega)
    have g1 := g k _ (by omega) hy
    rw [← bnd_at (L := L) hy] at g1
    refine ⟨by omega, g1.2, ?_⟩
    by_cases c : k + 1 < ats.length
    · have hy2 := List.getElem?_eq_getElem c
      have g2 := g (k + 1) _ c hy2
      rw [← bnd_at (L := L) hy2] at g2
      exact g2.1
    · rw [show k + 1 = ats.length by omega, bnd_end, ← show k + 1 = ats.length by omega]
      exact g1.2
/-- the parts of a text -/
def cutP (t : List Int) (ats : List Int) (k : Nat) : List Int := (t.drop (bnd ats t.length k).toNat).take (bnd ats t.length (k + 1) - bnd ats t.length k).toNat
def CutQ (T : List ET) (t : List Int) (ats : List Int) (d : Int) (n : Nat) (ps : List Int) : Prop := ps.length = n ∧ ∀ (k : Nat) (y : Int), ps[k]? = some y → ∃ e, Nd0 T y (cutP t ats k) e ∧ e ≤ d
theorem CutQ.ext {T' : List ET} {t ats : List Int} {d : Int} {n : Nat} {ps : List Int} (q : CutQ T t ats d n ps) (h : T <+: T') : CutQ T' t ats d n ps :=
  ⟨q.1, fun k y hk => by obtain ⟨e, a, b⟩ := q.2 k y hk; exact ⟨e, a.ext h, b⟩⟩
theorem CutQ.snoc {t ats : List Int} {d e y : Int} {n : Nat} {ps : List Int} (q : CutQ T t ats d n ps) (hn : Nd0 T y (cutP t ats n) e) (he : e ≤ d) : CutQ T t ats d (n + 1) (ps ++ [y]) := by
  have hl := q.1
  refine ⟨by simp [hl], fun k z hk => ?_⟩
  rcases Nat.lt_or_ge k ps.length with c | c
  · rw [List.getElem?_append_left c] at hk
    exact q.2 k z hk
  · rw [List.getElem?_append_right c] at hk
    have e0 : k - ps.length = 0 := by
      have := (List.getElem?_eq_some_iff.1 hk).1
      simp at this; omega
    rw [e0] at hk
    simp at hk
    subst hk
    rw [show k = n by omega]
    exact ⟨e, hn, he⟩

end Go.Proofs.YtcmncfglcjcmhaaGreat

/- law15: texts of letters as balanced halves; the bounds Bound and Log. -/
set_option linter.unusedVariables false
set_option linter.unusedSimpArgs false
namespace Go.Proofs.YtcmncfglcjcmhaaGreat
open Go.Den

variable {w0 w : World} {Ω : List Ob} {most : Int} {T : List ET} {i j : Nat} {p : Addr}

/-! ### How deep the halves are -/
def lg (n : Nat) : Nat := if h : n ≤ 1 then 0 else 1 + lg ((n + 1) / 2)
termination_by n
decreasing_by omega
theorem lg_one {n : Nat} (h : n ≤ 1) : lg n = 0 := by rw [lg, dif_pos h]
theorem lg_two {n : Nat} (h : 2 ≤ n) : lg n = 1 + lg ((n + 1) / 2) := by rw [lg, dif_neg (by omega)]
theorem lg_succ (n : Nat) : lg n ≤ lg (n + 1) ∧ (1 ≤ n → lg (n + 1) ≤ lg n + 1) := by
  induction n using Nat.strongRecOn with
  | ind n ih =>
    by_cases c : n ≤ 1
    · rw [lg_one c]
      refine ⟨Nat.zero_le _, fun h => ?_⟩
      have : n = 1 := by omega
      subst this
      rw [lg_two (by omega), lg_one (by omega)]
      decide
    · rw [lg_two (n := n) (by omega), lg_two (n := n + 1) (by omega)]
      have h := ih ((n + 1) / 2) (by omega)
      by_cases e : (n + 1 + 1) / 2 = (n + 1) / 2
      · rw [e]; omega
      · have e2 : (n + 1 + 1) / 2 = (n + 1) / 2 + 1 := by omega
        rw [e2]
        have := h.2 (by omega)
        omega
theorem lg_half {n : Nat} (h : 2 ≤ n) : lg n = 1 + max (lg (n / 2)) (lg (n - n / 2)) ∧ lg (n / 2) ≤ lg (n - n / 2) + 1 ∧ lg (n - n / 2) ≤ lg (n / 2) + 1 := by
  have h1 := lg_succ (n / 2)
  rw [lg_two h]
  by_cases e : n - n / 2 = n / 2
  · rw [show (n + 1) / 2 = n / 2 by omega, e]; omega
  · have e2 : n - n / 2 = n / 2 + 1 := by omega
    rw [show (n + 1) / 2 = n / 2 + 1 by omega, e2]
    have := h1.2 (by omega)
    omega

/-! ### text -/
theorem balance_text_sp : ∀ (n : Nat) {xs : List Int} {sl : Sl} {w0 w : World} {Ω : List Ob} {T : List ET}, xs.length = n → 1 ≤ n → n ≤ 65536 → (∀ c ∈ xs, 0 ≤ c ∧ c < 256) → Sp w0 Ω w → ∀ (i : Nat), Ω[i]? = some (sto p most T) →
    (∀ w' T', Sp w0 (Ω.set i (sto p most T')) w' → View (.int .u8) w' sl xs) → sl.len ≤ sl.cap → ∀ {K : Int × Value → World → Prop},
    (∀ T' x w', Res T most (2 * n - 1) (fun T' x => Nd T' x xs (lg n)) T' x → Sp w0 (Ω.set i (sto p most T')) w' → K x w') → C_balance_text (some p) sl K w := by
  intro n
  induction n using Nat.strongRecOn with
  | ind n ih =>
    intro xs sl w0 w Ω T hn h1 h2 hb s i hi hv hc K h
    obtain ⟨_, _, _, hb0, hb1, hb2, hg⟩ := Sp.entry s i hi
    have s0 : Sp w0 (Ω.set i (sto p most T)) w := by rw [setSame hi]; exact s
    have hl := (hv _ T s0).len
    apply S_balance_text
    unfold F_balance_text
    refine gd_eq (fun c => ?_) (fun c => ?_)
    · have e1 : n = 1 := by omega
      subst e1
      obtain ⟨x, rfl⟩ : ∃ x, xs = [x] := by
        match xs, hn with
        | [x], _ => exact ⟨x, rfl⟩
      refine (hv _ T s0).idx (n := 0) rfl rfl rfl fun q hq => ⟨x, hq, letter_nd s i hi (hb x (by simp)) fun T' r w' hr s => h T' r w' (hr.mono (by omega) fun y hy => ?_) s⟩
      rw [lg_one (Nat.le_refl _)]
      exact hy
    · have hn2 : 2 ≤ n := by omega
      have hq : Int.tdiv (sl.len : Int) 2 = ((n / 2 : Nat) : Int) := by rw [Int.tdiv_eq_ediv_of_nonneg (by omega)]; omega
      refine ⟨by decide, arith_i64 (by omega) (by omega) ?_⟩
      rw [hq]
      have lgn := lg_half hn2
      refine View.part (ty := .int .u8) (xs := xs) (l := 0) (h := n / 2) hl (Or.inl ⟨rfl, rfl⟩) (Or.inr rfl) (by omega) (by omega) hc fun s5 v5 c5 => ?_
      rw [List.drop_zero] at v5
      refine ih (n / 2) (by omega) (xs := xs.take (n / 2)) (by rw [List.length_take]; omega) (by omega) (by omega) (fun c hc => hb c (List.mem_of_mem_take hc)) s i hi (fun w' T' s => v5 _ (hv _ _ s)) c5 fun T1 x1 w1 r1 s => ?_
      rcases r1.out with ⟨e1, n1⟩ | ⟨rfl, hf⟩
      rotate_left
      · exact nilIfc_err (gd_t rfl (h T1 _ w1 (by have := r1.fail (Q2 := fun T' x => Nd T' x xs (lg n)) (N2 := 2 * (n - n / 2) - 1 + 1) hf; rwa [show 2 * (n / 2) - 1 + (2 * (n - n / 2) - 1 + 1) = 2 * n - 1 by omega] at this) s))
      obtain ⟨x1, v1⟩ := x1
      dsimp only at e1 n1 ⊢
      subst e1
      refine nilIfc_nil (gd_f rfl ⟨by decide, arith_i64 (by omega) (by omega) ?_⟩)
      refine View.part (ty := .int .u8) (xs := xs) (l := n / 2) (h := n) hl (Or.inr rfl) (Or.inl ⟨rfl, hn.symm⟩) (by omega) (by omega) hc fun s9 v9 c9 => ?_
      rw [← hn, List.take_length, hn] at v9
      refine ih (n - n / 2) (by omega) (xs := xs.drop (n / 2)) (by rw [List.length_drop]; omega) (by omega) (by omega) (fun c hc => hb c (List.mem_of_mem_drop hc)) s i (setGet hi) (fun w' T' s => v9 _ (hv _ T' (by rwa [List.set_set] at s))) c9 fun T2 x2 w2 r2 s => ?_
      rw [List.set_set] at s
      have r12 := r1.andThen r2
      rcases r2.out with ⟨e2, n2⟩ | ⟨rfl, hf⟩
      rotate_left
      · rcases r12.out with ⟨e, _⟩ | ⟨_, hf'⟩
        · cases e
        exact nilIfc_err (gd_t rfl (h T2 _ w2 (by have := r12.fail (Q2 := fun T' x => Nd T' x xs (lg n)) (N2 := 1) hf'; rwa [show 2 * (n / 2) - 1 + (2 * (n - n / 2) - 1) + 1 = 2 * n - 1 by omega] at this) s))
      obtain ⟨x2, v2⟩ := x2
      dsimp only at e2 n2 ⊢
      subst e2
      refine nilIfc_nil (gd_f rfl ?_)
      refine pair_nd s i (setGet hi) (n1.ext r2.ext) n2 (by omega) (by omega) (by rw [List.length_take, List.length_drop]; omega) fun T3 x3 w3 r3 s => ?_
      rw [List.set_set] at s
      refine h T3 _ w3 ?_ s
      have r123 := r12.andThen r3
      rw [show 2 * (n / 2) - 1 + (2 * (n - n / 2) - 1) + 1 = 2 * n - 1 by omega] at r123
      refine r123.mono (Nat.le_refl _) fun y hy => ?_
      rw [List.take_append_drop] at hy
      rw [lgn.1, show ((1 + max (lg (n / 2)) (lg (n - n / 2)) : Nat) : Int) = 1 + max (lg (n / 2) : Int) (lg (n - n / 2) : Int) by omega]
      exact hy

/-- what Text returns -/
def TextQ (xs : List Int) : List ET → Int → Prop := fun T' x => ∃ d, Nd0 T' x xs d
theorem balance_Text_sp {xs : List Int} {sl : Sl} (hn : xs.length ≤ 65536) (hb : ∀ c ∈ xs, 0 ≤ c ∧ c < 256) (s : Sp w0 Ω w) (i : Nat) (hi : Ω[i]? = some (sto p most T))
    (hv : ∀ w' T', Sp w0 (Ω.set i (sto p most T')) w' → View (.int .u8) w' sl xs) (hc : sl.len ≤ sl.cap) {K : Int × Value → World → Prop}
    (h : ∀ T' x w', Res T most (2 * xs.length) (TextQ xs) T' x → Sp w0 (Ω.set i (sto p most T')) w' → K x w') : C_balance_Text (some p) sl K w := by
  apply S_balance_Text
  unfold F_balance_Text
  obtain ⟨_, _, _, hb0, hb1, hb2, hg⟩ := Sp.entry s i hi
  have s0 : Sp w0 (Ω.set i (sto p most T)) w := by rw [setSame hi]; exact s
  have hl := (hv _ T s0).len
  refine gd_f rfl (gd_f (decide_eq_false (by omega)) (gd_eq (fun c => ?_) (fun c => ?_)))
  · have : xs = [] := List.eq_nil_of_length_eq_zero (by omega)
    subst this
    exact h T _ w (.same hg hb2 ⟨0, Nd0.zero⟩) s0
  · exact balance_text_sp xs.length rfl (by omega) hn hb s i hi hv hc fun T' x w' r s => h T' x w' (r.mono (by omega) fun y hy => ⟨_, hy.nd0⟩) s
theorem balance_Text_large {sl : Sl} (hn : 65536 < (sl.len : Int)) {K : Int × Value → World → Prop} (h : K (0, errV 9) w) : C_balance_Text (some p) sl K w := by
  apply S_balance_Text
  unfold F_balance_Text
  exact gd_f rfl (gd_t (decide_eq_true hn) h)
theorem balance_Text_nil {sl : Sl} {K : Int × Value → World → Prop} (h : K (0, errV 5) w) : C_balance_Text none sl K w := by
  apply S_balance_Text
  unfold F_balance_Text
  exact gd_t rfl h

/-! ### Bounds -/
def log2 (n : Nat) : Nat := if h : n ≤ 1 then 0 else 1 + log2 (n / 2)
termination_by n
decreasing_by omega
theorem log2_small {n : Nat} (h : n ≤ 1) : log2 n = 0 := by rw [log2, dif_pos h]
theorem log2_step {n : Nat} (h : 2 ≤ n) : log2 n = 1 + log2 (n / 2) := by rw [log2, dif_neg (by omega)]
theorem log2_lt : ∀ (m n : Nat), n < 2 ^ m → log2 n ≤ m := by
  intro m
  induction m with
  | zero => intro n h; rw [log2_small (by omega)]; exact Nat.zero_le _
  | succ m ih =>
    intro n h
    by_cases c : n ≤ 1
    · rw [log2_small c]; exact Nat.zero_le _
    · rw [log2_step (by omega)]
      have := ih (n / 2) (by rw [Nat.pow_succ] at h; omega)
      omega
end Go.Proofs.YtcmncfglcjcmhaaGreat

/- What collect's Reach returns: the list of what the roots reach, in order. -/
set_option linter.unusedVariables false
set_option linter.unusedSimpArgs false
namespace Go.Proofs.YtcmncfglcjcmhaaGreat
open Go.Den

variable {w0 w : World} {Ω : List Ob} {most : Int} {T : List ET} {i : Nat} {p : Addr}

theorem collect_known_sp {id : Int} (s : Sp w0 Ω w) (i : Nat) (hi : Ω[i]? = some (sto p most T)) {K : Bool → World → Prop} (h : K (known T id) w) : C_collect_known (some p) id K w := by
  apply S_collect_known
  unfold F_collect_known
  refine gd_dec (fun h1 => intern_Len_sp s i hi ?_) (fun h1 => ?_)
  · have : decide (id ≤ (T.length : Int)) = known T id := by rw [known]; exact decide_eq_decide.2 (by omega)
    rw [this]; exact h
  · have : false = known T id := by simp [known]; omega
    rw [this]; exact h

/-- what a visit leaves -/
def vis (ids : List Int) (x : Int) : List Int := if x ∈ (0 : Int) :: ids then ids else ids ++ [x]
def St4 (a3 a1 r : Nat) (sl : Sl) (ids : List Int) (Ω : List Ob) : List Ob :=
  cel a3 [.map (some r)] :: cel a1 [.slice sl.a sl.len sl.cap] :: own (.int .i64) sl ids :: mp (.int .i64) .bool r (seenE ((0 : Int) :: ids)) :: Ω
theorem collect_visit_sp {a3 a1 r : Nat} {sl : Sl} {ids : List Int} {x : Int} (s : Sp w0 (St4 a3 a1 r sl ids Ω) w) (hN : ids.length ≤ 1000000000) {K : Unit → World → Prop}
    (h : ∀ sl' w', Sp w0 (St4 a3 a1 r sl' (vis ids x) Ω) w' → K () w') : C_collect_Reach_1 x ⟨a3, 0, none⟩ ⟨a1, 0, none⟩ K w := by
  apply S_collect_Reach_1
  unfold F_collect_Reach_1
  unfold St4 at s
  refine s.ldm0 (x := some r) 0 rfl rfl ⟨_, lk1_run (by decide) mapIB eqID (by simp) zeroIB (s.mp_ 3 rfl) x, ?_⟩
  rw [lk_seen]
  by_cases hm : x ∈ (0 : Int) :: ids
  · rw [if_pos hm]
    have hv : vis ids x = ids := if_pos hm
    rw [hv] at h
    exact gd_f rfl (h sl w s)
  · rw [if_neg hm]
    have hv : vis ids x = ids ++ [x] := if_neg hm
    rw [hv] at h
    refine gd_t rfl (s.ldm0 (x := some r) 0 rfl rfl (s.upNew 3 rfl (by decide) mapIB eqID (by simp) x true (by rw [lk_seen, if_neg hm]) fun w1 s => s.lds0 (x := sl) 1 rfl rfl ?_))
    refine s.allocK fun a5 w2 s => s.app 3 rfl ((s.lit (ty := .int .i64) 0 rfl [x] 1 rfl rfl).view 0 rfl) (by simp only [List.length_cons, List.length_nil]; omega) fun s6 w3 s => s.st0 2 rfl rfl rfl fun w4 s => h s6 _ ?_
    have s' := s.pop
    unfold St4
    rw [show ((0 : Int) :: (ids ++ [x])) = ((0 : Int) :: ids) ++ [x] from rfl, seenE_append]
    exact s'

/-- what is known of the list, while it grows -/
structure Vis (T : List ET) (S ids : List Int) : Prop where
  nodup : ids.Nodup
  rch : ∀ y ∈ ids, Rch T S y
theorem Vis.step {S ids : List Int} {x : Int} (v : Vis T S ids) (hx : x ≠ 0 → Rch T S x) : Vis T S (vis ids x) ∧ ids <+: vis ids x ∧ (x ≠ 0 → x ∈ vis ids x) := by
  unfold vis
  by_cases hm : x ∈ (0 : Int) :: ids
  · rw [if_pos hm]
    refine ⟨v, List.prefix_refl _, fun h => ?_⟩
    rcases List.mem_cons.1 hm with h' | h'
    · exact absurd h' h
    · exact h'
  · rw [if_neg hm]
    have h0 : x ≠ 0 := fun e => hm (by rw [e]; simp)
    have hn : x ∉ ids := fun e => hm (List.mem_cons_of_mem _ e)
    refine ⟨⟨?_, fun y hy => ?_⟩, List.prefix_append _ _, fun _ => by simp⟩
    · rw [List.nodup_append]
      exact ⟨v.nodup, by simp, fun a ha b hb => by simp at hb; subst hb; exact fun e => hn (e ▸ ha)⟩
    · rcases List.mem_append.1 hy with h | h
      · exact v.rch y h
      · simp at h; subst h; exact hx h0
theorem Vis.bound {S ids : List Int} (g : Grow T) (hS : ∀ x ∈ S, 0 ≤ x ∧ x ≤ (T.length : Int)) (v : Vis T S ids) : (∀ y ∈ ids, 1 ≤ y ∧ y ≤ (T.length : Int)) ∧ ids.length ≤ T.length := by
  have h : ∀ y ∈ ids, 1 ≤ y ∧ y ≤ (T.length : Int) := fun y hy => (v.rch y hy).bound g hS
  exact ⟨h, nodup_bound v.nodup h⟩

theorem Rch.mono {S S' : List Int} (h : ∀ x ∈ S, x ∈ S') {x : Int} (r : Rch T S x) : Rch T S' x := by
  induction r with
  | root h1 h2 => exact .root (h _ h1) h2
  | ref _ h2 ih => exact .ref ih h2

theorem collect_Reach_sp {rsl : Sl} {S : List Int} (s : Sp w0 Ω w) (i : Nat) (hi : Ω[i]? = some (sto p most T)) (hv : ∀ w', Sp w0 Ω w' → View (.int .i64) w' rsl S) (hSN : S.length ≤ 1000000000) {K : Sl × Value → World → Prop}
    (h : (∀ x ∈ S, 0 ≤ x ∧ x ≤ (T.length : Int)) → ∀ sl w', Sp w0 (own (.int .i64) sl (rlist T S) :: Ω) w' → K (sl, .nilIface) w')
    (hbad : ¬ (∀ x ∈ S, 0 ≤ x ∧ x ≤ (T.length : Int)) → ∀ w', Sp w0 Ω w' → K (⟨none, 0, 0⟩, errV 1) w') : C_collect_Reach (some p) rsl K w := by
  apply S_collect_Reach
  unfold F_collect_Reach
  obtain ⟨_, _, _, hb0, hb1, hb2, hg⟩ := Sp.entry s i hi
  have hlen := (hv _ s).len
  refine gd_f rfl (s.allocK fun a1 w1 s => s.allocMap (.int .i64) .bool fun r w2 s => s.upNew 0 rfl (by decide) mapIB eqID (by simp) (0 : Int) true rfl fun w3 s => s.allocK fun a3 w4 s => s.st0 0 rfl rfl rfl fun w5 s => ?_)
  have s : Sp w0 (St4 a3 a1 r ⟨none, 0, 0⟩ [] Ω) w5 := (s.nil (.int .i64)).pick [1, 3, 0, 2] 4 rfl (by decide)
  refine loop_by (fun x => x.1) S.length (fun n _ w => (∀ x ∈ S.take n, 0 ≤ x ∧ x ≤ (T.length : Int)) ∧ ∃ sl ids, Vis T (S.take n) ids ∧ (∀ x ∈ S.take n, x ≠ 0 → x ∈ ids) ∧ Sp w0 (St4 a3 a1 r sl ids Ω) w) rfl ⟨by simp, ⟨none, 0, 0⟩, [], ⟨by simp, by simp⟩, by simp, s⟩ ?_
  rintro n ⟨x, _⟩ w6 hn hx ⟨hkn, sl, ids, hvis, hin, s⟩ _
  dsimp only at hx ⊢
  subst hx
  have hvb := hvis.bound hg hkn
  refine gd_dec (fun hlt => ?_) (fun hge => ?_)
  · have hn' : n < S.length := by omega
    have hget := List.getElem?_eq_getElem hn'
    have htk : S.take (n + 1) = S.take n ++ [S[n]] := by rw [List.take_add_one, hget]; rfl
    have hmem := List.getElem_mem hn'
    generalize S[n] = z at hget htk hmem
    refine (hv _ (s.drop 4)).idx rfl hget rfl fun q hq => ⟨z, hq, collect_known_sp s (i + 4) hi ?_⟩
    by_cases hz : 0 ≤ z ∧ z ≤ (T.length : Int)
    · rw [show known T z = true from decide_eq_true hz]
      refine gd_f rfl (collect_visit_sp s (by omega) fun sl' w7 s => arith_i64 (by omega) (by omega) (loop_nx hn' ?_))
      have v2 : Vis T (S.take (n + 1)) ids := ⟨hvis.nodup, fun y hy => (hvis.rch y hy).mono fun u hu => by rw [htk]; exact List.mem_append_left _ hu⟩
      obtain ⟨v3, v4, v5⟩ := v2.step (x := z) fun h0 => .root (by rw [htk]; simp) h0
      refine ⟨fun u hu => ?_, sl', vis ids z, v3, fun u hu h0 => ?_, s⟩
      · rw [htk] at hu
        rcases List.mem_append.1 hu with h | h
        · exact hkn u h
        · simp at h; subst h; exact hz
      · rw [htk] at hu
        rcases List.mem_append.1 hu with h | h
        · exact v4.subset (hin u h h0)
        · simp at h; subst h; exact v5 h0
    · rw [show known T z = false from decide_eq_false hz]
      exact gd_t rfl (hbad (fun h => hz (h z hmem)) _ (s.drop 4))
  have hn' : n = S.length := by omega
  subst hn'
  rw [List.take_length] at hkn hvis hin
  refine ⟨fun x w => ∃ (sl : Sl) (ids : List Int) (k : Nat), x.1 = (k : Int) ∧ k ≤ ids.length ∧ Vis T S ids ∧ (∀ x ∈ S, x ≠ 0 → x ∈ ids) ∧ (∀ j, j < k → ∀ y : Int, ids[j]? = some y → ∀ z ∈ refs (eAt T y).1, z ∈ ids) ∧ Sp w0 (St4 a3 a1 r sl ids Ω) w,
    fun x _ => ((T.length : Int) - x.1).toNat, ⟨sl, ids, 0, rfl, Nat.zero_le _, hvis, hin, fun j hj => by omega, s⟩, ?_⟩
  clear hvb hvis hin
  rintro ⟨x, _⟩ w7 ⟨sl, ids, k, hx, hk, hvis, hin, hcl, s⟩ _
  dsimp only at hx ⊢
  subst hx
  have hvb := hvis.bound hg hkn
  have hlen2 := (s.view 2 rfl).len
  refine s.lds0 (x := sl) 1 rfl rfl (gd_dec (fun hlt => ?_) (fun hge => ?_))
  · have hk' : k < ids.length := by omega
    obtain ⟨y, hy⟩ : ∃ y : Int, ids[k]? = some y := ⟨_, List.getElem?_eq_getElem hk'⟩
    have hyb := hvb.1 y (List.mem_of_getElem? hy)
    refine s.lds0 (x := sl) 1 rfl rfl ((s.view 2 rfl).idx rfl hy rfl fun q hq => ⟨y, hq, intern_Rule_k s (i + 4) hi hyb fun w8 s => s.allocK fun a18 w9 s => s.st0 0 rfl rfl rfl fun w10 s => nilIfc_nil (gd_f rfl (s.ld0 (ty := yapi_Rule) (x := (eAt T y).1) 0 rfl rfl (rule_Refs_spec s fun rl w11 s => ?_)))⟩)
    have hrl := refs_len (eAt T y).1
    have s : Sp w0 (St4 a3 a1 r sl ids (own (.int .i64) rl (refs (eAt T y).1) :: Ω)) w11 := s.pick [2, 3, 4, 5, 0] 6 rfl (by decide)
    refine loop_by (fun x => x.1) (refs (eAt T y).1).length (fun n _ w => ∃ sl' ids', Vis T S ids' ∧ ids <+: ids' ∧ (∀ j, j < n → ∀ z : Int, (refs (eAt T y).1)[j]? = some z → z ∈ ids') ∧
      Sp w0 (St4 a3 a1 r sl' ids' (own (.int .i64) rl (refs (eAt T y).1) :: Ω)) w) rfl ⟨sl, ids, hvis, List.prefix_refl _, fun j hj => by omega, s⟩ ?_
    rintro n ⟨x, _⟩ w12 hn hx ⟨sl', ids', hvis', hpre, hr, s⟩ _
    dsimp only at hx ⊢
    subst hx
    have hvb' := hvis'.bound hg hkn
    have hrlen := (s.view 4 rfl).len
    refine gd_dec (fun hlt2 => ?_) (fun hge2 => ?_)
    · have hn' : n < (refs (eAt T y).1).length := by omega
      obtain ⟨z, hz⟩ : ∃ z : Int, (refs (eAt T y).1)[n]? = some z := ⟨_, List.getElem?_eq_getElem hn'⟩
      have hzm := List.mem_of_getElem? hz
      have hzb := refs_in hg hyb.1 hyb.2 hzm
      refine (s.view 4 rfl).idx rfl hz rfl fun q hq => ⟨z, hq, collect_visit_sp s (by omega) fun sl3 w13 s => arith_i64 (by omega) (by omega) (loop_nx hn' ?_)⟩
      obtain ⟨v3, v4, v5⟩ := hvis'.step (x := z) fun _ => .ref (hvis.rch y (List.mem_of_getElem? hy)) hzm
      refine ⟨sl3, vis ids' z, v3, hpre.trans v4, fun j hj u hu => ?_, s⟩
      by_cases hjn : j < n
      · exact v4.subset (hr j hjn u hu)
      · have : j = n := by omega
        subst this
        rw [hz] at hu; cases hu; exact v5 (by omega)
    · refine arith_i64 (by omega) (by omega) ⟨⟨sl', ids', k + 1, rfl, ?_, hvis', fun u hu h0 => hpre.subset (hin u hu h0), fun j hj u hu z hz => ?_, s.pick [0, 1, 2, 3] 5 rfl (by decide)⟩, by omega⟩
      · have := hpre.length_le; omega
      · have hju : ids[j]? = some u := by
          obtain ⟨t, rfl⟩ := hpre
          rwa [List.getElem?_append_left (by omega)] at hu
        by_cases hjk : j < k
        · exact hpre.subset (hcl j hjk u hju z hz)
        · have : j = k := by omega
          subst this
          rw [hy] at hju
          cases hju
          obtain ⟨j2, hj2⟩ := List.getElem?_of_mem hz
          exact hr j2 (by have := (List.getElem?_eq_some_iff.1 hj2).1; omega) z hj2
  · refine s.lds0 (x := sl) 1 rfl rfl (slices_Sort_sp s 2 rfl (by omega) fun w8 s => s.lds0 (x := sl) 1 rfl rfl ?_)
    have hmem : ∀ x : Int, x ∈ ids ↔ Rch T S x := fun x => by
      refine ⟨fun hx => hvis.rch x hx, fun hx => ?_⟩
      induction hx with
      | root h1 h2 => exact hin _ h1 h2
      | ref _ h2 ih =>
        obtain ⟨j, hj⟩ := List.getElem?_of_mem ih
        exact hcl j (by have := (List.getElem?_eq_some_iff.1 hj).1; omega) _ hj _ h2
    have s' : Sp w0 (cel a3 [.map (some r)] :: cel a1 [.slice sl.a sl.len sl.cap] :: own (.int .i64) sl (srt ids) :: mp (.int .i64) .bool r (seenE ((0 : Int) :: ids)) :: Ω) w8 := s
    rw [srt_rlist hg hkn hvis.nodup hmem] at s'
    exact h hkn sl _ (s'.pick [2] 4 rfl (by decide))

end Go.Proofs.YtcmncfglcjcmhaaGreat

/- What the specification's Reached and Export compute, and the walk of InternExports. -/
set_option linter.unusedVariables false
set_option linter.unusedSimpArgs false
namespace Go.Proofs.YtcmncfglcjcmhaaGreat
open Go.Den

variable {w0 w : World} {Ω : List Ob} {most : Int} {T : List ET} {j : Nat}  {p : Addr}

theorem refs_iff (g : Grow T) {y x : Int} (h1 : 1 ≤ y) (h2 : y ≤ T.length) (hx : 1 ≤ x) : x ∈ refs (eAt T y).1 ↔ x = (eAt T y).1.2.2.1 ∨ x = (eAt T y).1.2.2.2.1 := by
  cases g.shape h1 h2 with
  | letter b _ _ e => rw [e]; simp [refs, mkLetter]; omega
  | pair l r _ _ _ _ _ e => rw [e]; simp [refs, mkPair]
  | power a k _ _ _ _ e => rw [e]; simp [refs, mkPower]; omega
theorem Rch.iff {S : List Int} (g : Grow T) (hS : ∀ x ∈ S, 0 ≤ x ∧ x ≤ (T.length : Int)) {x : Int} (hx : 1 ≤ x) : Rch T S x ↔ x ∈ S ∨ ∃ y, x < y ∧ Rch T S y ∧ x ∈ refs (eAt T y).1 := by
  constructor
  · intro h
    cases h with
    | root h1 _ => exact Or.inl h1
    | ref h1 h2 =>
      have b := h1.bound g hS
      exact Or.inr ⟨_, (refs_in g b.1 b.2 h2).2, h1, h2⟩
  · rintro (h | ⟨y, _, h1, h2⟩)
    · exact .root h (by omega)
    · exact .ref h1 h2

end Go.Proofs.YtcmncfglcjcmhaaGreat

/- The specification's stores (evergreenref12): Known, Length, Add. The walk of Add's orders of evaluation is printed by wip/gen/walk12.py. -/
set_option linter.unusedVariables false
set_option linter.unusedSimpArgs false
namespace Go.Proofs.YtcmncfglcjcmhaaGreat
open Go.Den

variable {w0 w : World} {Ω : List Ob} {most : Int} {T : List ET} {j : Nat} 

theorem lkR_no {L : List ET} {r : RT} (h : lkR L r = none) : ∀ e ∈ L, e.1 ≠ r := by
  intro e he hr
  unfold lkR lk at h
  rw [Option.map_eq_none_iff, List.find?_eq_none] at h
  obtain ⟨n, hn⟩ := List.getElem?_of_mem he
  have hm : (e.1, (n : Int) + 1) ∈ idx L := by unfold idx; exact List.mem_map.2 ⟨(e, n), List.mem_zipIdx_iff_getElem?.2 hn, rfl⟩
  exact h _ hm ((beqT_iff yapi_Rule rfl _ _).2 hr.symm)
end Go.Proofs.YtcmncfglcjcmhaaGreat

/- The specification's stores (evergreenref12): Pick, One, Build; the layer's Build. -/
set_option linter.unusedVariables false
set_option linter.unusedSimpArgs false
namespace Go.Proofs.YtcmncfglcjcmhaaGreat
open Go.Den

variable {w0 w : World} {Ω : List Ob} {most : Int} {T : List ET} {res : List Int} {i j : Nat}  {p : Addr}

def pickN (n many : Int) : Int := if Int.tmod n many < 0 then Int.tmod n many + many else Int.tmod n many
theorem pickN_bound {n many : Int} (hm : 1 ≤ many) : 0 ≤ pickN n many ∧ pickN n many < many := by
  have h1 := Int.tmod_lt_of_pos n (show 0 < many by omega)
  have h2 := Int.lt_tmod_of_pos n (show 0 < many by omega)
  unfold pickN
  split <;> omega
def rsAt (res : List Int) (n : Int) : Int := res.getD (pickN n res.length).toNat 0
theorem rsAt_get (h : 1 ≤ res.length) (n : Int) : ∃ k : Nat, pickN n res.length = k ∧ res[k]? = some (rsAt res n) ∧ rsAt res n ∈ res := by
  have hb := pickN_bound (n := n) (many := res.length) (by omega)
  have hk : (pickN n res.length).toNat < res.length := by omega
  have e : rsAt res n = res[(pickN n res.length).toNat] := by unfold rsAt; rw [List.getD_eq_getElem?_getD, List.getElem?_eq_getElem hk]; rfl
  refine ⟨(pickN n res.length).toNat, by omega, ?_, ?_⟩
  · rw [e]; exact List.getElem?_eq_getElem hk
  · rw [e]; exact List.getElem_mem hk

abbrev MakeT := Int × Int × Int × Int × Int
def mKind (o : MakeT) : Int := o.1
def mLet (o : MakeT) : Int := o.2.1
def mLeft (o : MakeT) : Int := o.2.2.1
def mRight (o : MakeT) : Int := o.2.2.2.1
def mTimes (o : MakeT) : Int := o.2.2.2.2
structure MakeOK (o : MakeT) : Prop where
  b : 0 ≤ mLet o ∧ mLet o < 256
  k : -9223372036854775808 ≤ mTimes o ∧ mTimes o ≤ 9223372036854775807
/-- what one Make makes -/
def mk1 (most : Int) (T : List ET) (res : List Int) (o : MakeT) : List ET × Int :=
  if pickN (mKind o) 4 = 0 then ((pLetter T most (mLet o)).1, (pLetter T most (mLet o)).2.1)
  else if pickN (mKind o) 4 = 3 then ((pPower T most (rsAt res (mLeft o)) (if mTimes o < 0 then 0 else mTimes o)).1, (pPower T most (rsAt res (mLeft o)) (if mTimes o < 0 then 0 else mTimes o)).2.1)
  else ((pPair T most (rsAt res (mLeft o)) (rsAt res (mRight o))).1, (pPair T most (rsAt res (mLeft o)) (rsAt res (mRight o))).2.1)
/-- what a list of Makes makes, from a store and results on -/
def bldF (most : Int) (T : List ET) (res : List Int) : List MakeT → List ET × List Int
  | [] => (T, res)
  | o :: ops => bldF most (mk1 most T res o).1 (res ++ [(mk1 most T res o).2]) ops
def bld (most : Int) (ops : List MakeT) : List ET × List Int := bldF most [] [0] ops
theorem bldF_append (ops ops' : List MakeT) : ∀ (T : List ET) (res : List Int), bldF most T res (ops ++ ops') = bldF most (bldF most T res ops).1 (bldF most T res ops).2 ops' := by
  induction ops with
  | nil => intro T res; rfl
  | cons o ops ih => intro T res; exact ih _ _
theorem bld_snoc (ops : List MakeT) (o : MakeT) : bld most (ops ++ [o]) = ((mk1 most (bld most ops).1 (bld most ops).2 o).1, (bld most ops).2 ++ [(mk1 most (bld most ops).1 (bld most ops).2 o).2]) := by
  unfold bld
  rw [bldF_append]; rfl
theorem bldF_pre (ops : List MakeT) : ∀ (T : List ET) (res : List Int), res <+: (bldF most T res ops).2 := by
  induction ops with
  | nil => intro T res; exact List.prefix_refl _
  | cons o ops ih => intro T res; exact (List.prefix_append _ _).trans (ih _ _)
theorem bld_pre (ops ops' : List MakeT) : (bld most ops).2 <+: (bld most (ops ++ ops')).2 := by
  unfold bld
  rw [bldF_append]
  exact bldF_pre _ _ _

def Facts (T : List ET) (x : List ET × Int) : Prop := T <+: x.1 ∧ x.1.length ≤ T.length + 1 ∧ 0 ≤ x.2 ∧ x.2 ≤ x.1.length
theorem Facts.same {x : Int} (h0 : 0 ≤ x) (h1 : x ≤ T.length) : Facts T (T, x) := ⟨List.prefix_refl _, Nat.le_succ _, h0, h1⟩
theorem pAdd_facts (T : List ET) (most : Int) (e : ET) : Facts T ((pAdd T most e).1, (pAdd T most e).2.1) := by
  cases hf : lkR T e.1 with
  | some i =>
    have := lkR_pos hf
    rw [(pAdd_some (most := most) hf).2.1]
    exact Facts.same (x := i) (by omega) this.2
  | none =>
    by_cases hm : most ≤ T.length
    · rw [(pAdd_full (most := most) hf hm).2]; exact Facts.same (x := 0) (Int.le_refl _) (by omega)
    · rw [(pAdd_new (most := most) hf hm).2]
      exact ⟨List.prefix_append _ _, by simp, by show (0 : Int) ≤ (T.length : Int) + 1; omega, by simp⟩
theorem pPower_facts {x k : Int} (hx : 0 ≤ x ∧ x ≤ T.length) : Facts T ((pPower T most x k).1, (pPower T most x k).2.1) := by
  unfold pPower
  have h0 : (0 : Int) ≤ T.length := by omega
  split
  · exact .same (Int.le_refl _) h0
  split
  · exact .same (Int.le_refl _) h0
  split
  · exact .same hx.1 hx.2
  split
  · exact .same (Int.le_refl _) h0
  · exact pAdd_facts _ _ _
theorem pPair_facts {x y : Int} (hx : 0 ≤ x ∧ x ≤ T.length) (hy : 0 ≤ y ∧ y ≤ T.length) : Facts T ((pPair T most x y).1, (pPair T most x y).2.1) := by
  unfold pPair
  have h0 : (0 : Int) ≤ T.length := by omega
  split
  · exact .same (Int.le_refl _) h0
  split
  · exact .same hy.1 hy.2
  split
  · exact .same hx.1 hx.2
  split
  · exact .same (Int.le_refl _) h0
  · exact pAdd_facts _ _ _
def KnownAll (T : List ET) (res : List Int) : Prop := ∀ y ∈ res, 0 ≤ y ∧ y ≤ T.length
theorem mk1_facts (h1 : 1 ≤ res.length) (hk : KnownAll T res) (o : MakeT) : Facts T (mk1 most T res o) := by
  obtain ⟨_, _, _, hl⟩ := rsAt_get h1 (mLeft o)
  obtain ⟨_, _, _, hr⟩ := rsAt_get h1 (mRight o)
  unfold mk1
  by_cases c0 : pickN (mKind o) 4 = 0
  · rw [if_pos c0]; exact pAdd_facts _ _ _
  rw [if_neg c0]
  by_cases c3 : pickN (mKind o) 4 = 3
  · rw [if_pos c3]; exact pPower_facts (hk _ hl)
  · rw [if_neg c3]; exact pPair_facts (hk _ hl) (hk _ hr)
theorem mk1_grow (g : Grow T) (hm : (T.length : Int) ≤ most) {o : MakeT} (ho : MakeOK o) : Grow (mk1 most T res o).1 ∧ ((mk1 most T res o).1.length : Int) ≤ most := by
  unfold mk1
  by_cases c0 : pickN (mKind o) 4 = 0
  · rw [if_pos c0]; exact pLetter_grow g hm ho.b
  rw [if_neg c0]
  by_cases c3 : pickN (mKind o) 4 = 3
  · rw [if_pos c3]; exact pPower_grow g hm
  · rw [if_neg c3]; exact pPair_grow g hm
/-- what holds of what was made -/
structure BldOK (most : Int) (T : List ET) (res : List Int) (n : Nat) : Prop where
  grow : Grow T
  cap : (T.length : Int) ≤ most
  len : T.length ≤ n
  cnt : res.length = n + 1
  known : KnownAll T res
theorem BldOK.step {n : Nat} (h : BldOK most T res n) {o : MakeT} (ho : MakeOK o) : BldOK most (mk1 most T res o).1 (res ++ [(mk1 most T res o).2]) (n + 1) := by
  have h1 := h.cnt
  obtain ⟨f1, f2, f3⟩ := mk1_facts (most := most) (by omega) h.known o
  have g := mk1_grow (res := res) h.grow h.cap ho
  have hl := h.len
  refine ⟨g.1, g.2, by omega, by simp; omega, fun y hy => ?_⟩
  rcases List.mem_append.1 hy with hy | hy
  · have := h.known y hy
    have := f1.length_le
    omega
  · rw [List.mem_singleton] at hy
    subst hy
    exact f3
theorem BldOK.init (hm : 0 ≤ most) : BldOK most [] [0] 0 := ⟨.nil, by simpa using hm, Nat.le_refl _, rfl, fun y hy => by
  rw [List.mem_singleton] at hy
  subst hy
  exact ⟨Int.le_refl _, Int.le_refl _⟩⟩
theorem bldF_ok : ∀ (ops : List MakeT) (T : List ET) (res : List Int) (n : Nat), BldOK most T res n → (∀ o ∈ ops, MakeOK o) → BldOK most (bldF most T res ops).1 (bldF most T res ops).2 (n + ops.length)
  | [], _, _, _, h, _ => h
  | o :: ops, T, res, n, h, ho => by
    have := bldF_ok ops _ _ _ (h.step (ho o (by simp))) fun o' ho' => ho o' (by simp [ho'])
    rw [List.length_cons, show n + (ops.length + 1) = n + 1 + ops.length by omega]
    exact this
theorem bld_ok (hm : 0 ≤ most) {ops : List MakeT} (ho : ∀ o ∈ ops, MakeOK o) : BldOK most (bld most ops).1 (bld most ops).2 ops.length := by
  have := bldF_ok ops _ _ _ (BldOK.init hm) ho
  rwa [Nat.zero_add] at this

end Go.Proofs.YtcmncfglcjcmhaaGreat

/- Build, of the specification (evergreenref12) and of the layer (evergreenlaw12): the walks. -/
set_option linter.unusedVariables false
set_option linter.unusedSimpArgs false
namespace Go.Proofs.YtcmncfglcjcmhaaGreat
open Go.Den

variable {w0 w : World} {Ω : List Ob} {most : Int} {T : List ET} {res : List Int} {i j : Nat}  {p : Addr}

theorem take_snoc {α : Type} {l : List α} {n : Nat} (h : n < l.length) : l.take (n + 1) = l.take n ++ [l[n]] := by
  rw [List.take_add_one, List.getElem?_eq_getElem h]; rfl
theorem bld_take {ops : List MakeT} {n : Nat} (h : n < ops.length) : bld most (ops.take (n + 1)) = ((mk1 most (bld most (ops.take n)).1 (bld most (ops.take n)).2 ops[n]).1, (bld most (ops.take n)).2 ++ [(mk1 most (bld most (ops.take n)).1 (bld most (ops.take n)).2 ops[n]).2]) := by
  rw [take_snoc h, bld_snoc]
theorem bld_take_ok (hm : 0 ≤ most) {ops : List MakeT} (ho : ∀ o ∈ ops, MakeOK o) {n : Nat} (hn : n ≤ ops.length) : BldOK most (bld most (ops.take n)).1 (bld most (ops.take n)).2 n := by
  have := bld_ok (most := most) hm (ops := ops.take n) fun o h => ho o (List.mem_of_mem_take h)
  rwa [List.length_take, Nat.min_eq_left hn] at this
theorem bld_at {ops : List MakeT} (hm : 0 ≤ most) (ho : ∀ o ∈ ops, MakeOK o) {n : Nat} (h : n < ops.length) : (bld most ops).2[n + 1]? = some (mk1 most (bld most (ops.take n)).1 (bld most (ops.take n)).2 ops[n]).2 := by
  have hp := bld_pre (most := most) (ops.take (n + 1)) (ops.drop (n + 1))
  rw [List.take_append_drop] at hp
  obtain ⟨s, hs⟩ := hp
  have hc := (bld_take_ok (most := most) hm ho (n := n) (by omega)).cnt
  rw [← hs, bld_take h]
  dsimp only
  rw [List.getElem?_append_left (by simp; omega), List.getElem?_append_right (by omega), hc]
  simp

end Go.Proofs.YtcmncfglcjcmhaaGreat

/- Maps with 64-bit keys: their entries' stamps; updates, deletions, ranges. Generic: no statement, no project text. -/
set_option linter.unusedVariables false
set_option linter.unusedSimpArgs false
namespace Go.Den

variable {P : Program} {w0 w : World} {L : List Ob} {vt : Ty}

/-! ### Lists of pairs -/
section
variable {α : Type}
def mupd : List (Int × α) → Int → α → List (Int × α)
  | [], x, v => [(x, v)]
  | p :: m, x, v => if p.1 = x then (x, v) :: m else p :: mupd m x v
def mdel : List (Int × α) → Int → List (Int × α)
  | [], _ => []
  | p :: m, x => if p.1 = x then m else p :: mdel m x
/-- what is found under a key -/
def at? : List (Int × α) → Int → Option α
  | [], _ => none
  | p :: m, x => if p.1 = x then some p.2 else at? m x
theorem at_mupd : ∀ (m : List (Int × α)) (x : Int) (v : α) (y : Int), at? (mupd m x v) y = if x = y then some v else at? m y
  | [], x, v, y => rfl
  | p :: m, x, v, y => by
    unfold mupd
    by_cases h : p.1 = x
    · rw [if_pos h]
      simp only [at?]
      by_cases hy : x = y
      · rw [if_pos hy, if_pos hy]
      · rw [if_neg hy, if_neg hy, if_neg (by omega)]
    · rw [if_neg h]
      simp only [at?]
      rw [at_mupd m x v y]
      by_cases hy : x = y
      · rw [if_pos hy, if_neg (by omega)]
        rw [if_pos hy]
      · rw [if_neg hy, if_neg hy]
theorem at_none : ∀ {m : List (Int × α)} {x : Int}, at? m x = none ↔ x ∉ m.map (·.1)
  | [], x => by simp [at?]
  | p :: m, x => by
    simp only [at?, List.map_cons, List.mem_cons]
    by_cases h : p.1 = x
    · rw [if_pos h]; simp [h]
    · rw [if_neg h, at_none]
      simp [Ne.symm h]
theorem at_mdel : ∀ {m : List (Int × α)} (x y : Int), (m.map (·.1)).Nodup → at? (mdel m x) y = if x = y then none else at? m y
  | [], x, y, _ => by simp [mdel, at?]
  | p :: m, x, y, hn => by
    rw [List.map_cons, List.nodup_cons] at hn
    unfold mdel
    by_cases h : p.1 = x
    · rw [if_pos h]
      by_cases hy : x = y
      · rw [if_pos hy, ← hy, ← h]
        exact at_none.2 hn.1
      · rw [if_neg hy]
        simp only [at?]
        rw [if_neg (by omega)]
    · rw [if_neg h]
      simp only [at?]
      rw [at_mdel x y hn.2]
      by_cases hy : x = y
      · rw [if_pos hy, if_neg (by omega), if_pos hy]
      · rw [if_neg hy, if_neg hy]
theorem keys_mupd : ∀ (m : List (Int × α)) (x : Int) (v : α) (y : Int), y ∈ (mupd m x v).map (·.1) ↔ y = x ∨ y ∈ m.map (·.1)
  | [], x, v, y => by simp [mupd]
  | p :: m, x, v, y => by
    unfold mupd
    by_cases h : p.1 = x
    · rw [if_pos h]; simp [h]
    · rw [if_neg h]
      have := keys_mupd m x v y
      simp only [List.map_cons, List.mem_cons, this]
      constructor
      · rintro (h | h | h)
        · exact Or.inr (Or.inl h)
        · exact Or.inl h
        · exact Or.inr (Or.inr h)
      · rintro (h | h | h)
        · exact Or.inr (Or.inl h)
        · exact Or.inl h
        · exact Or.inr (Or.inr h)
theorem nodup_mupd : ∀ (m : List (Int × α)) (x : Int) (v : α), (m.map (·.1)).Nodup → ((mupd m x v).map (·.1)).Nodup
  | [], x, v, _ => by simp [mupd]
  | p :: m, x, v, hn => by
    rw [List.map_cons, List.nodup_cons] at hn
    unfold mupd
    by_cases h : p.1 = x
    · rw [if_pos h, List.map_cons, List.nodup_cons]
      exact ⟨h ▸ hn.1, hn.2⟩
    · rw [if_neg h, List.map_cons, List.nodup_cons]
      refine ⟨fun hm => ?_, nodup_mupd m x v hn.2⟩
      rcases (keys_mupd m x v p.1).1 hm with h' | h'
      · exact h h'
      · exact hn.1 h'
theorem keys_mdel : ∀ {m : List (Int × α)} (x y : Int), (m.map (·.1)).Nodup → (y ∈ (mdel m x).map (·.1) ↔ y ≠ x ∧ y ∈ m.map (·.1)) := fun {m} x y hn => by
  have h1 := at_mdel x y hn
  have h2 := at_none (m := mdel m x) (x := y)
  have h3 := at_none (m := m) (x := y)
  by_cases hy : x = y
  · rw [if_pos hy] at h1
    have := h2.1 h1
    exact ⟨fun h => absurd h this, fun h => absurd hy.symm h.1⟩
  · rw [if_neg hy] at h1
    rw [h1] at h2
    constructor
    · intro h
      refine ⟨Ne.symm hy, ?_⟩
      apply Classical.byContradiction
      intro hc
      exact h2.1 (h3.2 hc) h
    · intro h
      apply Classical.byContradiction
      intro hc
      exact h3.1 (h2.2 hc) h.2
theorem mdel_sub : ∀ (m : List (Int × α)) (x : Int), (mdel m x).Sublist m
  | [], x => List.Sublist.slnil
  | p :: m, x => by
    unfold mdel
    by_cases h : p.1 = x
    · rw [if_pos h]; exact List.sublist_cons_self _ _
    · rw [if_neg h]; exact (mdel_sub m x).cons_cons _
theorem nodup_mdel (m : List (Int × α)) (x : Int) (hn : (m.map (·.1)).Nodup) : ((mdel m x).map (·.1)).Nodup := List.Nodup.sublist ((mdel_sub m x).map _) hn
end
theorem lk_at : ∀ (m : List ((Ty.int .i64).T × vt.T)) (x : Int), lk (kt := .int .i64) (vt := vt) m x = at? m x
  | [], x => rfl
  | p :: m, x => by
    have ih := lk_at m x
    unfold lk at ih ⊢
    rw [List.find?_cons]
    simp only [at?]
    by_cases h : p.1 = x
    · have : beqT (.int .i64) x p.1 = true := (beqT_iff (.int .i64) rfl _ _).2 h.symm
      rw [this, if_pos h]; rfl
    · have : beqT (.int .i64) x p.1 = false := by
        cases e : beqT (.int .i64) x p.1
        · rfl
        · exact absurd ((beqT_iff (.int .i64) rfl _ _).1 e).symm h
      rw [this, if_neg h]; exact ih

/-! ### Maps in memory -/
abbrev PairOf (vt : Ty) (m : List (Int × vt.T)) : List (Value × Value) := m.map fun p => (Value.int .i64 p.1, val vt p.2)
def MapC (vt : Ty) (w : World) (r : Nat) (m : List (Int × vt.T)) : Prop :=
  ∃ (arr : Array MapEntry) (clock : Nat), w.heap[r]? = some (.map arr clock) ∧ arr.toList.map (fun e => (e.key, e.val)) = PairOf vt m ∧ (arr.toList.map (·.born)).Nodup ∧ (∀ e ∈ arr.toList, e.born < clock) ∧ (m.map (·.1)).Nodup
theorem MapC.is {r : Nat} {m : List (Int × vt.T)} (h : MapC vt w r m) : MapIs (.int .i64) vt w r m := by
  obtain ⟨arr, clock, h1, h2, _⟩ := h
  exact ⟨arr, clock, h1, h2⟩
theorem MapC.nodup {r : Nat} {m : List (Int × vt.T)} (h : MapC vt w r m) : (m.map (·.1)).Nodup := by
  obtain ⟨arr, clock, _, _, _, _, h⟩ := h
  exact h
theorem MapC.lt {r : Nat} {m : List (Int × vt.T)} (h : MapC vt w r m) : r < w.heap.size := h.is.lt
theorem MapC.fr {F : Nat → Prop} {w' : World} {r : Nat} {m : List (Int × vt.T)} (h : MapC vt w r m) (f : Fr F w w') (hF : ¬ F r) : MapC vt w' r m := by
  have hl := h.lt
  obtain ⟨arr, clock, h1, h2⟩ := h
  exact ⟨arr, clock, by rw [f.same r hl hF]; exact h1, h2⟩
def mc (vt : Ty) (r : Nat) (m : List (Int × vt.T)) : Ob := ⟨false, fun B w => MapC vt w r m ∧ B r, fun h f hB => ⟨h.1.fr f (hB _ h.2), h.2⟩⟩
theorem Sp.mc_ {r : Nat} {m : List (Int × vt.T)} (s : Sp w0 L w) (i : Nat) (h : L[i]? = some (mc vt r m)) : MapC vt w r m := by
  obtain ⟨B, h, _⟩ := s.get i h
  exact h.1
theorem Sp.allocC {K : Addr → World → Prop} (s : Sp w0 L w) (vt : Ty) (hK : ∀ r w', Sp w0 (mc vt r [] :: L) w' → K ⟨r, 0, none⟩ w') : Go.Den.allocK (.map #[] 0) w K := by
  refine allocK_mk (hK _ _ (s.push (B := fun b => b = w.heap.size) (alloc_ext w _) ⟨⟨#[], 0, alloc_new w _, rfl, List.nodup_nil, fun e h => by simp at h, List.nodup_nil⟩, rfl⟩ ?_))
  rintro b rfl
  exact ⟨Nat.le_refl _, by simp⟩
theorem MapC.get {d : Nat} {t k e : TypeId} (hd : d ≤ 10000) (hu : P.underlying t = some (.map k e)) (hk : eqOK P d k (.int .i64) = true) {z : vt.T} (hz : zeroOf P e = some (val vt z))
    {r : Nat} {m : List (Int × vt.T)} (h : MapC vt w r m) (x : Int) : Lk1 P t vt (.map (some r)) (.int .i64 x) ((at? m x).getD z) w := by
  have := lk1_run hd hu hk (by simp) hz h.is x
  rwa [lk_at] at this
theorem MapC.len {r : Nat} {m : List (Int × vt.T)} (h : MapC vt w r m) : mapLen w (some r) m.length := by
  obtain ⟨arr, clock, h1, h2, _⟩ := h
  have := congrArg List.length h2
  simp only [List.length_map, Array.length_toList] at this
  exact ⟨arr, clock, h1, this.symm⟩

theorem mupd_fnd (x : Int) (v : vt.T) : ∀ (ls : List MapEntry) (m : List (Int × vt.T)) (j : Nat), ls.map (fun e => (e.key, e.val)) = PairOf vt m →
    (fnd (.int .i64) x ls (m.map (·.1)) j = none ∧ mupd m x v = m ++ [(x, v)] ∧ mdel m x = m) ∨
    ∃ (i : Nat) (u : Value) (e : MapEntry), fnd (.int .i64) x ls (m.map (·.1)) j = some (j + i, u) ∧ ls[i]? = some e ∧ e.key = .int .i64 x ∧
      (ls.modify i fun e => { e with key := .int .i64 x, val := val vt v }).map (fun e => (e.key, e.val)) = PairOf vt (mupd m x v) ∧ (ls.eraseIdx i).map (fun e => (e.key, e.val)) = PairOf vt (mdel m x)
  | [], [], j, _ => Or.inl ⟨rfl, rfl, rfl⟩
  | [], _ :: _, j, h => by simp at h
  | _ :: _, [], j, h => by simp at h
  | e :: ls, p :: m, j, h => by
    simp only [List.map_cons, List.cons.injEq, Prod.mk.injEq] at h
    by_cases hp : p.1 = x
    · right
      have hb : beqT (.int .i64) x p.1 = true := (beqT_iff (.int .i64) rfl _ _).2 hp.symm
      refine ⟨0, e.val, e, ?_, rfl, by rw [h.1.1, hp], ?_, ?_⟩
      · simp only [List.map_cons, fnd]
        rw [hb]; rfl
      · simp only [mupd, if_pos hp, List.modify_zero_cons, List.map_cons]
        rw [h.2]
      · simp only [mdel, if_pos hp, List.eraseIdx_zero, List.tail_cons]
        exact h.2
    · have hb : beqT (.int .i64) x p.1 = false := by
        cases e : beqT (.int .i64) x p.1
        · rfl
        · exact absurd ((beqT_iff (.int .i64) rfl _ _).1 e).symm hp
      rcases mupd_fnd x v ls m (j + 1) h.2 with ⟨h1, h2, h3⟩ | ⟨i, u, e', h1, h2, h3, h4, h5⟩
      · left
        refine ⟨?_, by simp only [mupd, if_neg hp, h2, List.cons_append], by simp only [mdel, if_neg hp, h3]⟩
        simp only [List.map_cons, fnd]
        rw [hb]; exact h1
      · right
        refine ⟨i + 1, u, e', ?_, by rw [List.getElem?_cons_succ]; exact h2, h3, ?_, ?_⟩
        · simp only [List.map_cons, fnd]
          rw [hb]
          show fnd (.int .i64) x ls (m.map (·.1)) (j + 1) = _
          rw [h1, show j + 1 + i = j + (i + 1) by omega]
        · simp only [mupd, if_neg hp, List.modify_succ_cons, List.map_cons]
          rw [h4, h.1.1, h.1.2]
        · simp only [mdel, if_neg hp, List.eraseIdx_cons_succ, List.map_cons]
          rw [h5, h.1.1, h.1.2]
theorem born_modify (f : MapEntry → MapEntry) (hf : ∀ e, (f e).born = e.born) : ∀ (ls : List MapEntry) (i : Nat), (ls.modify i f).map (·.born) = ls.map (·.born)
  | [], i => by cases i <;> rfl
  | e :: ls, 0 => by simp [hf]
  | e :: ls, i + 1 => by simp [born_modify f hf ls i]

theorem Sp.upC {d : Nat} {t k e : TypeId} {r : Nat} {m : List (Int × vt.T)} {K : World → Prop} (s : Sp w0 L w) (i : Nat) (h : L[i]? = some (mc vt r m)) (hd : d ≤ 10000) (hu : P.underlying t = some (.map k e)) (hk : eqOK P d k (.int .i64) = true)
    (x : Int) (v : vt.T) (hK : ∀ w', Sp w0 (L.set i (mc vt r (mupd m x v))) w' → K w') : runU P (Instr.mapUpdate t (.map (some r)) (.int .i64 x) (val vt v)) w K := by
  obtain ⟨B, ⟨mm, hB⟩, hlt, back⟩ := s.open i h rfl
  have hr := mm.lt
  obtain ⟨arr, clock, h1, h2, h3, h4, h5⟩ := mm
  have hg : (getObj r).run P w = .ok (.map arr clock) w := MapKept.run_getObj_map h1
  have hf := findKey_run (w := w) hd hk (by simp) x arr.toList (m.map (·.1)) (keys_of (kt := .int .i64) (vt := vt) h2)
  have hck : (Instr.checkKey false 10000 k (val (.int .i64) x)).run P w = .ok () w := checkKey_run d 10000 hd k (.int .i64) hk x false w
  have fin : ∀ (arr' : Array MapEntry) (clock' : Nat), arr'.toList.map (fun e => (e.key, e.val)) = PairOf vt (mupd m x v) → (arr'.toList.map (·.born)).Nodup → (∀ e ∈ arr'.toList, e.born < clock') → K { w with heap := w.heap.setIfInBounds r (.map arr' clock') } := fun arr' clock' q1 q2 q3 => by
    refine hK _ (back _ B _ ⟨⟨arr', clock', by simp [hr], q1, q2, q3, nodup_mupd m x v h5⟩, hB⟩ ⟨by simp, fun b _ hb => ?_, rfl, rfl, rfl⟩ (fun _ h => Or.inl h) fun b hb => by simpa using (hlt b hb).2)
    have : r ≠ b := fun e => hb (e ▸ hB)
    simp [Array.getElem?_setIfInBounds, this]
  rcases mupd_fnd x v arr.toList m 0 h2 with ⟨q1, q2, _⟩ | ⟨j, u, e', q1, q2, q3, q4, _⟩
  · refine ⟨_, ?_, fin (arr.push { key := .int .i64 x, val := val vt v, born := clock }) (clock + 1) ?_ ?_ ?_⟩
    · show (Instr.mapUpdate t (.map (some r)) (val (.int .i64) x) (val vt v)).run P w = _
      unfold Instr.mapUpdate
      simp only [Sem.run_bind, run_underlying hu, Result.andThen_ok, hg, hck, hf, q1]
      simp [MapKept.run_setObj_map _ h1, val]
    · rw [Array.toList_push, List.map_append, h2, q2]; simp
    · rw [Array.toList_push, List.map_append, List.nodup_append]
      refine ⟨h3, by simp, fun a ha b hb => ?_⟩
      simp at hb
      subst hb
      obtain ⟨e, he, rfl⟩ := List.mem_map.1 ha
      have := h4 e he
      omega
    · intro e he
      rw [Array.toList_push] at he
      rcases List.mem_append.1 he with he | he
      · have := h4 e he; omega
      · simp at he; subst he; exact Nat.lt_succ_self _
  · have harr : arr[j]? = some e' := by rw [← Array.getElem?_toList]; exact q2
    refine ⟨_, ?_, fin (arr.modify j fun e => { e with key := .int .i64 x, val := val vt v }) clock ?_ ?_ ?_⟩
    · show (Instr.mapUpdate t (.map (some r)) (val (.int .i64) x) (val vt v)).run P w = _
      unfold Instr.mapUpdate
      simp only [Sem.run_bind, run_underlying hu, Result.andThen_ok, hg, hck, hf, q1]
      simp [MapKept.run_setObj_map _ h1, val, harr, q3, Instr.keyThatStays, Instr.sameBits]
    · rw [Array.toList_modify, q4]
    · rw [Array.toList_modify, born_modify (fun e => { e with key := .int .i64 x, val := val vt v }) (fun _ => rfl)]
      exact h3
    · intro e he
      rw [Array.toList_modify] at he
      have : e.born ∈ (arr.toList.modify j fun e => { e with key := .int .i64 x, val := val vt v }).map (·.born) := List.mem_map.2 ⟨e, he, rfl⟩
      rw [born_modify (fun e => { e with key := .int .i64 x, val := val vt v }) (fun _ => rfl)] at this
      obtain ⟨e2, he2, hb2⟩ := List.mem_map.1 this
      have := h4 e2 he2
      omega
theorem Sp.delC {d : Nat} {t k e : TypeId} {r : Nat} {m : List (Int × vt.T)} {ty : TypeId} {K : Unit → World → Prop} {t2 : TypeId} (v : vt.T) (s : Sp w0 L w) (i : Nat) (h : L[i]? = some (mc vt r m)) (hd : d ≤ 10000) (hu : P.underlying t = some (.map k e)) (hk : eqOK P d k (.int .i64) = true)
    (x : Int) (hK : ∀ w', Sp w0 (L.set i (mc vt r (mdel m x))) w' → K () w') : runK P (.tup .unit) (Builtin.delete_ #[t, t2] ty #[.map (some r), .int .i64 x]) w K := by
  obtain ⟨B, ⟨mm, hB⟩, hlt, back⟩ := s.open i h rfl
  have hr := mm.lt
  obtain ⟨arr, clock, h1, h2, h3, h4, h5⟩ := mm
  have hg : (getObj r).run P w = .ok (.map arr clock) w := MapKept.run_getObj_map h1
  have hf := findKey_run (w := w) hd hk (by simp) x arr.toList (m.map (·.1)) (keys_of (kt := .int .i64) (vt := vt) h2)
  have hck : (Instr.checkKey arr.isEmpty 10000 k (val (.int .i64) x)).run P w = .ok () w := checkKey_run d 10000 hd k (.int .i64) hk x _ w
  have fin : ∀ (arr' : Array MapEntry), arr'.toList.map (fun e => (e.key, e.val)) = PairOf vt (mdel m x) → (arr'.toList.map (·.born)).Nodup → (∀ e ∈ arr'.toList, e.born < clock) → K () { w with heap := w.heap.setIfInBounds r (.map arr' clock) } := fun arr' q1 q2 q3 => by
    refine hK _ (back _ B _ ⟨⟨arr', clock, by simp [hr], q1, q2, q3, nodup_mdel m x h5⟩, hB⟩ ⟨by simp, fun b _ hb => ?_, rfl, rfl, rfl⟩ (fun _ h => Or.inl h) fun b hb => by simpa using (hlt b hb).2)
    have : r ≠ b := fun e => hb (e ▸ hB)
    simp [Array.getElem?_setIfInBounds, this]
  rcases mupd_fnd x v arr.toList m 0 h2 with ⟨q1, _, q2⟩ | ⟨j, u, e', q1, q2, q3, _, q5⟩
  · refine ⟨(), _, ?_, fin arr (by rw [q2]; exact h2) h3 h4⟩
    show (Builtin.delete_ #[t, t2] ty #[.map (some r), val (.int .i64) x]).run P w = _
    unfold Builtin.delete_
    simp only [List.getElem?_toArray, List.getElem?_cons_zero, List.getElem?_cons_succ, Sem.run_bind, run_underlying hu, Result.andThen_ok, hg, hck, hf, q1]
    simp [MapKept.run_setObj_map _ h1, val, vals]
  · refine ⟨(), _, ?_, fin (arr.eraseIdxIfInBounds j) ?_ ?_ ?_⟩
    · show (Builtin.delete_ #[t, t2] ty #[.map (some r), val (.int .i64) x]).run P w = _
      unfold Builtin.delete_
      simp only [List.getElem?_toArray, List.getElem?_cons_zero, List.getElem?_cons_succ, Sem.run_bind, run_underlying hu, Result.andThen_ok, hg, hck, hf, q1]
      simp [MapKept.run_setObj_map _ h1, val, vals]
    · rw [Array.toList_eraseIdxIfInBounds]; exact q5
    · rw [Array.toList_eraseIdxIfInBounds]
      exact List.Nodup.sublist ((List.eraseIdx_sublist _ _).map _) h3
    · intro e he
      rw [Array.toList_eraseIdxIfInBounds] at he
      exact h4 e ((List.eraseIdx_sublist _ _).subset he)

/-! ### Ranges -/
/-- a map whose entries are told -/
def mx (b : Nat) (arr : Array MapEntry) (clock : Nat) : Ob := ⟨false, fun B w => w.heap[b]? = some (.map arr clock) ∧ B b, fun {B F w w'} h f hB => ⟨by rw [f.same b (Array.getElem?_eq_some_iff.1 h.1).1 (hB _ h.2)]; exact h.1, h.2⟩⟩
/-- an iterator over the map b -/
def itr (r b since : Nat) (seen : Array Nat) : Ob := ⟨false, fun B w => (∃ c, since ≤ c ∧ w.heap[r]? = some (.mapIter (some b) since seen c)) ∧ B r, fun {B F w w'} h f hB => by
  obtain ⟨⟨c, h1, h2⟩, h3⟩ := h
  exact ⟨⟨c, h1, by rw [f.same r (Array.getElem?_eq_some_iff.1 h2).1 (hB _ h3)]; exact h2⟩, h3⟩⟩
/-- the entries of a map, told -/
structure Told_ (vt : Ty) (m : List (Int × vt.T)) (arr : Array MapEntry) (clock : Nat) : Prop where
  eq : arr.toList.map (fun e => (e.key, e.val)) = PairOf vt m
  born : (arr.toList.map (·.born)).Nodup
  old : ∀ e ∈ arr.toList, e.born < clock
  keys : (m.map (·.1)).Nodup
theorem Sp.tell {r : Nat} {m : List (Int × vt.T)} (s : Sp w0 L w) (i : Nat) (h : L[i]? = some (mc vt r m)) : ∃ arr clock, Told_ vt m arr clock ∧ Sp w0 (L.set i (mx r arr clock)) w := by
  obtain ⟨arr, clock, h1, h2, h3, h4, h5⟩ := s.mc_ i h
  exact ⟨arr, clock, ⟨h2, h3, h4, h5⟩, s.weak i h _ (fun B hP _ => ⟨B, ⟨h1, hP.2⟩, fun _ h => h⟩) (fun h => h)⟩
theorem Sp.untell {r : Nat} {m : List (Int × vt.T)} {arr : Array MapEntry} {clock : Nat} (t : Told_ vt m arr clock) (s : Sp w0 L w) (i : Nat) (h : L[i]? = some (mx r arr clock)) : Sp w0 (L.set i (mc vt r m)) w :=
  s.weak i h _ (fun B hP _ => ⟨B, ⟨⟨arr, clock, hP.1, t.eq, t.born, t.old, t.keys⟩, hP.2⟩, fun _ h => h⟩) (fun h => h)
theorem Sp.mx_ {b : Nat} {arr : Array MapEntry} {clock : Nat} (s : Sp w0 L w) (i : Nat) (h : L[i]? = some (mx b arr clock)) : w.heap[b]? = some (.map arr clock) := by
  obtain ⟨B, h, _⟩ := s.get i h
  exact h.1
theorem Sp.rangeC {t k e : TypeId} {b : Nat} {arr : Array MapEntry} {clock : Nat} {K : Addr → World → Prop} (s : Sp w0 L w) (i : Nat) (h : L[i]? = some (mx b arr clock)) (hu : P.underlying t = some (.map k e))
    (hK : ∀ r w', Sp w0 (itr r b clock #[] :: L) w' → K ⟨r, 0, none⟩ w') : runK P .addr (Instr.range t (.map (some b))) w K := by
  refine ⟨⟨w.heap.size, 0, none⟩, _, run_range_map w t k e b arr clock hu (s.mx_ i h), hK _ _ (s.push (B := fun b => b = w.heap.size) (alloc_ext w _) ⟨⟨clock, Nat.le_refl _, alloc_new w _⟩, rfl⟩ ?_)⟩
  rintro b rfl
  exact ⟨Nat.le_refl _, by simp⟩
/-- one round of a range, or its end -/
theorem Sp.roundC {b r : Nat} {arr : Array MapEntry} {clock : Nat} {m : List (Int × vt.T)} {seen : Array Nat} {ty : TypeId} {A : World → Prop} {B : Int → World → Prop} (t : Told_ vt m arr clock) (s : Sp w0 L w) (i j : Nat) (hi : L[i]? = some (itr r b clock seen)) (hj : L[j]? = some (mx b arr clock))
    (hend : (∀ e ∈ arr.toList, e.born ∈ seen.toList) → A w) (hrnd : ∀ (e : MapEntry) (k : Int) w', e ∈ arr.toList → e.born ∉ seen.toList → e.key = .int .i64 k → Sp w0 (L.set i (itr r b clock (seen.push e.born))) w' → B k w') :
    ∃ (bb : Bool) (vs : List Value) (w5 : World), (Instr.next (.pointer (some ⟨r, 0, none⟩)) false ty).run P w = .ok (.tuple (Value.bool bb :: vs).toArray) w5 ∧
      gd bb (∃ (k : Int) (v : Value) (w6 : World), (Instr.entry (.pointer (some ⟨r, 0, none⟩))).run P w5 = .ok (.tuple #[.int .i64 k, v]) w6 ∧ B k w6) (A w5) := by
  obtain ⟨Bi, ⟨⟨c, hc1, hc2⟩, hBi⟩, hlt, back⟩ := s.open i hi rfl
  have hb := s.mx_ j hj
  rcases run_next_at (P := P) w ty r b clock c seen arr clock hc2 hb t.old hc1 with ⟨h0, hrun⟩ | ⟨e, he, w1, hw1, hrun⟩
  · refine ⟨false, [], w, hrun, hend fun e he => ?_⟩
    apply Classical.byContradiction
    intro hn
    have hm : e ∈ leftOf arr seen := by
      unfold leftOf
      rw [Array.mem_filter]
      exact ⟨Array.mem_toList_iff.1 he, by simpa [Array.mem_toList_iff] using hn⟩
    have : leftOf arr seen = #[] := Array.eq_empty_of_size_eq_zero h0
    rw [this] at hm
    simp at hm
  · have hm : e ∈ arr ∧ ¬ (e.born ∈ seen) := by
      have h := Array.mem_toList_iff.1 he
      unfold leftOf at h
      rw [Array.mem_filter] at h
      simpa using h
    have hmem : e ∈ arr.toList := Array.mem_toList_iff.2 hm.1
    obtain ⟨k, hk⟩ : ∃ k : Int, e.key = .int .i64 k := by
      have h1 : (e.key, e.val) ∈ arr.toList.map (fun e => (e.key, e.val)) := List.mem_map.2 ⟨e, hmem, rfl⟩
      rw [t.eq] at h1
      obtain ⟨p, _, hp⟩ := List.mem_map.1 h1
      exact ⟨p.1, (congrArg Prod.fst hp).symm⟩
    have hsz : r < w1.heap.size := by
      have := (Array.getElem?_eq_some_iff.1 hc2).1
      rcases hw1 with rfl | rfl <;> exact this
    have hw1h : w1.heap = w.heap := by rcases hw1 with rfl | rfl <;> rfl
    have hF : Fr (fun x => x = r) w (ChangeMaps.setBlock w1 r (.mapIter (some b) clock (seen.push e.born) clock)) := by
      refine ⟨?_, fun x _ hx => ?_, ?_⟩
      · unfold ChangeMaps.setBlock; simp [hw1h]
      · unfold ChangeMaps.setBlock
        have : r ≠ x := fun h => hx h.symm
        simp [Array.getElem?_setIfInBounds, this, hw1h]
      · rcases hw1 with rfl | rfl <;> exact ⟨rfl, rfl, rfl⟩
    have hr' : (ChangeMaps.setBlock w1 r (.mapIter (some b) clock (seen.push e.born) clock)).heap[r]? = some (.mapIter (some b) clock (seen.push e.born) clock) := by
      unfold ChangeMaps.setBlock; simp [hsz]
    have s' := back (itr r b clock (seen.push e.born)) Bi _ ⟨⟨clock, Nat.le_refl _, hr'⟩, hBi⟩ (hF.mono fun x _ hx => hx ▸ hBi) (fun _ h => Or.inl h) (fun x hx => Nat.lt_of_lt_of_le (hlt x hx).2 hF.size)
    have hne : i ≠ j := fun h => by
      subst h
      rw [hi] at hj
      have := Option.some.inj hj
      have h2 := s.mx_ i (by rw [hi, this])
      rw [this] at hi
      obtain ⟨_, ⟨⟨c', _, h3⟩, _⟩, _⟩ := s.get i (this ▸ hi : L[i]? = some (itr r b clock seen))
      rw [hc2] at h3
      have e1 : (itr r b clock seen).P = (mx b arr clock).P := by rw [this]
      have e2 := congrFun (congrFun e1 (fun _ => True)) w
      have e3 : (mx b arr clock).P (fun _ => True) w := ⟨hb, trivial⟩
      rw [← e2] at e3
      have e4 : (itr r b clock seen).P (fun x => x = r) w := ⟨⟨c, hc1, hc2⟩, rfl⟩
      rw [congrFun (congrFun e1 (fun x => x = r)) w] at e4
      have hbr : b = r := e4.2
      rw [hbr, hc2] at hb
      cases hb
    have hb' := s'.mx_ j (setNe hj hne)
    refine ⟨true, [e.key, e.val], _, hrun, ?_⟩
    refine ⟨k, e.val, _, ?_, hrnd e k _ hmem (fun h => hm.2 (Array.mem_toList_iff.1 h)) hk s'⟩
    rw [← hk]
    exact run_entry_at _ r b clock seen arr clock e hr' hb' hmem t.born

end Go.Den

/- law12: the store that all statements begin with, roots, the specification's Reach and List; the walks of CollectReaches and CollectCloses. -/
set_option linter.unusedVariables false
set_option linter.unusedSimpArgs false
namespace Go.Proofs.YtcmncfglcjcmhaaGreat
open Go.Den

variable {w0 w : World} {Ω : List Ob} {most : Int} {T : List ET} {i j : Nat} {p : Addr} 

/-! ### A list of marks -/
def MB (N : Nat) (inl : List Ty.bool.T) (q : Nat → Prop) : Prop := inl.length = N + 1 ∧ ∀ x : Nat, x ≤ N → ∃ b : Bool, inl[x]? = some b ∧ (b = true ↔ q x)
theorem MB.iff {N : Nat} {inl : List Ty.bool.T} {q r : Nat → Prop} (h : MB N inl q) (e : ∀ x, x ≤ N → (q x ↔ r x)) : MB N inl r :=
  ⟨h.1, fun x hx => by obtain ⟨b, h1, h2⟩ := h.2 x hx; exact ⟨b, h1, h2.trans (e x hx)⟩⟩
theorem MB.put {N k : Nat} {inl : List Ty.bool.T} {q : Nat → Prop} (h : MB N inl q) (v : Bool) (hk : k ≤ N) : MB N (inl.set k v) (fun x => if x = k then v = true else q x) := by
  refine ⟨by rw [List.length_set]; exact h.1, fun x hx => ?_⟩
  have hl := h.1
  rw [List.getElem?_set]
  by_cases c : k = x
  · subst c
    exact ⟨v, by rw [if_pos rfl, if_pos (by omega)], by dsimp only; rw [if_pos rfl]⟩
  · obtain ⟨b, h1, h2⟩ := h.2 x hx
    exact ⟨b, by rw [if_neg c]; exact h1, by dsimp only; rw [if_neg (Ne.symm c)]; exact h2⟩
def trues (inl : List Ty.bool.T) (n : Nat) : List Int := ((List.range n).filter fun i => inl.getD i false).map fun i : Nat => (i : Int)
theorem trues_succ (inl : List Ty.bool.T) (n : Nat) : trues inl (n + 1) = trues inl n ++ (if inl.getD n false = true then [(n : Int)] else []) := by
  unfold trues
  rw [List.range_succ, List.filter_append, List.map_append]
  congr 1
  cases c : inl.getD n false with
  | true => rw [List.filter_cons_of_pos (p := fun i => inl.getD i false) c]; simp
  | false => rw [List.filter_cons_of_neg (p := fun i => inl.getD i false) (by rw [c]; simp)]; simp
theorem trues_len (inl : List Ty.bool.T) (n : Nat) : (trues inl n).length ≤ n := by
  unfold trues
  rw [List.length_map]
  exact Nat.le_trans (List.length_filter_le _ _) (by simp)
theorem trues_sorted (inl : List Ty.bool.T) (n : Nat) : (trues inl n).Pairwise (fun x y => x < y) := by
  unfold trues
  rw [List.pairwise_map]
  exact (List.pairwise_lt_range.filter _).imp fun h => by omega
theorem MB.mem {N : Nat} {inl : List Ty.bool.T} {q : Nat → Prop} (h : MB N inl q) {x : Int} : x ∈ trues inl (N + 1) ↔ ∃ n : Nat, x = n ∧ n ≤ N ∧ q n := by
  unfold trues
  rw [List.mem_map]
  constructor
  · rintro ⟨n, hn, rfl⟩
    obtain ⟨h1, h2⟩ := List.mem_filter.1 hn
    have h3 := List.mem_range.1 h1
    obtain ⟨b, h4, h5⟩ := h.2 n (by omega)
    rw [List.getD_eq_getElem?_getD, h4] at h2
    exact ⟨n, rfl, by omega, h5.1 h2⟩
  · rintro ⟨n, rfl, hn, hq⟩
    obtain ⟨b, h4, h5⟩ := h.2 n hn
    refine ⟨n, List.mem_filter.2 ⟨List.mem_range.2 (by omega), ?_⟩, rfl⟩
    rw [List.getD_eq_getElem?_getD, h4]
    exact h5.2 hq
/-! ### Reach of the specification -/
def RchQ (T : List ET) (S : List Int) (x : Nat) : Prop := x ≠ 0 ∧ Rch T S x
theorem trues_rlist {S : List Int} {inl : List Ty.bool.T} (g : Grow T) (hS : ∀ x ∈ S, 0 ≤ x ∧ x ≤ (T.length : Int)) (hm : MB T.length inl (RchQ T S)) : trues inl inl.length = rlist T S := by
  rw [hm.1]
  refine sorted_unique (trues_sorted _ _) rlist_sorted fun x => ?_
  rw [hm.mem, rlist_mem g hS]
  constructor
  · rintro ⟨n, rfl, _, h⟩; exact h.2
  · intro h
    have b := h.bound g hS
    refine ⟨x.toNat, by omega, by omega, by omega, ?_⟩
    rwa [show ((x.toNat : Nat) : Int) = x by omega]

end Go.Proofs.YtcmncfglcjcmhaaGreat

/- A copy exports the same; the walk of InternMoves. -/
set_option linter.unusedVariables false
set_option linter.unusedSimpArgs false
namespace Go.Proofs.YtcmncfglcjcmhaaGreat
open Go.Den

variable {w0 w : World} {T : List ET} {ids : List Int} {most : Int}

theorem mvr_byte (g : Grow T) {y : Int} (h1 : 1 ≤ y) (h2 : y ≤ T.length) : 0 ≤ (mvr ids (eAt T y).1).2.1 ∧ (mvr ids (eAt T y).1).2.1 < 256 := by
  cases g.shape h1 h2 with
  | letter b h3 h4 e => rw [e]; exact ⟨h3, h4⟩
  | pair l r _ _ _ _ _ e => rw [e]; simp [mvr, mkPair]
  | power x k _ _ _ _ e => rw [e]; simp [mvr, mkPower]
theorem copy_grow (g : Grow T) (hc : Closed T ids) : Grow (copy T ids) := by
  have key : ∀ k : Nat, k ≤ ids.length → Grow ((copy T ids).take k) := by
    intro k
    induction k with
    | zero => intro _; exact .nil
    | succ k ih =>
      intro hk
      obtain ⟨y, hy⟩ : ∃ y, ids[k]? = some y := ⟨_, List.getElem?_eq_getElem hk⟩
      have hyb := hc.bound y (List.mem_of_getElem? hy)
      have hlen : ((copy T ids).take k).length = k := by rw [List.length_take, copy_len]; omega
      have := (pPut_grow (most := (k : Int) + 1) (ids := ups k) (r := mvr ids (eAt T y).1) (ih (by omega)) (by rw [hlen]; omega) (mvr_byte g hyb.1 hyb.2)).1
      rw [pPut_copy g hc hy (by omega)] at this
      exact this
  have := key ids.length (Nat.le_refl _)
  rwa [← copy_len (T := T), List.take_length] at this
theorem eAt_copy {k : Nat} {y : Int} (hk : ids[k]? = some y) : eAt (copy T ids) ((k : Int) + 1) = (mvr ids (eAt T y).1, (eAt T y).2) := by
  have h := copy_at (T := T) hk (m := ids.length) (List.getElem?_eq_some_iff.1 hk).1
  rwa [← copy_len (T := T), List.take_length] at h
theorem refs_mvr (g : Grow T) (hc : Closed T ids) {y x : Int} (hy : y ∈ ids) (hx : x ∈ refs (eAt T y).1) : pos ids x ∈ refs (mvr ids (eAt T y).1) := by
  have hyb := hc.bound y hy
  cases g.shape hyb.1 hyb.2 with
  | letter b _ _ e => rw [e] at hx; simp [refs, mkLetter] at hx
  | pair l r _ _ _ _ _ e =>
    rw [e] at hx ⊢
    have : x = l ∨ x = r := by simpa [refs, mkPair] using hx
    rcases this with rfl | rfl <;> simp [refs, mvr, mkPair]
  | power a k _ _ _ _ e =>
    rw [e] at hx ⊢
    have : x = a := by simpa [refs, mkPower] using hx
    subst this; simp [refs, mvr, mkPower]
def upTo (n : Nat) : List Int := (List.range n).map fun i : Nat => (i : Int) + 1
theorem upTo_get {n k : Nat} (h : k < n) : (upTo n)[k]? = some ((k : Int) + 1) := by
  unfold upTo
  rw [List.getElem?_map, List.getElem?_range h]; rfl
theorem upTo_mem {n : Nat} {x : Int} : x ∈ upTo n ↔ 1 ≤ x ∧ x ≤ n := by
  unfold upTo
  rw [List.mem_map]
  constructor
  · rintro ⟨i, hi, rfl⟩
    have := List.mem_range.1 hi; omega
  · intro h
    exact ⟨(x - 1).toNat, List.mem_range.2 (by omega), by omega⟩
theorem upTo_sorted (n : Nat) : (upTo n).Pairwise (fun x y => x < y) := by
  unfold upTo
  rw [List.pairwise_map]
  exact List.pairwise_lt_range.imp fun h => by omega
theorem upTo_pos {n : Nat} {x : Int} (h0 : 0 ≤ x) (h : x ≤ n) : pos (upTo n) x = x := by
  by_cases c : x = 0
  · subst c
    exact pos_none fun hm => by have := (upTo_mem.1 hm).1; omega
  · have := pos_some ((upTo_sorted n).imp fun h => by omega) (upTo_get (n := n) (k := (x - 1).toNat) (by omega))
    rw [show (((x - 1).toNat : Nat) : Int) + 1 = x by omega] at this
    exact this
theorem pos_bound (hc : Closed T ids) (x : Int) : 0 ≤ pos ids x ∧ pos ids x ≤ ids.length := by
  by_cases h : x ∈ ids
  · obtain ⟨j, hj⟩ := List.getElem?_of_mem h
    have := (List.getElem?_eq_some_iff.1 hj).1
    rw [pos_some hc.nodup hj]; omega
  · rw [pos_none h]; omega
/-- the copy of what one rule reaches, exported from its last rule -/
theorem exp_copy (g : Grow T) {id : Int} (h0 : 0 ≤ id) (h1 : id ≤ T.length) : exp (copy T (rlist T [id])) (rlist (copy T (rlist T [id])) [((rlist T [id]).length : Int)]) = exp T (rlist T [id]) ∧ ((0 : Int) :: rlist T [id]).getLastD 0 = id := by
  have hS : ∀ x ∈ [id], 0 ≤ x ∧ x ≤ (T.length : Int) := fun x hx => by simp at hx; subst hx; exact ⟨h0, h1⟩
  have hc := rlist_closed g hS
  have hmem : ∀ x : Int, x ∈ rlist T [id] ↔ Rch T [id] x := fun x => rlist_mem g hS
  generalize rlist T [id] = ids at *
  have hle : ∀ x, Rch T [id] x → x ≤ id := fun x h => by
    induction h with
    | root h _ => simp at h; omega
    | ref h1 h2 ih =>
      have b := h1.bound g hS
      have := (refs_in g b.1 b.2 h2).2
      omega
  by_cases hz : id = 0
  · subst hz
    have he : ids = [] := by
      apply List.eq_nil_iff_forall_not_mem.2
      intro x hx
      have b := hc.bound x hx
      have := hle x ((hmem x).1 hx)
      omega
    subst he
    refine ⟨?_, rfl⟩
    have : rlist (copy T []) [(([] : List Int).length : Int)] = [] := rlist_zero
    rw [this]; rfl
  have hidm : id ∈ ids := (hmem id).2 (.root (by simp) hz)
  obtain ⟨k, hk⟩ := List.getElem?_of_mem hidm
  have hkl := (List.getElem?_eq_some_iff.1 hk).1
  have hlast : k + 1 = ids.length := by
    by_cases h : k + 1 < ids.length
    · have hg : ids[k + 1]? = some ids[k + 1] := List.getElem?_eq_getElem h
      have h2 := (sorted_lt hc.sorted hk hg).2 (by omega)
      have h3 := hle _ ((hmem _).1 (List.getElem_mem h))
      omega
    · omega
  have hlen := copy_len (T := T) (ids := ids)
  have gc := copy_grow g hc
  have hS' : ∀ x ∈ [(ids.length : Int)], 0 ≤ x ∧ x ≤ ((copy T ids).length : Int) := fun x hx => by simp at hx; subst hx; omega
  have hreach : ∀ x : Int, Rch T [id] x → ∀ j : Nat, ids[j]? = some x → Rch (copy T ids) [(ids.length : Int)] ((j : Int) + 1) := by
    intro x hx
    induction hx with
    | root h1 _ =>
      intro j hj
      simp at h1
      subst h1
      have : j = k := (List.getElem_inj hc.nodup (h₀ := (List.getElem?_eq_some_iff.1 hj).1) (h₁ := hkl)).1 (by rw [(List.getElem?_eq_some_iff.1 hj).2, (List.getElem?_eq_some_iff.1 hk).2])
      subst this
      exact .root (by simp; omega) (by omega)
    | @ref y x h1 h2 ih =>
      intro j hj
      have hym := (hmem y).2 h1
      obtain ⟨i, hi⟩ := List.getElem?_of_mem hym
      have := ih i hi
      refine .ref this ?_
      rw [eAt_copy hi]
      have := refs_mvr g hc hym h2
      rwa [pos_some hc.nodup hj] at this
  have hr : rlist (copy T ids) [(ids.length : Int)] = upTo ids.length := by
    refine sorted_unique rlist_sorted (upTo_sorted _) fun x => ?_
    rw [rlist_mem gc hS', upTo_mem]
    constructor
    · intro h
      have := h.bound gc hS'
      omega
    · intro h
      have hg : ids[(x - 1).toNat]? = some ids[(x - 1).toNat] := List.getElem?_eq_getElem (by omega)
      have := hreach _ ((hmem _).1 (List.getElem_mem (by omega))) _ hg
      rwa [show (((x - 1).toNat : Nat) : Int) + 1 = x by omega] at this
  constructor
  · rw [hr]
    apply List.ext_getElem?
    intro i
    by_cases hi : i < ids.length
    · have hg : ids[i]? = some ids[i] := List.getElem?_eq_getElem hi
      rw [exp_get (upTo_get hi), exp_get hg, eAt_copy hg]
      have b1 := pos_bound hc (eAt T ids[i]).1.2.2.1
      have b2 := pos_bound hc (eAt T ids[i]).1.2.2.2.1
      simp only [mvr]
      rw [upTo_pos b1.1 b1.2, upTo_pos b2.1 b2.2]
    · rw [List.getElem?_eq_none (by rw [exp_len]; simp [upTo]; omega), List.getElem?_eq_none (by rw [exp_len]; omega)]
  · rw [List.getLastD_cons, List.getLastD_eq_getLast?, List.getLast?_eq_getElem?, show ids.length - 1 = k by omega, hk]; rfl

theorem ruleOK_exp (g : Grow T) (hc : Closed T ids) : ∀ r ∈ exp T ids, RuleOK r := by
  intro r hr
  obtain ⟨y, hy, rfl⟩ := List.mem_map.1 hr
  have hyb := hc.bound y hy
  refine ⟨mvr_byte g hyb.1 hyb.2, ?_⟩
  show (eAt T y).1.2.2.2.2 ≤ _
  cases g.shape hyb.1 hyb.2 with
  | letter b _ _ e => rw [e]; simp [mkLetter]
  | pair l r _ _ _ _ _ e => rw [e]; simp [mkPair]
  | power x k h1 h2 h3 h4 e =>
    rw [e]
    have hpos := (g.at_ (id := x) (by omega) (by omega)).2.2.2 h1
    have : 1 * k ≤ (eAt T x).2.1.1 * k := Int.mul_le_mul_of_nonneg_right hpos (by omega)
    simp only [mkPower]; omega

end Go.Proofs.YtcmncfglcjcmhaaGreat

/- law15: what the specification writes out of a list of rules (evergreenref12): Expand, derive, Text. -/
set_option linter.unusedVariables false
set_option linter.unusedSimpArgs false
namespace Go.Proofs.YtcmncfglcjcmhaaGreat
open Go.Den

variable {w0 w : World} {Ω : List Ob} {most : Int} {T : List ET} {ids : List Int} {i j : Nat} {p : Addr} 

/-! ### Expand -/
theorem gr_refs {k : Nat} {y z : Int} (hg : GR T ids k y) (hz : z ∈ refs (mvr ids (eAt T y).1)) : 1 ≤ z ∧ z ≤ k := by
  cases hg with
  | letter b h1 h2 e hl ht => rw [e] at hz; simp [refs] at hz
  | pair l r jl jr h1 h2 hl hr e hlen' hle ht => rw [e] at hz; simp [refs] at hz; omega
  | power x m j h1 hx h2 e hlen' hle ht => rw [e] at hz; simp [refs] at hz; omega
def LC (T : List ET) (ids : List Int) (M : Int) (n : Nat) (inl : List (Ty.int .i64).T) : Prop := inl.length = ids.length + 1 ∧ ∀ (j : Nat) (y : Int), j < n → ids[j]? = some y → inl[j + 1]? = some (min (eAt T y).2.1.1 M)
theorem LC.put {M v : Int} {n : Nat} {inl : List (Ty.int .i64).T} {y : Int} (l : LC T ids M n inl) (hk : ids[n]? = some y) (hv : v = min (eAt T y).2.1.1 M) : LC T ids M (n + 1) (inl.set (n + 1) v) := by
  have hn := (List.getElem?_eq_some_iff.1 hk).1
  have hl := l.1
  refine ⟨by rw [List.length_set]; exact hl, fun j z hj hz => ?_⟩
  by_cases c : j = n
  · subst c
    rw [hk] at hz
    cases hz
    rw [List.getElem?_set, if_pos rfl, if_pos (by omega), hv]
  · rw [List.getElem?_set, if_neg (by omega)]
    exact l.2 j z (by omega) hz
theorem upTo_closed (g : Grow T) {n : Nat} (h : n ≤ T.length) : Closed T (upTo n) :=
  ⟨upTo_sorted n, fun x hx => by have := upTo_mem.1 hx; omega, fun y hy x hx => by
    have hy' := upTo_mem.1 hy
    have := refs_in g hy'.1 (by omega) hx
    exact upTo_mem.2 (by omega)⟩
theorem upTo_len (n : Nat) : (upTo n).length = n := by simp [upTo]
theorem exp_upTo (g : Grow T) {n : Nat} (h : n ≤ T.length) : exp T (upTo n) = (rulesOf T).take n := by
  refine List.ext_getElem? fun i => ?_
  by_cases hi : i < n
  · rw [exp_get (upTo_get hi), List.getElem?_take_of_lt hi, rulesOf_get (by omega)]
    congr 1
    have key : pos (upTo n) (eAt T ((i : Int) + 1)).1.2.2.1 = (eAt T ((i : Int) + 1)).1.2.2.1 ∧ pos (upTo n) (eAt T ((i : Int) + 1)).1.2.2.2.1 = (eAt T ((i : Int) + 1)).1.2.2.2.1 := by
      cases g.txt (id := (i : Int) + 1) (by omega) (by omega) with
      | letter b _ _ e _ => rw [e]; exact ⟨upTo_pos (Int.le_refl 0) (Int.natCast_nonneg n), upTo_pos (Int.le_refl 0) (Int.natCast_nonneg n)⟩
      | pair l r _ _ _ _ _ e _ => rw [e]; exact ⟨upTo_pos (x := l) (by omega) (by omega), upTo_pos (x := r) (by omega) (by omega)⟩
      | power x k _ _ _ _ e _ => rw [e]; exact ⟨upTo_pos (x := x) (by omega) (by omega), upTo_pos (Int.le_refl 0) (Int.natCast_nonneg n)⟩
    unfold mvr
    rw [key.1, key.2]
  · rw [List.getElem?_eq_none (by rw [exp_len, upTo_len]; omega), List.getElem?_eq_none (by rw [List.length_take]; omega)]
end Go.Proofs.YtcmncfglcjcmhaaGreat

/- law15: what the specification says is balanced; that a result fits; that it has these letters. -/
set_option linter.unusedVariables false
set_option linter.unusedSimpArgs false
namespace Go.Proofs.YtcmncfglcjcmhaaGreat
open Go.Den

variable {w0 w : World} {Ω : List Ob} {most : Int} {T : List ET} {ids : List Int} {i j : Nat} {p : Addr} 

abbrev dep (T : List ET) (y : Int) : Int := (eAt T y).2.2.1
abbrev evn (T : List ET) (y : Int) : Bool := (eAt T y).2.2.2
/-- a rule of an exported list, and how deep it is -/
inductive GB (T : List ET) (ids : List Int) (k : Nat) (y : Int) : Prop
  | letter (b : Int) : mvr ids (eAt T y).1 = (1, b, 0, 0, 0) → dep T y = 0 → evn T y = true → GB T ids k y
  | pair (l r : Int) (jl jr : Nat) : jl < k → jr < k → ids[jl]? = some l → ids[jr]? = some r → mvr ids (eAt T y).1 = (2, 0, (jl : Int) + 1, (jr : Int) + 1, 0) → dep T y = 1 + (if dep T l < dep T r then dep T r else dep T l) → evn T y = (evn T l && evn T r && decide (-1 ≤ dep T l - dep T r) && decide (dep T l - dep T r ≤ 1)) → GB T ids k y
  | power (x m : Int) (j : Nat) : j < k → ids[j]? = some x → 2 ≤ m → mvr ids (eAt T y).1 = (3, 0, (j : Int) + 1, 0, m) → dep T y = 1 + dep T x → evn T y = false → GB T ids k y
theorem gb_of (g : Grow T) (hc : Closed T ids) {k : Nat} {y : Int} (hk : ids[k]? = some y) : GB T ids k y := by
  have hyb := hc.bound y (List.mem_of_getElem? hk)
  have p0 := pos_zero hc
  cases g.txt hyb.1 hyb.2 with
  | letter b h1 h2 e ht => exact .letter b (by rw [e]; simp [mvr, mkLetter, p0]) (by unfold dep; rw [e]; rfl) (by unfold evn; rw [e]; rfl)
  | pair l r h1 h2 h3 h4 h5 e ht =>
    obtain ⟨j1, q1, q2, e1⟩ := hc.ref g hk (x := l) (by rw [e]; simp [refs, mkPair])
    obtain ⟨j2, q3, q4, e2⟩ := hc.ref g hk (x := r) (by rw [e]; simp [refs, mkPair])
    exact .pair l r j1 j2 q1 q3 q2 q4 (by rw [e]; simp [mvr, mkPair, e1, e2]) (by unfold dep; rw [e]; rfl) (by unfold evn dep; rw [e]; rfl)
  | power x m h1 h2 h3 h4 e ht =>
    obtain ⟨j1, q1, q2, e1⟩ := hc.ref g hk (x := x) (by rw [e]; simp [refs, mkPower])
    exact .power x m j1 q1 q2 h3 (by rw [e]; simp [mvr, mkPower, e1, p0]) (by unfold dep; rw [e]; rfl) (by unfold evn; rw [e]; rfl)

/-! ### A list of what holds of the rules so far -/
def LV {α : Type} (ids : List Int) (f : Int → α) (z : α) (n : Nat) (l : List α) : Prop := l.length = ids.length + 1 ∧ ∀ (j : Nat) (y : Int), ids[j]? = some y → l[j + 1]? = some (if j < n then f y else z)
theorem LV.put {α : Type} {f : Int → α} {z v : α} {n : Nat} {l : List α} {y : Int} (h : LV ids f z n l) (hk : ids[n]? = some y) (hv : v = f y) : LV ids f z (n + 1) (l.set (n + 1) v) := by
  have hn := (List.getElem?_eq_some_iff.1 hk).1
  have hl := h.1
  refine ⟨by rw [List.length_set]; exact hl, fun j u hu => ?_⟩
  by_cases c : j = n
  · subst c
    rw [hk] at hu
    cases hu
    rw [List.getElem?_set, if_pos rfl, if_pos (by omega), if_pos (by omega), hv]
  · rw [List.getElem?_set, if_neg (by omega), h.2 j u hu]
    congr 1
    by_cases c2 : j < n
    · rw [if_pos c2, if_pos (by omega)]
    · rw [if_neg c2, if_neg (by omega)]
theorem LV.skip {α : Type} {f : Int → α} {z : α} {n : Nat} {l : List α} {y : Int} (h : LV ids f z n l) (hk : ids[n]? = some y) (hv : f y = z) : LV ids f z (n + 1) l := by
  refine ⟨h.1, fun j u hu => ?_⟩
  rw [h.2 j u hu]
  congr 1
  by_cases c : j = n
  · subst c
    rw [hk] at hu
    cases hu
    rw [if_neg (by omega), if_pos (by omega), hv]
  · by_cases c2 : j < n
    · rw [if_pos c2, if_pos (by omega)]
    · rw [if_neg c2, if_neg (by omega)]
theorem LV.at_ {α : Type} {f : Int → α} {z : α} {n j : Nat} {l : List α} {y : Int} (h : LV ids f z n l) (hk : ids[j]? = some y) (hj : j < n) : l[j + 1]? = some (f y) := by
  rw [h.2 j y hk, if_pos hj]

/-! ### A result fits, and has these letters -/
theorem nd0_fib (g : Grow T) {x : Int} {t : List Int} {d : Int} (n : Nd0 T x t d) {b : Nat} (hb : IsBound (t.length : Int) b) : d ≤ b := by
  by_cases c : x = 0
  · subst c
    have := n.nil.2
    omega
  · have h1 := (n.nd c).fib g x.toNat rfl
    have h2 := hb.le (e := d.toNat) (by omega)
    omega
end Go.Proofs.YtcmncfglcjcmhaaGreat

/- law12: begun, roots; the walks of CollectReaches and CollectCloses. -/
set_option linter.unusedVariables false
set_option linter.unusedSimpArgs false
namespace Go.Proofs.YtcmncfglcjcmhaaGreat
open Go.Den

variable {w0 w : World} {Ω : List Ob} {most : Int} {T : List ET} {i j : Nat} {p : Addr} 

abbrev Known_ (T : List ET) (S : List Int) : Prop := ∀ x ∈ S, 0 ≤ x ∧ x ≤ (T.length : Int)
theorem collect_Reach_both {rsl : Sl} {S : List Int} (s : Sp w0 Ω w) (i : Nat) (hi : Ω[i]? = some (sto p most T)) (hv : ∀ w', Sp w0 Ω w' → View (.int .i64) w' rsl S) (hSN : S.length ≤ 1000000000) {K : Sl × Value → World → Prop}
    (h : ∀ (r : Sl × Value) (L : List (Ty.int .i64).T) w', (Known_ T S ∧ r.2 = .nilIface ∧ L = rlist T S) ∨ (¬ Known_ T S ∧ r = (⟨none, 0, 0⟩, errV 1) ∧ L = []) → Sp w0 (own (.int .i64) r.1 L :: Ω) w' → K r w') : C_collect_Reach (some p) rsl K w :=
  collect_Reach_sp s i hi hv hSN (fun hk sl w' s => h (sl, .nilIface) _ w' (Or.inl ⟨hk, rfl, rfl⟩) s) (fun hn w' s => h (⟨none, 0, 0⟩, errV 1) [] w' (Or.inr ⟨hn, rfl, rfl⟩) (s.nil (.int .i64)))

/-! ### The store that all begin with -/
theorem first_a : pLetter [] 1 97 = ([mkLetter 97], ((1 : Int), Value.nilIface)) := by kernel_rfl
theorem grow_a : Grow [mkLetter 97] := Grow.letter (L := []) (b := 97) .nil (by decide) (by decide) rfl
theorem rlist_a : rlist [mkLetter 97] [1] = [1] := by
  have hS : ∀ x ∈ [(1 : Int)], 0 ≤ x ∧ x ≤ (([mkLetter 97] : List ET).length : Int) := fun x hx => by simp at hx; subst hx; decide
  refine sorted_unique rlist_sorted (by simp) fun x => ?_
  rw [rlist_mem grow_a hS]
  constructor
  · intro h
    have := h.bound grow_a hS
    have h1 : (([mkLetter 97] : List ET).length : Int) = 1 := rfl
    simp; omega
  · intro h
    simp at h
    subst h
    exact .root (by simp) (by decide)
/-! ### Roots -/
def rootP (T : List ET) (res : List Int) (n : Int) : Int := if n = -4 then -1 else if n = -5 then (T.length : Int) + 1 else rsAt res n
def rootL (T : List ET) (res : List Int) (picks : List Int) : List (Ty.int .i64).T := picks.map (rootP T res)
theorem rootL_len (T : List ET) (res picks : List Int) : (rootL T res picks).length = picks.length := List.length_map _
/-! ### Closure -/
theorem rlist_rlist {S : List Int} (g : Grow T) (hS : Known_ T S) : rlist T (rlist T S) = rlist T S ∧ Known_ T (rlist T S) := by
  have hk : Known_ T (rlist T S) := fun x hx => by
    have := (mem_rlist.1 hx).1
    omega
  refine ⟨sorted_unique rlist_sorted rlist_sorted fun x => ?_, hk⟩
  rw [rlist_mem g hk, rlist_mem g hS]
  constructor
  · intro h
    induction h with
    | root h1 _ => exact (rlist_mem g hS).1 h1
    | ref _ h2 ih => exact .ref ih h2
  · intro h
    exact .root ((rlist_mem g hS).2 h) (by have := (h.bound g hS).1; omega)
theorem rlist_union {S S' : List Int} (g : Grow T) (hS : Known_ T S) (hS' : Known_ T S') : Known_ T (S ++ S') ∧ ∀ x, x ∈ rlist T (S ++ S') ↔ x ∈ rlist T S ++ rlist T S' := by
  have hk : Known_ T (S ++ S') := fun x hx => by
    rcases List.mem_append.1 hx with h | h
    · exact hS x h
    · exact hS' x h
  refine ⟨hk, fun x => ?_⟩
  rw [rlist_mem g hk, List.mem_append, rlist_mem g hS, rlist_mem g hS']
  constructor
  · intro h
    induction h with
    | root h1 h2 =>
      rcases List.mem_append.1 h1 with h | h
      · exact Or.inl (.root h h2)
      · exact Or.inr (.root h h2)
    | ref _ h2 ih =>
      rcases ih with ih | ih
      · exact Or.inl (.ref ih h2)
      · exact Or.inr (.ref ih h2)
  · rintro (h | h)
    · exact h.mono fun y hy => List.mem_append_left _ hy
    · exact h.mono fun y hy => List.mem_append_right _ hy
theorem same_len {L M : List Int} (hL : L.Nodup) (hM : M.Nodup) (h : ∀ x, x ∈ L ↔ x ∈ M) : L.length = M.length := by
  have := sorted_unique (srt_lt hL) (srt_lt hM) fun x => by rw [(srt_perm L).mem_iff, (srt_perm M).mem_iff]; exact h x
  have := congrArg List.length this
  rwa [srt_len, srt_len] at this
theorem mapIB2 : P.underlying t_map_api_ID_bool = some (.map t_api_ID (mapElem t_map_api_ID_bool)) := mapIB
end Go.Proofs.YtcmncfglcjcmhaaGreat

/- law15: the store that all statements begin with; the walks of BalanceLimits, BalanceTexts and BalanceFull. -/
set_option linter.unusedVariables false
set_option linter.unusedSimpArgs false
namespace Go.Proofs.YtcmncfglcjcmhaaGreat
open Go.Den

variable {w0 w : World} {Ω : List Ob} {most : Int} {T : List ET} {i j : Nat} {p : Addr} 

/-! ### The bytes of a constant -/
theorem bytes_mk (s : Sp w0 Ω w) (xs : List (Ty.int .u8).T) (n : Nat) (hn : n = xs.length) {K : Sl → World → Prop} (h : ∀ sl w', sl.len = n → sl.cap = n → Sp w0 (vw (.int .u8) sl xs :: Ω) w' → K sl w') :
    Go.Den.allocK (.cells (flat (.int .u8) xs).toArray t_uint8) w fun a w' => runK P .slice (convert t_sl_uint8 t_sl_uint8 (.slice (some a) n n)) w' K := by
  have hh := alloc_new w (.cells (flat (.int .u8) xs).toArray t_uint8 ((flat (.int .u8) xs).toArray.size, (flat (.int .u8) xs).toArray.size + 1))
  refine ⟨⟨some ⟨w.heap.size, 0, none⟩, n, n⟩, _, Lib.run_convert_bytes_const w _ _ _ n n underBytes underByte, h _ _ rfl rfl (s.push (B := fun b => b = w.heap.size) (alloc_ext w _) ⟨⟨hn, fun q hq => ?_, fun _ => ⟨_, rfl⟩⟩, ?_⟩ ?_)⟩
  · cases hq
    exact at_block hh
  · rintro b ⟨q, hq, rfl⟩
    cases hq
    rfl
  · rintro b rfl
    exact ⟨Nat.le_refl _, by simp⟩

abbrev B20 : Int := 1048576
theorem B20_eq : B20 = 1048576 := rfl
theorem bld_nil : bld B20 [] = ([], [0]) := rfl

/-! ### BalanceTexts -/
/-! ### BalanceFull -/
/-! ### BalanceLimits -/
def cyc (ls : List Int) (n : Nat) : List Int := (List.range n).map fun i => ls.getD (i % ls.length) 0
theorem cyc_len (ls : List Int) (n : Nat) : (cyc ls n).length = n := by simp [cyc]
theorem cyc_succ {ls : List Int} {n : Nat} {x : Int} (h : ls[n % ls.length]? = some x) : cyc ls (n + 1) = cyc ls n ++ [x] := by
  unfold cyc
  rw [List.range_succ, List.map_append, List.map_singleton, List.getD_eq_getElem?_getD, h]; rfl
end Go.Proofs.YtcmncfglcjcmhaaGreat

/- law15: copies of a text (repeat, Repeat); the walk of BalanceRepeats. -/
set_option linter.unusedVariables false
set_option linter.unusedSimpArgs false
namespace Go.Proofs.YtcmncfglcjcmhaaGreat
open Go.Den

variable {w0 w : World} {Ω : List Ob} {most : Int} {T : List ET} {i j : Nat} {p : Addr} 

def Rep (n : Nat) (t : List Int) : List Int := (List.replicate n t).flatten
theorem Rep_len (n : Nat) (t : List Int) : (Rep n t).length = n * t.length := flat_rep_len n t
theorem Rep_add (a b : Nat) (t : List Int) : Rep a t ++ Rep b t = Rep (a + b) t := by
  unfold Rep
  rw [← List.flatten_append, List.replicate_append_replicate]
theorem Rep_zero (t : List Int) : Rep 0 t = [] := rfl
theorem Rep_one (t : List Int) : Rep 1 t = t := by simp [Rep]
theorem Rep_nil (n : Nat) : Rep n [] = [] := List.eq_nil_of_length_eq_zero (by rw [Rep_len]; rfl)
theorem Rep_le {a b : Nat} (h : a ≤ b) (t : List Int) : a * t.length ≤ b * t.length := Nat.mul_le_mul_right _ h
theorem nd0_le (g : Grow T) {x n : Int} {t : List Int} {d : Int} (nx : Nd0 T x t d) {b : Nat} (hb : IsBound n b) (hn : (t.length : Int) ≤ n) : 0 ≤ d ∧ d ≤ b := by
  refine ⟨(nx.len g).2, ?_⟩
  by_cases c : x = 0
  · subst c
    have := nx.nil.2
    omega
  · have h1 := (nx.nd c).fib g x.toNat rfl
    have h2 := hb.le (e := d.toNat) (by omega)
    omega
theorem joinN_le {a b da db : Int} {B : Nat} (h1 : 0 ≤ da ∧ da ≤ B) (h2 : 0 ≤ db ∧ db ≤ B) : joinN a b da db ≤ 3 * B + 1 := by
  unfold joinN
  split <;> omega
theorem joinN_same {a da : Int} : joinN a a da da ≤ 1 := by
  unfold joinN
  split <;> omega

def RepQ (k : Nat) (t : List Int) : List ET → Int → Prop := fun T' y => ∃ e, Nd0 T' y (Rep k t) e
theorem balance_repeat_sp {x d : Int} {k : Nat} {t : List Int} {B : Nat} (s : Sp w0 Ω w) (i : Nat) (hi : Ω[i]? = some (sto p most T)) (nx : Nd0 T x t d) (hk : 1 ≤ k) (hk2 : (k : Int) ≤ 9223372036854775807) (hl : ((k * t.length : Nat) : Int) ≤ 1152921504606846976) (hB : IsBound ((k * t.length : Nat) : Int) B) {K : Int × Value → World → Prop}
    (h : ∀ T' r w', Res T most ((3 * B + 2) * (log2 k + 1)) (RepQ k t) T' r → Sp w0 (Ω.set i (sto p most T')) w' → K r w') : C_balance_repeat (some p) x (k : Int) K w := by
  apply S_balance_repeat
  unfold F_balance_repeat
  obtain ⟨_, _, _, hb0, hb1, hb2, hg⟩ := Sp.entry s i hi
  have s0 : Sp w0 (Ω.set i (sto p most T)) w := by rw [setSame hi]; exact s
  refine ⟨fun z w => ∃ (T1 : List ET) (k' P r j : Nat) (d1 e1 : Int), z.2.1 = (k' : Int) ∧ 1 ≤ k' ∧ k = k' * P + r ∧ 1 ≤ P ∧ r < P ∧ j + log2 k' = log2 k ∧ Res T most ((3 * B + 2) * j) (fun _ _ => True) T1 (0, .nilIface) ∧ Nd0 T1 z.1 (Rep P t) d1 ∧ Nd0 T1 z.2.2.1 (Rep r t) e1 ∧ Sp w0 (Ω.set i (sto p most T1)) w,
    fun z _ => z.2.1.toNat, ⟨T, k, 1, 0, 0, d, 0, rfl, hk, by omega, Nat.le_refl _, Nat.zero_lt_one, by omega, .same hg hb2 trivial, by rw [Rep_one]; exact nx, by rw [Rep_zero]; exact Nd0.zero, s0⟩, ?_⟩
  clear s s0
  rintro ⟨x1, y, out, _⟩ w1 ⟨T1, k', P, r, j, d1, e1, hy, hk1, hkP, hP, hrP, hj, hr1, nx1, no1, s⟩ _
  dsimp only at hy nx1 no1 ⊢
  subst hy
  have hkk : k' ≤ k := by
    have : k' * 1 ≤ k' * P := Nat.mul_le_mul_left _ hP
    omega
  have hmod : Int.tmod (k' : Int) 2 = ((k' % 2 : Nat) : Int) := rfl
  have hdiv : Int.tdiv (k' : Int) 2 = ((k' / 2 : Nat) : Int) := by rw [Int.tdiv_eq_ediv_of_nonneg (by omega)]; omega
  have hsplit : k' * P = (k' / 2) * (2 * P) + (k' % 2) * P := by
    have h1 := Nat.div_add_mod k' 2
    calc k' * P = (2 * (k' / 2) + k' % 2) * P := by rw [h1]
      _ = (k' / 2) * (2 * P) + (k' % 2) * P := by rw [Nat.add_mul, Nat.mul_comm 2 (k' / 2), Nat.mul_assoc]
  have hPk : P ≤ k' * P := Nat.le_mul_of_pos_left _ hk1
  have lP := Rep_le (a := P) (b := k) (by omega) t
  have lr := Rep_le (a := r) (b := k) (by omega) t
  have bx := nd0_le hr1.grow nx1 hB (by rw [Rep_len]; omega)
  have bo := nd0_le hr1.grow no1 hB (by rw [Rep_len]; omega)
  have hC : (3 * B + 2) * j + (3 * B + 2) = (3 * B + 2) * (j + 1) := by rw [Nat.mul_succ]
  have hj1 : (3 * B + 2) * (j + 1) ≤ (3 * B + 2) * (log2 k + 1) := Nat.mul_le_mul_left _ (by omega)
  refine ⟨fun z w => ∃ (T2 : List ET) (e2 : Int), Res T most ((3 * B + 2) * j + (3 * B + 1)) (fun _ _ => True) T2 (0, .nilIface) ∧ T1 <+: T2 ∧ Nd0 T2 z.1 (Rep ((k' % 2) * P + r) t) e2 ∧ Sp w0 (Ω.set i (sto p most T2)) w, ⟨by decide, letZ_mk ?_⟩, ?_⟩
  · rw [hmod]
    refine gd_eq (fun c => ?_) (fun c => ⟨T1, e1, hr1.mono (by omega) fun _ _ => trivial, List.prefix_refl _, by rw [show k' % 2 = 0 by omega, Nat.zero_mul, Nat.zero_add]; exact no1, s⟩)
    have hm1 : k' % 2 = 1 := by omega
    rw [hm1, Nat.one_mul] at hsplit ⊢
    have lrP := Rep_le (a := r + P) (b := k) (by omega) t
    refine avl_Join_sp s i (setGet hi) no1 nx1 (by rw [Rep_len, Rep_len]; rw [Nat.add_mul] at lrP; omega) fun T2 z w2 hr2 s => ?_
    rw [List.set_set] at s
    have r12 := (hr1.andThen hr2).mono (N' := (3 * B + 2) * j + (3 * B + 1)) (Q' := fun T' y => ∃ e, Nd0 T' y (Rep (P + r) t) e) (by have := joinN_le (a := out) (b := x1) bo bx; omega) fun y hy => by
      obtain ⟨e, hn, _⟩ := hy
      rw [Rep_add, Nat.add_comm r P] at hn
      exact ⟨e, hn⟩
    obtain ⟨z1, z2⟩ := z
    rcases r12.out with ⟨e, e2, n2⟩ | ⟨e, hf⟩
    · dsimp only at e n2 ⊢
      subst e
      exact nilIfc_nil (gd_f rfl ⟨T2, e2, ⟨r12.ext, r12.grow, r12.cap, r12.len, Or.inl ⟨rfl, trivial⟩⟩, hr2.ext, n2, s⟩)
    · cases e
      exact nilIfc_err (gd_t rfl (h T2 _ w2 ⟨r12.ext, r12.grow, r12.cap, by have := r12.len; omega, Or.inr ⟨rfl, by omega⟩⟩ s))
  rintro ⟨out2, _⟩ w2 ⟨T2, e2, hr2, hx2, no2, s⟩ _
  dsimp only at no2 ⊢
  refine ⟨by decide, arith_i64 (by omega) (by omega) ?_⟩
  rw [hdiv]
  refine gd_eq (fun c => ?_) (fun c => ?_)
  · have h1 : k' / 2 = 0 := by omega
    rw [h1, Nat.zero_mul, Nat.zero_add] at hsplit
    rw [← hsplit, ← hkP] at no2
    exact h T2 _ w2 ⟨hr2.ext, hr2.grow, hr2.cap, by have := hr2.len; omega, Or.inl ⟨rfl, e2, no2⟩⟩ s
  · have hk2' : 2 ≤ k' := by omega
    have l2 : 2 * P ≤ (k' / 2) * (2 * P) := Nat.le_mul_of_pos_left _ (by omega)
    have l2P := Rep_le (a := P + P) (b := k) (by omega) t
    have nx2 := nx1.ext hx2
    refine avl_Join_sp s i (setGet hi) nx2 nx2 (by rw [Rep_len]; rw [Nat.add_mul] at l2P; omega) fun T3 z w3 hr3 s => ?_
    rw [List.set_set] at s
    have r23 := (hr2.andThen hr3).mono (N' := (3 * B + 2) * (j + 1)) (Q' := fun T' y => ∃ e, Nd0 T' y (Rep (2 * P) t) e) (by have := joinN_same (a := x1) (da := d1); omega) fun y hy => by
      obtain ⟨e, hn, _⟩ := hy
      rw [Rep_add, show P + P = 2 * P by omega] at hn
      exact ⟨e, hn⟩
    obtain ⟨z1, z2⟩ := z
    rcases r23.out with ⟨e, e3, n3⟩ | ⟨e, hf⟩
    · dsimp only at e n3 ⊢
      subst e
      have hlog := log2_step hk2'
      refine nilIfc_nil (gd_f rfl ⟨⟨T3, k' / 2, 2 * P, (k' % 2) * P + r, j + 1, e3, e2, rfl, by omega, by omega, by omega, ?_, by omega, ⟨r23.ext, r23.grow, r23.cap, r23.len, Or.inl ⟨rfl, trivial⟩⟩, n3, no2.ext hr3.ext, s⟩, by omega⟩)
      have hm := Nat.mod_lt k' (show 0 < 2 by decide)
      have : (k' % 2) * P ≤ 1 * P := Nat.mul_le_mul_right _ (by omega)
      omega
    · cases e
      exact nilIfc_err (gd_t rfl (h T3 _ w3 ⟨r23.ext, r23.grow, r23.cap, by have := r23.len; omega, Or.inr ⟨rfl, by omega⟩⟩ s))

/-! ### Repeat -/
def repErr (T : List ET) (x k : Int) : Int := if ¬ (0 ≤ x ∧ x ≤ (T.length : Int)) then 1 else if evn T x = false then 4 else if k < 0 then 1 else if 1152921504606846976 < (eAt T x).2.1.1 * k then 2 else 0
theorem nd0_of {x : Int} (h : 0 ≤ x ∧ x ≤ (T.length : Int)) (he : evn T x = true) : Nd0 T x (txt T x) (dep T x) := ⟨h.1, h.2, rfl, rfl, he⟩
theorem balance_Repeat_bad {x k : Int} (s : Sp w0 Ω w) (i : Nat) (hi : Ω[i]? = some (sto p most T)) (hn : repErr T x k ≠ 0) {K : Int × Value → World → Prop} (h : ∀ w', Sp w0 Ω w' → K (0, errV (repErr T x k)) w') : C_balance_Repeat (some p) x k K w := by
  apply S_balance_Repeat
  unfold F_balance_Repeat
  obtain ⟨_, _, _, hb0, hb1, hb2, hg⟩ := Sp.entry s i hi
  by_cases hk : 0 ≤ x ∧ x ≤ (T.length : Int)
  rotate_left
  · have e : repErr T x k = 1 := by unfold repErr; rw [if_pos hk]
    rw [e] at h
    exact avl_Balanced_u s i hi hk fun w1 s => nilIfc_err (gd_t rfl (h _ s))
  refine avl_Balanced_k s i hi hk fun w1 s => nilIfc_nil (gd_f rfl ?_)
  cases he : evn T x with
  | false =>
    have e : repErr T x k = 4 := by unfold repErr; rw [if_neg (by omega), if_pos he]
    rw [e] at h
    exact gd_t (by rw [show (eAt T x).2.2.2 = false from he]; rfl) (h _ s)
  | true =>
    refine gd_f (by rw [show (eAt T x).2.2.2 = true from he]; rfl) (gd_dec (fun c => ?_) (fun c => ?_))
    · have e : repErr T x k = 1 := by unfold repErr; rw [if_neg (by omega), if_neg (by rw [he]; simp), if_pos c]
      rw [e] at h
      exact h _ s
    · have wx := (hg.at_ hk.1 hk.2).1.len
      refine intern_Weight_k s i hi hk fun w2 s => s.allocK fun a4 w3 s => s.st0 0 rfl rfl rfl fun w4 s => nilIfc_nil (gd_f rfl (s.ldi (x := (eAt T x).2.1.1) 0 0 rfl rfl ?_))
      refine length_Mul_spec wx (by omega) (fun hle => ?_) (fun hgt => nilIfc_err (gd_t rfl ?_))
      · exact absurd (by unfold repErr; rw [if_neg (by omega), if_neg (by rw [he]; simp), if_neg c, if_neg (by omega)]) hn
      · have e : repErr T x k = 2 := by unfold repErr; rw [if_neg (by omega), if_neg (by rw [he]; simp), if_neg c, if_pos hgt]
        rw [e] at h
        exact h _ s.pop
theorem repErr_zero {x k : Int} (h : repErr T x k = 0) : (0 ≤ x ∧ x ≤ (T.length : Int)) ∧ evn T x = true ∧ 0 ≤ k ∧ (eAt T x).2.1.1 * k ≤ 1152921504606846976 := by
  unfold repErr at h
  split at h
  · omega
  · rename_i h1
    split at h
    · omega
    · rename_i h2
      split at h
      · omega
      · rename_i h3
        split at h
        · omega
        · exact ⟨Classical.not_not.1 h1, by simpa using h2, by omega, by omega⟩
theorem balance_Repeat_sp {x k : Int} {B : Nat} (s : Sp w0 Ω w) (i : Nat) (hi : Ω[i]? = some (sto p most T)) (hn : repErr T x k = 0) (hk2 : k ≤ 9223372036854775807) (hB : IsBound ((eAt T x).2.1.1 * k) B) {K : Int × Value → World → Prop}
    (h : ∀ T' r w', Res T most ((3 * B + 2) * (log2 k.toNat + 1)) (RepQ k.toNat (txt T x)) T' r → Sp w0 (Ω.set i (sto p most T')) w' → K r w') : C_balance_Repeat (some p) x k K w := by
  apply S_balance_Repeat
  unfold F_balance_Repeat
  obtain ⟨_, _, _, hb0, hb1, hb2, hg⟩ := Sp.entry s i hi
  obtain ⟨hk, he, hk0, hle⟩ := repErr_zero hn
  have nx := nd0_of hk he
  have wx := (hg.at_ hk.1 hk.2).1.len
  have lx := (nx.len hg).1
  refine avl_Balanced_k s i hi hk fun w1 s => nilIfc_nil (gd_f rfl (gd_f (by rw [show (eAt T x).2.2.2 = true from he]; rfl) (gd_f (decide_eq_false (by omega)) ?_)))
  refine intern_Weight_k s i hi hk fun w2 s => s.allocK fun a4 w3 s => s.st0 0 rfl rfl rfl fun w4 s => nilIfc_nil (gd_f rfl (s.ldi (x := (eAt T x).2.1.1) 0 0 rfl rfl ?_))
  refine length_Mul_spec wx (by omega) (fun _ => nilIfc_nil (gd_f rfl ?_)) (fun hgt => by omega)
  have s : Sp w0 Ω w4 := s.pop
  have s0 : Sp w0 (Ω.set i (sto p most T)) w4 := by rw [setSame hi]; exact s
  obtain ⟨n, rfl⟩ := Int.eq_ofNat_of_zero_le hk0
  have e1 : (eAt T x).2.1.1 * (n : Int) = ((n * (txt T x).length : Nat) : Int) := by rw [lx, ← Int.natCast_mul, Nat.mul_comm]
  rw [e1] at hle hB
  rw [show ((n : Int)).toNat = n from rfl] at h
  refine JoinP.inl (gd_eq (fun c => ?_) (fun c => ?_))
  · have : n = 0 := by omega
    subst this
    intro _
    exact gd_t rfl (h T _ _ (.same hg hb2 ⟨0, by rw [Rep_zero]; exact Nd0.zero⟩) s0)
  · intro _
    refine gd_eq (fun c2 => ?_) (fun c2 => ?_)
    · subst c2
      exact h T _ _ (.same hg hb2 ⟨0, by rw [txt_zero, Rep_nil]; exact Nd0.zero⟩) s0
    · exact balance_repeat_sp s i hi nx (by omega) hk2 hle hB fun T' r w' hr s => h T' r w' hr s
/-! ### BalanceRepeats -/
theorem bound_ex {n : Int} (hn : 0 ≤ n ∧ n ≤ 1152921504606846976) : ∃ B, IsBound n B := by
  have key : ∀ m : Nat, n < fibL (m + 1) → ∃ B, IsBound n B := by
    intro m
    induction m with
    | zero => intro h; exact ⟨0, Or.inl rfl, h, by decide⟩
    | succ m ih =>
      intro h
      rcases Int.lt_or_le n (fibL (m + 1)) with c | c
      · exact ih c
      · exact ⟨m + 1, Or.inr c, h, fibL_small (by omega)⟩
  have := fibL_big
  exact key 86 (by show n < (fibL 87 : Int); omega)
theorem rep_room {B k : Nat} (hB : B ≤ 86) (hk : (k : Int) ≤ 9223372036854775807) : (3 * B + 2) * (log2 k + 1) ≤ 16640 ∧ (3 * B + 2) * (log2 k + 1) ≤ 8 * (B + 1) * (log2 k + 1) ∧ 8 * (B + 1) * (log2 k + 1) ≤ 44544 ∧ log2 k ≤ 63 := by
  have hl := log2_lt 63 k (by omega)
  refine ⟨?_, Nat.mul_le_mul_right _ (by omega), ?_, hl⟩
  · have := Nat.mul_le_mul (show 3 * B + 2 ≤ 260 by omega) (show log2 k + 1 ≤ 64 by omega)
    omega
  · have := Nat.mul_le_mul (show 8 * (B + 1) ≤ 696 by omega) (show log2 k + 1 ≤ 64 by omega)
    omega
end Go.Proofs.YtcmncfglcjcmhaaGreat

/- law15: any text made balanced (step, Of), and the specification's bound (Work). -/
set_option linter.unusedVariables false
set_option linter.unusedSimpArgs false
namespace Go.Proofs.YtcmncfglcjcmhaaGreat
open Go.Den

variable {w0 w : World} {Ω : List Ob} {most : Int} {T : List ET} {ids : List Int} {i j : Nat} {p : Addr} 

/-! ### What a rule costs -/
def logP (T : List ET) (y : Int) : Nat := if (eAt T y).1.1 = 3 then log2 (eAt T y).1.2.2.2.2.toNat else 0
def cost (T : List ET) (B : Nat) (y : Int) : Nat := if evn T y = true then 0 else (3 * B + 2) * (1 + logP T y)
def sumN : List Nat → Nat
  | [] => 0
  | x :: r => x + sumN r
theorem sumN_append : ∀ (a b : List Nat), sumN (a ++ b) = sumN a + sumN b
  | [], b => by simp [sumN]
  | x :: a, b => by simp only [List.cons_append, sumN, sumN_append a b]; omega
def costL (T : List ET) (B : Nat) (ids : List Int) : Nat := sumN (ids.map (cost T B))
theorem costL_snoc (T : List ET) (B : Nat) (ids : List Int) (y : Int) : costL T B (ids ++ [y]) = costL T B ids + cost T B y := by
  unfold costL
  rw [List.map_append, sumN_append]
  simp [sumN]
theorem costL_take (T : List ET) (B : Nat) (ids : List Int) (n : Nat) : costL T B (ids.take n) ≤ costL T B ids := by
  have h : costL T B ids = costL T B (ids.take n) + costL T B (ids.drop n) := by
    unfold costL
    rw [← sumN_append, ← List.map_append, List.take_append_drop]
  omega
theorem costL_bound {T : List ET} {B C : Nat} : ∀ {ids : List Int}, (∀ y ∈ ids, cost T B y ≤ C) → costL T B ids ≤ C * ids.length
  | [], _ => Nat.zero_le _
  | y :: r, h => by
    have h1 := h y (by simp)
    have h2 := costL_bound fun z hz => h z (List.mem_cons_of_mem y hz)
    unfold costL at h2 ⊢
    rw [List.map_cons, sumN, List.length_cons, Nat.mul_succ]
    omega

/-! ### One rule -/
def DoneAt (T T1 : List ET) (mm : List (Int × (Ty.int .i64).T)) (x : Int) : Prop := ∃ v e, at? mm x = some v ∧ Nd0 T1 v (txt T x) e
theorem DoneAt.ext {T2 : List ET} {T1 : List ET} {mm : List (Int × (Ty.int .i64).T)} {x : Int} (h : DoneAt T T1 mm x) (e : T1 <+: T2) : DoneAt T T2 mm x := by
  obtain ⟨v, d, h1, h2⟩ := h
  exact ⟨v, d, h1, h2.ext e⟩
theorem balance_step_sp {T1 : List ET} {y n : Int} {B r : Nat} {mm : List (Int × (Ty.int .i64).T)} (s : Sp w0 Ω w) (i k : Nat) (hi : Ω[i]? = some (sto p most T1)) (hk : Ω[k]? = some (mc (.int .i64) r mm)) (g : Grow T) (hx : T <+: T1) (hy : 1 ≤ y ∧ y ≤ T.length)
    (hd : ∀ x ∈ refs (eAt T y).1, DoneAt T T1 mm x) (hB : IsBound n B) (hn : (eAt T y).2.1.1 ≤ n) {K : Int × Value → World → Prop}
    (h : ∀ T' v w', Res T1 most (cost T B y) (fun T' v => ∃ e, Nd0 T' v (txt T y) e) T' v → Sp w0 (Ω.set i (sto p most T')) w' → K v w') : C_balance_step (some p) y (some r) K w := by
  apply S_balance_step
  unfold F_balance_step
  obtain ⟨_, _, _, hb0, hb1, hb2, hg⟩ := Sp.entry s i hi
  have hle := ext_len hx
  have he : eAt T1 y = eAt T y := ext_eAt hx (by omega) hy.2
  have s0 : ∀ w', Sp w0 Ω w' → Sp w0 (Ω.set i (sto p most T1)) w' := fun w' s => by rw [setSame hi]; exact s
  have ly := g.len (id := y) (by omega) hy.2
  have wy := (g.at_ (id := y) (by omega) hy.2).1.len
  refine avl_Balanced_k s i hi (by omega) fun w1 s => nilIfc_nil (gd_f rfl ?_)
  rw [he]
  cases hev : evn T y with
  | true =>
    refine gd_t hev (h T1 _ w1 ((Res.same (N := 0) (Q := fun T' v => ∃ e, Nd0 T' v (txt T y) e) hg hb2 ⟨dep T y, (nd0_of ⟨by omega, hy.2⟩ hev).ext hx⟩).mono (Nat.zero_le _) fun _ h => h) (s0 _ s))
  | false =>
    have hcost : cost T B y = (3 * B + 2) * (1 + logP T y) := by unfold cost; rw [if_neg (by rw [hev]; simp)]
    refine gd_f hev (intern_Rule_k s i hi (by omega) fun w2 s => ?_)
    rw [he]
    refine s.allocK fun a4 w3 s => s.st0 0 rfl rfl rfl fun w4 s => nilIfc_nil (gd_f rfl ?_)
    cases g.txt hy.1 hy.2 with
    | letter b _ _ e _ => unfold evn at hev; rw [e] at hev; cases hev
    | power x k' h1 h2 h3 h4 e ht =>
      obtain ⟨v, d, hv, nv⟩ := hd x (by rw [e]; simp [refs, mkPower])
      have hlk : ∀ w', Sp w0 (cel a4 (cells yapi_Rule (eAt T y).1) :: Ω) w' → Lk1 P t_map_api_ID_api_ID (.int .i64) (.map (some r)) (.int .i64 x) v w' := fun w' s => by
        have := (s.mc_ (k + 1) hk).get (by decide) mapII eqID zeroII x
        rwa [hv] at this
      have hl1 : logP T y = log2 k'.toNat := by unfold logP; rw [e]; exact if_pos rfl
      have lx := g.len (id := x) (by omega) (by omega)
      have e3 : ((k'.toNat * (txt T x).length : Nat) : Int) = (eAt T y).2.1.1 := by rw [ly, ht, flat_rep_len]
      have hk64 : k' ≤ 1152921504606846976 := by
        have wx := (g.at_ (id := x) (by omega) (by omega)).2.2.2 h1
        have : 1 * k' ≤ (eAt T x).2.1.1 * k' := Int.mul_le_mul_of_nonneg_right wx (by omega)
        omega
      obtain ⟨B', hB'⟩ := bound_ex (n := ((k'.toNat * (txt T x).length : Nat) : Int)) ⟨by omega, by rw [e3]; exact wy.2⟩
      have hBB : B' ≤ B := by
        rcases hB'.1 with h0 | h0
        · omega
        · exact hB.le (by omega)
      refine s.ldi (x := 3) 0 0 rfl (by rw [e]; rfl) (gd_t rfl (s.ldi (x := x) 0 2 rfl (by rw [e]; rfl) ⟨v, hlk _ s, s.ldi (x := k') 0 4 rfl (by rw [e]; rfl) ?_⟩))
      rw [show k' = (k'.toNat : Int) by omega]
      refine balance_repeat_sp s (i + 1) hi nv (by omega) (by omega) (by rw [e3]; exact wy.2) hB' fun T' z w5 hr s => h T' z w5 (hr.mono ?_ fun u hu => ?_) s.pop
      · rw [hcost, hl1, Nat.add_comm 1]
        exact Nat.mul_le_mul_right _ (by omega)
      · obtain ⟨e', hu⟩ := hu
        exact ⟨e', by rw [ht]; exact hu⟩
    | pair l r' h1 h2 h3 h4 h5 e ht =>
      obtain ⟨v1, d1, hv1, n1⟩ := hd l (by rw [e]; simp [refs, mkPair])
      obtain ⟨v2, d2, hv2, n2⟩ := hd r' (by rw [e]; simp [refs, mkPair])
      have hlk : ∀ (x v : Int) w', at? mm x = some v → Sp w0 (cel a4 (cells yapi_Rule (eAt T y).1) :: Ω) w' → Lk1 P t_map_api_ID_api_ID (.int .i64) (.map (some r)) (.int .i64 x) v w' := fun x v w' hv s => by
        have := (s.mc_ (k + 1) hk).get (by decide) mapII eqID zeroII x
        rwa [hv] at this
      rw [ht, List.length_append] at ly
      have b1 := nd0_le hg n1 hB (by omega)
      have b2 := nd0_le hg n2 hB (by omega)
      refine s.ldi (x := 2) 0 0 rfl (by rw [e]; rfl) (gd_f rfl (s.ldi (x := l) 0 2 rfl (by rw [e]; rfl) ⟨v1, hlk _ _ _ hv1 s, s.ldi (x := r') 0 3 rfl (by rw [e]; rfl) ⟨v2, hlk _ _ _ hv2 s, ?_⟩⟩))
      refine avl_Join_sp s (i + 1) hi n1 n2 (by omega) fun T' z w5 hr s => h T' z w5 (hr.mono ?_ fun u hu => ?_) s.pop
      · have := joinN_le (a := v1) (b := v2) b1 b2
        have h1 : (3 * B + 2) * 1 ≤ (3 * B + 2) * (1 + logP T y) := Nat.mul_le_mul_left _ (by omega)
        rw [hcost]
        omega
      · obtain ⟨e', hu, _⟩ := hu
        exact ⟨e', by rw [ht]; exact hu⟩

/-! ### All rules of a text -/
theorem rch_len (g : Grow T) {id x : Int} (hk : 0 ≤ id ∧ id ≤ T.length) (h : Rch T [id] x) : (eAt T x).2.1.1 ≤ (eAt T id).2.1.1 := by
  have hS : ∀ x ∈ [id], 0 ≤ x ∧ x ≤ (T.length : Int) := fun x hx => by simp at hx; subst hx; exact hk
  induction h with
  | root h1 _ => simp at h1; subst h1; exact Int.le_refl _
  | @ref y x hy hx ih =>
    have hb := hy.bound g hS
    refine Int.le_trans ?_ ih
    have ly := g.len (id := y) (by omega) hb.2
    have hxb := refs_in g hb.1 hb.2 hx
    have lx := g.len (id := x) (by omega) (by omega)
    cases g.txt hb.1 hb.2 with
    | letter b _ _ e _ => rw [e] at hx; simp [refs, mkLetter] at hx
    | pair l r _ _ _ _ _ e ht =>
      rw [e] at hx
      simp [refs, mkPair] at hx
      rw [ht, List.length_append] at ly
      rcases hx with rfl | rfl <;> omega
    | power a k _ _ h3 _ e ht =>
      rw [e] at hx
      simp [refs, mkPower] at hx
      subst hx
      rw [ht, flat_rep_len] at ly
      have : (txt T x).length ≤ k.toNat * (txt T x).length := Nat.le_mul_of_pos_left _ (by omega)
      omega
theorem balance_Of_u {id : Int} (s : Sp w0 Ω w) (i : Nat) (hi : Ω[i]? = some (sto p most T)) (hk : ¬ (0 ≤ id ∧ id ≤ T.length)) {K : Int × Value → World → Prop} (h : ∀ w', Sp w0 Ω w' → K (0, errV 1) w') : C_balance_Of (some p) id K w := by
  apply S_balance_Of
  unfold F_balance_Of
  exact avl_Balanced_u s i hi hk fun w1 s => nilIfc_err (gd_t rfl (h _ s))
theorem balance_Of_even {id : Int} (s : Sp w0 Ω w) (i : Nat) (hi : Ω[i]? = some (sto p most T)) (hk : 0 ≤ id ∧ id ≤ T.length) (he : evn T id = true) {K : Int × Value → World → Prop} (h : ∀ w', Sp w0 Ω w' → K (id, .nilIface) w') : C_balance_Of (some p) id K w := by
  apply S_balance_Of
  unfold F_balance_Of
  exact avl_Balanced_k s i hi hk fun w1 s => nilIfc_nil (gd_f rfl (gd_t he (h _ s)))
theorem balance_Of_nil {id : Int} {K : Int × Value → World → Prop} (h : K (0, errV 5) w) : C_balance_Of none id K w := by
  apply S_balance_Of
  unfold F_balance_Of
  exact avl_Balanced_nil (nilIfc_err (gd_t rfl h))
def OfQ (T : List ET) (id : Int) : List ET → Int → Prop := fun T' y => (∃ e, Nd0 T' y (txt T id) e) ∧ (evn T id = true → y = id)
theorem balance_Of_sp {id : Int} {B : Nat} (s : Sp w0 Ω w) (i : Nat) (hi : Ω[i]? = some (sto p most T)) (hk : 0 ≤ id ∧ id ≤ T.length) (hB : IsBound (eAt T id).2.1.1 B) {K : Int × Value → World → Prop}
    (h : ∀ T' v w', Res T most (costL T B (rlist T [id])) (OfQ T id) T' v → Sp w0 (Ω.set i (sto p most T')) w' → K v w') : C_balance_Of (some p) id K w := by
  obtain ⟨_, _, _, hb0, hb1, hb2, hg⟩ := Sp.entry s i hi
  have s0 : ∀ w', Sp w0 Ω w' → Sp w0 (Ω.set i (sto p most T)) w' := fun w' s => by rw [setSame hi]; exact s
  cases he : evn T id with
  | true => exact balance_Of_even s i hi hk he fun w' s => h T _ w' ((Res.same (N := 0) hg hb2 (Q := OfQ T id) ⟨⟨_, nd0_of hk he⟩, fun _ => rfl⟩).mono (Nat.zero_le _) fun _ h => h) (s0 _ s)
  | false =>
    apply S_balance_Of
    unfold F_balance_Of
    have hid : id ≠ 0 := fun e => by subst e; cases he
    have hS : ∀ x ∈ [id], 0 ≤ x ∧ x ≤ (T.length : Int) := fun x hx => by simp at hx; subst hx; exact hk
    have hc := rlist_closed hg hS
    obtain ⟨kl, e1, e2⟩ := rlist_last hg (id := id) (by omega) hk.2
    have hrl := rlist_len T [id]
    have hrm : ∀ y ∈ rlist T [id], Rch T [id] y := fun y hy => (mem_rlist.1 hy).2
    refine avl_Balanced_k s i hi hk fun w1 s => nilIfc_nil (gd_f rfl (gd_f he (s.allocK fun a3 w2 s => ?_)))
    refine collect_Reach_sp (S := [id]) s (i + 1) hi (fun w' s => (s.lit (ty := .int .i64) 0 rfl [id] 1 rfl rfl).view 0 rfl) (by simp) (fun _ sl w3 s => ?_) (fun hn => absurd hS hn)
    generalize rlist T [id] = ids at *
    refine nilIfc_nil (gd_f rfl (s.allocC (.int .i64) fun r w4 s => ?_))
    have s : Sp w0 (mc (.int .i64) r [] :: own (.int .i64) sl ids :: Ω) w4 := s.pick [0, 1] 3 rfl (by decide)
    have hsl := (s.view 1 rfl).len
    refine loop_by (fun x => x.1) ids.length (fun n x w => ∃ (T1 : List ET) (mm : List (Int × (Ty.int .i64).T)), Res T most (costL T B (ids.take n)) (fun _ _ => True) T1 (0, .nilIface) ∧ (∀ (j : Nat) (y : Int), j < n → ids[j]? = some y → DoneAt T T1 mm y) ∧ Sp w0 (mc (.int .i64) r mm :: own (.int .i64) sl ids :: Ω.set i (sto p most T1)) w) rfl ⟨T, [], .same hg hb2 trivial, fun j y hj => by omega, by rw [setSame hi]; exact s⟩ ?_
    clear s
    rintro n ⟨x, _⟩ w5 hn hx ⟨T1, mm, hr1, hdone, s⟩ _
    dsimp only at hx ⊢
    subst hx
    refine gd_dec (fun hlt => ?_) (fun hge => ?_)
    · have hn' : n < ids.length := by omega
      have hget := List.getElem?_eq_getElem hn'
      have hmem := List.getElem_mem hn'
      generalize ids[n] = y at hget hmem
      have htk : ids.take (n + 1) = ids.take n ++ [y] := by rw [List.take_add_one, hget]; rfl
      have hyb := hc.bound y hmem
      have hcs : costL T B (ids.take n) + cost T B y = costL T B (ids.take (n + 1)) := by rw [htk, costL_snoc]
      have hct := costL_take T B ids (n + 1)
      have hyl := rch_len hg hk (hrm y hmem)
      refine (s.view 1 rfl).idx rfl hget rfl fun q hq => ⟨y, hq, balance_step_sp (T := T) (n := (eAt T id).2.1.1) (B := B) s (i + 2) 0 (setGet hi) rfl hg hr1.ext hyb (fun x hx => ?_) hB hyl fun T2 v w6 hr2 s => ?_⟩
      · obtain ⟨j1, q1, q2, _⟩ := hc.ref hg hget hx
        exact hdone j1 x q1 q2
      have s : Sp w0 (mc (.int .i64) r mm :: own (.int .i64) sl ids :: (Ω.set i (sto p most T1)).set i (sto p most T2)) w6 := s
      rw [List.set_set] at s
      refine s.upC (vt := .int .i64) 0 rfl (by decide) mapII eqID y v.1 fun w7 s => ?_
      have s : Sp w0 (mc (.int .i64) r (mupd mm y v.1) :: own (.int .i64) sl ids :: Ω.set i (sto p most T2)) w7 := s
      have r12 := (hr1.andThen hr2)
      rw [hcs] at r12
      obtain ⟨v1, v2⟩ := v
      rcases r12.out with ⟨ev, e3, n3⟩ | ⟨ev, hf⟩
      · dsimp only at ev n3 s ⊢
        have sz := s
        subst ev
        refine nilIfc_nil (gd_f rfl (arith_i64 (by omega) (by omega) (loop_nx hn' ⟨T2, mupd mm y v1, ⟨r12.ext, r12.grow, r12.cap, r12.len, Or.inl ⟨rfl, trivial⟩⟩, fun j z hj hz => ?_, sz⟩)))
        by_cases c : j = n
        · subst c
          rw [hget] at hz
          cases hz
          exact ⟨v1, e3, by rw [at_mupd, if_pos rfl], n3⟩
        · by_cases c2 : y = z
          · subst c2
            exact ⟨v1, e3, by rw [at_mupd, if_pos rfl], n3⟩
          · obtain ⟨u, e4, h5, h6⟩ := (hdone j z (by omega) hz).ext hr2.ext
            exact ⟨u, e4, by rw [at_mupd, if_neg c2]; exact h5, h6⟩
      · cases ev
        exact nilIfc_err (gd_t rfl (h T2 _ w7 ⟨r12.ext, r12.grow, r12.cap, by have := r12.len; omega, Or.inr ⟨rfl, by omega⟩⟩ (s.drop 2)))
    · have en : n = ids.length := by omega
      subst en
      rw [List.take_length] at hr1
      obtain ⟨v, e4, h5, h6⟩ := hdone kl id (by omega) e2
      have hlk := (s.mc_ 0 rfl).get (by decide) mapII eqID zeroII id
      rw [h5] at hlk
      exact ⟨v, hlk, h T1 _ w5 ⟨hr1.ext, hr1.grow, hr1.cap, hr1.len, Or.inl ⟨rfl, ⟨e4, h6⟩, fun hh => by rw [he] at hh; cases hh⟩⟩ (s.drop 2)⟩

/-! ### The specification's bound -/
def workL (T : List ET) (ids : List Int) : Nat := ids.length + sumN (ids.map (logP T))
theorem logP_le (g : Grow T) {y : Int} (h1 : 1 ≤ y) (h2 : y ≤ T.length) : logP T y ≤ 63 ∧ ((eAt T y).1.1 = 3 → 2 ≤ (eAt T y).1.2.2.2.2 ∧ (eAt T y).1.2.2.2.2 ≤ 1152921504606846976) := by
  unfold logP
  cases g.txt h1 h2 with
  | letter b _ _ e _ => rw [e]; exact ⟨by rw [if_neg (by simp [mkLetter])]; omega, fun h => by simp [mkLetter] at h⟩
  | pair l r _ _ _ _ _ e _ => rw [e]; exact ⟨by rw [if_neg (by simp [mkPair])]; omega, fun h => by simp [mkPair] at h⟩
  | power x k' h1 h2 h3 h4 e ht =>
    have hk64 : k' ≤ 1152921504606846976 := by
      have wx := (g.at_ (id := x) (by omega) (by omega)).2.2.2 h1
      have : 1 * k' ≤ (eAt T x).2.1.1 * k' := Int.mul_le_mul_of_nonneg_right wx (by omega)
      omega
    rw [e]
    refine ⟨?_, fun _ => ⟨h3, hk64⟩⟩
    show (if (3 : Int) = 3 then log2 k'.toNat else 0) ≤ 63
    rw [if_pos rfl]
    exact log2_lt 63 _ (by omega)
theorem sumN_le {f : Int → Nat} {C : Nat} : ∀ {ids : List Int}, (∀ y ∈ ids, f y ≤ C) → sumN (ids.map f) ≤ C * ids.length
  | [], _ => Nat.zero_le _
  | y :: r, h => by
    have h1 := h y (by simp)
    have h2 := sumN_le (f := f) fun z hz => h z (List.mem_cons_of_mem y hz)
    rw [List.map_cons, sumN, List.length_cons, Nat.mul_succ]
    omega
theorem costL_work (T : List ET) (B : Nat) : ∀ ids : List Int, costL T B ids ≤ (3 * B + 2) * workL T ids
  | [] => Nat.zero_le _
  | y :: r => by
    have h := costL_work T B r
    have h1 : cost T B y ≤ (3 * B + 2) * (1 + logP T y) := by unfold cost; split <;> omega
    unfold costL at h ⊢
    rw [List.map_cons, sumN]
    have e : workL T (y :: r) = (1 + logP T y) + workL T r := by unfold workL; rw [List.map_cons, sumN, List.length_cons]; omega
    rw [e, Nat.mul_add]
    omega
end Go.Proofs.YtcmncfglcjcmhaaGreat

/- law15: texts one after the other (Concat); the walks of BalanceConcats. -/
set_option linter.unusedVariables false
set_option linter.unusedSimpArgs false
namespace Go.Proofs.YtcmncfglcjcmhaaGreat
open Go.Den

variable {w0 w : World} {Ω : List Ob} {most : Int} {T : List ET} {i j : Nat} {p : Addr} 

def badAt (T : List ET) (x : Int) : Int := if ¬ (0 ≤ x ∧ x ≤ (T.length : Int)) then 1 else if evn T x = false then 4 else 0
theorem badAt_zero {x : Int} (h : badAt T x = 0) : (0 ≤ x ∧ x ≤ (T.length : Int)) ∧ evn T x = true := by
  unfold badAt at h
  split at h
  · omega
  · rename_i h1
    split at h
    · omega
    · rename_i h2
      exact ⟨Classical.not_not.1 h1, by simpa using h2⟩
def firstBad (T : List ET) : List Int → Int
  | [] => 0
  | x :: r => if badAt T x = 0 then firstBad T r else badAt T x
theorem firstBad_good : ∀ {ids : List Int}, (∀ x ∈ ids, badAt T x = 0) → firstBad T ids = 0
  | [], _ => rfl
  | x :: r, h => by
    rw [firstBad, if_pos (h x (by simp))]
    exact firstBad_good fun y hy => h y (List.mem_cons_of_mem _ hy)
theorem firstBad_at : ∀ {ids : List Int} {n : Nat} {x : Int}, (∀ y ∈ ids.take n, badAt T y = 0) → ids[n]? = some x → badAt T x ≠ 0 → firstBad T ids = badAt T x
  | [], n, x, _, h, _ => by simp at h
  | y :: r, 0, x, _, h, hb => by
    simp at h
    subst h
    rw [firstBad, if_neg hb]
  | y :: r, n + 1, x, hg, h, hb => by
    rw [firstBad, if_pos (hg y (by simp))]
    exact firstBad_at (n := n) (fun z hz => hg z (by rw [List.take_succ_cons]; exact List.mem_cons_of_mem _ hz)) (by simpa using h) hb
def lenL (T : List ET) (ids : List Int) : List (Ty.int .i64).T := ids.map fun x => (eAt T x).2.1.1
theorem lenL_len (T : List ET) (ids : List Int) : (lenL T ids).length = ids.length := List.length_map _
def sumL : List Int → Int
  | [] => 0
  | x :: r => x + sumL r
theorem sumL_append : ∀ (a b : List Int), sumL (a ++ b) = sumL a + sumL b
  | [], b => by simp [sumL]
  | x :: a, b => by simp only [List.cons_append, sumL, sumL_append a b]; omega
theorem sumL_nn : ∀ {a : List Int}, (∀ x ∈ a, 0 ≤ x) → 0 ≤ sumL a
  | [], _ => Int.le_refl _
  | x :: a, h => by
    have h1 := h x (by simp)
    have h2 := sumL_nn fun y hy => h y (List.mem_cons_of_mem x hy)
    simp only [sumL]; omega
theorem sumL_take {a : List Int} (h : ∀ x ∈ a, 0 ≤ x) (n : Nat) : sumL (a.take n) ≤ sumL a := by
  have h1 := sumL_append (a.take n) (a.drop n)
  rw [List.take_append_drop] at h1
  have h2 := sumL_nn (a := a.drop n) fun x hx => h x (List.mem_of_mem_drop hx)
  omega
theorem sumL_succ {a : List Int} {n : Nat} {x : Int} (h : a[n]? = some x) : sumL (a.take (n + 1)) = sumL (a.take n) + x := by
  rw [List.take_add_one, h, Option.toList_some, sumL_append]
  simp [sumL]
def concatErr (T : List ET) (ids : List Int) : Int := if firstBad T ids = 0 then (if 1152921504606846976 < sumL (lenL T ids) then 2 else 0) else firstBad T ids
def cat (T : List ET) (ids : List Int) : List Int := (ids.map (txt T)).flatten
theorem cat_nil (T : List ET) : cat T [] = [] := rfl
theorem cat_snoc (T : List ET) (ids : List Int) (x : Int) : cat T (ids ++ [x]) = cat T ids ++ txt T x := by simp [cat]
theorem cat_len (g : Grow T) : ∀ {ids : List Int}, (∀ x ∈ ids, 0 ≤ x ∧ x ≤ (T.length : Int)) → ((cat T ids).length : Int) = sumL (lenL T ids)
  | [], _ => rfl
  | x :: r, h => by
    have h1 := g.len (h x (by simp)).1 (h x (by simp)).2
    have h2 := cat_len g fun y hy => h y (List.mem_cons_of_mem x hy)
    unfold cat lenL at h2 ⊢
    rw [List.map_cons, List.flatten_cons, List.length_append, List.map_cons, sumL, h1, ← h2]
    omega
def CatQ (T : List ET) (ids : List Int) : List ET → Int → Prop := fun T' y => ∃ e, Nd0 T' y (cat T ids) e
theorem lenL_get {ids : List Int} {n : Nat} {x : Int} (h : ids[n]? = some x) : (lenL T ids)[n]? = some (eAt T x).2.1.1 := by unfold lenL; rw [List.getElem?_map, h]; rfl
theorem lenL_take (ids : List Int) (n : Nat) : lenL T (ids.take n) = (lenL T ids).take n := by unfold lenL; rw [List.map_take]
theorem concatErr_zero {ids : List Int} (h : concatErr T ids = 0) : firstBad T ids = 0 ∧ sumL (lenL T ids) ≤ 1152921504606846976 := by
  unfold concatErr at h
  split at h
  · rename_i h1
    split at h
    · omega
    · exact ⟨h1, by omega⟩
  · rename_i h1
    exact absurd h h1
theorem firstBad_all : ∀ {ids : List Int}, firstBad T ids = 0 → ∀ x ∈ ids, badAt T x = 0
  | [], _, x, hx => by simp at hx
  | y :: r, h, x, hx => by
    rw [firstBad] at h
    split at h
    · rename_i h1
      rcases List.mem_cons.1 hx with rfl | hx
      · exact h1
      · exact firstBad_all h x hx
    · rename_i h1
      exact absurd h h1

end Go.Proofs.YtcmncfglcjcmhaaGreat

/- law15: the walks of BalanceOf, BalanceGreat and BalanceNone. -/
set_option linter.unusedVariables false
set_option linter.unusedSimpArgs false
namespace Go.Proofs.YtcmncfglcjcmhaaGreat
open Go.Den

variable {w0 w : World} {Ω : List Ob} {most : Int} {T : List ET} {ids : List Int} {i j : Nat} {p : Addr} 

theorem of_room (g : Grow T) (hT : T.length ≤ 20) {B : Nat} (hB : B ≤ 86) {id : Int} (hk : 0 ≤ id ∧ id ≤ (T.length : Int)) : costL T B (rlist T [id]) ≤ 332800 ∧ costL T B (rlist T [id]) ≤ 8 * (B + 1) * workL T (rlist T [id]) := by
  have hS : ∀ x ∈ [id], 0 ≤ x ∧ x ≤ (T.length : Int) := fun x hx => by simp at hx; subst hx; exact hk
  have hc := rlist_closed g hS
  have hl := rlist_len T [id]
  have hw : workL T (rlist T [id]) ≤ 1280 := by
    have := sumN_le (f := logP T) (C := 63) (ids := rlist T [id]) fun y hy => (logP_le g (hc.bound y hy).1 (hc.bound y hy).2).1
    unfold workL; omega
  have h1 := costL_work T B (rlist T [id])
  have h2 : (3 * B + 2) * workL T (rlist T [id]) ≤ 260 * 1280 := Nat.mul_le_mul (by omega) hw
  exact ⟨by omega, Nat.le_trans h1 (Nat.mul_le_mul_right _ (by omega))⟩

theorem balance_Repeat_nil {x k : Int} {K : Int × Value → World → Prop} (h : K (0, errV 5) w) : C_balance_Repeat none x k K w := by
  apply S_balance_Repeat
  unfold F_balance_Repeat
  exact avl_Balanced_nil (nilIfc_err (gd_t rfl h))
end Go.Proofs.YtcmncfglcjcmhaaGreat

/- law15: the walk of BalancePowers. -/
set_option linter.unusedVariables false
set_option linter.unusedSimpArgs false
namespace Go.Proofs.YtcmncfglcjcmhaaGreat
open Go.Den

variable {w0 w : World} {Ω : List Ob} {most : Int} {T : List ET} {ids : List Int} {i j : Nat} {p : Addr} 

theorem Rep_mul (a b : Nat) (t : List Int) : Rep a (Rep b t) = Rep (a * b) t := by
  induction a with
  | zero => rw [Nat.zero_mul]; rfl
  | succ a ih =>
    have h1 := Rep_add a 1 (Rep b t)
    rw [Rep_one] at h1
    rw [← h1, ih, Rep_add, Nat.succ_mul]
def PowQ (T : List ET) (x k : Int) (t : List Int) : List ET → Int → Prop := fun T' z => (0 ≤ z ∧ z ≤ (T'.length : Int)) ∧ txt T' z = Rep k.toNat t ∧ ∀ y ∈ refs (eAt T' z).1, evn T' y = true
theorem even_refs (g : Grow T) {z : Int} (h0 : 0 ≤ z) (h1 : z ≤ T.length) (he : evn T z = true) : ∀ y ∈ refs (eAt T z).1, evn T y = true := by
  intro y hy
  by_cases c : z = 0
  · subst c; simp [eAt, eZero, refs] at hy
  · unfold evn at he
    cases g.txt (id := z) (by omega) h1 with
    | letter b _ _ e _ => rw [e] at hy; simp [refs, mkLetter] at hy
    | pair l r _ _ _ _ _ e _ =>
      rw [e] at hy he
      simp only [mkPair, Bool.and_eq_true] at he
      simp [refs, mkPair] at hy
      rcases hy with rfl | rfl
      · exact he.1.1.1
      · exact he.1.1.2
    | power x k _ _ _ _ e _ => rw [e] at he; cases he
theorem pPower_txt (g : Grow T) (hm : (T.length : Int) ≤ most) {x k : Int} {t : List Int} {d : Int} (nx : Nd0 T x t d) (hk : 0 ≤ k) (hl : (eAt T x).2.1.1 * k ≤ 1152921504606846976) : Res T most 1 (PowQ T x k t) (pPower T most x k).1 (pPower T most x k).2 := by
  have kx : known T x = true := decide_eq_true ⟨nx.pos, nx.le⟩
  unfold pPower
  rw [if_neg (by rw [kx]; simp; omega)]
  by_cases c1 : k = 0 ∨ x = 0
  · rw [if_pos c1]
    refine (Res.same (N := 0) (Q := PowQ T x k t) g hm ⟨⟨Int.le_refl _, by omega⟩, ?_, fun y hy => by simp [eAt, eZero, refs] at hy⟩).mono (Nat.zero_le _) fun _ h => h
    rw [txt_zero]
    rcases c1 with rfl | rfl
    · rfl
    · rw [nx.nil.1, Rep_nil]
  rw [if_neg c1]
  by_cases c2 : k = 1
  · rw [if_pos c2]
    subst c2
    exact (Res.same (N := 0) (Q := PowQ T x 1 t) g hm ⟨⟨nx.pos, nx.le⟩, by rw [nx.txt]; exact (Rep_one t).symm, even_refs g nx.pos nx.le nx.even⟩).mono (Nat.zero_le _) fun _ h => h
  rw [if_neg c2, if_neg (by omega)]
  have hp := nx.pos
  have key : ∀ (T' : List ET) (z : Int), T <+: T' → Grow T' → 1 ≤ z → z ≤ T'.length → (eAt T' z).1 = (mkPower T x k).1 → PowQ T x k t T' z := fun T' z hx g' h1 h2 hr => by
    refine ⟨⟨by omega, h2⟩, ?_, fun y hy => ?_⟩
    · cases g'.txt h1 h2 with
      | letter b _ _ e _ => rw [e] at hr; simp [mkLetter, mkPower] at hr
      | pair l r _ _ _ _ _ e _ => rw [e] at hr; simp [mkPair, mkPower] at hr
      | power x' k' a1 a2 _ _ e ht =>
        rw [e] at hr
        simp only [mkPower, Prod.mk.injEq] at hr
        obtain ⟨_, _, rfl, _, rfl⟩ := hr
        rw [ht, ext_txt hx nx.pos nx.le, nx.txt]; rfl
    · rw [hr] at hy
      simp [refs, mkPower] at hy
      subst hy
      exact (nx.ext hx).even
  have hr := pAdd_res (Q := fun T' z => 1 ≤ z ∧ z ≤ (T'.length : Int) ∧ (eAt T' z).1 = (mkPower T x k).1) (e := mkPower T x k) (most := most) g hm (.power g (by omega) nx.le (by omega) hl) (fun i hi => ⟨(lkR_pos hi).1, (lkR_pos hi).2, lkR_rule hi⟩) (fun hn => ⟨by omega, by simp, by rw [eAt_last]⟩)
  exact hr.mono (Nat.le_refl _) fun z ⟨h1, h2, h3⟩ => key _ z hr.ext hr.grow h1 h2 h3
theorem cost_one (g : Grow T) {z : Int} {B : Nat} (hk : 0 ≤ z ∧ z ≤ (T.length : Int)) (hr : ∀ y ∈ refs (eAt T z).1, evn T y = true) (hB : B ≤ 86) : costL T B (rlist T [z]) ≤ 16640 := by
  by_cases c : z = 0
  · subst c
    rw [rlist_zero]; exact Nat.zero_le _
  have hS : ∀ y ∈ [z], 0 ≤ y ∧ y ≤ (T.length : Int) := fun y hy => by simp at hy; subst hy; exact hk
  have hc := rlist_closed g hS
  obtain ⟨kl, e1, e2⟩ := rlist_last g (id := z) (by omega) hk.2
  have claim : ∀ y, Rch T [z] y → y = z ∨ evn T y = true := fun y h => by
    induction h with
    | root h1 _ => simp at h1; exact Or.inl h1
    | @ref y x hy hx ih =>
      have hb := hy.bound g hS
      rcases ih with rfl | ih
      · exact Or.inr (hr x hx)
      · exact Or.inr (even_refs g (by omega) hb.2 ih x hx)
  have hsplit : rlist T [z] = (rlist T [z]).take kl ++ [z] := by
    have h1 : (rlist T [z]).take (kl + 1) = rlist T [z] := by rw [← e1, List.take_length]
    rw [List.take_add_one, e2] at h1
    exact h1.symm
  have h0 : costL T B ((rlist T [z]).take kl) ≤ 0 * ((rlist T [z]).take kl).length := costL_bound fun y hy => by
    obtain ⟨j, hj⟩ := List.getElem?_of_mem hy
    have hjl := (List.getElem?_eq_some_iff.1 hj).1
    rw [List.length_take] at hjl
    rw [List.getElem?_take_of_lt (by omega)] at hj
    have hlt := (sorted_lt hc.sorted hj e2).2 (by omega)
    rcases claim y (mem_rlist.1 (List.mem_of_getElem? hj)).2 with h | h
    · omega
    · unfold cost; rw [if_pos h]; exact Nat.le_refl _
  rw [hsplit, costL_snoc]
  have h1 : cost T B z ≤ 260 * 64 := by
    have := logP_le g (y := z) (by omega) hk.2
    unfold cost
    split
    · omega
    · exact Nat.mul_le_mul (by omega) (by omega)
  omega
theorem repErr_ok (g : Grow T) {x k : Int} {t : List Int} {d : Int} (nx : Nd0 T x t d) (hk : 0 ≤ k) (hl : (t.length : Int) * k ≤ 1152921504606846976) : repErr T x k = 0 := by
  unfold repErr
  rw [if_neg (fun h : ¬ (0 ≤ x ∧ x ≤ (T.length : Int)) => h ⟨nx.pos, nx.le⟩), if_neg (by rw [show evn T x = true from nx.even]; simp), if_neg (by omega), if_neg (by rw [(nx.len g).1]; omega)]
/-- Repeat, with a bound that needs no reading -/
theorem balance_Repeat_ok {x k : Int} {t : List Int} {d : Int} (s : Sp w0 Ω w) (i : Nat) (hi : Ω[i]? = some (sto p most T)) (nx : Nd0 T x t d) (hk : 0 ≤ k) (hl : (t.length : Int) * k ≤ 1152921504606846976) (hk2 : k ≤ 9223372036854775807) (hroom : (T.length : Int) + 16640 ≤ most) {K : Int × Value → World → Prop}
    (h : ∀ T' r e w', T <+: T' → Grow T' → (T'.length : Int) ≤ T.length + 16640 → Nd0 T' r (Rep k.toNat t) e → Sp w0 (Ω.set i (sto p most T')) w' → K (r, .nilIface) w') : C_balance_Repeat (some p) x k K w := by
  obtain ⟨_, _, _, hb0, hb1, hb2, hg⟩ := Sp.entry s i hi
  have hl' : (eAt T x).2.1.1 * k ≤ 1152921504606846976 := by rw [(nx.len hg).1]; exact hl
  have h0 : 0 ≤ (eAt T x).2.1.1 * k := by rw [(nx.len hg).1]; exact Int.mul_nonneg (by omega) hk
  obtain ⟨B, hB⟩ := bound_ex ⟨h0, hl'⟩
  have room := rep_room hB.2.2 (k := k.toNat) (by omega)
  refine balance_Repeat_sp s i hi (repErr_ok hg nx hk hl) hk2 hB fun T' r w' hr s => ?_
  rcases hr.out with ⟨e1, d', nd⟩ | ⟨_, hf⟩
  rotate_left
  · omega
  obtain ⟨r1, r2⟩ := r
  dsimp only at e1 nd
  subst e1
  rw [nx.txt] at nd
  exact h T' r1 d' w' hr.ext hr.grow (by have := hr.len; omega) nd s

end Go.Proofs.YtcmncfglcjcmhaaGreat

/- A string as bytes. -/
set_option linter.unusedVariables false
set_option linter.unusedSimpArgs false
namespace Go.Proofs.YtcmncfglcjcmhaaGreat
open Go.Den

variable {w0 w : World} {Ω : List Ob}

/-! ### A string as bytes -/
def bytesOf (x : ByteArray) : List (Ty.int .u8).T := x.data.toList.map fun b => (b.toNat : Int)
theorem bytesOf_len (x : ByteArray) : (bytesOf x).length = x.size := by
  unfold bytesOf
  rw [List.length_map, Array.length_toList]; rfl
theorem toBytes (s : Sp w0 Ω w) (x : ByteArray) {K : Sl → World → Prop} (h : ∀ sl w', sl.len ≤ sl.cap → Sp w0 (vw (.int .u8) sl (bytesOf x) :: Ω) w' → K sl w') : runK P .slice (convert t_string t_sl_uint8 (.string x)) w K := by
  have hr := Lib.run_convert_string_bytes (P := P) w t_string t_sl_uint8 t_uint8 x underString underBytes underByte
  have hn := Lib.bytesWorld_at_new w t_uint8 x
  have hf : flat (.int .u8) (bytesOf x) = (bytesOf x).map (Value.int .u8) := by
    generalize bytesOf x = l
    induction l with
    | nil => rfl
    | cons x xs ih => simp only [flat, List.flatMap_cons, List.map_cons] at ih ⊢; rw [ih]; rfl
  refine ⟨⟨some ⟨w.heap.size, 0, none⟩, x.size, grownCap w x.size 0 t_uint8⟩, _, hr, h _ _ (grownCap_ge _ _ _ _) (s.push (B := fun b => b = w.heap.size) ⟨by rw [Lib.bytesWorld_size]; omega, fun b hb _ => Lib.bytesWorld_at_old w t_uint8 x b hb, rfl, rfl, rfl⟩ ⟨⟨(bytesOf_len x).symm, fun q hq => ?_, fun _ => ⟨_, rfl⟩⟩, ?_⟩ ?_)⟩
  · cases hq
    have hcs : Lib.bytesCells w t_uint8 x = (Lib.bytesCells w t_uint8 x).toList.toArray := by simp
    have ha := at_block (w := Lib.bytesWorld w t_uint8 x) (b := w.heap.size) (cs := (Lib.bytesCells w t_uint8 x).toList) (t := t_uint8) (by rw [Array.toArray_toList]; exact hn)
    have := ha.sub (ds := flat (.int .u8) (bytesOf x)) 0 ?_
    · rwa [Addr.add_zero'] at this
    · rw [List.drop_zero, hf]
      unfold Lib.bytesCells bytesOf
      rw [Array.toList_append, Array.toList_map, List.map_map]
      exact List.take_left' rfl
  · rintro b ⟨q, hq, rfl⟩
    cases hq
    rfl
  · rintro b rfl
    exact ⟨Nat.le_refl _, by rw [Lib.bytesWorld_size]; omega⟩

theorem bytesOf_range (x : ByteArray) : ∀ c ∈ bytesOf x, 0 ≤ c ∧ c < 256 := fun c hc => by
  unfold bytesOf at hc
  obtain ⟨b, _, rfl⟩ := List.mem_map.1 hc
  have h := b.toNat_lt
  have h1 : (0 : Int) ≤ (b.toNat : Int) ∧ (b.toNat : Int) < 256 := by omega
  exact h1
theorem bytesOf_append (x y : ByteArray) : bytesOf (x ++ y) = bytesOf x ++ bytesOf y := by
  unfold bytesOf
  rw [ByteArray.data_append, Array.toList_append, List.map_append]
theorem bytesOf_extract (x : ByteArray) (i j : Nat) : bytesOf (x.extract i j) = ((bytesOf x).drop i).take (j - i) := by
  unfold bytesOf
  rw [ByteArray.data_extract, Array.toList_extract, List.extract_eq_take_drop, List.map_take, List.map_drop]
theorem bytesOf_nil : bytesOf (⟨#[]⟩ : ByteArray) = [] := rfl
theorem bytesOf_inj {x y : ByteArray} (h : bytesOf x = bytesOf y) : x = y := by
  apply ByteArray.ext
  apply Array.ext'
  unfold bytesOf at h
  have key : ∀ a b : List UInt8, a.map (fun b => (b.toNat : Int)) = b.map (fun b => (b.toNat : Int)) → a = b := by
    intro a
    induction a with
    | nil => intro b h; cases b with
      | nil => rfl
      | cons _ _ => simp at h
    | cons u a ih => intro b h; cases b with
      | nil => simp at h
      | cons v b =>
        simp only [List.map_cons, List.cons.injEq] at h
        have h1 : u.toNat = v.toNat := by omega
        rw [UInt8.toNat_inj.1 h1, ih b h.2]
  exact key _ _ h

end Go.Proofs.YtcmncfglcjcmhaaGreat
