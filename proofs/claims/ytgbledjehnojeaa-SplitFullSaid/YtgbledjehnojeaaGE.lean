/- Texts that belong together, joined: LawDA, LawDB, ImpA, SortL, Sort, Rch, ExpA, ImpB, Copy, Str, Plain, ExpB, LawDE. No conditions. -/
import Derived.Shelf.SortM.Plain
import Derived.Shelf.SortM.SortNone
import Derived.Test.YtgbledjehnojeaaProg
import Derived.Laws.BytesString
import Derived.Test.YtgbledjehnojeaaGD
import Derived.Test.YtgbledjehnojeaaGC
import Derived.Test.YtgbledjehnojeaaGB
import Derived.Test.YtgbledjehnojeaaGT
/- The walk of InternAsks. -/
set_option linter.unusedVariables false
set_option linter.unusedSimpArgs false
namespace Go.Proofs.Ytgbledjehnojeaa
open Go.Den

variable {w0 w : World} {T : List ET}

theorem rulesOf_get {n : Nat} (h : n < T.length) : (rulesOf T)[n]? = some (eAt T ((n : Int) + 1)).1 := by
  have := eAt_get (L := T) (id := (n : Int) + 1) (by omega) (by omega)
  rw [show ((n : Int) + 1 - 1).toNat = n by omega] at this
  rw [rulesOf, List.getElem?_map, this]; rfl
theorem lensOf_get {n : Nat} (h : n < T.length) : (lensOf T)[n]? = some (eAt T ((n : Int) + 1)).2.1.1 := by
  have := eAt_get (L := T) (id := (n : Int) + 1) (by omega) (by omega)
  rw [show ((n : Int) + 1 - 1).toNat = n by omega] at this
  rw [lensOf, List.getElem?_map, this]; rfl
theorem depsOf_get {n : Nat} (h : n < T.length) : (depsOf T)[n]? = some (eAt T ((n : Int) + 1)).2.2.1 := by
  have := eAt_get (L := T) (id := (n : Int) + 1) (by omega) (by omega)
  rw [show ((n : Int) + 1 - 1).toNat = n by omega] at this
  rw [depsOf, List.getElem?_map, this]; rfl

end Go.Proofs.Ytgbledjehnojeaa

/- The walk of InternWeights. -/
set_option linter.unusedVariables false
set_option linter.unusedSimpArgs false
namespace Go.Proofs.Ytgbledjehnojeaa
open Go.Den

variable {w0 w : World} {T : List ET}

theorem shape_refs {id : Int} (h : Shape T id) (h1 : 1 ≤ id) (h2 : id ≤ T.length) : (0 ≤ (eAt T id).1.2.2.1 ∧ (eAt T id).1.2.2.1 < id) ∧ (0 ≤ (eAt T id).1.2.2.2.1 ∧ (eAt T id).1.2.2.2.1 < id) := by
  cases h with
  | letter b _ _ e => rw [e]; simp only [mkLetter]; omega
  | pair l r _ _ _ _ _ e => rw [e]; simp only [mkPair]; omega
  | power x k _ _ _ _ e => rw [e]; simp only [mkPower]; omega

end Go.Proofs.Ytgbledjehnojeaa

/- The check of rules, and the import of a list of rules: package rule, package intern, and the specification. -/
set_option linter.unusedVariables false
set_option linter.unusedSimpArgs false
namespace Go.Proofs.Ytgbledjehnojeaa
open Go.Den

variable {w0 w : World} {Ω : List Ob} {most : Int} {T : List ET} {i j : Nat}  {p : Addr}

/-! ### The check -/
def refs (r : RT) : List (Ty.int .i64).T := if r.1 = 2 then [r.2.2.1, r.2.2.2.1] else if r.1 = 3 then [r.2.2.1] else []
def formB (r : RT) : Bool :=
  if r.1 = 1 then decide (r.2.2.1 = 0 ∧ r.2.2.2.1 = 0 ∧ r.2.2.2.2 = 0) else
  if r.1 = 2 then decide (r.2.1 = 0 ∧ r.2.2.2.2 = 0) else
  if r.1 = 3 then decide (r.2.1 = 0 ∧ r.2.2.2.1 = 0 ∧ 2 ≤ r.2.2.2.2) else false
def placeB (r : RT) (n : Int) : Bool := decide (1 ≤ n ∧ ∀ x ∈ refs r, 1 ≤ x ∧ x < n)
def chk (r : RT) (n : Int) : Int := if formB r then (if placeB r n then 0 else 1) else 4
def chkV (r : RT) (n : Int) : Value := if chk r n = 0 then .nilIface else errV (chk r n)

theorem refs_len (r : RT) : (refs r).length ≤ 2 := by
  unfold refs
  split
  · exact Nat.le_refl 2
  split
  · exact (by decide : 1 ≤ 2)
  · exact Nat.zero_le 2
theorem placeB_1 {r : RT} {n : Int} (h : r.1 = 1) : placeB r n = decide (1 ≤ n) := by simp [placeB, refs, h]
theorem placeB_2 {r : RT} {n : Int} (h : r.1 = 2) : placeB r n = decide (1 ≤ n ∧ (1 ≤ r.2.2.1 ∧ r.2.2.1 < n) ∧ (1 ≤ r.2.2.2.1 ∧ r.2.2.2.1 < n)) := by simp [placeB, refs, h]
theorem placeB_3 {r : RT} {n : Int} (h : r.1 = 3) : placeB r n = decide (1 ≤ n ∧ 1 ≤ r.2.2.1 ∧ r.2.2.1 < n) := by simp [placeB, refs, h]

theorem rule_Refs_spec {r : RT} (s : Sp w0 Ω w) {K : Sl → World → Prop} (h : ∀ sl w', Sp w0 (own (.int .i64) sl (refs r) :: Ω) w' → K sl w') : C_rule_Refs r K w := by
  apply S_rule_Refs
  unfold F_rule_Refs
  refine s.allocK fun a1 w1 s => s.ldi (x := r.1) 0 0 rfl rfl (gd_eq (fun c1 => ?_) (fun c1 => gd_eq (fun c2 => ?_) (fun c2 => ?_)))
  · have e : refs r = [r.2.2.1, r.2.2.2.1] := by unfold refs; rw [if_pos c1]
    rw [e] at h
    exact s.ldi (x := r.2.2.1) 0 2 rfl rfl (s.ldi (x := r.2.2.2.1) 0 3 rfl rfl (s.allocK fun a2 w2 s => h _ _ ((s.lit (ty := .int .i64) 0 rfl [r.2.2.1, r.2.2.2.1] 2 rfl rfl).pick [0] 2 rfl (by decide))))
  · have e : refs r = [r.2.2.1] := by unfold refs; rw [if_neg c1, if_pos c2]
    rw [e] at h
    exact s.ldi (x := r.2.2.1) 0 2 rfl rfl (s.allocK fun a2 w2 s => h _ _ ((s.lit (ty := .int .i64) 0 rfl [r.2.2.1] 1 rfl rfl).pick [0] 2 rfl (by decide)))
  · have e : refs r = [] := by unfold refs; rw [if_neg c1, if_neg c2]
    rw [e] at h
    exact h _ _ (s.pop.nil (.int .i64))
theorem rule_place_spec {r : RT} {n : Int} (hn : n ≤ 9223372036854775807) (s : Sp w0 Ω w) {K : Value → World → Prop} (h : ∀ w', Sp w0 Ω w' → K (if placeB r n then .nilIface else errV 1) w') : C_rule_place r n K w := by
  apply S_rule_place
  unfold F_rule_place
  refine s.allocK fun a1 w1 s => gd_dec (fun c => ?_) (fun c => s.ld0 0 rfl rfl (rule_Refs_spec s fun sl w2 s => ?_))
  · rw [if_neg (by simp [placeB]; omega)] at h
    exact h _ s.pop
  refine loop_by (fun x => x.1) (refs r).length (fun k _ w => (∀ i, i < k → ∀ x : Int, (refs r)[i]? = some x → 1 ≤ x ∧ x < n) ∧ Sp w0 (own (.int .i64) sl (refs r) :: cel a1 (cells yapi_Rule r) :: Ω) w) rfl ⟨fun i hi => by omega, s⟩ ?_
  rintro k ⟨x, _⟩ w3 hk hx ⟨ha, s⟩ _
  dsimp only at hx ⊢
  subst hx
  have hlen := (s.view 0 rfl).len
  refine gd_dec (fun hlt => ?_) (fun hge => ?_)
  · have hk' : k < (refs r).length := by omega
    obtain ⟨x, hx⟩ : ∃ x : Int, (refs r)[k]? = some x := ⟨_, List.getElem?_eq_getElem hk'⟩
    have hk2 := refs_len r
    refine (s.view 0 rfl).idx rfl hx rfl fun q hq => ⟨_, hq, ⟨fun y w => y.1 = !decide (1 ≤ (x : Int) ∧ (x : Int) < n) ∧ w = w3, gd_dec (fun c1 => ⟨?_, rfl⟩) (fun c1 => arith_i64 (by omega) (by omega) ⟨?_, rfl⟩), ?_⟩⟩
    · simp; omega
    · rw [← decide_not]; exact decide_eq_decide.2 (by omega)
    rintro ⟨y, _⟩ w4 ⟨hy, rfl⟩ _
    dsimp only at hy
    by_cases c1 : 1 ≤ (x : Int) ∧ (x : Int) < n
    · refine gd_f (by rw [hy]; simp [c1]) (arith_i64 (by omega) (by omega) (loop_nx hk' ⟨fun i hi y hy => ?_, s⟩))
      by_cases hik : i < k
      · exact ha i hik y hy
      · have : i = k := by omega
        subst this
        rw [hx] at hy
        cases hy
        exact c1
    · refine gd_t (by rw [hy]; simp; omega) ?_
      rw [if_neg (by
        simp only [placeB, decide_eq_true_eq, not_and]
        exact fun _ h => c1 (h x (List.mem_of_getElem? hx)))] at h
      exact h _ (s.drop 2)
  · rw [if_pos (by
      simp only [placeB, decide_eq_true_eq]
      refine ⟨by omega, fun x hx => ?_⟩
      obtain ⟨i, hi⟩ := List.getElem?_of_mem hx
      exact ha i (by have := (List.getElem?_eq_some_iff.1 hi).1; omega) x hi)] at h
    exact h _ (s.drop 2)
theorem rule_Check_spec {r : RT} {n : Int} (hn : n ≤ 9223372036854775807) (s : Sp w0 Ω w) {K : Value → World → Prop} (h : ∀ w', Sp w0 Ω w' → K (chkV r n) w') : C_rule_Check r n K w := by
  apply S_rule_Check
  unfold F_rule_Check
  refine s.allocK fun a1 w1 s => ⟨fun x w => x.1 = formB r ∧ Sp w0 (cel a1 (cells yapi_Rule r) :: Ω) w, ?_, ?_⟩
  · refine s.ldi (x := r.1) 0 0 rfl rfl (gd_eq (fun c1 => s.ldi (x := r.2.2.1) 0 2 rfl rfl (gd_eq (fun c2 => s.ldi (x := r.2.2.2.1) 0 3 rfl rfl (gd_eq (fun c3 => s.ldi (x := r.2.2.2.2) 0 4 rfl rfl ⟨?_, s⟩) (fun c3 => ⟨?_, s⟩))) (fun c2 => ⟨?_, s⟩)))
      (fun c1 => gd_eq (fun c2 => s.ldi (x := r.2.1) 0 1 rfl rfl (gd_eq (fun c3 => s.ldi (x := r.2.2.2.2) 0 4 rfl rfl ⟨?_, s⟩) (fun c3 => ⟨?_, s⟩)))
        (fun c2 => gd_eq (fun c3 => s.ldi (x := r.2.1) 0 1 rfl rfl (gd_eq (fun c4 => s.ldi (x := r.2.2.2.1) 0 3 rfl rfl (gd_eq (fun c5 => s.ldi (x := r.2.2.2.2) 0 4 rfl rfl ⟨?_, s⟩) (fun c5 => ⟨?_, s⟩))) (fun c4 => ⟨?_, s⟩))) (fun c3 => ⟨?_, s⟩))))
    all_goals rw [Bool.eq_iff_iff]
    all_goals first | (simp [formB, c1, c2, c3, c4, c5]; done) | (simp [formB, c1, c2, c3, c4]; done) | (simp [formB, c1, c2, c3]; done) | (simp [formB, c1, c2]; done) | (simp [formB, c1]; done)
  · rintro ⟨x, _⟩ w2 ⟨hx, s⟩ _
    dsimp only at hx
    subst hx
    unfold chkV chk at h
    cases hf : formB r
    · rw [hf] at h
      exact gd_t rfl (h _ s.pop)
    · rw [hf] at h
      refine gd_f rfl (s.ld0 0 rfl rfl (rule_place_spec hn s fun w3 s => ?_))
      cases hp : placeB r n
      · rw [hp] at h
        exact h _ s.pop
      · rw [hp] at h
        exact h _ s.pop
end Go.Proofs.Ytgbledjehnojeaa

/- The contract of slices.Sort at this program's numbers: the kit's laying, as plain text printed by a program. No conditions. -/
namespace Go.Proofs.Ytgbledjehnojeaa
open Go.Shelf

def sortRen : Go.Shelf.Ren := ⟨fun | 5 => 73 | 8 => 83 | 7 => 82 | 19 => 96 | 20 => 97 | 10 => 87 | 11 => 88 | 12 => 89 | 13 => 90 | 14 => 91 | 15 => 92 | 16 => 93 | 17 => 94 | 18 => 95 | 30 => 99 | 31 => 100 | 32 => 101 | 33 => 102 | 34 => 103 | 35 => 104 | 40 => 106 | n => n, fun | 23 => 24 | 25 => 31 | 3 => 3 | 32 => 81 | 22 => 24 | 0 => 0 | 44 => 150 | 46 => 41 | 4 => 4 | 36 => 142 | 35 => 141 | 41 => 147 | 5 => 5 | 9 => 9 | 53 => 153 | 57 => 157 | 63 => 160 | 64 => 138 | n => n, fun n => n⟩
theorem sortLay : SlLaysM.n5 Try.prog sortRen := {
  mixed := by kernel_rfl,
  f5 := ⟨Try.f73.name, by decide, Try.func73.trans (congrArg some (by kernel_rfl))⟩,
  f7 := ⟨Try.f82.name, by decide, Try.func82.trans (congrArg some (by kernel_rfl))⟩,
  f8 := Try.func83.trans (congrArg some (by kernel_rfl)),
  f10 := ⟨Try.f87.name, by decide, Try.func87.trans (congrArg some (by kernel_rfl))⟩,
  f11 := ⟨Try.f88.name, by decide, Try.func88.trans (congrArg some (by kernel_rfl))⟩,
  f12 := ⟨Try.f89.name, by decide, Try.func89.trans (congrArg some (by kernel_rfl))⟩,
  f13 := ⟨Try.f90.name, by decide, Try.func90.trans (congrArg some (by kernel_rfl))⟩,
  f14 := ⟨Try.f91.name, by decide, Try.func91.trans (congrArg some (by kernel_rfl))⟩,
  f15 := ⟨Try.f92.name, by decide, Try.func92.trans (congrArg some (by kernel_rfl))⟩,
  f16 := ⟨Try.f93.name, by decide, Try.func93.trans (congrArg some (by kernel_rfl))⟩,
  f17 := ⟨Try.f94.name, by decide, Try.func94.trans (congrArg some (by kernel_rfl))⟩,
  f18 := ⟨Try.f95.name, by decide, Try.func95.trans (congrArg some (by kernel_rfl))⟩,
  f19 := Try.func96.trans (congrArg some (by kernel_rfl)),
  f20 := Try.func97.trans (congrArg some (by kernel_rfl)),
  f30 := ⟨Try.f99.name, by decide, Try.func99.trans (congrArg some (by kernel_rfl))⟩,
  f31 := Try.func100.trans (congrArg some (by kernel_rfl)),
  f32 := Try.func101.trans (congrArg some (by kernel_rfl)),
  f33 := ⟨Try.f102.name, by decide, Try.func102.trans (congrArg some (by kernel_rfl))⟩,
  f34 := ⟨Try.f103.name, by decide, Try.func103.trans (congrArg some (by kernel_rfl))⟩,
  f35 := ⟨Try.f104.name, by decide, Try.func104.trans (congrArg some (by kernel_rfl))⟩,
  f40 := ⟨Try.f106.name, by decide, Try.func106.trans (congrArg some (by kernel_rfl))⟩,
  t0 := Try.underlying0,
  a0 := Try.isAgg0,
  z0 := Try.sizeOf0,
  v0 := Try.zeroValue0,
  t3 := Try.underlying3,
  a3 := Try.isAgg3,
  z3 := Try.sizeOf3,
  v3 := Try.zeroValue3,
  t4 := Try.underlying4,
  a4 := Try.isAgg4,
  z4 := Try.sizeOf4,
  v4 := Try.zeroValue4,
  t5 := Try.underlying5,
  a5 := Try.isAgg5,
  z5 := Try.sizeOf5,
  v5 := Try.zeroValue5,
  t9 := Try.underlying9,
  a9 := Try.isAgg9,
  z9 := Try.sizeOf9,
  v9 := Try.zeroValue9,
  t22 := Try.underlying24,
  a22 := Try.isAgg24,
  z22 := Try.sizeOf24,
  v22 := Try.zeroValue24,
  t23 := Try.underlying24,
  a23 := Try.isAgg24,
  z23 := Try.sizeOf24,
  v23 := Try.zeroValue24,
  t25 := Try.underlying31,
  a25 := Try.isAgg31,
  z25 := Try.sizeOf31,
  v25 := Try.zeroValue31,
  t32 := Try.underlying81,
  a32 := Try.isAgg81,
  z32 := Try.sizeOf81,
  v32 := Try.zeroValue81,
  t35 := Try.underlying141,
  a35 := Try.isAgg141,
  z35 := Try.sizeOf141,
  v35 := Try.zeroValue141,
  t36 := Try.underlying142,
  a36 := Try.isAgg142,
  z36 := Try.sizeOf142,
  v36 := Try.zeroValue142,
  t41 := Try.underlying147,
  a41 := Try.isAgg147,
  z41 := Try.sizeOf147,
  v41 := Try.zeroValue147,
  t44 := Try.underlying150,
  a44 := Try.isAgg150,
  z44 := Try.sizeOf150,
  v44 := Try.zeroValue150,
  t46 := Try.underlying41,
  a46 := Try.isAgg41,
  z46 := Try.sizeOf41,
  v46 := Try.zeroValue41,
  t53 := Try.underlying153,
  a53 := Try.isAgg153,
  z53 := Try.sizeOf153,
  v53 := Try.zeroValue153,
  t57 := Try.underlying157,
  a57 := Try.isAgg157,
  z57 := Try.sizeOf157,
  v57 := Try.zeroValue157,
  t63 := Try.underlying160,
  a63 := Try.isAgg160,
  z63 := Try.sizeOf160,
  v63 := Try.zeroValue160,
  t64 := Try.underlying138,
  a64 := Try.isAgg138,
  z64 := Try.sizeOf138,
  v64 := Try.zeroValue138 }

end Go.Proofs.Ytgbledjehnojeaa

/- What slices.Sort leaves: the same numbers, in order. -/
set_option linter.unusedVariables false
set_option linter.unusedSimpArgs false
namespace Go.Proofs.Ytgbledjehnojeaa
open Go.Den

variable {w0 w : World} {Ω : List Ob} {sl : Sl} {xs : List (Ty.int .i64).T}

def srt (xs : List Int) : List Int := xs.mergeSort fun x y => decide (x ≤ y)
theorem srt_len (xs : List Int) : (srt xs).length = xs.length := List.length_mergeSort xs
theorem srt_perm (xs : List Int) : (srt xs).Perm xs := List.mergeSort_perm xs _
theorem srt_sorted (xs : List Int) : (srt xs).Pairwise (fun x y => x ≤ y) := by
  have := List.pairwise_mergeSort (le := fun (x y : Int) => decide (x ≤ y)) (fun a b c h1 h2 => by simp at *; omega) (fun a b => by simp; omega) xs
  exact this.imp fun h => by simpa using h
theorem flat_int (xs : List (Ty.int .i64).T) : flat (.int .i64) xs = xs.map (Value.int .i64) := by
  induction xs with
  | nil => rfl
  | cons x xs ih => simp only [flat, List.flatMap_cons, List.map_cons] at ih ⊢; rw [ih]; rfl
theorem addr_mk (q : Addr) (h : q.spot = none) : q = ⟨q.block, q.off, none⟩ := by cases q; cases h; rfl
theorem add_mk (b o j : Nat) : Addr.add ⟨b, o, none⟩ j = ⟨b, o + j, none⟩ := by
  unfold Addr.add; split <;> simp_all

/-- a row of a slice, sorted in place -/
theorem sort_own (o : Own (.int .i64) w sl xs) {q : Addr} (hq : sl.a = some q) (n : Nat) (os : Array Obj) (ys : List (Ty.int .i64).T) (hl : ys.length = xs.length) :
    Go.Sort.Holds (Value.int .i64) w q.block q.off (xs.toArray : Array Int) ∧ Own (.int .i64) (Go.Sort.grow (Go.Sort.putRow (Value.int .i64) (Go.Sort.ahead w n) q.block q.off (ys.toArray : Array Int)) os) sl ys ∧
    Fr (fun b => b = q.block) w (Go.Sort.grow (Go.Sort.putRow (Value.int .i64) (Go.Sort.ahead w n) q.block q.off (ys.toArray : Array Int)) os) := by
  have hs := addr_mk q (o.spot q hq)
  have hlt : q.block < w.heap.size := o.lt _ ⟨q, hq, rfl⟩
  have hlen := o.view.len
  have hcap := o.cap
  have hwr := o.wr q hq
  have hat := o.view.mem q hq
  rw [flat_int] at hat
  have e1 : ∀ j, Addr.add q j = ⟨q.block, q.off + j, none⟩ := fun j => by
    conv => lhs; rw [hs]
    exact add_mk _ _ _
  have holds : Go.Sort.Holds (Value.int .i64) w q.block q.off (xs.toArray : Array Int) := fun j hj => by
    have hj' : j < xs.length := by simpa using hj
    constructor
    · have := hat j (Value.int .i64 xs[j]) (by rw [List.getElem?_map, List.getElem?_eq_getElem hj']; rfl)
      rw [e1] at this
      rw [this]
      congr 2
      simp [hj']
    · have := (hwr j (by simp only [Ty.size]; omega)).2
      rw [e1] at this
      exact this
  refine ⟨holds, ?_, ?_⟩
  · have hh : Go.Sort.Holds (Value.int .i64) (Go.Sort.ahead w n) q.block q.off (xs.toArray : Array Int) := Go.Sort.holds_ahead _ _ _ _ _ _ holds
    have h1 := Go.Sort.holds_putRow (Value.int .i64) (Go.Sort.ahead w n) q.block q.off (xs.toArray : Array Int) (ys.toArray : Array Int) hh (by simp [hl])
    have hsz : (Go.Sort.putRow (Value.int .i64) (Go.Sort.ahead w n) q.block q.off (ys.toArray : Array Int)).heap.size = w.heap.size := by simp
    have h2 := Go.Sort.holds_grow (Value.int .i64) _ os q.block q.off (ys.toArray : Array Int) (by rw [hsz]; exact hlt) h1
    refine ⟨⟨by rw [hl]; exact hlen, fun q' hq' => ?_, fun _ => ⟨q, hq⟩⟩, hcap, fun q' hq' => ?_, fun h => (by rw [hq] at h; cases h), fun b hb => ?_, o.spot⟩
    · rw [hq] at hq'; cases hq'
      rw [flat_int]
      intro i v hi
      rw [List.getElem?_map] at hi
      have hil : i < ys.length := by
        cases h : ys[i]? with
        | none => rw [h] at hi; cases hi
        | some y => exact (List.getElem?_eq_some_iff.1 h).1
      rw [List.getElem?_eq_getElem hil] at hi
      have := (h2 i (by simpa using hil)).1
      rw [e1, this]
      simp only [Option.map_some] at hi
      rw [← hi]
      congr 2
      simp [hil]
    · rw [hq] at hq'; cases hq'
      intro i hi
      obtain ⟨⟨v, hv⟩, hf⟩ := hwr i hi
      have c1 : ∃ v, (Go.Sort.putRow (Value.int .i64) (Go.Sort.ahead w n) q.block q.off (ys.toArray : Array Int)).cell? (q.add i) = some v := by
        by_cases c : i < ys.length
        · have := (h1 i (by simpa using c)).1
          exact ⟨_, by rw [e1]; exact this⟩
        · refine ⟨v, ?_⟩
          rw [Go.Sort.cell?_putRow_other _ _ _ _ _ _ (by right; right; rw [e1]; simp; omega)]
          exact hv
      obtain ⟨v', hv'⟩ := c1
      refine ⟨⟨v', ?_⟩, ?_⟩
      · rw [Go.Sort.cell?_grow _ _ _ (by rw [hsz, e1]; exact hlt)]; exact hv'
      · rw [Go.Sort.frozen?_grow _ _ _ (by rw [hsz, e1]; exact hlt), Go.Sort.frozen?_putRow]; exact hf
    · have := o.lt b hb
      rw [Go.Sort.size_grow, hsz]; omega
  · refine ⟨by rw [Go.Sort.size_grow]; simp, fun b hb hne => ?_, rfl, rfl, rfl⟩
    have hsz : (Go.Sort.putRow (Value.int .i64) (Go.Sort.ahead w n) q.block q.off (ys.toArray : Array Int)).heap.size = w.heap.size := by simp
    rw [Go.Sort.heap_grow_old _ _ (by rw [hsz]; exact hb)]
    unfold Go.Sort.putRow Go.Sort.mapBlock
    simp only [Array.getElem?_modify, Go.Sort.heap_ahead]
    rw [if_neg (Ne.symm hne)]

theorem slices_Sort_sp (s : Sp w0 Ω w) (i : Nat) (hi : Ω[i]? = some (own (.int .i64) sl xs)) (hl : xs.length ≤ 1000000000) {K : Unit → World → Prop} (h : ∀ w', Sp w0 (Ω.set i (own (.int .i64) sl (srt xs))) w' → K () w') : C_slices_Sort sl K w := by
  obtain ⟨B, ⟨o, hB⟩, hlt, back⟩ := s.open i hi rfl
  have hlen := o.view.len
  cases hq : sl.a with
  | none =>
    have h0 := o.nil hq
    have hcap := o.cap
    have hx : xs = [] := List.eq_nil_of_length_eq_zero (by omega)
    have hn : sl.len = 0 := by omega
    have := AnyM.slices_Sort_int_none sortLay none sl.cap w
    unfold C_slices_Sort
    rw [hq, hn]
    refine Calls.mono this fun e w' ⟨he, hw⟩ => ⟨(), he, ?_⟩
    subst hw
    refine h _ ?_
    subst hx
    have : srt [] = [] := by simp [srt]
    rw [this]
    exact (setSame hi).symm ▸ s
  | some q =>
    have hs := addr_mk q (o.spot q hq)
    have key := sort_own o hq
    have := AnyM.slices_Sort_int sortLay q.block q.off sl.cap xs w (key 0 #[] xs rfl).1 (o.lt _ ⟨q, hq, rfl⟩) (by omega)
    unfold C_slices_Sort
    rw [hq, hlen]
    rw [← hs] at this
    refine Calls.mono this fun e w' ⟨he, n, os, hw⟩ => ⟨(), he, ?_⟩
    obtain ⟨_, o', f⟩ := key n os (srt xs) (srt_len xs)
    subst hw
    exact h _ (back _ B _ ⟨o', hB⟩ (f.mono fun b _ hb => hb ▸ hB _ ⟨q, hq, rfl⟩) (fun _ h => Or.inl h) fun b hb => Nat.lt_of_lt_of_le (hlt b hb).2 f.size)

end Go.Proofs.Ytgbledjehnojeaa

/- What rules reach, and the list of that in order. -/
set_option linter.unusedVariables false
set_option linter.unusedSimpArgs false
namespace Go.Proofs.Ytgbledjehnojeaa
open Go.Den

variable {T : List ET} {S : List Int}

inductive Rch (T : List ET) (S : List Int) : Int → Prop
  | root {x : Int} : x ∈ S → x ≠ 0 → Rch T S x
  | ref {y x : Int} : Rch T S y → x ∈ refs (eAt T y).1 → Rch T S x

theorem refs_in (g : Grow T) {y x : Int} (h1 : 1 ≤ y) (h2 : y ≤ T.length) (h : x ∈ refs (eAt T y).1) : 1 ≤ x ∧ x < y := by
  cases g.shape h1 h2 with
  | letter b _ _ e => rw [e] at h; simp [refs, mkLetter] at h
  | pair l r _ _ _ _ _ e =>
    rw [e] at h
    have : x = l ∨ x = r := by simpa [refs, mkPair] using h
    rcases this with rfl | rfl <;> omega
  | power a k _ _ _ _ e =>
    rw [e] at h
    have : x = a := by simpa [refs, mkPower] using h
    subst this; omega
theorem Rch.bound (g : Grow T) (hS : ∀ x ∈ S, 0 ≤ x ∧ x ≤ T.length) {x : Int} (h : Rch T S x) : 1 ≤ x ∧ x ≤ T.length := by
  induction h with
  | root h1 h2 => have := hS _ h1; omega
  | ref h1 h2 ih =>
    have := refs_in g ih.1 ih.2 h2
    omega
noncomputable def rlist (T : List ET) (S : List Int) : List Int := ((List.range T.length).map fun i : Nat => (i : Int) + 1).filter fun x => @decide (Rch T S x) (Classical.propDecidable _)
theorem mem_rlist {x : Int} : x ∈ rlist T S ↔ (1 ≤ x ∧ x ≤ T.length) ∧ Rch T S x := by
  unfold rlist
  rw [List.mem_filter]
  have : x ∈ ((List.range T.length).map fun i : Nat => (i : Int) + 1) ↔ 1 ≤ x ∧ x ≤ T.length := by
    rw [List.mem_map]
    constructor
    · rintro ⟨i, hi, rfl⟩
      have := List.mem_range.1 hi
      omega
    · intro h
      exact ⟨(x - 1).toNat, List.mem_range.2 (by omega), by omega⟩
  rw [this]
  simp
theorem rlist_sorted : (rlist T S).Pairwise (fun x y => x < y) := by
  unfold rlist
  refine List.Pairwise.filter _ ?_
  rw [List.pairwise_map]
  exact List.pairwise_lt_range.imp fun h => by omega
theorem rlist_nodup : (rlist T S).Nodup := rlist_sorted.imp fun h => by omega
theorem rlist_mem (g : Grow T) (hS : ∀ x ∈ S, 0 ≤ x ∧ x ≤ T.length) {x : Int} : x ∈ rlist T S ↔ Rch T S x := by
  rw [mem_rlist]
  exact ⟨fun h => h.2, fun h => ⟨h.bound g hS, h⟩⟩
theorem sorted_unique {L M : List Int} (hL : L.Pairwise (fun x y => x < y)) (hM : M.Pairwise (fun x y => x < y)) (h : ∀ x, x ∈ L ↔ x ∈ M) : L = M := by
  induction L generalizing M with
  | nil =>
    cases M with
    | nil => rfl
    | cons y M => have := (h y).2 (by simp); cases this
  | cons x L ih =>
    cases M with
    | nil => have := (h x).1 (by simp); cases this
    | cons y M =>
      rw [List.pairwise_cons] at hL hM
      have hxy : x = y := by
        have h1 := (h x).1 (by simp)
        have h2 := (h y).2 (by simp)
        rcases List.mem_cons.1 h1 with h1 | h1
        · exact h1
        · rcases List.mem_cons.1 h2 with h2 | h2
          · exact h2.symm
          · have := hM.1 x h1; have := hL.1 y h2; omega
      subst hxy
      congr 1
      refine ih hL.2 hM.2 fun z => ?_
      have := h z
      simp only [List.mem_cons] at this
      constructor
      · intro hz
        rcases this.1 (Or.inr hz) with rfl | h'
        · have := hL.1 z hz; omega
        · exact h'
      · intro hz
        rcases this.2 (Or.inr hz) with rfl | h'
        · have := hM.1 z hz; omega
        · exact h'
theorem srt_lt {L : List Int} (hn : L.Nodup) : (srt L).Pairwise (fun x y => x < y) := by
  have h1 := srt_sorted L
  have h2 : (srt L).Nodup := (srt_perm L).nodup_iff.2 hn
  exact (h1.and h2).imp fun ⟨a, b⟩ => by omega
theorem srt_rlist (g : Grow T) (hS : ∀ x ∈ S, 0 ≤ x ∧ x ≤ T.length) {L : List Int} (hn : L.Nodup) (h : ∀ x, x ∈ L ↔ Rch T S x) : srt L = rlist T S :=
  sorted_unique (srt_lt hn) rlist_sorted fun x => by rw [(srt_perm L).mem_iff, h, rlist_mem g hS]
theorem rlist_zero : rlist T [0] = [] := by
  apply List.eq_nil_iff_forall_not_mem.2
  intro x hx
  have h := (mem_rlist.1 hx).2
  have key : ∀ x, Rch T [0] x → False := by
    intro x h
    induction h with
    | root h1 h2 => simp at h1; exact h2 h1
    | ref _ _ ih => exact ih
  exact key x h
theorem rlist_len (T : List ET) (S : List Int) : (rlist T S).length ≤ T.length := by
  unfold rlist
  refine Nat.le_trans (List.length_filter_le _ _) ?_
  simp

/-- a list of different numbers from 1 to n is no longer than n -/
theorem nodup_bound {L : List Int} {n : Nat} (hn : L.Nodup) (h : ∀ x ∈ L, 1 ≤ x ∧ x ≤ n) : L.length ≤ n := by
  have hp : srt L = ((List.range n).map fun i : Nat => (i : Int) + 1).filter (fun x => decide (x ∈ L)) := by
    refine sorted_unique (srt_lt hn) (List.Pairwise.filter _ (by rw [List.pairwise_map]; exact List.pairwise_lt_range.imp fun h => by omega)) fun x => ?_
    rw [(srt_perm L).mem_iff, List.mem_filter, List.mem_map]
    constructor
    · intro hx
      have := h x hx
      exact ⟨⟨(x - 1).toNat, List.mem_range.2 (by omega), by omega⟩, decide_eq_true hx⟩
    · intro hx
      exact of_decide_eq_true hx.2
  have h1 := srt_len L
  rw [hp] at h1
  rw [← h1]
  refine Nat.le_trans (List.length_filter_le _ _) ?_
  simp

/-! ### Positions -/
def ent (ids : List Int) : List ((Ty.int .i64).T × (Ty.int .i64).T) := ids.zipIdx.map fun p => (p.1, (p.2 : Int) + 1)
theorem ent_append (ids : List Int) (x : Int) : ent (ids ++ [x]) = ent ids ++ [(x, (ids.length : Int) + 1)] := by
  simp [ent, List.zipIdx_append]
theorem lk_append {kt vt : Ty} {es fs : List (kt.T × vt.T)} {x : kt.T} : lk (es ++ fs) x = (lk es x).or (lk fs x) := by
  unfold lk
  rw [List.find?_append]
  cases es.find? (fun p => beqT kt x p.1) <;> rfl
theorem lk_one {kt vt : Ty} (hk : leafT kt = true) {k x : kt.T} {v : vt.T} [DecidableEq kt.T] : lk [(k, v)] x = if x = k then some v else none := by
  unfold lk
  by_cases h : x = k
  · rw [if_pos h]
    have : beqT kt x k = true := (beqT_iff kt hk _ _).2 h
    simp [this]
  · rw [if_neg h]
    have : beqT kt x k = false := by
      cases hb : beqT kt x k
      · rfl
      · exact absurd ((beqT_iff kt hk _ _).1 hb) h
    simp [this]
theorem lk_ent_none {ids : List Int} {y : Int} (h : y ∉ ids) : lk (ent ids) y = none := by
  unfold lk
  have : (ent ids).find? (fun p => beqT (.int .i64) y p.1) = none := by
    rw [List.find?_eq_none]
    intro p hp hb
    have e := (beqT_iff (.int .i64) rfl _ _).1 hb
    unfold ent at hp
    obtain ⟨⟨a, i⟩, hq, rfl⟩ := List.mem_map.1 hp
    have := (List.mem_zipIdx hq).2.2
    exact h (by rw [show y = a from e, this]; exact List.getElem_mem _)
  rw [this]; rfl
theorem snoc_ind {α : Type} {M : List α → Prop} (h0 : M []) (h1 : ∀ L x, M L → M (L ++ [x])) (L : List α) : M L := by
  have key : ∀ (n : Nat) (L : List α), L.length = n → M L := by
    intro n
    induction n with
    | zero => intro L h; rw [List.eq_nil_of_length_eq_zero h]; exact h0
    | succ n ih =>
      intro L h
      obtain ⟨L', e, rfl⟩ : ∃ L' e, L = L' ++ [e] := ⟨L.dropLast, L.getLast (by intro h'; rw [h'] at h; simp at h), (List.dropLast_concat_getLast _).symm⟩
      exact h1 L' e (ih L' (by simpa using h))
  exact key _ L rfl
theorem lk_ent_some : ∀ {ids : List Int} {y : Int} {k : Nat}, ids.Nodup → ids[k]? = some y → lk (ent ids) y = some ((k : Int) + 1) := by
  intro ids
  refine snoc_ind (M := fun ids => ∀ {y : Int} {k : Nat}, ids.Nodup → ids[k]? = some y → lk (ent ids) y = some ((k : Int) + 1)) ?_ ?_ ids
  · intro y k _ h; simp at h
  · intro L x ih y k hn h
    rw [List.nodup_append] at hn
    rw [ent_append, lk_append]
    by_cases hk : k < L.length
    · rw [List.getElem?_append_left hk] at h
      rw [ih hn.1 h]; rfl
    · have hk' : k = L.length := by
        have := (List.getElem?_eq_some_iff.1 h).1
        simp at this; omega
      subst hk'
      have hx : x = y := by simpa using h
      subst hx
      rw [lk_ent_none (fun hm => (hn.2.2 x hm x (by simp)) rfl), lk_one rfl, if_pos rfl]
      rfl
def pos (ids : List Int) (y : Int) : Int := (lk (ent ids) y).getD (0 : Int)
theorem pos_none {ids : List Int} {y : Int} (h : y ∉ ids) : pos ids y = 0 := by unfold pos; rw [lk_ent_none h]; rfl
theorem pos_some {ids : List Int} {y : Int} {k : Nat} (hn : ids.Nodup) (h : ids[k]? = some y) : pos ids y = (k : Int) + 1 := by unfold pos; rw [lk_ent_some hn h]; rfl

/-! ### The grammar of a list of rules -/
def mvr (ids : List Int) (r : RT) : RT := (r.1, r.2.1, pos ids r.2.2.1, pos ids r.2.2.2.1, r.2.2.2.2)
def exp (T : List ET) (ids : List Int) : List yapi_Rule.T := ids.map fun x => mvr ids (eAt T x).1
theorem exp_len (T : List ET) (ids : List Int) : (exp T ids).length = ids.length := List.length_map _
structure Closed (T : List ET) (ids : List Int) : Prop where
  sorted : ids.Pairwise (fun x y => x < y)
  bound : ∀ x ∈ ids, 1 ≤ x ∧ x ≤ T.length
  refs : ∀ y ∈ ids, ∀ x ∈ refs (eAt T y).1, x ∈ ids
theorem Closed.nodup {ids : List Int} (h : Closed T ids) : ids.Nodup := h.sorted.imp fun h => by omega
theorem rlist_closed (g : Grow T) (hS : ∀ x ∈ S, 0 ≤ x ∧ x ≤ T.length) : Closed T (rlist T S) :=
  ⟨rlist_sorted, fun x hx => (mem_rlist.1 hx).1, fun y hy x hx => (rlist_mem g hS).2 (.ref (mem_rlist.1 hy).2 hx)⟩
theorem sorted_lt {ids : List Int} (hs : ids.Pairwise (fun x y => x < y)) {i j : Nat} {x y : Int} (hi : ids[i]? = some x) (hj : ids[j]? = some y) : x < y ↔ i < j := by
  have key : ∀ {i j : Nat} {x y : Int}, ids[i]? = some x → ids[j]? = some y → i < j → x < y := by
    intro i j x y hi hj h
    have := (List.pairwise_iff_getElem.1 hs) i j (List.getElem?_eq_some_iff.1 hi).1 (List.getElem?_eq_some_iff.1 hj).1 h
    rwa [(List.getElem?_eq_some_iff.1 hi).2, (List.getElem?_eq_some_iff.1 hj).2] at this
  constructor
  · intro h
    rcases Nat.lt_trichotomy i j with h' | h' | h'
    · exact h'
    · subst h'; rw [hi] at hj; cases hj; omega
    · have := key hj hi h'; omega
  · exact key hi hj

end Go.Proofs.Ytgbledjehnojeaa

/- What the store's reach and Export compute. -/
set_option linter.unusedVariables false
set_option linter.unusedSimpArgs false
namespace Go.Proofs.Ytgbledjehnojeaa
open Go.Den

variable {w0 w : World} {Ω : List Ob} {most : Int} {T : List ET} {i : Nat} {p : Addr}

theorem eqID : eqOK P 1 t_api_ID (.int .i64) = true := by kernel_rfl
theorem mapIB : P.underlying t_map_api_ID_bool = some (.map t_api_ID (mapElem t_map_api_ID_bool)) := by kernel_rfl
theorem zeroIB : zeroOf P (mapElem t_map_api_ID_bool) = some (val .bool false) := by kernel_rfl
theorem mapII : P.underlying t_map_api_ID_api_ID = some (.map t_api_ID (mapElem t_map_api_ID_api_ID)) := by kernel_rfl
theorem zeroII : zeroOf P (mapElem t_map_api_ID_api_ID) = some (val (.int .i64) (0 : Int)) := by kernel_rfl

def seenE (ids : List (Ty.int .i64).T) : List ((Ty.int .i64).T × Ty.bool.T) := ids.map fun x => (x, true)
theorem seenE_append (ids : List (Ty.int .i64).T) (x : Int) : seenE (ids ++ [x]) = seenE ids ++ [(x, true)] := by simp [seenE]
theorem lk_seen {ids : List (Ty.int .i64).T} {y : Int} : lk (kt := .int .i64) (vt := .bool) (seenE ids) y = if y ∈ ids then some true else none := by
  induction ids with
  | nil => rfl
  | cons x ids ih =>
    have e : seenE (x :: ids) = [(x, true)] ++ seenE ids := rfl
    rw [e, lk_append, lk_one rfl, ih]
    by_cases h : y = x
    · subst h; simp
    · rw [if_neg h]
      simp only [Option.none_or, List.mem_cons]
      by_cases h2 : y ∈ ids
      · rw [if_pos h2, if_pos (Or.inr h2)]
      · rw [if_neg h2, if_neg (by rintro (h3 | h3) <;> contradiction)]

theorem intern_reach_sp {id : Int} (s : Sp w0 Ω w) (i : Nat) (hi : Ω[i]? = some (sto p most T)) (h0 : 0 ≤ id) (h1 : id ≤ T.length) {K : Sl → World → Prop} (h : ∀ sl w', Sp w0 (own (.int .i64) sl (rlist T [id]) :: Ω) w' → K sl w') : C_intern_Store_reach (some p) id K w := by
  apply S_intern_Store_reach
  unfold F_intern_Store_reach
  obtain ⟨_, _, _, hb0, hb1, hb2, hg⟩ := Sp.entry s i hi
  have hS : ∀ x ∈ [id], 0 ≤ x ∧ x ≤ (T.length : Int) := fun x hx => by simp at hx; subst hx; exact ⟨h0, h1⟩
  refine gd_eq (fun c => ?_) (fun c => s.allocK fun a1 w1 s => s.allocMap (.int .i64) .bool fun r w2 s => ?_)
  · subst c
    rw [rlist_zero] at h
    exact h _ _ (s.nil (.int .i64))
  refine s.upNew 0 rfl (by decide) mapIB eqID (by simp) id true rfl fun w3 s => ?_
  have s' : Sp w0 (mp (.int .i64) .bool r (seenE [id]) :: own (.int .i64) ⟨some ⟨a1, 0, none⟩, 1, 1⟩ [id] :: Ω) w3 := s.lit (ty := .int .i64) 1 rfl [id] 1 rfl rfl
  clear s
  refine ⟨fun x w => ∃ (ids : List (Ty.int .i64).T) (k : Nat), x.2.1 = (k : Int) ∧ k ≤ ids.length ∧ ids.Nodup ∧ (∀ y ∈ ids, Rch T [id] y) ∧ id ∈ ids ∧ (∀ j, j < k → ∀ y : Int, ids[j]? = some y → ∀ z ∈ refs (eAt T y).1, z ∈ ids) ∧
      Sp w0 (mp (.int .i64) .bool r (seenE ids) :: own (.int .i64) x.1 ids :: Ω) w, fun x _ => ((T.length : Int) - x.2.1).toNat,
    ⟨[id], 0, rfl, Nat.zero_le _, by simp, fun y hy => by simp at hy; subst hy; exact .root (by simp) c, by simp, fun j hj => by omega, s'⟩, ?_⟩
  rintro ⟨sl, x, _⟩ w4 ⟨ids, k, hx, hk, hnd, hrch, hid, hcl, s⟩ _
  dsimp only at hx s ⊢
  subst hx
  have hlen := (s.view 1 rfl).len
  have hbd : ∀ y ∈ ids, 1 ≤ (y : Int) ∧ (y : Int) ≤ (T.length : Nat) := fun y hy => (hrch y hy).bound hg hS
  have hnb := nodup_bound hnd hbd
  refine gd_dec (fun hlt => ?_) (fun hge => ?_)
  · have hk' : k < ids.length := by omega
    obtain ⟨y, hy⟩ : ∃ y : Int, ids[k]? = some y := ⟨_, List.getElem?_eq_getElem hk'⟩
    have hyb : 1 ≤ y ∧ y ≤ (T.length : Int) := hbd y (List.mem_of_getElem? hy)
    refine s.drawK fun w5 s => nonNil_some ?_
    obtain ⟨lsl, hl, hv, _⟩ := Sp.entry s (i + 2) hi
    refine ⟨lsl, hl, (s.view 1 rfl).idx rfl hy rfl fun q hq => ⟨y, hq, arith_i64 (by omega) (by omega) ?_⟩⟩
    refine hv.idx (n := (y - 1).toNat) (by omega) (eAt_get hyb.1 hyb.2) rfl fun q hq => ⟨(eAt T y).1, hq.sub 0 rfl, rule_Refs_spec s fun rsl w6 s => ?_⟩
    have hrl := refs_len (eAt T y).1
    refine loop_by (fun x => x.2.1) (refs (eAt T y).1).length (fun n x w => ∃ more : List (Ty.int .i64).T, (ids ++ more).Nodup ∧ (∀ y ∈ ids ++ more, Rch T [id] y) ∧ (∀ j, j < n → ∀ z : Int, (refs (eAt T y).1)[j]? = some z → z ∈ ids ++ more) ∧
      Sp w0 (own (.int .i64) rsl (refs (eAt T y).1) :: mp (.int .i64) .bool r (seenE (ids ++ more)) :: own (.int .i64) x.1 (ids ++ more) :: Ω) w) rfl ⟨[], by simpa using hnd, by simpa using hrch, fun j hj => by omega, by simpa using s⟩ ?_
    rintro n ⟨sl2, x, _⟩ w7 hn hx ⟨more, hnd2, hrch2, hin, s⟩ _
    dsimp only at hx s ⊢
    subst hx
    have hrlen := (s.view 0 rfl).len
    refine gd_dec (fun hlt2 => ?_) (fun hge2 => ?_)
    · have hn' : n < (refs (eAt T y).1).length := by omega
      obtain ⟨z, hz⟩ : ∃ z : Int, (refs (eAt T y).1)[n]? = some z := ⟨_, List.getElem?_eq_getElem hn'⟩
      have hzr : Rch T [id] z := .ref (hrch y (List.mem_of_getElem? hy)) (List.mem_of_getElem? hz)
      refine JoinP.inl ((s.view 0 rfl).idx rfl hz rfl fun q hq => ⟨z, hq, ?_⟩)
      refine ⟨_, lk1_run (by decide) mapIB eqID (by simp) zeroIB (s.mp_ 1 rfl) z, ?_⟩
      rw [lk_seen]
      by_cases hm : z ∈ ids ++ more
      · rw [if_pos hm]
        refine gd_f rfl fun _ => arith_i64 (by omega) (by omega) (loop_nx hn' ⟨more, hnd2, hrch2, fun j hj u hu => ?_, s⟩)
        by_cases hjn : j < n
        · exact hin j hjn u hu
        · have : j = n := by omega
          subst this
          rw [hz] at hu; cases hu; exact hm
      · rw [if_neg hm]
        have hbd2 : ∀ y ∈ ids ++ more, 1 ≤ (y : Int) ∧ (y : Int) ≤ (T.length : Nat) := fun y hy => (hrch2 y hy).bound hg hS
        have hnb2 := nodup_bound hnd2 hbd2
        refine gd_t rfl (s.upNew 1 rfl (by decide) mapIB eqID (by simp) z true (by rw [lk_seen, if_neg hm]) fun w8 s => s.allocK fun a20 w9 s => s.app 3 rfl ((s.lit (ty := .int .i64) 0 rfl [z] 1 rfl rfl).view 0 rfl) (by simp only [List.length_cons, List.length_nil]; omega) fun s21 w10 s => ?_)
        have hnd3 : (ids ++ (more ++ [z])).Nodup := by
          rw [← List.append_assoc, List.nodup_append]
          exact ⟨hnd2, by simp, fun a ha b hb => by simp at hb; subst hb; exact fun e => hm (e ▸ ha)⟩
        intro _
        refine arith_i64 (by omega) (by omega) (loop_nx hn' ⟨more ++ [z], hnd3, fun u hu => ?_, fun j hj u hu => ?_, ?_⟩)
        · rw [← List.append_assoc] at hu
          rcases List.mem_append.1 hu with h | h
          · exact hrch2 u h
          · simp at h; subst h; exact hzr
        · rw [← List.append_assoc]
          by_cases hjn : j < n
          · exact List.mem_append_left _ (hin j hjn u hu)
          · have : j = n := by omega
            subst this
            rw [hz] at hu; cases hu; simp
        · have s' := s.pop
          rw [← List.append_assoc, seenE_append]
          exact s'
    · have hn' : n = (refs (eAt T y).1).length := by omega
      have hyT : k < T.length := by omega
      refine arith_i64 (by omega) (by omega) ⟨⟨ids ++ more, k + 1, rfl, by simp; omega, hnd2, hrch2, List.mem_append_left _ hid, fun j hj u hu z hz => ?_, s.pop⟩, by omega⟩
      by_cases hjk : j < k
      · rw [List.getElem?_append_left (by omega)] at hu
        exact List.mem_append_left _ (hcl j hjk u hu z hz)
      · have : j = k := by omega
        subst this
        rw [List.getElem?_append_left (by omega), hy] at hu
        cases hu
        obtain ⟨j2, hj2⟩ := List.getElem?_of_mem hz
        exact hin j2 (by have := (List.getElem?_eq_some_iff.1 hj2).1; omega) z hj2
  · have hk' : k = ids.length := by omega
    refine slices_Sort_sp s 1 rfl (by omega) fun w5 s => ?_
    have hmem : ∀ x : Int, x ∈ ids ↔ Rch T [id] x := fun x => by
      refine ⟨fun hx => hrch x hx, fun hx => ?_⟩
      induction hx with
      | root h1 _ => simp at h1; subst h1; exact hid
      | ref _ h2 ih =>
        obtain ⟨j, hj⟩ := List.getElem?_of_mem ih
        exact hcl j (by have := (List.getElem?_eq_some_iff.1 hj).1; omega) _ hj _ h2
    rw [srt_rlist hg hS hnd hmem] at s
    exact h _ _ s.pop

theorem intern_Export_sp {id : Int} (s : Sp w0 Ω w) (i : Nat) (hi : Ω[i]? = some (sto p most T)) {K : Sl × Value → World → Prop} (h1 : 0 ≤ id ∧ id ≤ T.length → ∀ sl w', Sp w0 (own yapi_Rule sl (exp T (rlist T [id])) :: Ω) w' → K (sl, .nilIface) w')
    (h2 : ¬ (0 ≤ id ∧ id ≤ T.length) → K (⟨none, 0, 0⟩, errV 1) w) : C_intern_Store_Export (some p) id K w := by
  apply S_intern_Store_Export
  unfold F_intern_Store_Export
  refine gd_f rfl (intern_known_sp s i hi ?_)
  by_cases hk : 0 ≤ id ∧ id ≤ T.length
  rotate_left
  · have : known T id = false := decide_eq_false hk
    rw [this]
    exact gd_t rfl (h2 hk)
  have hkn : known T id = true := decide_eq_true hk
  rw [hkn]
  replace h1 := h1 hk
  obtain ⟨_, _, _, hb0, hb1, hb2, hg⟩ := Sp.entry s i hi
  have hS : ∀ x ∈ [id], 0 ≤ x ∧ x ≤ (T.length : Int) := fun x hx => by simp at hx; subst hx; exact hk
  have hc := rlist_closed hg hS
  have hrl := rlist_len T [id]
  refine gd_f rfl (intern_reach_sp s i hi hk.1 hk.2 fun sl w2 s => s.allocMap (.int .i64) (.int .i64) fun r w3 s => ?_)
  generalize rlist T [id] = ids at *
  have hlen := (s.view 1 rfl).len
  refine ⟨by omega, by omega, by omega, by omega, s.mkS yapi_Rule (0, 0, 0, 0, 0) 0 sl.len (Nat.zero_le _) (fun a4 w4 s => ?_) rfl (by simp; rfl)⟩
  refine loop_by (fun x => x.2.1) ids.length (fun n x w => Sp w0 (own yapi_Rule x.1 ((exp T ids).take n) :: mp (.int .i64) (.int .i64) r (ent (ids.take n)) :: own (.int .i64) sl ids :: Ω) w) rfl s ?_
  rintro n ⟨out, x, _⟩ w5 hn hx s _
  dsimp only at hx s ⊢
  subst hx
  refine gd_dec (fun hlt => ?_) (fun hge => ?_)
  · have hn' : n < ids.length := by omega
    obtain ⟨y, hy⟩ : ∃ y : Int, ids[n]? = some y := ⟨_, List.getElem?_eq_getElem hn'⟩
    have hyb := hc.bound y (List.mem_of_getElem? hy)
    have hty : ids.take (n + 1) = ids.take n ++ [y] := by rw [List.take_add_one, hy]; rfl
    have hnt : (ids.take (n + 1)).Nodup := hc.nodup.sublist (List.take_sublist _ _)
    have hny : y ∉ ids.take n := fun hm => by
      rw [hty, List.nodup_append] at hnt
      exact hnt.2.2 y hm y (by simp) rfl
    have hln : (ids.take n).length = n := by rw [List.length_take]; omega
    have hex : (exp T ids)[n]? = some (mvr ids (eAt T y).1) := by unfold exp; rw [List.getElem?_map, hy]; rfl
    have hpos : ∀ z : Int, (z ∈ ids → z < y) → (lk (ent (ids.take (n + 1))) z).getD (0 : Int) = pos ids z := fun z hz => by
      by_cases hm : z ∈ ids
      · obtain ⟨j, hj⟩ := List.getElem?_of_mem hm
        have hjn : j < n := (sorted_lt hc.sorted hj hy).1 (hz hm)
        have hj' : (ids.take (n + 1))[j]? = some z := by rw [List.getElem?_take_of_lt (by omega)]; exact hj
        rw [lk_ent_some hnt hj', pos_some hc.nodup hj]; rfl
      · rw [pos_none hm, lk_ent_none fun h => hm (List.mem_of_mem_take h)]; rfl
    refine (s.view 2 rfl).idx rfl hy rfl fun q hq => ⟨y, hq, arith_i64 (by omega) (by omega) (s.upNew 1 rfl (by decide) mapII eqID (by simp) y ((n : Int) + 1) (lk_ent_none hny) fun w6 s => nonNil_some ?_)⟩
    have e : ent (ids.take n) ++ [(y, (n : Int) + 1)] = ent (ids.take (n + 1)) := by rw [hty, ent_append, hln]
    rw [e] at s
    obtain ⟨lsl, hl, hv, _⟩ := Sp.entry s (i + 3) hi
    refine ⟨lsl, hl, arith_i64 (by omega) (by omega) (hv.idx (n := (y - 1).toNat) (by omega) (eAt_get hyb.1 hyb.2) rfl fun q hq => ⟨(eAt T y).1, hq.sub 0 rfl, s.allocK fun a15 w7 s => s.st0 0 rfl rfl rfl fun w8 s => s.drawK fun w9 s => ?_⟩)⟩
    have hrefs : ((eAt T y).1.2.2.1 ∈ ids → (eAt T y).1.2.2.1 < y) ∧ ((eAt T y).1.2.2.2.1 ∈ ids → (eAt T y).1.2.2.2.1 < y) := by
      have := shape_refs (hg.shape hyb.1 hyb.2) hyb.1 hyb.2
      exact ⟨fun _ => this.1.2, fun _ => this.2.2⟩
    refine s.ldi (x := (eAt T y).1.2.2.1) 0 2 rfl rfl ⟨_, lk1_run (by decide) mapII eqID (by simp) zeroII (s.mp_ 2 rfl) (eAt T y).1.2.2.1, s.ldi (x := (eAt T y).1.2.2.2.1) 0 3 rfl rfl ⟨_, lk1_run (by decide) mapII eqID (by simp) zeroII (s.mp_ 2 rfl) (eAt T y).1.2.2.2.1, ?_⟩⟩
    rw [hpos _ hrefs.1, hpos _ hrefs.2]
    refine s.st 0 2 rfl rfl rfl fun w10 s => ⟨?_, s.st 0 3 rfl rfl rfl fun w11 s => s.ld0 (ty := yapi_Rule) (x := mvr ids (eAt T y).1) 0 rfl rfl (s.allocK fun a21 w12 s => ?_)⟩
    · have := lk1_run (P := P) (w := w10) (kt := .int .i64) (vt := .int .i64) (d := 1) (by decide) mapII eqID (by simp) zeroII (s.mp_ 2 rfl) (eAt T y).1.2.2.2.1
      rw [hpos _ hrefs.2] at this
      exact this
    refine s.app 2 rfl ((s.lit (ty := yapi_Rule) 0 rfl [mvr ids (eAt T y).1] 1 (by simp [flat]) rfl).view 0 rfl) (by
      have := exp_len T ids
      simp only [List.length_take, List.length_cons, List.length_nil]; omega) fun s22 w13 s => arith_i64 (by omega) (by omega) (loop_nx hn' ?_)
    have ht : (exp T ids).take (n + 1) = (exp T ids).take n ++ [mvr ids (eAt T y).1] := by rw [List.take_add_one, hex]; rfl
    rw [ht]
    exact s.drop 2
  · have hn' : n = ids.length := by omega
    subst hn'
    have e1 : (exp T ids).take ids.length = exp T ids := by rw [← exp_len T ids, List.take_length]
    rw [e1] at s
    exact h1 _ _ (s.pick [0] 3 rfl (by decide))

end Go.Proofs.Ytgbledjehnojeaa

/- The import of a list of rules, by the store and by the specification. -/
set_option linter.unusedVariables false
set_option linter.unusedSimpArgs false
namespace Go.Proofs.Ytgbledjehnojeaa
open Go.Den

variable {w0 w : World} {Ω : List Ob} {most : Int} {T : List ET} {i j : Nat}  {p : Addr}

def atI (ids : List (Ty.int .i64).T) (x : Int) : Int := ids.getD x.toNat (0 : Int)
def pPut (T : List ET) (most : Int) (ids : List (Ty.int .i64).T) (r : RT) : List ET × (Int × Value) :=
  if r.1 = 1 then pLetter T most r.2.1 else
  if r.1 = 2 then pPair T most (atI ids r.2.2.1) (atI ids r.2.2.2.1) else pPower T most (atI ids r.2.2.1) r.2.2.2.2
def pImps (T : List ET) (most : Int) : List RT → List (Ty.int .i64).T → List ET × (Int × Value)
  | [], ids => (T, (ids.getLastD (0 : Int), .nilIface))
  | r :: rs, ids => if isNilI (pPut T most ids r).2.2 then pImps (pPut T most ids r).1 most rs (ids ++ [(pPut T most ids r).2.1]) else ((pPut T most ids r).1, (0, (pPut T most ids r).2.2))
def bad : List RT → Int → Int
  | [], _ => 0
  | r :: rs, n => if chk r n = 0 then bad rs (n + 1) else chk r n
def pImport (T : List ET) (most : Int) (l : List RT) : List ET × (Int × Value) := if bad l 1 = 0 then pImps T most l [(0 : Int)] else (T, (0, errV (bad l 1)))

theorem bad_cons (r : RT) (rs : List RT) (n : Int) : bad (r :: rs) n = if chk r n = 0 then bad rs (n + 1) else chk r n := rfl
theorem pImps_cons (r : RT) (rs : List RT) (ids : List (Ty.int .i64).T) : pImps T most (r :: rs) ids = if isNilI (pPut T most ids r).2.2 then pImps (pPut T most ids r).1 most rs (ids ++ [(pPut T most ids r).2.1]) else ((pPut T most ids r).1, (0, (pPut T most ids r).2.2)) := rfl
theorem bad_zero : ∀ (l : List RT) (n : Int), bad l n = 0 → ∀ (i : Nat) (r : RT), l[i]? = some r → chk r (n + i) = 0
  | [], _, _, _, _, h => by simp at h
  | x :: l, n, h, 0, r, hr => by
    simp only [List.getElem?_cons_zero, Option.some.injEq] at hr
    subst hr
    rw [bad_cons] at h
    split at h
    · rename_i e; simpa using e
    · contradiction
  | x :: l, n, h, i + 1, r, hr => by
    rw [bad_cons] at h
    split at h
    · have := bad_zero l (n + 1) h i r (by simpa using hr)
      rw [← this]; congr 1; omega
    · contradiction
theorem chk_form {r : RT} {n : Int} (h : chk r n = 0) : formB r = true ∧ placeB r n = true := by
  unfold chk at h
  split at h
  · split at h
    · exact ⟨‹_›, ‹_›⟩
    · cases h
  · cases h
theorem form_kind {r : RT} (h : formB r = true) : r.1 = 1 ∨ r.1 = 2 ∨ r.1 = 3 := by
  unfold formB at h
  split at h
  · exact Or.inl ‹_›
  split at h
  · exact Or.inr (Or.inl ‹_›)
  split at h
  · exact Or.inr (Or.inr ‹_›)
  · cases h
theorem pPut_err {ids : List (Ty.int .i64).T} {r : RT} : IsErr (pPut T most ids r).2.2 := by
  unfold pPut
  split
  · exact pLetter_err
  split
  · exact pPair_err
  · exact pPower_err
theorem pPut_grow {ids : List (Ty.int .i64).T} {r : RT} (g : Grow T) (hl : (T.length : Int) ≤ most) (hb : 0 ≤ r.2.1 ∧ r.2.1 < 256) : Grow (pPut T most ids r).1 ∧ ((pPut T most ids r).1.length : Int) ≤ most := by
  unfold pPut
  split
  · exact pLetter_grow g hl hb
  split
  · exact pPair_grow g hl
  · exact pPower_grow g hl
theorem atI_get {ids : List (Ty.int .i64).T} {x : Int} (h0 : 0 ≤ x) (h : x < ids.length) : ids[x.toNat]? = some (atI ids x) := by
  unfold atI
  rw [List.getD_eq_getElem?_getD, List.getElem?_eq_getElem (by omega)]
  rfl
theorem atI_append {ids zs : List (Ty.int .i64).T} {x : Int} (h0 : 0 ≤ x) (h : x < ids.length) : atI (ids ++ zs) x = atI ids x := by
  unfold atI
  rw [List.getD_eq_getElem?_getD, List.getD_eq_getElem?_getD, List.getElem?_append_left (by omega)]
theorem pPut_append {ids zs : List (Ty.int .i64).T} {r : RT} {n : Int} (hp : placeB r n = true) (hn : n ≤ ids.length) (hk : r.1 = 1 ∨ r.1 = 2 ∨ r.1 = 3) : pPut T most (ids ++ zs) r = pPut T most ids r := by
  unfold pPut
  rcases hk with h | h | h
  · simp [h]
  · rw [placeB_2 h, decide_eq_true_eq] at hp
    rw [atI_append (by omega) (by omega), atI_append (by omega) (by omega)]
  · rw [placeB_3 h, decide_eq_true_eq] at hp
    simp only [h]
    rw [if_neg (by decide), if_neg (by decide), if_neg (by decide), if_neg (by decide), atI_append (by omega) (by omega)]

theorem intern_put_sp {r : RT} {to : Sl} {ids : List (Ty.int .i64).T} {n : Int} (hr : 0 ≤ r.2.1 ∧ r.2.1 < 256) (ht : r.2.2.2.2 ≤ 9223372036854775807) (hk : r.1 = 1 ∨ r.1 = 2 ∨ r.1 = 3) (hp : placeB r n = true) (hn : n ≤ ids.length)
    (s : Sp w0 Ω w) (i : Nat) (hi : Ω[i]? = some (sto p most T)) (j : Nat) (hj : Ω[j]? = some (own (.int .i64) to ids)) {K : Int × Value → World → Prop}
    (h : ∀ w', Sp w0 (Ω.set i (sto p most (pPut T most ids r).1)) w' → K (pPut T most ids r).2 w') : C_intern_Store_put (some p) r to K w := by
  apply S_intern_Store_put
  unfold F_intern_Store_put
  unfold pPut at h
  refine s.allocK fun a1 w1 s => s.ldi (x := r.1) 0 0 rfl rfl (gd_eq (fun c1 => ?_) (fun c1 => gd_eq (fun c2 => ?_) (fun c2 => ?_)))
  · simp only [if_pos c1] at h
    exact s.ldi (x := r.2.1) 0 1 rfl rfl (intern_Letter_sp s (i + 1) hi hr fun w2 s => h _ s.pop)
  · simp only [if_neg c1, if_pos c2] at h
    rw [placeB_2 c2, decide_eq_true_eq] at hp
    refine s.drawK fun w2 s => s.ldi (x := r.2.2.1) 0 2 rfl rfl ((s.view (j + 1) hj).idx (n := r.2.2.1.toNat) (by omega) (atI_get (by omega) (by omega)) rfl fun q hq => ⟨_, hq, s.ldi (x := r.2.2.2.1) 0 3 rfl rfl ?_⟩)
    exact (s.view (j + 1) hj).idx (n := r.2.2.2.1.toNat) (by omega) (atI_get (by omega) (by omega)) rfl fun q hq => ⟨_, hq, intern_Pair_sp s (i + 1) hi fun w3 s => h _ s.pop⟩
  · simp only [if_neg c1, if_neg c2] at h
    have c3 : r.1 = 3 := by omega
    rw [placeB_3 c3, decide_eq_true_eq] at hp
    exact s.drawK fun w2 s => s.ldi (x := r.2.2.1) 0 2 rfl rfl ((s.view (j + 1) hj).idx (n := r.2.2.1.toNat) (by omega) (atI_get (by omega) (by omega)) rfl fun q hq => ⟨_, hq, s.ldi (x := r.2.2.2.2) 0 4 rfl rfl (intern_Power_sp s (i + 1) hi ht fun w3 s => h _ s.pop)⟩)

structure RuleOK (r : RT) : Prop where
  b : 0 ≤ r.2.1 ∧ r.2.1 < 256
  k : r.2.2.2.2 ≤ 9223372036854775807
theorem chkV_zero {r : RT} {n : Int} (h : chk r n = 0) : chkV r n = .nilIface := by unfold chkV; rw [if_pos h]
theorem chkV_bad {r : RT} {n : Int} (h : ¬ chk r n = 0) : chkV r n = errV (chk r n) := by unfold chkV; rw [if_neg h]

theorem intern_Import_sp {sl : Sl} {l : List yapi_Rule.T} (hr : ∀ r ∈ l, RuleOK r) (hll : l.length ≤ 2000000) (s : Sp w0 Ω w) (i : Nat) (hi : Ω[i]? = some (sto p most T)) (hv : ∀ w' Ω', Sp w0 (Ω' ++ Ω) w' → View yapi_Rule w' sl l) (hv2 : ∀ w' Ω' T', Sp w0 (Ω' ++ Ω.set i (sto p most T')) w' → View yapi_Rule w' sl l)
    {K : Int × Value → World → Prop} (h : ∀ w', Sp w0 (Ω.set i (sto p most (pImport T most l).1)) w' → K (pImport T most l).2 w') : C_intern_Store_Import (some p) sl K w := by
  apply S_intern_Store_Import
  unfold F_intern_Store_Import
  have hlen := (hv w [] s).len
  have hset : Ω.set i (sto p most T) = Ω := setSame hi
  refine gd_f rfl (loop_by (fun x => x.1) l.length (fun n _ w => bad l 1 = bad (l.drop n) ((n : Int) + 1) ∧ Sp w0 Ω w) rfl ⟨by simp, s⟩ ?_)
  rintro n ⟨x, _⟩ w1 hn hx ⟨hb, s⟩ _
  dsimp only at hx ⊢
  subst hx
  refine gd_dec (fun hlt => ?_) (fun hge => ?_)
  · have hn' : n < l.length := by omega
    have hd : l.drop n = l[n] :: l.drop (n + 1) := List.drop_eq_getElem_cons hn'
    refine (hv w1 [] s).idx rfl (List.getElem?_eq_getElem hn') rfl fun q hq => ⟨_, hq, s.allocK fun a5 w2 s => s.st0 0 rfl rfl rfl fun w3 s => s.ld0 0 rfl rfl (arith_i64 (by omega) (by omega) (rule_Check_spec (by omega) s fun w4 s => ?_))⟩
    rw [hd, bad_cons] at hb
    by_cases c : chk l[n] ((n : Int) + 1) = 0
    · rw [chkV_zero c]
      rw [if_pos c] at hb
      exact nilIfc_nil (gd_f rfl (arith_i64 (by omega) (by omega) (loop_nx hn' ⟨by rw [hb]; congr 1, s.pop⟩)))
    · rw [chkV_bad c]
      rw [if_neg c] at hb
      have hne : ¬ bad l 1 = 0 := by rw [hb]; exact c
      have hp : pImport T most l = (T, (0, errV (chk l[n] ((n : Int) + 1)))) := by unfold pImport; rw [if_neg hne, hb]
      rw [hp, hset] at h
      exact nilIfc_err (gd_t rfl (h _ s.pop))
  · have hn' : n = l.length := by omega
    subst hn'
    rw [List.drop_length] at hb
    have hb0 : bad l 1 = 0 := hb
    have hp : pImport T most l = pImps T most l [(0 : Int)] := by unfold pImport; rw [if_pos hb0]
    rw [hp] at h
    have hN : ((sl.len : Int) + 1).toNat = l.length + 1 := by omega
    refine arith_i64 (by omega) (by omega) ⟨by omega, by omega, by omega, by omega, s.mkS (.int .i64) (0 : Int) (l.length + 1) (l.length + 1) (Nat.le_refl _) (fun a12 w5 s => ?_) rfl (by rw [hN]; rfl)⟩
    rw [hN]
    obtain ⟨_, _, _, hm0, hm1, hm2, hg⟩ := Sp.entry s (i + 1) hi
    refine loop_by (fun x => x.1) l.length (fun n _ w => ∃ (T' : List ET) (ids : List (Ty.int .i64).T), pImps T most l [(0 : Int)] = pImps T' most (l.drop n) ids ∧ ids.length = n + 1 ∧
      Sp w0 (own (.int .i64) ⟨some ⟨a12, 0, none⟩, l.length + 1, l.length + 1⟩ (ids ++ List.replicate (l.length - n) (0 : Int)) :: Ω.set i (sto p most T')) w) rfl ⟨T, [(0 : Int)], by simp, rfl, by
        have e : [(0 : Int)] ++ List.replicate (l.length - 0) (0 : Int) = List.replicate (l.length + 1) (0 : Int) := by simp [List.replicate_succ]
        rw [hset]; exact e ▸ s⟩ ?_
    rintro n ⟨x, _⟩ w6 hn hx ⟨T', ids, hI, hil, s⟩ _
    dsimp only at hx ⊢
    subst hx
    have hi' : ∀ X, (Ω.set i X)[i]? = some X := fun X => setGet hi
    obtain ⟨_, _, _, hm0, hm1, hm2, hg⟩ := Sp.entry s (i + 1) (hi' _)
    refine gd_dec (fun hlt => ?_) (fun hge => ?_)
    · have hn' : n < l.length := by omega
      have hd : l.drop n = l[n] :: l.drop (n + 1) := List.drop_eq_getElem_cons hn'
      have hok := hr _ (List.getElem_mem hn')
      have hc : chk l[n] ((n : Int) + 1) = 0 := by
        have := bad_zero l 1 hb0 n l[n] (List.getElem?_eq_getElem hn')
        rw [← this]; congr 1; omega
      obtain ⟨hf, hpl⟩ := chk_form hc
      have hkind := form_kind hf
      refine (hv2 w6 [_] _ s).idx rfl (List.getElem?_eq_getElem hn') rfl fun q hq => ⟨_, hq, s.allocK fun a5 w2 s => s.st0 0 rfl rfl rfl fun w3 s => s.ld0 0 rfl rfl ?_⟩
      refine intern_put_sp hok.b hok.k hkind hpl (by simp; omega) s (i + 2) (hi' _) 1 rfl fun w7 s => ?_
      rw [pPut_append hpl (by omega) hkind] at s ⊢
      rw [hd, pImps_cons] at hI
      rcases isNilI_err (pPut_err (T := T') (most := most) (ids := ids) (r := l[n])) with ⟨e1, _, e2⟩ | ⟨e1, _, c, e2⟩
      · rw [e1, if_pos rfl] at hI
        rw [e2]
        refine nilIfc_nil (gd_f rfl (arith_i64 (by omega) (by omega) (s.setI 1 rfl (n := n + 1) rfl (by simp; omega) fun w8 s => arith_i64 (by omega) (by omega) (loop_nx hn' ⟨_, _, hI, by simp [hil], ?_⟩))))
        have e : (ids ++ List.replicate (l.length - n) (0 : Int)).set (n + 1) (pPut T' most ids l[n]).2.1 = (ids ++ [(pPut T' most ids l[n]).2.1]) ++ List.replicate (l.length - (n + 1)) (0 : Int) := by
          rw [List.set_append_right _ _ (by omega), hil, Nat.sub_self]
          rw [show l.length - n = (l.length - (n + 1)) + 1 by omega, List.replicate_succ]
          simp
        have s' : Sp w0 (own (.int .i64) ⟨some ⟨a12, 0, none⟩, l.length + 1, l.length + 1⟩ _ :: (Ω.set i (sto p most T')).set i (sto p most (pPut T' most ids l[n]).1)) w8 := s.pop
        rw [List.set_set] at s'
        exact e ▸ s'
      · rw [e1, if_neg (by decide)] at hI
        rw [e2]
        rw [hI] at h
        have s' : Sp w0 ((Ω.set i (sto p most T')).set i (sto p most (pPut T' most ids l[n]).1)) w7 := s.drop 2
        rw [List.set_set] at s'
        have := h _ s'
        dsimp only at this
        rw [e2] at this
        exact nilIfc_err (gd_t rfl this)
    · have hn' : n = l.length := by omega
      subst hn'
      rw [List.drop_length] at hI
      rw [hI] at h
      rw [Nat.sub_self, List.replicate_zero, List.append_nil] at s
      have hlast : ids[l.length]? = some (ids.getLastD (0 : Int)) := by
        rw [List.getLastD_eq_getLast?, List.getLast?_eq_getElem?, hil]
        simp only [Nat.add_sub_cancel]
        rw [List.getElem?_eq_getElem (by omega)]
        rfl
      refine (s.view 0 rfl).idx (n := l.length) (by omega) hlast rfl fun q hq => ⟨_, hq, h _ s.pop⟩

end Go.Proofs.Ytgbledjehnojeaa

/- What is exported and imported again: into the same store nothing is added; into an empty one a copy. -/
set_option linter.unusedVariables false
set_option linter.unusedSimpArgs false
namespace Go.Proofs.Ytgbledjehnojeaa
open Go.Den

variable {T : List ET} {ids : List Int} {most : Int}

theorem Closed.nz (hc : Closed T ids) : (0 : Int) ∉ ids := fun h => by have := (hc.bound 0 h).1; omega
theorem pos_zero (hc : Closed T ids) : pos ids 0 = 0 := pos_none hc.nz
/-- the references of a rule of the list, and their places -/
theorem Closed.ref (hc : Closed T ids) (g : Grow T) {k : Nat} {y x : Int} (hk : ids[k]? = some y) (hx : x ∈ Ytgbledjehnojeaa.refs (eAt T y).1) : ∃ j, j < k ∧ ids[j]? = some x ∧ pos ids x = (j : Int) + 1 := by
  have hyb := hc.bound y (List.mem_of_getElem? hk)
  have hxm := hc.refs y (List.mem_of_getElem? hk) x hx
  obtain ⟨j, hj⟩ := List.getElem?_of_mem hxm
  have hlt := (refs_in g hyb.1 hyb.2 hx).2
  exact ⟨j, (sorted_lt hc.sorted hj hk).1 hlt, hj, pos_some hc.nodup hj⟩
theorem exp_get {k : Nat} {y : Int} (hk : ids[k]? = some y) : (exp T ids)[k]? = some (mvr ids (eAt T y).1) := by
  unfold exp; rw [List.getElem?_map, hk]; rfl
theorem chk_exp (g : Grow T) (hc : Closed T ids) {k : Nat} {y : Int} (hk : ids[k]? = some y) : chk (mvr ids (eAt T y).1) ((k : Int) + 1) = 0 := by
  have hyb := hc.bound y (List.mem_of_getElem? hk)
  have p0 := pos_zero hc
  have hf : formB (mvr ids (eAt T y).1) = true ∧ placeB (mvr ids (eAt T y).1) ((k : Int) + 1) = true := by
    cases g.shape hyb.1 hyb.2 with
    | letter b _ _ e =>
      rw [e]
      refine ⟨by simp [formB, mvr, mkLetter, p0], ?_⟩
      rw [placeB_1 (by rfl)]; simp; omega
    | pair l r _ _ _ _ _ e =>
      obtain ⟨j1, h1, _, e1⟩ := hc.ref g hk (x := l) (by rw [e]; simp [refs, mkPair])
      obtain ⟨j2, h2, _, e2⟩ := hc.ref g hk (x := r) (by rw [e]; simp [refs, mkPair])
      rw [e]
      refine ⟨by simp [formB, mvr, mkPair], ?_⟩
      rw [placeB_2 (by rfl)]
      simp only [mvr, mkPair, decide_eq_true_eq, e1, e2]; omega
    | power x n _ _ hn _ e =>
      obtain ⟨j1, h1, _, e1⟩ := hc.ref g hk (x := x) (by rw [e]; simp [refs, mkPower])
      rw [e]
      refine ⟨by simp [formB, mvr, mkPower, p0, hn], ?_⟩
      rw [placeB_3 (by rfl)]
      simp only [mvr, mkPower, decide_eq_true_eq, e1]; omega
  unfold chk
  rw [hf.1, if_pos rfl, hf.2, if_pos rfl]
theorem bad_of : ∀ (l : List RT) (n : Int), (∀ (i : Nat) (r : RT), l[i]? = some r → chk r (n + i) = 0) → bad l n = 0
  | [], _, _ => rfl
  | r :: l, n, h => by
    rw [bad_cons, if_pos (by have := h 0 r rfl; simpa using this)]
    refine bad_of l (n + 1) fun i x hi => ?_
    have := h (i + 1) x (by simpa using hi)
    rw [← this]; congr 1; omega
theorem bad_exp (g : Grow T) (hc : Closed T ids) : bad (exp T ids) 1 = 0 := by
  refine bad_of _ _ fun i r hi => ?_
  obtain ⟨y, hy⟩ : ∃ y, ids[i]? = some y := by
    have := (List.getElem?_eq_some_iff.1 hi).1
    rw [exp_len] at this
    exact ⟨_, List.getElem?_eq_getElem this⟩
  rw [exp_get hy] at hi
  cases hi
  have := chk_exp g hc hy
  rw [← this]; congr 1; omega

/-! ### Into the same store -/
theorem pPut_same (g : Grow T) (hc : Closed T ids) {k : Nat} {y : Int} (hk : ids[k]? = some y) : pPut T most ((0 : Int) :: ids.take k) (mvr ids (eAt T y).1) = (T, (y, .nilIface)) := by
  have hyb := hc.bound y (List.mem_of_getElem? hk)
  have hfind := g.find hyb.1 hyb.2
  have hat : ∀ {x : Int} {j : Nat}, j < k → ids[j]? = some x → atI ((0 : Int) :: ids.take k) ((j : Int) + 1) = x := by
    intro x j hj hx
    unfold atI
    rw [show ((j : Int) + 1).toNat = j + 1 by omega, List.getD_eq_getElem?_getD, List.getElem?_cons_succ, List.getElem?_take_of_lt hj, hx]; rfl
  unfold pPut
  cases g.shape hyb.1 hyb.2 with
  | letter b _ _ e =>
    rw [e] at hfind ⊢
    rw [if_pos (by rfl)]
    exact (pAdd_some (most := most) (e := mkLetter b) hfind).2.1
  | pair l r a1 a2 a3 a4 a5 e =>
    obtain ⟨j1, h1, g1, e1⟩ := hc.ref g hk (x := l) (by rw [e]; simp [refs, mkPair])
    obtain ⟨j2, h2, g2, e2⟩ := hc.ref g hk (x := r) (by rw [e]; simp [refs, mkPair])
    rw [e] at hfind ⊢
    rw [if_neg (by simp [mvr, mkPair]), if_pos (by rfl)]
    have q1 : atI ((0 : Int) :: ids.take k) (mvr ids (mkPair T l r).1).2.2.1 = l := by
      show atI _ (pos ids l) = l
      rw [e1]; exact hat h1 g1
    have q2 : atI ((0 : Int) :: ids.take k) (mvr ids (mkPair T l r).1).2.2.2.1 = r := by
      show atI _ (pos ids r) = r
      rw [e2]; exact hat h2 g2
    rw [q1, q2]
    unfold pPair
    have kl : known T l = true := decide_eq_true (by omega)
    have kr : known T r = true := decide_eq_true (by omega)
    rw [kl, kr, if_neg (by simp), if_neg (by omega), if_neg (by omega), if_neg (by omega)]
    exact (pAdd_some (most := most) (e := mkPair T l r) hfind).2.1
  | power x n a1 a2 a3 a4 e =>
    obtain ⟨j1, h1, g1, e1⟩ := hc.ref g hk (x := x) (by rw [e]; simp [refs, mkPower])
    rw [e] at hfind ⊢
    rw [if_neg (by simp [mvr, mkPower]), if_neg (by simp [mvr, mkPower])]
    have q1 : atI ((0 : Int) :: ids.take k) (mvr ids (mkPower T x n).1).2.2.1 = x := by
      show atI _ (pos ids x) = x
      rw [e1]; exact hat h1 g1
    rw [q1]
    show pPower T most x n = _
    unfold pPower
    have kx : known T x = true := decide_eq_true (by omega)
    rw [kx, if_neg (by simp; omega), if_neg (by omega), if_neg (by omega), if_neg (by omega)]
    exact (pAdd_some (most := most) (e := mkPower T x n) hfind).2.1
theorem pImps_same (g : Grow T) (hc : Closed T ids) : ∀ (d k : Nat), k + d = ids.length → pImps T most ((exp T ids).drop k) ((0 : Int) :: ids.take k) = (T, (((0 : Int) :: ids).getLastD 0, .nilIface))
  | 0, k, hk => by
    have : k = ids.length := by omega
    subst this
    rw [show (exp T ids).drop ids.length = [] by rw [← exp_len T ids, List.drop_length], List.take_length]
    rfl
  | d + 1, k, hk => by
    have hkl : k < ids.length := by omega
    obtain ⟨y, hy⟩ : ∃ y, ids[k]? = some y := ⟨_, List.getElem?_eq_getElem hkl⟩
    have hd : (exp T ids).drop k = mvr ids (eAt T y).1 :: (exp T ids).drop (k + 1) := by
      have h := exp_get (T := T) hy
      have hl := (List.getElem?_eq_some_iff.1 h).1
      rw [List.drop_eq_getElem_cons hl, (List.getElem?_eq_some_iff.1 h).2]
    rw [hd, pImps_cons, pPut_same g hc hy, if_pos (by rfl)]
    have ht : (0 : Int) :: ids.take k ++ [y] = (0 : Int) :: ids.take (k + 1) := by rw [List.take_add_one, hy]; rfl
    show pImps T most _ ((0 : Int) :: ids.take k ++ [y]) = _
    rw [ht]
    exact pImps_same g hc d (k + 1) (by omega)
theorem pImport_same (g : Grow T) (hc : Closed T ids) : pImport T most (exp T ids) = (T, (((0 : Int) :: ids).getLastD 0, .nilIface)) := by
  unfold pImport
  rw [if_pos (bad_exp g hc)]
  have := pImps_same (most := most) g hc ids.length 0 (by omega)
  simpa using this

/-! ### Into an empty store -/
def copy (T : List ET) (ids : List Int) : List ET := ids.map fun x => (mvr ids (eAt T x).1, (eAt T x).2)
theorem copy_len : (copy T ids).length = ids.length := List.length_map _
theorem copy_get {k : Nat} {y : Int} (hk : ids[k]? = some y) : (copy T ids)[k]? = some (mvr ids (eAt T y).1, (eAt T y).2) := by
  unfold copy; rw [List.getElem?_map, hk]; rfl
theorem copy_at {k m : Nat} {y : Int} (hk : ids[k]? = some y) (hm : k < m) : eAt ((copy T ids).take m) ((k : Int) + 1) = (mvr ids (eAt T y).1, (eAt T y).2) := by
  have hkl := (List.getElem?_eq_some_iff.1 hk).1
  have h := eAt_get (L := (copy T ids).take m) (id := (k : Int) + 1) (by omega) (by rw [List.length_take, copy_len]; omega)
  rw [show ((k : Int) + 1 - 1).toNat = k by omega, List.getElem?_take_of_lt hm, copy_get hk] at h
  exact (Option.some.inj h).symm
theorem pos_inj (hc : Closed T ids) {x y : Int} (hx : x = 0 ∨ x ∈ ids) (hy : y = 0 ∨ y ∈ ids) (h : pos ids x = pos ids y) : x = y := by
  have key : ∀ {x : Int}, x ∈ ids → ∃ j : Nat, ids[j]? = some x ∧ pos ids x = (j : Int) + 1 := fun hx => by
    obtain ⟨j, hj⟩ := List.getElem?_of_mem hx
    exact ⟨j, hj, pos_some hc.nodup hj⟩
  have p0 := pos_zero hc
  rcases hx with rfl | hx
  · rcases hy with rfl | hy
    · rfl
    · obtain ⟨j, _, e⟩ := key hy
      rw [p0, e] at h; omega
  · obtain ⟨i, hi, ei⟩ := key hx
    rcases hy with rfl | hy
    · rw [p0, ei] at h; omega
    · obtain ⟨j, hj, e⟩ := key hy
      rw [ei, e] at h
      have : i = j := by omega
      subst this
      rw [hi] at hj
      exact Option.some.inj hj
theorem refs_mem (g : Grow T) (hc : Closed T ids) {y : Int} (hy : y ∈ ids) : ((eAt T y).1.2.2.1 = 0 ∨ (eAt T y).1.2.2.1 ∈ ids) ∧ ((eAt T y).1.2.2.2.1 = 0 ∨ (eAt T y).1.2.2.2.1 ∈ ids) := by
  have hyb := hc.bound y hy
  have hr := hc.refs y hy
  cases g.shape hyb.1 hyb.2 with
  | letter b _ _ e => rw [e]; exact ⟨Or.inl rfl, Or.inl rfl⟩
  | pair l r _ _ _ _ _ e =>
    rw [e] at hr ⊢
    exact ⟨Or.inr (hr l (by simp [refs, mkPair])), Or.inr (hr r (by simp [refs, mkPair]))⟩
  | power x k _ _ _ _ e =>
    rw [e] at hr ⊢
    exact ⟨Or.inr (hr x (by simp [refs, mkPower])), Or.inl rfl⟩
theorem mvr_inj (g : Grow T) (hc : Closed T ids) {x y : Int} (hx : x ∈ ids) (hy : y ∈ ids) (h : mvr ids (eAt T x).1 = mvr ids (eAt T y).1) : x = y := by
  have hxb := hc.bound x hx
  have hyb := hc.bound y hy
  have rx := refs_mem g hc hx
  have ry := refs_mem g hc hy
  have f1 := g.find hxb.1 hxb.2
  have f2 := g.find hyb.1 hyb.2
  have e : (eAt T x).1 = (eAt T y).1 := by
    generalize (eAt T x).1 = a at h rx
    generalize (eAt T y).1 = b at h ry
    simp only [mvr, Prod.mk.injEq] at h
    obtain ⟨h1, h2, h3, h4, h5⟩ := h
    exact Prod.ext h1 (Prod.ext h2 (Prod.ext (pos_inj hc rx.1 ry.1 h3) (Prod.ext (pos_inj hc rx.2 ry.2 h4) h5)))
  rw [e, f2] at f1
  exact (Option.some.inj f1).symm
theorem copy_fresh (g : Grow T) (hc : Closed T ids) {k : Nat} {y : Int} (hk : ids[k]? = some y) : lkR ((copy T ids).take k) (mvr ids (eAt T y).1) = none := by
  refine lkR_none fun e he h => ?_
  obtain ⟨j, hj⟩ := List.getElem?_of_mem he
  have hjk : j < k := by
    have := (List.getElem?_eq_some_iff.1 hj).1
    rw [List.length_take] at this; omega
  have hkl := (List.getElem?_eq_some_iff.1 hk).1
  rw [List.getElem?_take_of_lt hjk] at hj
  obtain ⟨x, hx⟩ : ∃ x, ids[j]? = some x := ⟨_, List.getElem?_eq_getElem (by omega)⟩
  rw [copy_get hx] at hj
  cases hj
  have := mvr_inj g hc (List.mem_of_getElem? hx) (List.mem_of_getElem? hk) h
  have := (sorted_lt hc.sorted hx hk).2 hjk
  omega
def ups (k : Nat) : List Int := (List.range (k + 1)).map fun i : Nat => (i : Int)
theorem ups_succ (k : Nat) : ups (k + 1) = ups k ++ [((k : Int) + 1)] := by
  unfold ups
  rw [List.range_succ, List.map_append]; rfl
theorem ups_at {k j : Nat} (h : j ≤ k) : atI (ups k) (j : Int) = j := by
  unfold atI ups
  rw [List.getD_eq_getElem?_getD, List.getElem?_map, List.getElem?_range (by omega)]; simp
theorem pPut_copy (g : Grow T) (hc : Closed T ids) {k : Nat} {y : Int} (hk : ids[k]? = some y) (hm : (k : Int) < most) : pPut ((copy T ids).take k) most (ups k) (mvr ids (eAt T y).1) = ((copy T ids).take (k + 1), ((k : Int) + 1, .nilIface)) := by
  have hyb := hc.bound y (List.mem_of_getElem? hk)
  have hkl := (List.getElem?_eq_some_iff.1 hk).1
  have hfr := copy_fresh g hc hk
  have hlen : ((copy T ids).take k).length = k := by rw [List.length_take, copy_len]; omega
  have hstep : (copy T ids).take (k + 1) = (copy T ids).take k ++ [(mvr ids (eAt T y).1, (eAt T y).2)] := by rw [List.take_add_one, copy_get hk]; rfl
  have p0 := pos_zero hc
  have fin : ∀ e : ET, e = (mvr ids (eAt T y).1, (eAt T y).2) → pAdd ((copy T ids).take k) most e = ((copy T ids).take (k + 1), ((k : Int) + 1, .nilIface)) := by
    rintro e rfl
    rw [(pAdd_new (most := most) (e := (mvr ids (eAt T y).1, (eAt T y).2)) hfr (by rw [hlen]; omega)).2, ← hstep, hlen]
  unfold pPut
  cases g.shape hyb.1 hyb.2 with
  | letter b _ _ e =>
    rw [e] at fin ⊢
    rw [if_pos (by rfl)]
    refine fin (mkLetter b) ?_
    simp [mvr, mkLetter, p0]
  | pair l r a1 a2 a3 a4 a5 e =>
    obtain ⟨j1, h1, g1, e1⟩ := hc.ref g hk (x := l) (by rw [e]; simp [refs, mkPair])
    obtain ⟨j2, h2, g2, e2⟩ := hc.ref g hk (x := r) (by rw [e]; simp [refs, mkPair])
    rw [e] at fin ⊢
    rw [if_neg (by simp [mvr, mkPair]), if_pos (by rfl)]
    have q1 : atI (ups k) (mvr ids (mkPair T l r).1).2.2.1 = (j1 : Int) + 1 := by
      show atI _ (pos ids l) = _
      rw [e1]; exact ups_at (j := j1 + 1) (by omega)
    have q2 : atI (ups k) (mvr ids (mkPair T l r).1).2.2.2.1 = (j2 : Int) + 1 := by
      show atI _ (pos ids r) = _
      rw [e2]; exact ups_at (j := j2 + 1) (by omega)
    have w1 := copy_at (T := T) g1 h1
    have w2 := copy_at (T := T) g2 h2
    rw [q1, q2]
    unfold pPair
    have kl : known ((copy T ids).take k) ((j1 : Int) + 1) = true := decide_eq_true (by rw [hlen]; omega)
    have kr : known ((copy T ids).take k) ((j2 : Int) + 1) = true := decide_eq_true (by rw [hlen]; omega)
    rw [kl, kr, if_neg (by simp), if_neg (by omega), if_neg (by omega), w1, w2, if_neg (by simp only; omega)]
    refine fin _ ?_
    unfold mkPair
    rw [w1, w2]
    simp only [mvr, e1, e2]
  | power x n a1 a2 a3 a4 e =>
    obtain ⟨j1, h1, g1, e1⟩ := hc.ref g hk (x := x) (by rw [e]; simp [refs, mkPower])
    rw [e] at fin ⊢
    rw [if_neg (by simp [mvr, mkPower]), if_neg (by simp [mvr, mkPower])]
    have q1 : atI (ups k) (mvr ids (mkPower T x n).1).2.2.1 = (j1 : Int) + 1 := by
      show atI _ (pos ids x) = _
      rw [e1]; exact ups_at (j := j1 + 1) (by omega)
    have w1 := copy_at (T := T) g1 h1
    rw [q1]
    show pPower _ most _ n = _
    unfold pPower
    have kx : known ((copy T ids).take k) ((j1 : Int) + 1) = true := decide_eq_true (by rw [hlen]; omega)
    rw [kx, if_neg (by simp; omega), if_neg (by omega), if_neg (by omega), w1, if_neg (by simp only; omega)]
    refine fin _ ?_
    unfold mkPower
    rw [w1]
    simp only [mvr, e1, p0]
theorem pImps_copy (g : Grow T) (hc : Closed T ids) (hm : (ids.length : Int) ≤ most) : ∀ (d k : Nat), k + d = ids.length → pImps ((copy T ids).take k) most ((exp T ids).drop k) (ups k) = (copy T ids, ((ids.length : Int), .nilIface))
  | 0, k, hk => by
    have : k = ids.length := by omega
    subst this
    rw [show (exp T ids).drop ids.length = [] by rw [← exp_len T ids, List.drop_length]]
    have : (copy T ids).take ids.length = copy T ids := by rw [← copy_len (T := T), List.take_length]
    rw [this]
    unfold pImps
    congr 2
    unfold ups
    rw [List.range_succ, List.map_append]
    simp
  | d + 1, k, hk => by
    have hkl : k < ids.length := by omega
    obtain ⟨y, hy⟩ : ∃ y, ids[k]? = some y := ⟨_, List.getElem?_eq_getElem hkl⟩
    have hd : (exp T ids).drop k = mvr ids (eAt T y).1 :: (exp T ids).drop (k + 1) := by
      have h := exp_get (T := T) hy
      have hl := (List.getElem?_eq_some_iff.1 h).1
      rw [List.drop_eq_getElem_cons hl, (List.getElem?_eq_some_iff.1 h).2]
    rw [hd, pImps_cons, pPut_copy g hc hy (by omega), if_pos (by rfl)]
    show pImps _ most _ (ups k ++ [((k : Int) + 1)]) = _
    rw [← ups_succ]
    exact pImps_copy g hc hm d (k + 1) (by omega)
theorem pImport_copy (g : Grow T) (hc : Closed T ids) (hm : (ids.length : Int) ≤ most) : pImport [] most (exp T ids) = (copy T ids, ((ids.length : Int), .nilIface)) := by
  unfold pImport
  rw [if_pos (bad_exp g hc)]
  have := pImps_copy (most := most) g hc hm ids.length 0 (by omega)
  simpa [ups] using this

end Go.Proofs.Ytgbledjehnojeaa

/- Bytes as a string. -/
set_option linter.unusedVariables false
set_option linter.unusedSimpArgs false
namespace Go.Proofs.Ytgbledjehnojeaa
open Go.Den

variable {w0 w : World} {Ω : List Ob}

def bstr (xs : List Int) : ByteArray := xs.foldl (fun r n => r.push (UInt8.ofNat n.toNat)) ByteArray.empty
theorem bstr_data (xs : List Int) : (bstr xs).data = (xs.map fun n => UInt8.ofNat n.toNat).toArray := by
  have key : ∀ (xs : List Int) (r : ByteArray), (xs.foldl (fun r n => r.push (UInt8.ofNat n.toNat)) r).data = r.data ++ (xs.map fun n => UInt8.ofNat n.toNat).toArray := by
    intro xs
    induction xs with
    | nil => intro r; simp
    | cons x xs ih =>
      intro r
      rw [List.foldl_cons, ih, ByteArray.data_push]
      simp
  rw [bstr, key]
  simp
theorem bstr_append (xs ys : List Int) : bstr xs ++ bstr ys = bstr (xs ++ ys) := by
  apply ByteArray.ext
  rw [ByteArray.data_append, bstr_data, bstr_data, bstr_data]
  simp
theorem bstr_size (xs : List Int) : (bstr xs).size = xs.length := by
  show (bstr xs).data.size = _
  rw [bstr_data]
  simp
theorem bstr_nil : bstr [] = (⟨#[]⟩ : ByteArray) := rfl
theorem underBytes : P.underlying t_sl_uint8 = some (.slice t_uint8) := by kernel_rfl
theorem underByte : P.underlying t_uint8 = some (.int .u8) := by kernel_rfl
theorem underString : P.underlying t_string = some .string := by kernel_rfl
theorem toStr {sl : Sl} {xs : List (Ty.int .u8).T} (v : View (.int .u8) w sl xs) {K : ByteArray → World → Prop} (h : K (bstr xs) w) : runK P .str (convert t_sl_uint8 t_string (.slice sl.a sl.len sl.cap)) w K := by
  refine ⟨bstr xs, w, ?_, h⟩
  rw [run_convert_bytes_string w _ _ _ _ _ _ underBytes underByte underString]
  cases hq : sl.a with
  | none =>
    have : xs = [] := by
      apply Classical.byContradiction
      intro hne
      obtain ⟨q, hq'⟩ := v.ne hne
      rw [hq] at hq'; cases hq'
    subst this
    rfl
  | some q =>
    have hm := v.mem q hq
    have hf : flat (.int .u8) xs = xs.map (Value.int .u8) := by
      clear v hm h
      induction xs with
      | nil => rfl
      | cons x xs ih => simp only [flat, List.flatMap_cons, List.map_cons] at ih ⊢; rw [ih]; rfl
    rw [hf] at hm
    exact run_bytesToString w q sl.len sl.cap xs (run_loadCells_at hm (by rw [List.length_map]; exact v.len.symm))

end Go.Proofs.Ytgbledjehnojeaa

/- The specification's texts of exported rules (evergreenref11): Check, Lengths, Plain. -/
set_option linter.unusedVariables false
set_option linter.unusedSimpArgs false
namespace Go.Proofs.Ytgbledjehnojeaa
open Go.Den

variable {w0 w : World} {Ω : List Ob} {most : Int} {T : List ET} {ids : List Int} {i : Nat} {p : Addr}

/-- a rule of an exported list -/
inductive GR (T : List ET) (ids : List Int) (k : Nat) (y : Int) : Prop
  | letter (b : Int) : 0 ≤ b → b < 256 → mvr ids (eAt T y).1 = (1, b, 0, 0, 0) → (eAt T y).2.1.1 = 1 → txt T y = [b] → GR T ids k y
  | pair (l r : Int) (jl jr : Nat) : jl < k → jr < k → ids[jl]? = some l → ids[jr]? = some r → mvr ids (eAt T y).1 = (2, 0, (jl : Int) + 1, (jr : Int) + 1, 0) → (eAt T y).2.1.1 = (eAt T l).2.1.1 + (eAt T r).2.1.1 → (eAt T l).2.1.1 + (eAt T r).2.1.1 ≤ 1152921504606846976 → txt T y = txt T l ++ txt T r → GR T ids k y
  | power (x m : Int) (j : Nat) : j < k → ids[j]? = some x → 2 ≤ m → mvr ids (eAt T y).1 = (3, 0, (j : Int) + 1, 0, m) → (eAt T y).2.1.1 = (eAt T x).2.1.1 * m → (eAt T x).2.1.1 * m ≤ 1152921504606846976 → txt T y = (List.replicate m.toNat (txt T x)).flatten → GR T ids k y
theorem gr_of (g : Grow T) (hc : Closed T ids) {k : Nat} {y : Int} (hk : ids[k]? = some y) : GR T ids k y := by
  have hyb := hc.bound y (List.mem_of_getElem? hk)
  have p0 := pos_zero hc
  cases g.txt hyb.1 hyb.2 with
  | letter b h1 h2 e ht =>
    refine .letter b h1 h2 (by rw [e]; simp [mvr, mkLetter, p0]) (by rw [e]; exact wLetter_len b) ht
  | pair l r h1 h2 h3 h4 h5 e ht =>
    obtain ⟨j1, q1, q2, e1⟩ := hc.ref g hk (x := l) (by rw [e]; simp [refs, mkPair])
    obtain ⟨j2, q3, q4, e2⟩ := hc.ref g hk (x := r) (by rw [e]; simp [refs, mkPair])
    exact .pair l r j1 j2 q1 q3 q2 q4 (by rw [e]; simp [mvr, mkPair, e1, e2]) (by rw [e]; rfl) h5 ht
  | power x m h1 h2 h3 h4 e ht =>
    obtain ⟨j1, q1, q2, e1⟩ := hc.ref g hk (x := x) (by rw [e]; simp [refs, mkPower])
    exact .power x m j1 q1 q2 h3 (by rw [e]; simp [mvr, mkPower, e1, p0]) (by rw [e]; exact wRep_len _ _) h4 ht

theorem ref11_earlier_yes {a n : Int} (h1 : 1 ≤ a) (h2 : a < n) {K : Bool → World → Prop} (h : K true w) : C_ref11_earlier a n K w := by
  apply S_ref11_earlier
  unfold F_ref11_earlier
  refine gd_t (decide_eq_true h1) ?_
  rwa [decide_eq_true h2]
theorem ref11_Rule_gr {k : Nat} {y : Int} (hg : GR T ids k y) (s : Sp w0 Ω w) {K : Int → World → Prop} (h : ∀ w', Sp w0 Ω w' → K 0 w') : C_ref11_Rule (mvr ids (eAt T y).1) ((k : Int) + 1) K w := by
  apply S_ref11_Rule
  unfold F_ref11_Rule
  cases hg with
  | letter b h1 h2 e _ _ =>
    rw [e]
    refine s.allocK fun a1 w1 s => s.ldi (x := 1) 0 0 rfl rfl (gd_t rfl (JoinP.inl (s.ldi (x := 0) 0 2 rfl rfl (gd_f rfl (s.ldi (x := 0) 0 3 rfl rfl (gd_f rfl (s.ldi (x := 0) 0 4 rfl rfl ?_)))))))
    intro _
    exact gd_f rfl (gd_f (decide_eq_false (by omega)) (h _ s.pop))
  | pair l r jl jr h1 h2 _ _ e _ _ _ =>
    rw [e]
    refine s.allocK fun a1 w1 s => s.ldi (x := 2) 0 0 rfl rfl (gd_f rfl (gd_t rfl (JoinP.inl (s.ldi (x := 0) 0 1 rfl rfl (gd_f rfl (s.ldi (x := 0) 0 4 rfl rfl ?_))))))
    intro _
    refine gd_f rfl (JoinP.inl (gd_f (decide_eq_false (by omega)) (s.ldi (x := (jl : Int) + 1) 0 2 rfl rfl (ref11_earlier_yes (by omega) (by omega) (gd_f rfl (s.ldi (x := (jr : Int) + 1) 0 3 rfl rfl (ref11_earlier_yes (by omega) (by omega) ?_)))))))
    intro _
    exact gd_f rfl (h _ s.pop)
  | power x m j h1 _ h2 e _ _ _ =>
    rw [e]
    refine s.allocK fun a1 w1 s => s.ldi (x := 3) 0 0 rfl rfl (gd_f rfl (gd_f rfl (gd_t rfl (JoinP.inl (s.ldi (x := 0) 0 1 rfl rfl (gd_f rfl (s.ldi (x := 0) 0 3 rfl rfl (gd_f rfl (s.ldi (x := m) 0 4 rfl rfl ?_)))))))))
    intro _
    refine gd_f (decide_eq_false (by omega)) (JoinP.inl (gd_f (decide_eq_false (by omega)) (s.ldi (x := (j : Int) + 1) 0 2 rfl rfl (ref11_earlier_yes (by omega) (by omega) ?_))))
    intro _
    exact gd_f rfl (h _ s.pop)
theorem ids_len (g : Grow T) (hc : Closed T ids) : ids.length ≤ T.length := nodup_bound hc.nodup hc.bound
theorem ref11_Check_spec {sl : Sl} (g : Grow T) (hN : T.length ≤ 1048576) (hc : Closed T ids) (s : Sp w0 Ω w) (hv : ∀ w', Sp w0 Ω w' → View yapi_Rule w' sl (exp T ids)) {K : Int → World → Prop} (h : ∀ w', Sp w0 Ω w' → K 0 w') : C_ref11_Check sl K w := by
  apply S_ref11_Check
  unfold F_ref11_Check
  have hlen := (hv _ s).len
  rw [exp_len] at hlen
  have hil := ids_len g hc
  refine loop_by (fun x => x.1) ids.length (fun n _ w => Sp w0 Ω w) rfl s ?_
  rintro n ⟨x, _⟩ w2 hn hx s _
  dsimp only at hx ⊢
  subst hx
  refine gd_dec (fun hlt => ?_) (fun hge => h _ s)
  have hn' : n < ids.length := by omega
  have hk : ids[n]? = some ids[n] := List.getElem?_eq_getElem hn'
  refine (hv _ s).idx rfl (exp_get hk) rfl fun q hq => ⟨_, hq, arith_i64 (by omega) (by omega) (ref11_Rule_gr (gr_of g hc hk) s fun w3 s => gd_f rfl (arith_i64 (by omega) (by omega) (loop_nx hn' s)))⟩

theorem ref01_Valid_yes {a : Int} (h1 : 0 ≤ a) (h2 : a ≤ 1152921504606846976) {K : Bool → World → Prop} (h : K true w) : C_ref01_Valid a K w := by
  apply S_ref01_Valid
  unfold F_ref01_Valid
  refine gd_t (decide_eq_true h1) ?_
  rwa [decide_eq_true h2]
theorem ref01_Add_ok {a b : Int} (h1 : 0 ≤ a) (h2 : 0 ≤ b) (h3 : a + b ≤ 1152921504606846976) {K : Int × Int → World → Prop} (h : K (a + b, 0) w) : C_ref01_Add a b K w := by
  apply S_ref01_Add
  unfold F_ref01_Add
  refine JoinP.inl (ref01_Valid_yes h1 (by omega) (gd_f rfl (ref01_Valid_yes h2 (by omega) ?_)))
  intro _
  exact gd_f rfl (arith_i64 (by omega) (by omega) (gd_f (decide_eq_false (by omega)) (arith_i64 (by omega) (by omega) h)))
theorem ref01_Mul_ok {a k : Int} (h1 : 1 ≤ a) (h2 : 0 ≤ k) (h3 : a * k ≤ 1152921504606846976) (ha : a ≤ 1152921504606846976) {K : Int × Int → World → Prop} (h : K (a * k, 0) w) : C_ref01_Mul a k K w := by
  apply S_ref01_Mul
  unfold F_ref01_Mul
  have hnn : 0 ≤ a * k := Int.mul_nonneg (by omega) h2
  have hd : Int.tdiv 1152921504606846976 a = 1152921504606846976 / a := Int.tdiv_eq_ediv_of_nonneg (by decide)
  have hb : 0 ≤ 1152921504606846976 / a ∧ 1152921504606846976 / a ≤ 1152921504606846976 := ⟨Int.ediv_nonneg (by decide) (by omega), Int.ediv_le_self _ (by decide)⟩
  have hiff : 1152921504606846976 / a < k ↔ 1152921504606846976 < a * k := by
    rw [Int.mul_comm]; exact Int.ediv_lt_iff_lt_mul (by omega)
  have hno : ¬ 1152921504606846976 / a < k := fun h => by have := hiff.1 h; omega
  refine JoinP.inl (ref01_Valid_yes (by omega) ha (gd_f rfl ?_))
  intro _
  refine gd_f (decide_eq_false (by omega)) (JoinP.inl (gd_t (decide_eq_true (by omega)) ⟨by omega, ?_⟩))
  rw [hd]
  refine arith_i64 (by omega) (by omega) ?_
  intro _
  exact gd_f (decide_eq_false hno) (arith_i64 (by omega) (by omega) h)

def lensG (T : List ET) (ids : List Int) : List (Ty.int .i64).T := ids.map fun y => (eAt T y).2.1.1
theorem lensG_len (T : List ET) (ids : List Int) : (lensG T ids).length = ids.length := List.length_map _
theorem lensG_get {k : Nat} {y : Int} (hk : ids[k]? = some y) : (lensG T ids)[k]? = some (eAt T y).2.1.1 := by unfold lensG; rw [List.getElem?_map, hk]; rfl
theorem ref11_Lengths_spec {sl : Sl} (g : Grow T) (hN : T.length ≤ 1048576) (hc : Closed T ids) (s : Sp w0 Ω w) (hv : ∀ w', Sp w0 Ω w' → View yapi_Rule w' sl (exp T ids)) {K : Sl × Int → World → Prop} (h : ∀ ls w', Sp w0 (own (.int .i64) ls (lensG T ids) :: Ω) w' → K (ls, 0) w') : C_ref11_Lengths sl K w := by
  apply S_ref11_Lengths
  unfold F_ref11_Lengths
  have hlen := (hv _ s).len
  rw [exp_len] at hlen
  have hil := ids_len g hc
  have hll := lensG_len T ids
  refine ref11_Check_spec g hN hc s hv fun w1 s => gd_f rfl ?_
  refine loop_by (fun x => x.2.1) ids.length (fun n x w => Sp w0 (own (.int .i64) x.1 ((lensG T ids).take n) :: Ω) w) rfl (s.nil _) ?_
  rintro n ⟨ls, x, _⟩ w2 hn hx s _
  dsimp only at hx s ⊢
  subst hx
  refine gd_dec (fun hlt => ?_) (fun hge => ?_)
  rotate_left
  · have e : n = (lensG T ids).length := by omega
    subst e
    rw [List.take_length] at s
    exact h _ _ s
  have hn' : n < ids.length := by omega
  have hk : ids[n]? = some ids[n] := List.getElem?_eq_getElem hn'
  generalize ids[n] = y at hk
  have hex := exp_get (T := T) hk
  have htk : (lensG T ids).take (n + 1) = (lensG T ids).take n ++ [(eAt T y).2.1.1] := by rw [List.take_add_one, lensG_get hk]; rfl
  refine ⟨fun x w => x.1 = (eAt T y).2.1.1 ∧ x.2.1 = 0 ∧ Sp w0 (own (.int .i64) ls ((lensG T ids).take n) :: Ω) w, ?_, ?_⟩
  · have at_ : ∀ {j : Nat} {z : Int}, j < n → ids[j]? = some z → ((lensG T ids).take n)[j]? = some (eAt T z).2.1.1 := fun hj hz => by
      rw [List.getElem?_take_of_lt hj]; exact lensG_get hz
    have wl : ∀ {j : Nat} {z : Int}, ids[j]? = some z → 1 ≤ (eAt T z).2.1.1 ∧ (eAt T z).2.1.1 ≤ 1152921504606846976 := fun hz => by
      have hb := hc.bound _ (List.mem_of_getElem? hz)
      have ha := g.at_ (show 0 ≤ _ by omega) hb.2
      exact ⟨ha.2.2.2 hb.1, ha.1.len.2⟩
    refine (hv _ s.pop).idx2 rfl hex rfl fun q hq => ⟨_, ((hq _ (hv _ s.pop)).sub 0 rfl : At _ (q.add 0) (cells (.int .i64) (mvr ids (eAt T y).1).1)), ?_⟩
    cases gr_of g hc hk with
    | letter b h1 h2 e hl _ => exact gd_f (by rw [e]; rfl) (gd_f (by rw [e]; rfl) ⟨hl.symm, rfl, s⟩)
    | pair l r jl jr h1 h2 hl hr e hlen' hle _ =>
      have b1 := wl hl
      have b2 := wl hr
      refine gd_t (by rw [e]; rfl) (s.drawK fun w3 s => (hv _ s.pop).idx2 rfl hex rfl fun q2 hq2 => ⟨(jl : Int) + 1, ?_, arith_i64 (by omega) (by omega) ((s.view 0 rfl).idx (n := jl) (by omega) (at_ h1 hl) rfl fun q3 hq3 => ⟨_, hq3, (hv _ s.pop).idx2 rfl hex rfl fun q4 hq4 => ⟨(jr : Int) + 1, ?_, arith_i64 (by omega) (by omega) ((s.view 0 rfl).idx (n := jr) (by omega) (at_ h2 hr) rfl fun q5 hq5 => ⟨_, hq5, ref01_Add_ok (by omega) (by omega) hle ⟨hlen'.symm, rfl, s⟩⟩)⟩⟩)⟩)
      · have := hq2 _ (hv _ s.pop)
        rw [e] at this
        exact this.sub 2 rfl
      · have := hq4 _ (hv _ s.pop)
        rw [e] at this
        exact this.sub 3 rfl
    | power x m j h1 hx h2 e hlen' hle _ =>
      have b1 := wl hx
      have hm : m ≤ 1152921504606846976 := by
        have : 1 * m ≤ (eAt T x).2.1.1 * m := Int.mul_le_mul_of_nonneg_right b1.1 (by omega)
        omega
      refine gd_f (by rw [e]; rfl) (gd_t (by rw [e]; rfl) (s.drawK fun w3 s => (hv _ s.pop).idx2 rfl hex rfl fun q2 hq2 => ⟨(j : Int) + 1, ?_, arith_i64 (by omega) (by omega) ((s.view 0 rfl).idx (n := j) (by omega) (at_ h1 hx) rfl fun q3 hq3 => ⟨_, hq3, (hv _ s.pop).idx2 rfl hex rfl fun q4 hq4 => ⟨m, ?_, ref01_Mul_ok b1.1 (by omega) hle b1.2 ⟨hlen'.symm, rfl, s⟩⟩⟩)⟩))
      · have := hq2 _ (hv _ s.pop)
        rw [e] at this
        exact this.sub 2 rfl
      · have := hq4 _ (hv _ s.pop)
        rw [e] at this
        exact this.sub 4 rfl
  rintro ⟨a, b, _⟩ w4 ⟨ha, hb, s⟩ _
  dsimp only at ha hb ⊢
  subst ha hb
  refine gd_f rfl (s.allocK fun a27 w5 s => s.app 1 rfl ((s.lit (ty := .int .i64) 0 rfl [(eAt T y).2.1.1] 1 rfl rfl).view 0 rfl) (by simp only [List.length_take, List.length_cons, List.length_nil]; omega) fun s28 w6 s => arith_i64 (by omega) (by omega) (loop_nx hn' ?_))
  rw [htk]
  exact s.pop

theorem flat_rep_succ {α : Type} (n : Nat) (xs : List α) : (List.replicate (n + 1) xs).flatten = (List.replicate n xs).flatten ++ xs := by
  rw [List.replicate_succ', List.flatten_append]
  simp
theorem flat_rep_len {α : Type} (n : Nat) (xs : List α) : (List.replicate n xs).flatten.length = n * xs.length := by
  induction n with
  | zero => simp
  | succ n ih => rw [flat_rep_succ, List.length_append, ih, Nat.succ_mul]
theorem ref11_plain_spec {sl : Sl} (g : Grow T) (hN : T.length ≤ 1048576) (hc : Closed T ids) : ∀ (k : Nat) {y : Int} {w0 w : World} {Ω : List Ob}, ids[k]? = some y → (txt T y).length ≤ 1000000 → Sp w0 Ω w → (∀ w', Sp w0 Ω w' → View yapi_Rule w' sl (exp T ids)) → ∀ {K : Sl → World → Prop}, (∀ s' w', Sp w0 (own (.int .u8) s' (txt T y) :: Ω) w' → K s' w') → C_ref11_plain sl ((k : Int) + 1) K w := by
  intro k
  induction k using Nat.strongRecOn with
  | ind k ih =>
  intro y w0 w Ω hk hty s hv K h
  have hil := ids_len g hc
  have hk' : k < ids.length := (List.getElem?_eq_some_iff.1 hk).1
  apply S_ref11_plain
  unfold F_ref11_plain
  refine gd_f (by simp; omega) (arith_i64 (by omega) (by omega) ((hv _ s).idx (n := k) (by omega) (exp_get hk) rfl fun q hq => ⟨_, hq, s.allocK fun a4 w1 s => s.st0 0 rfl rfl rfl fun w2 s => s.ldi (x := (mvr ids (eAt T y).1).1) 0 0 rfl rfl ?_⟩))
  cases gr_of g hc hk with
  | letter b h1 h2 e hl ht =>
    rw [ht] at h
    refine gd_t (by rw [e]; rfl) (s.ldi (x := b) 0 1 rfl (by rw [e]; rfl) (s.allocK fun a7 w3 s => h _ _ ((s.lit (ty := .int .u8) 0 rfl [b] 1 rfl rfl).pick [0] 2 rfl (by decide))))
  | pair l r jl jr h1 h2 hl hr e hlen' hle ht =>
    rw [ht, List.length_append] at hty
    refine gd_f (by rw [e]; rfl) (gd_t (by rw [e]; rfl) (s.drawK fun w4 s => s.ldi (x := (jl : Int) + 1) 0 2 rfl (by rw [e]; rfl) (s.ldi (x := (jr : Int) + 1) 0 3 rfl (by rw [e]; rfl) ?_)))
    refine ih jl h1 hl (by omega) s (fun w' s => hv _ s.pop) fun s1 w5 s => ⟨s.still 1 3 rfl (by rw [e]; rfl), ih jr h2 hr (by omega) s (fun w' s => hv _ (s.drop 2)) fun s2 w6 s => ?_⟩
    refine s.app 1 rfl (s.view 0 rfl) (by omega) fun s3 w7 s => h s3 _ ?_
    rw [ht]
    exact s.pick [1] 3 rfl (by decide)
  | power x m j h1 hx h2 e hlen' hle ht =>
    rw [ht, flat_rep_len] at hty
    have hxl : 1 ≤ (txt T x).length := by
      have hb := hc.bound _ (List.mem_of_getElem? hx)
      have := g.len (id := x) (by omega) hb.2
      have := (g.at_ (id := x) (by omega) hb.2).2.2.2 hb.1
      omega
    have hm : m.toNat ≤ m.toNat * (txt T x).length := Nat.le_mul_of_pos_right _ hxl
    have hx1 : (txt T x).length ≤ m.toNat * (txt T x).length := Nat.le_mul_of_pos_left _ (by omega)
    refine gd_f (by rw [e]; rfl) (gd_f (by rw [e]; rfl) (s.ldi (x := (j : Int) + 1) 0 2 rfl (by rw [e]; rfl) ?_))
    refine ih j h1 hx (by omega) s (fun w' s => hv _ s.pop) fun s1 w5 s => ?_
    refine loop_by (fun x => x.2.1) m.toNat (fun n x' w => Sp w0 (own (.int .u8) x'.1 (List.replicate n (txt T x)).flatten :: own (.int .u8) s1 (txt T x) :: cel a4 (cells yapi_Rule (mvr ids (eAt T y).1)) :: Ω) w) rfl (s.nil _) ?_
    rintro n ⟨out, z, _⟩ w6 hn hz s _
    dsimp only at hz s ⊢
    subst hz
    refine s.ldi (x := m) 2 4 rfl (by rw [e]; rfl) (gd_dec (fun hlt => ?_) (fun hge => ?_))
    · have hn' : n < m.toNat := by omega
      have hnl : n * (txt T x).length ≤ m.toNat * (txt T x).length := Nat.mul_le_mul_right _ (by omega)
      refine s.app 0 rfl (s.view 1 rfl) (by rw [flat_rep_len]; omega) fun s3 w7 s => arith_i64 (by omega) (by omega) (loop_nx hn' ?_)
      rw [flat_rep_succ]
      exact s
    · have e2 : n = m.toNat := by omega
      subst e2
      rw [ht] at h
      exact h _ _ (s.pick [0] 3 rfl (by decide))

theorem rlist_last (g : Grow T) {id : Int} (h1 : 1 ≤ id) (h2 : id ≤ T.length) : ∃ k : Nat, (rlist T [id]).length = k + 1 ∧ (rlist T [id])[k]? = some id := by
  have hS : ∀ x ∈ [id], 0 ≤ x ∧ x ≤ (T.length : Int) := fun x hx => by simp at hx; subst hx; exact ⟨by omega, h2⟩
  have hc := rlist_closed g hS
  have hm : id ∈ rlist T [id] := (rlist_mem g hS).2 (.root (by simp) (by omega))
  have hle : ∀ x, Rch T [id] x → x ≤ id := fun x h => by
    induction h with
    | root h1 _ => simp at h1; omega
    | ref hy hx ih =>
      have hb := hy.bound g hS
      have := refs_in g hb.1 hb.2 hx
      omega
  obtain ⟨j, hj⟩ := List.getElem?_of_mem hm
  have hjl := (List.getElem?_eq_some_iff.1 hj).1
  refine ⟨j, ?_, hj⟩
  apply Classical.byContradiction
  intro hne
  have hj1 : j + 1 < (rlist T [id]).length := by omega
  have hget := List.getElem?_eq_getElem hj1
  have hgt := (sorted_lt hc.sorted hj hget).2 (by omega)
  have := hle _ (mem_rlist.1 (List.getElem_mem hj1)).2
  omega
theorem ref11_Plain_spec {sl : Sl} {id : Int} (g : Grow T) (hN : T.length ≤ 1048576) (hk : 0 ≤ id ∧ id ≤ T.length) (hl : (txt T id).length ≤ 4096) (s : Sp w0 Ω w) (hv : ∀ w', Sp w0 Ω w' → View yapi_Rule w' sl (exp T (rlist T [id]))) {n : Int} (hn : n = (sl.len : Int)) {K : Sl × Bool → World → Prop}
    (h : ∀ s' w', Sp w0 (own (.int .u8) s' (txt T id) :: Ω) w' → K (s', true) w') : C_ref11_Plain sl n K w := by
  subst hn
  apply S_ref11_Plain
  unfold F_ref11_Plain
  have hS : ∀ x ∈ [id], 0 ≤ x ∧ x ≤ (T.length : Int) := fun x hx => by simp at hx; subst hx; exact hk
  have hc := rlist_closed g hS
  have hlen := (hv _ s).len
  rw [exp_len] at hlen
  have hil := ids_len g hc
  refine ref11_Lengths_spec g hN hc s hv fun ls w1 s => JoinP.inl (gd_f rfl (gd_f (decide_eq_false (by omega)) (gd_f (decide_eq_false (by omega)) ?_)))
  by_cases c : id = 0
  · subst c
    rw [rlist_zero] at hlen
    rw [txt_zero] at h
    refine gd_f (decide_eq_false (by simp at hlen; omega)) ?_
    intro _
    refine gd_f rfl ?_
    apply S_ref11_plain
    unfold F_ref11_plain
    exact gd_t (by simp at hlen; simp [hlen]) (h _ _ ((s.pop).nil _))
  · obtain ⟨k, e1, e2⟩ := rlist_last g (id := id) (by omega) hk.2
    have hlw := g.len hk.1 hk.2
    refine gd_t (decide_eq_true (by omega)) (arith_i64 (by omega) (by omega) ((s.view 0 rfl).idx (n := k) (by omega) (lensG_get e2) rfl fun q hq => ⟨_, hq, ?_⟩))
    intro _
    refine gd_f (decide_eq_false (by omega)) ?_
    rw [show ((sl.len : Nat) : Int) = (k : Int) + 1 by omega]
    exact ref11_plain_spec g hN hc k e2 (by omega) s.pop hv fun s' w2 s => h _ _ s

end Go.Proofs.Ytgbledjehnojeaa

/- What the specification's Reached and Export compute, and the walk of InternExports. -/
set_option linter.unusedVariables false
set_option linter.unusedSimpArgs false
namespace Go.Proofs.Ytgbledjehnojeaa
open Go.Den

variable {w0 w : World} {Ω : List Ob} {most : Int} {T : List ET} {j : Nat}  {p : Addr}

theorem refs_iff (g : Grow T) {y x : Int} (h1 : 1 ≤ y) (h2 : y ≤ T.length) (hx : 1 ≤ x) : x ∈ refs (eAt T y).1 ↔ x = (eAt T y).1.2.2.1 ∨ x = (eAt T y).1.2.2.2.1 := by
  cases g.shape h1 h2 with
  | letter b _ _ e => rw [e]; simp [refs, mkLetter]; omega
  | pair l r _ _ _ _ _ e => rw [e]; simp [refs, mkPair]
  | power a k _ _ _ _ e => rw [e]; simp [refs, mkPower]; omega
theorem Rch.iff {S : List Int} (g : Grow T) (hS : ∀ x ∈ S, 0 ≤ x ∧ x ≤ (T.length : Int)) {x : Int} (hx : 1 ≤ x) : Rch T S x ↔ x ∈ S ∨ ∃ y, x < y ∧ Rch T S y ∧ x ∈ refs (eAt T y).1 := by
  constructor
  · intro h
    cases h with
    | root h1 _ => exact Or.inl h1
    | ref h1 h2 =>
      have b := h1.bound g hS
      exact Or.inr ⟨_, (refs_in g b.1 b.2 h2).2, h1, h2⟩
  · rintro (h | ⟨y, _, h1, h2⟩)
    · exact .root h (by omega)
    · exact .ref h1 h2

end Go.Proofs.Ytgbledjehnojeaa

/- A copy exports the same; the walk of InternMoves. -/
set_option linter.unusedVariables false
set_option linter.unusedSimpArgs false
namespace Go.Proofs.Ytgbledjehnojeaa
open Go.Den

variable {w0 w : World} {T : List ET} {ids : List Int} {most : Int}

theorem mvr_byte (g : Grow T) {y : Int} (h1 : 1 ≤ y) (h2 : y ≤ T.length) : 0 ≤ (mvr ids (eAt T y).1).2.1 ∧ (mvr ids (eAt T y).1).2.1 < 256 := by
  cases g.shape h1 h2 with
  | letter b h3 h4 e => rw [e]; exact ⟨h3, h4⟩
  | pair l r _ _ _ _ _ e => rw [e]; simp [mvr, mkPair]
  | power x k _ _ _ _ e => rw [e]; simp [mvr, mkPower]
theorem copy_grow (g : Grow T) (hc : Closed T ids) : Grow (copy T ids) := by
  have key : ∀ k : Nat, k ≤ ids.length → Grow ((copy T ids).take k) := by
    intro k
    induction k with
    | zero => intro _; exact .nil
    | succ k ih =>
      intro hk
      obtain ⟨y, hy⟩ : ∃ y, ids[k]? = some y := ⟨_, List.getElem?_eq_getElem hk⟩
      have hyb := hc.bound y (List.mem_of_getElem? hy)
      have hlen : ((copy T ids).take k).length = k := by rw [List.length_take, copy_len]; omega
      have := (pPut_grow (most := (k : Int) + 1) (ids := ups k) (r := mvr ids (eAt T y).1) (ih (by omega)) (by rw [hlen]; omega) (mvr_byte g hyb.1 hyb.2)).1
      rw [pPut_copy g hc hy (by omega)] at this
      exact this
  have := key ids.length (Nat.le_refl _)
  rwa [← copy_len (T := T), List.take_length] at this
theorem eAt_copy {k : Nat} {y : Int} (hk : ids[k]? = some y) : eAt (copy T ids) ((k : Int) + 1) = (mvr ids (eAt T y).1, (eAt T y).2) := by
  have h := copy_at (T := T) hk (m := ids.length) (List.getElem?_eq_some_iff.1 hk).1
  rwa [← copy_len (T := T), List.take_length] at h
theorem refs_mvr (g : Grow T) (hc : Closed T ids) {y x : Int} (hy : y ∈ ids) (hx : x ∈ refs (eAt T y).1) : pos ids x ∈ refs (mvr ids (eAt T y).1) := by
  have hyb := hc.bound y hy
  cases g.shape hyb.1 hyb.2 with
  | letter b _ _ e => rw [e] at hx; simp [refs, mkLetter] at hx
  | pair l r _ _ _ _ _ e =>
    rw [e] at hx ⊢
    have : x = l ∨ x = r := by simpa [refs, mkPair] using hx
    rcases this with rfl | rfl <;> simp [refs, mvr, mkPair]
  | power a k _ _ _ _ e =>
    rw [e] at hx ⊢
    have : x = a := by simpa [refs, mkPower] using hx
    subst this; simp [refs, mvr, mkPower]
def upTo (n : Nat) : List Int := (List.range n).map fun i : Nat => (i : Int) + 1
theorem upTo_get {n k : Nat} (h : k < n) : (upTo n)[k]? = some ((k : Int) + 1) := by
  unfold upTo
  rw [List.getElem?_map, List.getElem?_range h]; rfl
theorem upTo_mem {n : Nat} {x : Int} : x ∈ upTo n ↔ 1 ≤ x ∧ x ≤ n := by
  unfold upTo
  rw [List.mem_map]
  constructor
  · rintro ⟨i, hi, rfl⟩
    have := List.mem_range.1 hi; omega
  · intro h
    exact ⟨(x - 1).toNat, List.mem_range.2 (by omega), by omega⟩
theorem upTo_sorted (n : Nat) : (upTo n).Pairwise (fun x y => x < y) := by
  unfold upTo
  rw [List.pairwise_map]
  exact List.pairwise_lt_range.imp fun h => by omega
theorem upTo_pos {n : Nat} {x : Int} (h0 : 0 ≤ x) (h : x ≤ n) : pos (upTo n) x = x := by
  by_cases c : x = 0
  · subst c
    exact pos_none fun hm => by have := (upTo_mem.1 hm).1; omega
  · have := pos_some ((upTo_sorted n).imp fun h => by omega) (upTo_get (n := n) (k := (x - 1).toNat) (by omega))
    rw [show (((x - 1).toNat : Nat) : Int) + 1 = x by omega] at this
    exact this
theorem pos_bound (hc : Closed T ids) (x : Int) : 0 ≤ pos ids x ∧ pos ids x ≤ ids.length := by
  by_cases h : x ∈ ids
  · obtain ⟨j, hj⟩ := List.getElem?_of_mem h
    have := (List.getElem?_eq_some_iff.1 hj).1
    rw [pos_some hc.nodup hj]; omega
  · rw [pos_none h]; omega
/-- the copy of what one rule reaches, exported from its last rule -/
theorem exp_copy (g : Grow T) {id : Int} (h0 : 0 ≤ id) (h1 : id ≤ T.length) : exp (copy T (rlist T [id])) (rlist (copy T (rlist T [id])) [((rlist T [id]).length : Int)]) = exp T (rlist T [id]) ∧ ((0 : Int) :: rlist T [id]).getLastD 0 = id := by
  have hS : ∀ x ∈ [id], 0 ≤ x ∧ x ≤ (T.length : Int) := fun x hx => by simp at hx; subst hx; exact ⟨h0, h1⟩
  have hc := rlist_closed g hS
  have hmem : ∀ x : Int, x ∈ rlist T [id] ↔ Rch T [id] x := fun x => rlist_mem g hS
  generalize rlist T [id] = ids at *
  have hle : ∀ x, Rch T [id] x → x ≤ id := fun x h => by
    induction h with
    | root h _ => simp at h; omega
    | ref h1 h2 ih =>
      have b := h1.bound g hS
      have := (refs_in g b.1 b.2 h2).2
      omega
  by_cases hz : id = 0
  · subst hz
    have he : ids = [] := by
      apply List.eq_nil_iff_forall_not_mem.2
      intro x hx
      have b := hc.bound x hx
      have := hle x ((hmem x).1 hx)
      omega
    subst he
    refine ⟨?_, rfl⟩
    have : rlist (copy T []) [(([] : List Int).length : Int)] = [] := rlist_zero
    rw [this]; rfl
  have hidm : id ∈ ids := (hmem id).2 (.root (by simp) hz)
  obtain ⟨k, hk⟩ := List.getElem?_of_mem hidm
  have hkl := (List.getElem?_eq_some_iff.1 hk).1
  have hlast : k + 1 = ids.length := by
    by_cases h : k + 1 < ids.length
    · have hg : ids[k + 1]? = some ids[k + 1] := List.getElem?_eq_getElem h
      have h2 := (sorted_lt hc.sorted hk hg).2 (by omega)
      have h3 := hle _ ((hmem _).1 (List.getElem_mem h))
      omega
    · omega
  have hlen := copy_len (T := T) (ids := ids)
  have gc := copy_grow g hc
  have hS' : ∀ x ∈ [(ids.length : Int)], 0 ≤ x ∧ x ≤ ((copy T ids).length : Int) := fun x hx => by simp at hx; subst hx; omega
  have hreach : ∀ x : Int, Rch T [id] x → ∀ j : Nat, ids[j]? = some x → Rch (copy T ids) [(ids.length : Int)] ((j : Int) + 1) := by
    intro x hx
    induction hx with
    | root h1 _ =>
      intro j hj
      simp at h1
      subst h1
      have : j = k := (List.getElem_inj hc.nodup (h₀ := (List.getElem?_eq_some_iff.1 hj).1) (h₁ := hkl)).1 (by rw [(List.getElem?_eq_some_iff.1 hj).2, (List.getElem?_eq_some_iff.1 hk).2])
      subst this
      exact .root (by simp; omega) (by omega)
    | @ref y x h1 h2 ih =>
      intro j hj
      have hym := (hmem y).2 h1
      obtain ⟨i, hi⟩ := List.getElem?_of_mem hym
      have := ih i hi
      refine .ref this ?_
      rw [eAt_copy hi]
      have := refs_mvr g hc hym h2
      rwa [pos_some hc.nodup hj] at this
  have hr : rlist (copy T ids) [(ids.length : Int)] = upTo ids.length := by
    refine sorted_unique rlist_sorted (upTo_sorted _) fun x => ?_
    rw [rlist_mem gc hS', upTo_mem]
    constructor
    · intro h
      have := h.bound gc hS'
      omega
    · intro h
      have hg : ids[(x - 1).toNat]? = some ids[(x - 1).toNat] := List.getElem?_eq_getElem (by omega)
      have := hreach _ ((hmem _).1 (List.getElem_mem (by omega))) _ hg
      rwa [show (((x - 1).toNat : Nat) : Int) + 1 = x by omega] at this
  constructor
  · rw [hr]
    apply List.ext_getElem?
    intro i
    by_cases hi : i < ids.length
    · have hg : ids[i]? = some ids[i] := List.getElem?_eq_getElem hi
      rw [exp_get (upTo_get hi), exp_get hg, eAt_copy hg]
      have b1 := pos_bound hc (eAt T ids[i]).1.2.2.1
      have b2 := pos_bound hc (eAt T ids[i]).1.2.2.2.1
      simp only [mvr]
      rw [upTo_pos b1.1 b1.2, upTo_pos b2.1 b2.2]
    · rw [List.getElem?_eq_none (by rw [exp_len]; simp [upTo]; omega), List.getElem?_eq_none (by rw [exp_len]; omega)]
  · rw [List.getLastD_cons, List.getLastD_eq_getLast?, List.getLast?_eq_getElem?, show ids.length - 1 = k by omega, hk]; rfl

theorem ruleOK_exp (g : Grow T) (hc : Closed T ids) : ∀ r ∈ exp T ids, RuleOK r := by
  intro r hr
  obtain ⟨y, hy, rfl⟩ := List.mem_map.1 hr
  have hyb := hc.bound y hy
  refine ⟨mvr_byte g hyb.1 hyb.2, ?_⟩
  show (eAt T y).1.2.2.2.2 ≤ _
  cases g.shape hyb.1 hyb.2 with
  | letter b _ _ e => rw [e]; simp [mkLetter]
  | pair l r _ _ _ _ _ e => rw [e]; simp [mkPair]
  | power x k h1 h2 h3 h4 e =>
    rw [e]
    have hpos := (g.at_ (id := x) (by omega) (by omega)).2.2.2 h1
    have : 1 * k ≤ (eAt T x).2.1.1 * k := Int.mul_le_mul_of_nonneg_right hpos (by omega)
    simp only [mkPower]; omega

end Go.Proofs.Ytgbledjehnojeaa
