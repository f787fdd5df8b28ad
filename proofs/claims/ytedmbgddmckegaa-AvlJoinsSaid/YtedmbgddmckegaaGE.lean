/- Texts that belong together, joined: LawDA, LawDB, ImpA, SortL, Sort, Rch, Cert, CertB. No conditions. -/
import Derived.Shelf.SortM.Plain
import Derived.Shelf.SortM.SortNone
import Derived.Test.YtedmbgddmckegaaProg
import Derived.Test.YtedmbgddmckegaaGD
import Derived.Test.YtedmbgddmckegaaGC
import Derived.Test.YtedmbgddmckegaaGB
import Derived.Test.YtedmbgddmckegaaGT
/- The walk of InternAsks. -/
set_option linter.unusedVariables false
set_option linter.unusedSimpArgs false
namespace Go.Proofs.Ytedmbgddmckegaa
open Go.Den

variable {w0 w : World} {T : List ET}

theorem rulesOf_get {n : Nat} (h : n < T.length) : (rulesOf T)[n]? = some (eAt T ((n : Int) + 1)).1 := by
  have := eAt_get (L := T) (id := (n : Int) + 1) (by omega) (by omega)
  rw [show ((n : Int) + 1 - 1).toNat = n by omega] at this
  rw [rulesOf, List.getElem?_map, this]; rfl
theorem lensOf_get {n : Nat} (h : n < T.length) : (lensOf T)[n]? = some (eAt T ((n : Int) + 1)).2.1.1 := by
  have := eAt_get (L := T) (id := (n : Int) + 1) (by omega) (by omega)
  rw [show ((n : Int) + 1 - 1).toNat = n by omega] at this
  rw [lensOf, List.getElem?_map, this]; rfl
theorem depsOf_get {n : Nat} (h : n < T.length) : (depsOf T)[n]? = some (eAt T ((n : Int) + 1)).2.2.1 := by
  have := eAt_get (L := T) (id := (n : Int) + 1) (by omega) (by omega)
  rw [show ((n : Int) + 1 - 1).toNat = n by omega] at this
  rw [depsOf, List.getElem?_map, this]; rfl

end Go.Proofs.Ytedmbgddmckegaa

/- The walk of InternWeights. -/
set_option linter.unusedVariables false
set_option linter.unusedSimpArgs false
namespace Go.Proofs.Ytedmbgddmckegaa
open Go.Den

variable {w0 w : World} {T : List ET}

theorem shape_refs {id : Int} (h : Shape T id) (h1 : 1 ≤ id) (h2 : id ≤ T.length) : (0 ≤ (eAt T id).1.2.2.1 ∧ (eAt T id).1.2.2.1 < id) ∧ (0 ≤ (eAt T id).1.2.2.2.1 ∧ (eAt T id).1.2.2.2.1 < id) := by
  cases h with
  | letter b _ _ e => rw [e]; simp only [mkLetter]; omega
  | pair l r _ _ _ _ _ e => rw [e]; simp only [mkPair]; omega
  | power x k _ _ _ _ e => rw [e]; simp only [mkPower]; omega

end Go.Proofs.Ytedmbgddmckegaa

/- The check of rules, and the import of a list of rules: package rule, package intern, and the specification. -/
set_option linter.unusedVariables false
set_option linter.unusedSimpArgs false
namespace Go.Proofs.Ytedmbgddmckegaa
open Go.Den

variable {w0 w : World} {Ω : List Ob} {most : Int} {T : List ET} {i j : Nat}  {p : Addr}

/-! ### The check -/
def refs (r : RT) : List (Ty.int .i64).T := if r.1 = 2 then [r.2.2.1, r.2.2.2.1] else if r.1 = 3 then [r.2.2.1] else []
def formB (r : RT) : Bool :=
  if r.1 = 1 then decide (r.2.2.1 = 0 ∧ r.2.2.2.1 = 0 ∧ r.2.2.2.2 = 0) else
  if r.1 = 2 then decide (r.2.1 = 0 ∧ r.2.2.2.2 = 0) else
  if r.1 = 3 then decide (r.2.1 = 0 ∧ r.2.2.2.1 = 0 ∧ 2 ≤ r.2.2.2.2) else false
def placeB (r : RT) (n : Int) : Bool := decide (1 ≤ n ∧ ∀ x ∈ refs r, 1 ≤ x ∧ x < n)
def chk (r : RT) (n : Int) : Int := if formB r then (if placeB r n then 0 else 1) else 4
def chkV (r : RT) (n : Int) : Value := if chk r n = 0 then .nilIface else errV (chk r n)

theorem refs_len (r : RT) : (refs r).length ≤ 2 := by
  unfold refs
  split
  · exact Nat.le_refl 2
  split
  · exact (by decide : 1 ≤ 2)
  · exact Nat.zero_le 2
theorem placeB_1 {r : RT} {n : Int} (h : r.1 = 1) : placeB r n = decide (1 ≤ n) := by simp [placeB, refs, h]
theorem placeB_2 {r : RT} {n : Int} (h : r.1 = 2) : placeB r n = decide (1 ≤ n ∧ (1 ≤ r.2.2.1 ∧ r.2.2.1 < n) ∧ (1 ≤ r.2.2.2.1 ∧ r.2.2.2.1 < n)) := by simp [placeB, refs, h]
theorem placeB_3 {r : RT} {n : Int} (h : r.1 = 3) : placeB r n = decide (1 ≤ n ∧ 1 ≤ r.2.2.1 ∧ r.2.2.1 < n) := by simp [placeB, refs, h]

theorem rule_Refs_spec {r : RT} (s : Sp w0 Ω w) {K : Sl → World → Prop} (h : ∀ sl w', Sp w0 (own (.int .i64) sl (refs r) :: Ω) w' → K sl w') : C_rule_Refs r K w := by
  apply S_rule_Refs
  unfold F_rule_Refs
  refine s.allocK fun a1 w1 s => s.ldi (x := r.1) 0 0 rfl rfl (gd_eq (fun c1 => ?_) (fun c1 => gd_eq (fun c2 => ?_) (fun c2 => ?_)))
  · have e : refs r = [r.2.2.1, r.2.2.2.1] := by unfold refs; rw [if_pos c1]
    rw [e] at h
    exact s.ldi (x := r.2.2.1) 0 2 rfl rfl (s.ldi (x := r.2.2.2.1) 0 3 rfl rfl (s.allocK fun a2 w2 s => h _ _ ((s.lit (ty := .int .i64) 0 rfl [r.2.2.1, r.2.2.2.1] 2 rfl rfl).pick [0] 2 rfl (by decide))))
  · have e : refs r = [r.2.2.1] := by unfold refs; rw [if_neg c1, if_pos c2]
    rw [e] at h
    exact s.ldi (x := r.2.2.1) 0 2 rfl rfl (s.allocK fun a2 w2 s => h _ _ ((s.lit (ty := .int .i64) 0 rfl [r.2.2.1] 1 rfl rfl).pick [0] 2 rfl (by decide)))
  · have e : refs r = [] := by unfold refs; rw [if_neg c1, if_neg c2]
    rw [e] at h
    exact h _ _ (s.pop.nil (.int .i64))
end Go.Proofs.Ytedmbgddmckegaa

/- The contract of slices.Sort at this program's numbers: the kit's laying, as plain text printed by a program. No conditions. -/
namespace Go.Proofs.Ytedmbgddmckegaa
open Go.Shelf

def sortRen : Go.Shelf.Ren := ⟨fun | 5 => 73 | 8 => 84 | 7 => 83 | 19 => 99 | 20 => 100 | 10 => 90 | 11 => 91 | 12 => 92 | 13 => 93 | 14 => 94 | 15 => 95 | 16 => 96 | 17 => 97 | 18 => 98 | 30 => 104 | 31 => 105 | 32 => 106 | 33 => 107 | 34 => 108 | 35 => 109 | 40 => 110 | n => n, fun | 23 => 35 | 25 => 34 | 3 => 3 | 32 => 155 | 22 => 35 | 0 => 0 | 44 => 168 | 46 => 41 | 4 => 4 | 36 => 160 | 35 => 159 | 41 => 165 | 5 => 5 | 9 => 9 | 53 => 174 | 57 => 178 | 63 => 180 | 64 => 102 | n => n, fun n => n⟩
theorem sortLay : SlLaysM.n5 Try.prog sortRen := {
  mixed := by kernel_rfl,
  f5 := ⟨Try.f73.name, by decide, Try.func73.trans (congrArg some (by kernel_rfl))⟩,
  f7 := ⟨Try.f83.name, by decide, Try.func83.trans (congrArg some (by kernel_rfl))⟩,
  f8 := Try.func84.trans (congrArg some (by kernel_rfl)),
  f10 := ⟨Try.f90.name, by decide, Try.func90.trans (congrArg some (by kernel_rfl))⟩,
  f11 := ⟨Try.f91.name, by decide, Try.func91.trans (congrArg some (by kernel_rfl))⟩,
  f12 := ⟨Try.f92.name, by decide, Try.func92.trans (congrArg some (by kernel_rfl))⟩,
  f13 := ⟨Try.f93.name, by decide, Try.func93.trans (congrArg some (by kernel_rfl))⟩,
  f14 := ⟨Try.f94.name, by decide, Try.func94.trans (congrArg some (by kernel_rfl))⟩,
  f15 := ⟨Try.f95.name, by decide, Try.func95.trans (congrArg some (by kernel_rfl))⟩,
  f16 := ⟨Try.f96.name, by decide, Try.func96.trans (congrArg some (by kernel_rfl))⟩,
  f17 := ⟨Try.f97.name, by decide, Try.func97.trans (congrArg some (by kernel_rfl))⟩,
  f18 := ⟨Try.f98.name, by decide, Try.func98.trans (congrArg some (by kernel_rfl))⟩,
  f19 := Try.func99.trans (congrArg some (by kernel_rfl)),
  f20 := Try.func100.trans (congrArg some (by kernel_rfl)),
  f30 := ⟨Try.f104.name, by decide, Try.func104.trans (congrArg some (by kernel_rfl))⟩,
  f31 := Try.func105.trans (congrArg some (by kernel_rfl)),
  f32 := Try.func106.trans (congrArg some (by kernel_rfl)),
  f33 := ⟨Try.f107.name, by decide, Try.func107.trans (congrArg some (by kernel_rfl))⟩,
  f34 := ⟨Try.f108.name, by decide, Try.func108.trans (congrArg some (by kernel_rfl))⟩,
  f35 := ⟨Try.f109.name, by decide, Try.func109.trans (congrArg some (by kernel_rfl))⟩,
  f40 := ⟨Try.f110.name, by decide, Try.func110.trans (congrArg some (by kernel_rfl))⟩,
  t0 := Try.underlying0,
  a0 := Try.isAgg0,
  z0 := Try.sizeOf0,
  v0 := Try.zeroValue0,
  t3 := Try.underlying3,
  a3 := Try.isAgg3,
  z3 := Try.sizeOf3,
  v3 := Try.zeroValue3,
  t4 := Try.underlying4,
  a4 := Try.isAgg4,
  z4 := Try.sizeOf4,
  v4 := Try.zeroValue4,
  t5 := Try.underlying5,
  a5 := Try.isAgg5,
  z5 := Try.sizeOf5,
  v5 := Try.zeroValue5,
  t9 := Try.underlying9,
  a9 := Try.isAgg9,
  z9 := Try.sizeOf9,
  v9 := Try.zeroValue9,
  t22 := Try.underlying35,
  a22 := Try.isAgg35,
  z22 := Try.sizeOf35,
  v22 := Try.zeroValue35,
  t23 := Try.underlying35,
  a23 := Try.isAgg35,
  z23 := Try.sizeOf35,
  v23 := Try.zeroValue35,
  t25 := Try.underlying34,
  a25 := Try.isAgg34,
  z25 := Try.sizeOf34,
  v25 := Try.zeroValue34,
  t32 := Try.underlying155,
  a32 := Try.isAgg155,
  z32 := Try.sizeOf155,
  v32 := Try.zeroValue155,
  t35 := Try.underlying159,
  a35 := Try.isAgg159,
  z35 := Try.sizeOf159,
  v35 := Try.zeroValue159,
  t36 := Try.underlying160,
  a36 := Try.isAgg160,
  z36 := Try.sizeOf160,
  v36 := Try.zeroValue160,
  t41 := Try.underlying165,
  a41 := Try.isAgg165,
  z41 := Try.sizeOf165,
  v41 := Try.zeroValue165,
  t44 := Try.underlying168,
  a44 := Try.isAgg168,
  z44 := Try.sizeOf168,
  v44 := Try.zeroValue168,
  t46 := Try.underlying41,
  a46 := Try.isAgg41,
  z46 := Try.sizeOf41,
  v46 := Try.zeroValue41,
  t53 := Try.underlying174,
  a53 := Try.isAgg174,
  z53 := Try.sizeOf174,
  v53 := Try.zeroValue174,
  t57 := Try.underlying178,
  a57 := Try.isAgg178,
  z57 := Try.sizeOf178,
  v57 := Try.zeroValue178,
  t63 := Try.underlying180,
  a63 := Try.isAgg180,
  z63 := Try.sizeOf180,
  v63 := Try.zeroValue180,
  t64 := Try.underlying102,
  a64 := Try.isAgg102,
  z64 := Try.sizeOf102,
  v64 := Try.zeroValue102 }

end Go.Proofs.Ytedmbgddmckegaa

/- What slices.Sort leaves: the same numbers, in order. -/
set_option linter.unusedVariables false
set_option linter.unusedSimpArgs false
namespace Go.Proofs.Ytedmbgddmckegaa
open Go.Den

variable {w0 w : World} {Ω : List Ob} {sl : Sl} {xs : List (Ty.int .i64).T}

def srt (xs : List Int) : List Int := xs.mergeSort fun x y => decide (x ≤ y)
theorem srt_len (xs : List Int) : (srt xs).length = xs.length := List.length_mergeSort xs
theorem srt_perm (xs : List Int) : (srt xs).Perm xs := List.mergeSort_perm xs _
theorem srt_sorted (xs : List Int) : (srt xs).Pairwise (fun x y => x ≤ y) := by
  have := List.pairwise_mergeSort (le := fun (x y : Int) => decide (x ≤ y)) (fun a b c h1 h2 => by simp at *; omega) (fun a b => by simp; omega) xs
  exact this.imp fun h => by simpa using h
theorem flat_int (xs : List (Ty.int .i64).T) : flat (.int .i64) xs = xs.map (Value.int .i64) := by
  induction xs with
  | nil => rfl
  | cons x xs ih => simp only [flat, List.flatMap_cons, List.map_cons] at ih ⊢; rw [ih]; rfl
theorem addr_mk (q : Addr) (h : q.spot = none) : q = ⟨q.block, q.off, none⟩ := by cases q; cases h; rfl
theorem add_mk (b o j : Nat) : Addr.add ⟨b, o, none⟩ j = ⟨b, o + j, none⟩ := by
  unfold Addr.add; split <;> simp_all

/-- a row of a slice, sorted in place -/
theorem sort_own (o : Own (.int .i64) w sl xs) {q : Addr} (hq : sl.a = some q) (n : Nat) (os : Array Obj) (ys : List (Ty.int .i64).T) (hl : ys.length = xs.length) :
    Go.Sort.Holds (Value.int .i64) w q.block q.off (xs.toArray : Array Int) ∧ Own (.int .i64) (Go.Sort.grow (Go.Sort.putRow (Value.int .i64) (Go.Sort.ahead w n) q.block q.off (ys.toArray : Array Int)) os) sl ys ∧
    Fr (fun b => b = q.block) w (Go.Sort.grow (Go.Sort.putRow (Value.int .i64) (Go.Sort.ahead w n) q.block q.off (ys.toArray : Array Int)) os) := by
  have hs := addr_mk q (o.spot q hq)
  have hlt : q.block < w.heap.size := o.lt _ ⟨q, hq, rfl⟩
  have hlen := o.view.len
  have hcap := o.cap
  have hwr := o.wr q hq
  have hat := o.view.mem q hq
  rw [flat_int] at hat
  have e1 : ∀ j, Addr.add q j = ⟨q.block, q.off + j, none⟩ := fun j => by
    conv => lhs; rw [hs]
    exact add_mk _ _ _
  have holds : Go.Sort.Holds (Value.int .i64) w q.block q.off (xs.toArray : Array Int) := fun j hj => by
    have hj' : j < xs.length := by simpa using hj
    constructor
    · have := hat j (Value.int .i64 xs[j]) (by rw [List.getElem?_map, List.getElem?_eq_getElem hj']; rfl)
      rw [e1] at this
      rw [this]
      congr 2
      simp [hj']
    · have := (hwr j (by simp only [Ty.size]; omega)).2
      rw [e1] at this
      exact this
  refine ⟨holds, ?_, ?_⟩
  · have hh : Go.Sort.Holds (Value.int .i64) (Go.Sort.ahead w n) q.block q.off (xs.toArray : Array Int) := Go.Sort.holds_ahead _ _ _ _ _ _ holds
    have h1 := Go.Sort.holds_putRow (Value.int .i64) (Go.Sort.ahead w n) q.block q.off (xs.toArray : Array Int) (ys.toArray : Array Int) hh (by simp [hl])
    have hsz : (Go.Sort.putRow (Value.int .i64) (Go.Sort.ahead w n) q.block q.off (ys.toArray : Array Int)).heap.size = w.heap.size := by simp
    have h2 := Go.Sort.holds_grow (Value.int .i64) _ os q.block q.off (ys.toArray : Array Int) (by rw [hsz]; exact hlt) h1
    refine ⟨⟨by rw [hl]; exact hlen, fun q' hq' => ?_, fun _ => ⟨q, hq⟩⟩, hcap, fun q' hq' => ?_, fun h => (by rw [hq] at h; cases h), fun b hb => ?_, o.spot⟩
    · rw [hq] at hq'; cases hq'
      rw [flat_int]
      intro i v hi
      rw [List.getElem?_map] at hi
      have hil : i < ys.length := by
        cases h : ys[i]? with
        | none => rw [h] at hi; cases hi
        | some y => exact (List.getElem?_eq_some_iff.1 h).1
      rw [List.getElem?_eq_getElem hil] at hi
      have := (h2 i (by simpa using hil)).1
      rw [e1, this]
      simp only [Option.map_some] at hi
      rw [← hi]
      congr 2
      simp [hil]
    · rw [hq] at hq'; cases hq'
      intro i hi
      obtain ⟨⟨v, hv⟩, hf⟩ := hwr i hi
      have c1 : ∃ v, (Go.Sort.putRow (Value.int .i64) (Go.Sort.ahead w n) q.block q.off (ys.toArray : Array Int)).cell? (q.add i) = some v := by
        by_cases c : i < ys.length
        · have := (h1 i (by simpa using c)).1
          exact ⟨_, by rw [e1]; exact this⟩
        · refine ⟨v, ?_⟩
          rw [Go.Sort.cell?_putRow_other _ _ _ _ _ _ (by right; right; rw [e1]; simp; omega)]
          exact hv
      obtain ⟨v', hv'⟩ := c1
      refine ⟨⟨v', ?_⟩, ?_⟩
      · rw [Go.Sort.cell?_grow _ _ _ (by rw [hsz, e1]; exact hlt)]; exact hv'
      · rw [Go.Sort.frozen?_grow _ _ _ (by rw [hsz, e1]; exact hlt), Go.Sort.frozen?_putRow]; exact hf
    · have := o.lt b hb
      rw [Go.Sort.size_grow, hsz]; omega
  · refine ⟨by rw [Go.Sort.size_grow]; simp, fun b hb hne => ?_, rfl, rfl, rfl⟩
    have hsz : (Go.Sort.putRow (Value.int .i64) (Go.Sort.ahead w n) q.block q.off (ys.toArray : Array Int)).heap.size = w.heap.size := by simp
    rw [Go.Sort.heap_grow_old _ _ (by rw [hsz]; exact hb)]
    unfold Go.Sort.putRow Go.Sort.mapBlock
    simp only [Array.getElem?_modify, Go.Sort.heap_ahead]
    rw [if_neg (Ne.symm hne)]

theorem slices_Sort_sp (s : Sp w0 Ω w) (i : Nat) (hi : Ω[i]? = some (own (.int .i64) sl xs)) (hl : xs.length ≤ 1000000000) {K : Unit → World → Prop} (h : ∀ w', Sp w0 (Ω.set i (own (.int .i64) sl (srt xs))) w' → K () w') : C_slices_Sort sl K w := by
  obtain ⟨B, ⟨o, hB⟩, hlt, back⟩ := s.open i hi rfl
  have hlen := o.view.len
  cases hq : sl.a with
  | none =>
    have h0 := o.nil hq
    have hcap := o.cap
    have hx : xs = [] := List.eq_nil_of_length_eq_zero (by omega)
    have hn : sl.len = 0 := by omega
    have := AnyM.slices_Sort_int_none sortLay none sl.cap w
    unfold C_slices_Sort
    rw [hq, hn]
    refine Calls.mono this fun e w' ⟨he, hw⟩ => ⟨(), he, ?_⟩
    subst hw
    refine h _ ?_
    subst hx
    have : srt [] = [] := by simp [srt]
    rw [this]
    exact (setSame hi).symm ▸ s
  | some q =>
    have hs := addr_mk q (o.spot q hq)
    have key := sort_own o hq
    have := AnyM.slices_Sort_int sortLay q.block q.off sl.cap xs w (key 0 #[] xs rfl).1 (o.lt _ ⟨q, hq, rfl⟩) (by omega)
    unfold C_slices_Sort
    rw [hq, hlen]
    rw [← hs] at this
    refine Calls.mono this fun e w' ⟨he, n, os, hw⟩ => ⟨(), he, ?_⟩
    obtain ⟨_, o', f⟩ := key n os (srt xs) (srt_len xs)
    subst hw
    exact h _ (back _ B _ ⟨o', hB⟩ (f.mono fun b _ hb => hb ▸ hB _ ⟨q, hq, rfl⟩) (fun _ h => Or.inl h) fun b hb => Nat.lt_of_lt_of_le (hlt b hb).2 f.size)

end Go.Proofs.Ytedmbgddmckegaa

/- What rules reach, and the list of that in order. -/
set_option linter.unusedVariables false
set_option linter.unusedSimpArgs false
namespace Go.Proofs.Ytedmbgddmckegaa
open Go.Den

variable {T : List ET} {S : List Int}

inductive Rch (T : List ET) (S : List Int) : Int → Prop
  | root {x : Int} : x ∈ S → x ≠ 0 → Rch T S x
  | ref {y x : Int} : Rch T S y → x ∈ refs (eAt T y).1 → Rch T S x

theorem refs_in (g : Grow T) {y x : Int} (h1 : 1 ≤ y) (h2 : y ≤ T.length) (h : x ∈ refs (eAt T y).1) : 1 ≤ x ∧ x < y := by
  cases g.shape h1 h2 with
  | letter b _ _ e => rw [e] at h; simp [refs, mkLetter] at h
  | pair l r _ _ _ _ _ e =>
    rw [e] at h
    have : x = l ∨ x = r := by simpa [refs, mkPair] using h
    rcases this with rfl | rfl <;> omega
  | power a k _ _ _ _ e =>
    rw [e] at h
    have : x = a := by simpa [refs, mkPower] using h
    subst this; omega
theorem Rch.bound (g : Grow T) (hS : ∀ x ∈ S, 0 ≤ x ∧ x ≤ T.length) {x : Int} (h : Rch T S x) : 1 ≤ x ∧ x ≤ T.length := by
  induction h with
  | root h1 h2 => have := hS _ h1; omega
  | ref h1 h2 ih =>
    have := refs_in g ih.1 ih.2 h2
    omega
noncomputable def rlist (T : List ET) (S : List Int) : List Int := ((List.range T.length).map fun i : Nat => (i : Int) + 1).filter fun x => @decide (Rch T S x) (Classical.propDecidable _)
theorem mem_rlist {x : Int} : x ∈ rlist T S ↔ (1 ≤ x ∧ x ≤ T.length) ∧ Rch T S x := by
  unfold rlist
  rw [List.mem_filter]
  have : x ∈ ((List.range T.length).map fun i : Nat => (i : Int) + 1) ↔ 1 ≤ x ∧ x ≤ T.length := by
    rw [List.mem_map]
    constructor
    · rintro ⟨i, hi, rfl⟩
      have := List.mem_range.1 hi
      omega
    · intro h
      exact ⟨(x - 1).toNat, List.mem_range.2 (by omega), by omega⟩
  rw [this]
  simp
theorem rlist_sorted : (rlist T S).Pairwise (fun x y => x < y) := by
  unfold rlist
  refine List.Pairwise.filter _ ?_
  rw [List.pairwise_map]
  exact List.pairwise_lt_range.imp fun h => by omega
theorem rlist_nodup : (rlist T S).Nodup := rlist_sorted.imp fun h => by omega
theorem rlist_mem (g : Grow T) (hS : ∀ x ∈ S, 0 ≤ x ∧ x ≤ T.length) {x : Int} : x ∈ rlist T S ↔ Rch T S x := by
  rw [mem_rlist]
  exact ⟨fun h => h.2, fun h => ⟨h.bound g hS, h⟩⟩
theorem sorted_unique {L M : List Int} (hL : L.Pairwise (fun x y => x < y)) (hM : M.Pairwise (fun x y => x < y)) (h : ∀ x, x ∈ L ↔ x ∈ M) : L = M := by
  induction L generalizing M with
  | nil =>
    cases M with
    | nil => rfl
    | cons y M => have := (h y).2 (by simp); cases this
  | cons x L ih =>
    cases M with
    | nil => have := (h x).1 (by simp); cases this
    | cons y M =>
      rw [List.pairwise_cons] at hL hM
      have hxy : x = y := by
        have h1 := (h x).1 (by simp)
        have h2 := (h y).2 (by simp)
        rcases List.mem_cons.1 h1 with h1 | h1
        · exact h1
        · rcases List.mem_cons.1 h2 with h2 | h2
          · exact h2.symm
          · have := hM.1 x h1; have := hL.1 y h2; omega
      subst hxy
      congr 1
      refine ih hL.2 hM.2 fun z => ?_
      have := h z
      simp only [List.mem_cons] at this
      constructor
      · intro hz
        rcases this.1 (Or.inr hz) with rfl | h'
        · have := hL.1 z hz; omega
        · exact h'
      · intro hz
        rcases this.2 (Or.inr hz) with rfl | h'
        · have := hM.1 z hz; omega
        · exact h'
theorem srt_lt {L : List Int} (hn : L.Nodup) : (srt L).Pairwise (fun x y => x < y) := by
  have h1 := srt_sorted L
  have h2 : (srt L).Nodup := (srt_perm L).nodup_iff.2 hn
  exact (h1.and h2).imp fun ⟨a, b⟩ => by omega
theorem srt_rlist (g : Grow T) (hS : ∀ x ∈ S, 0 ≤ x ∧ x ≤ T.length) {L : List Int} (hn : L.Nodup) (h : ∀ x, x ∈ L ↔ Rch T S x) : srt L = rlist T S :=
  sorted_unique (srt_lt hn) rlist_sorted fun x => by rw [(srt_perm L).mem_iff, h, rlist_mem g hS]
theorem rlist_zero : rlist T [0] = [] := by
  apply List.eq_nil_iff_forall_not_mem.2
  intro x hx
  have h := (mem_rlist.1 hx).2
  have key : ∀ x, Rch T [0] x → False := by
    intro x h
    induction h with
    | root h1 h2 => simp at h1; exact h2 h1
    | ref _ _ ih => exact ih
  exact key x h
theorem rlist_len (T : List ET) (S : List Int) : (rlist T S).length ≤ T.length := by
  unfold rlist
  refine Nat.le_trans (List.length_filter_le _ _) ?_
  simp

/-- a list of different numbers from 1 to n is no longer than n -/
theorem nodup_bound {L : List Int} {n : Nat} (hn : L.Nodup) (h : ∀ x ∈ L, 1 ≤ x ∧ x ≤ n) : L.length ≤ n := by
  have hp : srt L = ((List.range n).map fun i : Nat => (i : Int) + 1).filter (fun x => decide (x ∈ L)) := by
    refine sorted_unique (srt_lt hn) (List.Pairwise.filter _ (by rw [List.pairwise_map]; exact List.pairwise_lt_range.imp fun h => by omega)) fun x => ?_
    rw [(srt_perm L).mem_iff, List.mem_filter, List.mem_map]
    constructor
    · intro hx
      have := h x hx
      exact ⟨⟨(x - 1).toNat, List.mem_range.2 (by omega), by omega⟩, decide_eq_true hx⟩
    · intro hx
      exact of_decide_eq_true hx.2
  have h1 := srt_len L
  rw [hp] at h1
  rw [← h1]
  refine Nat.le_trans (List.length_filter_le _ _) ?_
  simp

/-! ### Positions -/
def ent (ids : List Int) : List ((Ty.int .i64).T × (Ty.int .i64).T) := ids.zipIdx.map fun p => (p.1, (p.2 : Int) + 1)
theorem ent_append (ids : List Int) (x : Int) : ent (ids ++ [x]) = ent ids ++ [(x, (ids.length : Int) + 1)] := by
  simp [ent, List.zipIdx_append]
theorem lk_append {kt vt : Ty} {es fs : List (kt.T × vt.T)} {x : kt.T} : lk (es ++ fs) x = (lk es x).or (lk fs x) := by
  unfold lk
  rw [List.find?_append]
  cases es.find? (fun p => beqT kt x p.1) <;> rfl
theorem lk_one {kt vt : Ty} (hk : leafT kt = true) {k x : kt.T} {v : vt.T} [DecidableEq kt.T] : lk [(k, v)] x = if x = k then some v else none := by
  unfold lk
  by_cases h : x = k
  · rw [if_pos h]
    have : beqT kt x k = true := (beqT_iff kt hk _ _).2 h
    simp [this]
  · rw [if_neg h]
    have : beqT kt x k = false := by
      cases hb : beqT kt x k
      · rfl
      · exact absurd ((beqT_iff kt hk _ _).1 hb) h
    simp [this]
theorem lk_ent_none {ids : List Int} {y : Int} (h : y ∉ ids) : lk (ent ids) y = none := by
  unfold lk
  have : (ent ids).find? (fun p => beqT (.int .i64) y p.1) = none := by
    rw [List.find?_eq_none]
    intro p hp hb
    have e := (beqT_iff (.int .i64) rfl _ _).1 hb
    unfold ent at hp
    obtain ⟨⟨a, i⟩, hq, rfl⟩ := List.mem_map.1 hp
    have := (List.mem_zipIdx hq).2.2
    exact h (by rw [show y = a from e, this]; exact List.getElem_mem _)
  rw [this]; rfl
theorem snoc_ind {α : Type} {M : List α → Prop} (h0 : M []) (h1 : ∀ L x, M L → M (L ++ [x])) (L : List α) : M L := by
  have key : ∀ (n : Nat) (L : List α), L.length = n → M L := by
    intro n
    induction n with
    | zero => intro L h; rw [List.eq_nil_of_length_eq_zero h]; exact h0
    | succ n ih =>
      intro L h
      obtain ⟨L', e, rfl⟩ : ∃ L' e, L = L' ++ [e] := ⟨L.dropLast, L.getLast (by intro h'; rw [h'] at h; simp at h), (List.dropLast_concat_getLast _).symm⟩
      exact h1 L' e (ih L' (by simpa using h))
  exact key _ L rfl
theorem lk_ent_some : ∀ {ids : List Int} {y : Int} {k : Nat}, ids.Nodup → ids[k]? = some y → lk (ent ids) y = some ((k : Int) + 1) := by
  intro ids
  refine snoc_ind (M := fun ids => ∀ {y : Int} {k : Nat}, ids.Nodup → ids[k]? = some y → lk (ent ids) y = some ((k : Int) + 1)) ?_ ?_ ids
  · intro y k _ h; simp at h
  · intro L x ih y k hn h
    rw [List.nodup_append] at hn
    rw [ent_append, lk_append]
    by_cases hk : k < L.length
    · rw [List.getElem?_append_left hk] at h
      rw [ih hn.1 h]; rfl
    · have hk' : k = L.length := by
        have := (List.getElem?_eq_some_iff.1 h).1
        simp at this; omega
      subst hk'
      have hx : x = y := by simpa using h
      subst hx
      rw [lk_ent_none (fun hm => (hn.2.2 x hm x (by simp)) rfl), lk_one rfl, if_pos rfl]
      rfl
def pos (ids : List Int) (y : Int) : Int := (lk (ent ids) y).getD (0 : Int)
theorem pos_none {ids : List Int} {y : Int} (h : y ∉ ids) : pos ids y = 0 := by unfold pos; rw [lk_ent_none h]; rfl
theorem pos_some {ids : List Int} {y : Int} {k : Nat} (hn : ids.Nodup) (h : ids[k]? = some y) : pos ids y = (k : Int) + 1 := by unfold pos; rw [lk_ent_some hn h]; rfl

/-! ### The grammar of a list of rules -/
def mvr (ids : List Int) (r : RT) : RT := (r.1, r.2.1, pos ids r.2.2.1, pos ids r.2.2.2.1, r.2.2.2.2)
def exp (T : List ET) (ids : List Int) : List yapi_Rule.T := ids.map fun x => mvr ids (eAt T x).1
theorem exp_len (T : List ET) (ids : List Int) : (exp T ids).length = ids.length := List.length_map _
structure Closed (T : List ET) (ids : List Int) : Prop where
  sorted : ids.Pairwise (fun x y => x < y)
  bound : ∀ x ∈ ids, 1 ≤ x ∧ x ≤ T.length
  refs : ∀ y ∈ ids, ∀ x ∈ refs (eAt T y).1, x ∈ ids
theorem Closed.nodup {ids : List Int} (h : Closed T ids) : ids.Nodup := h.sorted.imp fun h => by omega
theorem rlist_closed (g : Grow T) (hS : ∀ x ∈ S, 0 ≤ x ∧ x ≤ T.length) : Closed T (rlist T S) :=
  ⟨rlist_sorted, fun x hx => (mem_rlist.1 hx).1, fun y hy x hx => (rlist_mem g hS).2 (.ref (mem_rlist.1 hy).2 hx)⟩
theorem sorted_lt {ids : List Int} (hs : ids.Pairwise (fun x y => x < y)) {i j : Nat} {x y : Int} (hi : ids[i]? = some x) (hj : ids[j]? = some y) : x < y ↔ i < j := by
  have key : ∀ {i j : Nat} {x y : Int}, ids[i]? = some x → ids[j]? = some y → i < j → x < y := by
    intro i j x y hi hj h
    have := (List.pairwise_iff_getElem.1 hs) i j (List.getElem?_eq_some_iff.1 hi).1 (List.getElem?_eq_some_iff.1 hj).1 h
    rwa [(List.getElem?_eq_some_iff.1 hi).2, (List.getElem?_eq_some_iff.1 hj).2] at this
  constructor
  · intro h
    rcases Nat.lt_trichotomy i j with h' | h' | h'
    · exact h'
    · subst h'; rw [hi] at hj; cases hj; omega
    · have := key hj hi h'; omega
  · exact key hi hj

end Go.Proofs.Ytedmbgddmckegaa

/- Certificates' rows: what makes them consistent; the walks of avl's Verify and of the specification's. -/
set_option linter.unusedVariables false
set_option linter.unusedSimpArgs false
namespace Go.Proofs.Ytedmbgddmckegaa
open Go.Den

variable {w0 w : World} {Ω : List Ob} {i : Nat}

abbrev RowT := Int × Int × Int × Int × Int
def rId (r : RowT) : Int := r.1
def rL (r : RowT) : Int := r.2.1
def rR (r : RowT) : Int := r.2.2.1
def rD (r : RowT) : Int := r.2.2.2.1
def rN (r : RowT) : Int := r.2.2.2.2
def fd (E : List RowT) (x : Int) : Option RowT := E.find? fun r => decide (x = rId r)
def leafR (r : RowT) : Bool := decide (rL r = 0) && decide (rR r = 0) && decide (rD r = 0) && decide (rN r = 1)
def fit (r a b : RowT) : Bool := decide (-1 ≤ rD a - rD b ∧ rD a - rD b ≤ 1 ∧ rD r = 1 + max (rD a) (rD b) ∧ rN r = rN a + rN b ∧ rN a + rN b ≤ 1152921504606846976)
def pairR (E : List RowT) (r : RowT) : Bool := match fd E (rL r), fd E (rR r) with
  | some a, some b => fit r a b
  | _, _ => false
def rowR (E : List RowT) (last : Int) (r : RowT) : Bool := decide (last < rId r) && (leafR r || pairR E r)
def lastR (E : List RowT) : Int := (E.getLast?.map rId).getD 0
def vrf (l : List RowT) : Nat → Bool
  | 0 => true
  | n + 1 => vrf l n && (match l[n]? with | some r => rowR (l.take n) (lastR (l.take n)) r | none => true)
theorem vrf_succ {l : List RowT} {n : Nat} (h : n < l.length) : vrf l (n + 1) = (vrf l n && rowR (l.take n) (lastR (l.take n)) l[n]) := by
  show (vrf l n && _) = _
  rw [List.getElem?_eq_getElem h]
theorem vrf_false {l : List RowT} {n m : Nat} (h : vrf l n = false) (hm : n ≤ m) : vrf l m = false := by
  induction hm with
  | refl => exact h
  | step _ ih => show (vrf l _ && _) = false; rw [ih]; rfl
theorem take_succ' {α : Type} {l : List α} {n : Nat} (h : n < l.length) : l.take (n + 1) = l.take n ++ [l[n]] := by
  rw [List.take_add_one, List.getElem?_eq_getElem h]; rfl
theorem lastR_snoc (E : List RowT) (r : RowT) : lastR (E ++ [r]) = rId r := by simp [lastR]

def RowInv (r : RowT) : Prop := 0 ≤ rD r ∧ (fibL (rD r).toNat : Int) ≤ rN r ∧ rN r ≤ 1152921504606846976
theorem RowInv.dep {r : RowT} (h : RowInv r) : 0 ≤ rD r ∧ rD r ≤ 86 ∧ 1 ≤ rN r ∧ rN r ≤ 1152921504606846976 := by
  obtain ⟨h1, h2, h3⟩ := h
  have := fibL_small (j := (rD r).toNat) (by omega)
  have := fibL_pos (rD r).toNat
  omega
theorem fib_pair {a b : Nat} (h1 : a ≤ b + 1) (h2 : b ≤ a + 1) : fibL (1 + max a b) ≤ fibL a + fibL b := by
  have key : ∀ b : Nat, fibL (b + 1) ≤ fibL b + fibL b := fun b => by
    cases b with
    | zero => decide
    | succ b => show fibL b + fibL (b + 1) ≤ _; have := fibL_mono b; omega
  rcases Nat.lt_trichotomy a b with c | c | c
  · have e : b = a + 1 := by omega
    subst e
    rw [show 1 + max a (a + 1) = a + 2 by omega]
    exact Nat.le_refl _
  · subst c
    rw [show 1 + max a a = a + 1 by omega]
    exact key a
  · have e : a = b + 1 := by omega
    subst e
    rw [show 1 + max (b + 1) b = b + 2 by omega, fibL_step]
    omega
theorem fd_mem {E : List RowT} {x : Int} {r : RowT} (h : fd E x = some r) : r ∈ E ∧ rId r = x := by
  unfold fd at h
  exact ⟨List.mem_of_find?_eq_some h, (of_decide_eq_true (p := x = rId r) (List.find?_some (p := fun r => decide (x = rId r)) h)).symm⟩
theorem leafR_inv {r : RowT} (h : leafR r = true) : RowInv r := by
  unfold leafR at h
  simp only [Bool.and_eq_true, decide_eq_true_eq] at h
  obtain ⟨⟨⟨_, _⟩, h3⟩, h4⟩ := h
  unfold RowInv
  rw [h3, h4]
  decide
theorem pairR_inv {E : List RowT} {r : RowT} (hE : ∀ r ∈ E, RowInv r) (h : pairR E r = true) : RowInv r := by
  unfold pairR at h
  split at h
  · rename_i a b ha hb
    have ia := hE a (fd_mem ha).1
    have ib := hE b (fd_mem hb).1
    obtain ⟨h1, h2, h3, h4, h5⟩ := of_decide_eq_true h
    obtain ⟨a1, a2, a3⟩ := ia
    obtain ⟨b1, b2, b3⟩ := ib
    unfold RowInv
    have := fib_pair (a := (rD a).toNat) (b := (rD b).toNat) (by omega) (by omega)
    rw [show 1 + max (rD a).toNat (rD b).toNat = (rD r).toNat by omega] at this
    omega
  · cases h
theorem vrf_inv {l : List RowT} : ∀ {n : Nat}, n ≤ l.length → vrf l n = true → ∀ r ∈ l.take n, RowInv r ∧ 1 ≤ rId r ∧ rId r ≤ lastR (l.take n) := by
  intro n
  induction n with
  | zero => intro _ _ r hr; simp at hr
  | succ n ih =>
    intro hn hv
    rw [vrf_succ hn, Bool.and_eq_true] at hv
    obtain ⟨hv1, hv2⟩ := hv
    have ih := ih (by omega) hv1
    unfold rowR at hv2
    rw [Bool.and_eq_true] at hv2
    have hlast := of_decide_eq_true hv2.1
    have h0 : 0 ≤ lastR (l.take n) := by
      rcases List.eq_nil_or_concat (l.take n) with e | ⟨E, r, e⟩
      · rw [e]; exact Int.le_refl 0
      · have hr : r ∈ l.take n := by rw [e]; simp
        have := ih r hr
        omega
    intro r hr
    rw [take_succ' hn] at hr ⊢
    rw [lastR_snoc]
    rcases List.mem_append.1 hr with hr | hr
    · obtain ⟨i1, i2, i3⟩ := ih r hr
      exact ⟨i1, i2, by omega⟩
    · rw [List.mem_singleton] at hr
      subst hr
      refine ⟨?_, by omega, Int.le_refl _⟩
      rcases Bool.or_eq_true _ _ ▸ hv2.2 with h | h
      · exact leafR_inv h
      · exact pairR_inv (fun r hr => (ih r hr).1) h

/-! ### The map of the earlier rows -/
theorem eqIDr : eqOK P 1 t_api_ID (.int .i64) = true := by kernel_rfl
theorem mapIR : P.underlying t_map_api_ID_avl_Row = some (.map t_api_ID (mapElem t_map_api_ID_avl_Row)) := by kernel_rfl
theorem zeroIR : zeroOf P (mapElem t_map_api_ID_avl_Row) = some (val yavl_Row ((0, 0, 0, 0, 0) : RowT)) := by kernel_rfl
def entR (E : List RowT) : List ((Ty.int .i64).T × yavl_Row.T) := E.map fun r => (rId r, r)
theorem lk_entR (E : List RowT) (x : Int) : lk (kt := .int .i64) (vt := yavl_Row) (entR E) x = fd E x := by
  induction E with
  | nil => rfl
  | cons r E ih =>
    have e : entR (r :: E) = [(rId r, r)] ++ entR E := rfl
    rw [e, lk_append, lk_one rfl, ih]
    unfold fd
    rw [List.find?_cons]
    by_cases h : x = rId r
    · rw [if_pos h, decide_eq_true h]; rfl
    · rw [if_neg h, decide_eq_false h]; rfl
theorem entR_snoc (E : List RowT) (r : RowT) : entR (E ++ [r]) = entR E ++ [(rId r, r)] := by simp [entR]
theorem fd_none {E : List RowT} {x : Int} (h : ∀ r ∈ E, rId r < x) : fd E x = none := by
  unfold fd
  rw [List.find?_eq_none]
  intro r hr hb
  have := of_decide_eq_true hb
  have := h r hr
  omega

theorem avl_pair_spec {E : List RowT} {r : RowT} {b : Nat} (s : Sp w0 Ω w) (i : Nat) (hi : Ω[i]? = some (mp (.int .i64) yavl_Row b (entR E))) (hE : ∀ r ∈ E, RowInv r) {K : Bool → World → Prop}
    (h : ∀ w', Sp w0 Ω w' → K (pairR E r) w') : C_avl_pair r (some b) K w := by
  apply S_avl_pair
  unfold F_avl_pair
  unfold pairR at h
  refine s.allocK fun a1 w1 s => s.ldi (x := rL r) 0 1 rfl rfl ⟨_, _, lk2_run (by decide) mapIR eqIDr (by simp) zeroIR (s.mp_ (i + 1) hi) (rL r), ?_⟩
  rw [lk_entR]
  refine s.allocK fun a5 w2 s => s.st0 0 rfl rfl rfl fun w3 s => ?_
  cases ha : fd E (rL r) with
  | none =>
    rw [ha] at h
    exact gd_t rfl (h _ (s.drop 2))
  | some a =>
  rw [ha] at h s
  refine gd_f rfl (s.ldi (x := rR r) 1 2 rfl rfl ⟨_, _, lk2_run (by decide) mapIR eqIDr (by simp) zeroIR (s.mp_ (i + 2) hi) (rR r), ?_⟩)
  rw [lk_entR]
  refine s.allocK fun a9 w4 s => s.st0 0 rfl rfl rfl fun w5 s => ?_
  cases hb : fd E (rR r) with
  | none =>
    rw [hb] at h
    exact gd_t rfl (h _ (s.drop 3))
  | some b =>
  rw [hb] at h s
  have ia := (hE a (fd_mem ha).1).dep
  have ib := (hE b (fd_mem hb).1).dep
  have hh : ∀ w', Sp w0 Ω w' → K (fit r a b) w' := h
  have yes : fit r a b = true → ∀ w', Sp w0 Ω w' → K true w' := fun e w' s => by rw [← e]; exact hh w' s
  have no : fit r a b = false → ∀ w', Sp w0 Ω w' → K false w' := fun e w' s => by rw [← e]; exact hh w' s
  have m1 : (if rD a < rD b then rD b else rD a) = max (rD a) (rD b) := by split <;> omega
  refine gd_f rfl (s.ldi (x := rD a) 1 3 rfl rfl (s.ldi (x := rD b) 0 3 rfl rfl (arith_i64 (by omega) (by omega) (s.ldi (x := rN a) 1 4 rfl rfl (s.ldi (x := rN b) 0 4 rfl rfl (length_Add_spec ⟨by omega, by omega⟩ ⟨by omega, by omega⟩ (fun hle => ?_) (fun hgt => ?_)))))))
  · refine gd_dec (fun c1 => gd_dec (fun c2 => ?_) (fun c2 => no (decide_eq_false (by omega)) _ (s.drop 3))) (fun c1 => no (decide_eq_false (by omega)) _ (s.drop 3))
    refine s.ldi (x := rD r) 2 3 rfl rfl (s.ldi (x := rD a) 1 3 rfl rfl (s.ldi (x := rD b) 0 3 rfl rfl (arith_i64 (by omega) (by omega) (gd_eq (fun c3 => ?_) (fun c3 => no (decide_eq_false (by omega)) _ (s.drop 3))))))
    refine nilIfc_nil (gd_t rfl (s.ldi (x := rN r) 2 4 rfl rfl ?_))
    have e : (rN r == rN a + rN b) = fit r a b := by
      by_cases c4 : rN r = rN a + rN b
      · rw [show fit r a b = true from decide_eq_true (by omega)]; simp [c4]
      · rw [show fit r a b = false from decide_eq_false (by omega)]; simp [c4]
    show K (rN r == rN a + rN b) _
    rw [e]
    exact hh _ (s.drop 3)
  · have hno := no (decide_eq_false (by omega))
    refine gd_dec (fun c1 => gd_dec (fun c2 => ?_) (fun c2 => hno _ (s.drop 3))) (fun c1 => hno _ (s.drop 3))
    exact s.ldi (x := rD r) 2 3 rfl rfl (s.ldi (x := rD a) 1 3 rfl rfl (s.ldi (x := rD b) 0 3 rfl rfl (arith_i64 (by omega) (by omega) (gd_eq (fun c3 => nilIfc_err (gd_f rfl (hno _ (s.drop 3)))) (fun c3 => hno _ (s.drop 3))))))

theorem avl_Verify_spec {sl : Sl} {l : List RowT} (hv : View yavl_Row w0 sl l) (hN : (l.length : Int) ≤ 4611686018427387904) {K : Bool → World → Prop} (h : ∀ w', Ext w0 w' → K (vrf l l.length) w') : C_avl_Verify sl K w0 := by
  apply S_avl_Verify
  unfold F_avl_Verify
  have hlen := hv.len
  refine (Sp.init w0).allocMap (.int .i64) yavl_Row fun r w1 s => ?_
  refine loop_by (fun x => x.2.1) l.length (fun n x w => x.1 = lastR (l.take n) ∧ vrf l n = true ∧ Sp w0 [mp (.int .i64) yavl_Row r (entR (l.take n))] w) rfl ⟨rfl, rfl, s⟩ ?_
  rintro n ⟨last, x, _⟩ w2 hn hx ⟨hl, hok, s⟩ _
  dsimp only at hx hl ⊢
  subst hx hl
  have hinv := vrf_inv hn hok
  refine gd_dec (fun hlt => ?_) (fun hge => ?_)
  rotate_left
  · have e : n = l.length := by omega
    subst e
    have := h _ s.ext
    rwa [hok] at this
  have hn' : n < l.length := by omega
  have hstep := vrf_succ hn'
  rw [hok, Bool.true_and] at hstep
  have htake := take_succ' hn'
  have hget := List.getElem?_eq_getElem hn'
  generalize l[n] = y at hstep htake hget
  have bad : rowR (l.take n) (lastR (l.take n)) y = false → ∀ w', Ext w0 w' → K false w' := fun e w' hw => by
    have := h w' hw
    rwa [vrf_false (hstep.trans e) hn'] at this
  refine (hv.ext s.ext).idx rfl hget rfl fun q hq => ⟨y, hq, s.allocK fun a6 w3 s => s.st0 0 rfl rfl rfl fun w4 s => s.ldi (x := rId y) 0 0 rfl rfl (gd_dec (fun c => bad (by unfold rowR; rw [decide_eq_false (by omega)]; rfl) _ s.ext) fun c => ?_)⟩
  have hrow : rowR (l.take n) (lastR (l.take n)) y = (leafR y || pairR (l.take n) y) := by unfold rowR; rw [decide_eq_true (by omega)]; rfl
  refine s.ldi (x := rId y) 0 0 rfl rfl ⟨fun x w => x.1 = leafR y ∧ Sp w0 [cel a6 (cells yavl_Row y), mp (.int .i64) yavl_Row r (entR (l.take n))] w, ?_, ?_⟩
  · unfold leafR
    refine s.ldi (x := rL y) 0 1 rfl rfl (gd_eq (fun c1 => s.ldi (x := rR y) 0 2 rfl rfl (gd_eq (fun c2 => s.ldi (x := rD y) 0 3 rfl rfl (gd_eq (fun c3 => s.ldi (x := rN y) 0 4 rfl rfl ⟨?_, s⟩) (fun c3 => ⟨?_, s⟩))) (fun c2 => ⟨?_, s⟩))) (fun c1 => ⟨?_, s⟩))
    · simp [c1, c2, c3]; rfl
    · simp [c3]
    · simp [c2]
    · simp [c1]
  rintro ⟨b1, _⟩ w5 ⟨hb1, s⟩ _
  dsimp only at hb1 ⊢
  subst hb1
  refine ⟨fun x w => x.1 = (!(leafR y || pairR (l.take n) y)) ∧ Sp w0 [cel a6 (cells yavl_Row y), mp (.int .i64) yavl_Row r (entR (l.take n))] w, ?_, ?_⟩
  · refine gd_not (gd_mk (fun e => ⟨by rw [e]; rfl, s⟩) (fun e => s.ld0 0 rfl rfl (avl_pair_spec s 1 rfl (fun r hr => (hinv r hr).1) fun w7 s => ⟨by rw [e]; rfl, s⟩)))
  rintro ⟨b2, _⟩ w6 ⟨hb2, s⟩ _
  dsimp only at hb2 ⊢
  subst hb2
  rw [← hrow]
  refine gd_not (gd_mk (fun e => ?_) (fun e => bad e _ s.ext))
  refine s.ldi (x := rId y) 0 0 rfl rfl (s.ld0 (ty := yavl_Row) (x := y) 0 rfl rfl (s.upNew 1 rfl (by decide) mapIR eqIDr (by simp) (rId y) y ?_ fun w8 s => arith_i64 (by omega) (by omega) (loop_nx hn' ⟨?_, ?_, ?_⟩)))
  · rw [lk_entR]
    exact fd_none fun r hr => by have := (hinv r hr).2.2; omega
  · rw [htake, lastR_snoc]
  · rw [hstep]; exact e
  · rw [htake, entR_snoc]; exact s.pop

end Go.Proofs.Ytedmbgddmckegaa

/- The specification's Verify; the walk of AvlVerifies. -/
set_option linter.unusedVariables false
set_option linter.unusedSimpArgs false
namespace Go.Proofs.Ytedmbgddmckegaa
open Go.Den

variable {w0 w : World} {Ω : List Ob} {i : Nat}

theorem View.slTo {ty : Ty} {s : Sl} {xs : List ty.T} {K : Sl → Prop} {sz n : Nat} (v : View ty w s xs) (hn : n ≤ xs.length) (hc : s.len ≤ s.cap) (h : ∀ s', (∀ w', View ty w' s xs → View ty w' s' (xs.take n)) → K s') : slK sz s.a s.len s.cap none (some (n : Int)) K := by
  have hl := v.len
  refine ⟨fun h e => (by cases e; omega), fun l e => (by cases e), h _ fun w' v' => ⟨?_, fun q hq => ?_, fun hne => ?_⟩⟩
  · simp only [List.length_take]; omega
  · have hq' : s.a = some q := by
      dsimp only at hq
      split at hq
      · exact hq
      · cases ha : s.a with
        | none => rw [ha] at hq; cases hq
        | some a => rw [ha] at hq; rw [← hq]; simp [Addr.add]
    have := v'.mem q hq'
    rw [← List.take_append_drop n xs, flat_append] at this
    exact this.left
  · obtain ⟨q, hq⟩ := v'.ne (fun e => by rw [e] at hne; simp at hne)
    dsimp only
    split
    · exact ⟨q, hq⟩
    · exact ⟨q, by rw [hq]; simp [Addr.add]⟩

theorem ref13_find_spec {sl : Sl} {E : List RowT} {x : Int} (hv : View yevergreenref13_Row w0 sl E) (hN : (E.length : Int) ≤ 4611686018427387904) {K : RowT × Bool → World → Prop}
    (h : ∀ w', Ext w0 w' → K ((fd E x).getD (0, 0, 0, 0, 0), (fd E x).isSome) w') : C_ref13_find sl x K w0 := by
  apply S_ref13_find
  unfold F_ref13_find
  have hlen := hv.len
  refine (Sp.init w0).allocK fun a1 w1 s => ?_
  refine loop_by (fun x => x.1) E.length (fun n _ w => (∀ r ∈ E.take n, rId r ≠ x) ∧ Sp w0 [cel a1 [.int .i64 (0 : Int), .int .i64 (0 : Int), .int .i64 (0 : Int), .int .i64 (0 : Int), .int .i64 (0 : Int)]] w) rfl ⟨by simp, s⟩ ?_
  rintro n ⟨k, _⟩ w2 hn hx ⟨hno, s⟩ _
  dsimp only at hx ⊢
  subst hx
  refine gd_dec (fun hlt => ?_) (fun hge => ?_)
  · have hn' : n < E.length := by omega
    have htake := take_succ' hn'
    have hget := List.getElem?_eq_getElem hn'
    generalize hy : E[n] = y at htake hget
    refine (hv.ext s.ext).idx2 rfl hget rfl fun q hq => ⟨rId y, ((hq _ (hv.ext s.ext)).sub 0 rfl : At _ (q.add 0) (cells (.int .i64) (rId y))), gd_eq (fun c => ?_) (fun c => ?_)⟩
    · have hf : fd E x = some y := by
        unfold fd
        rw [List.find?_eq_some_iff_append]
        refine ⟨decide_eq_true c.symm, E.take n, E.drop (n + 1), ?_, fun r hr => ?_⟩
        · rw [← hy, ← List.drop_eq_getElem_cons hn', List.take_append_drop]
        · rw [decide_eq_false (fun e => hno r hr e.symm)]; rfl
      rw [hf] at h
      refine (hv.ext s.ext).idx rfl hget rfl fun q hq => ⟨y, hq, s.st0 0 rfl rfl rfl fun w3 s => s.ld0 (ty := yevergreenref13_Row) (x := y) 0 rfl rfl (h _ s.ext)⟩
    · refine arith_i64 (by omega) (by omega) (loop_nx hn' ⟨fun r hr => ?_, s⟩)
      rw [htake] at hr
      rcases List.mem_append.1 hr with hr | hr
      · exact hno r hr
      · rw [List.mem_singleton] at hr; rw [hr]; exact c
  · have e : n = E.length := by omega
    subst e
    rw [List.take_length] at hno
    have hf : fd E x = none := by
      unfold fd
      rw [List.find?_eq_none]
      intro r hr hb
      exact hno r hr (of_decide_eq_true hb).symm
    rw [hf] at h
    exact s.st0 0 rfl rfl rfl fun w3 s => s.ld0 (ty := yevergreenref13_Row) (x := (0, 0, 0, 0, 0)) 0 rfl rfl (h _ s.ext)

theorem ref13_Verify_spec {sl : Sl} {l : List RowT} (hv : View yevergreenref13_Row w0 sl l) (hc : sl.len ≤ sl.cap) (hN : (l.length : Int) ≤ 4611686018427387904) {K : Bool → World → Prop} (h : ∀ w', Ext w0 w' → K (vrf l l.length) w') : C_ref13_Verify sl K w0 := by
  apply S_ref13_Verify
  unfold F_ref13_Verify
  have hlen := hv.len
  refine loop_by (fun x => x.2.1) l.length (fun n x w => x.1 = lastR (l.take n) ∧ vrf l n = true ∧ Sp w0 [] w) rfl ⟨rfl, rfl, Sp.init w0⟩ ?_
  rintro n ⟨last, x, _⟩ w2 hn hx ⟨hl, hok, s⟩ _
  dsimp only at hx hl ⊢
  subst hx hl
  have hinv := vrf_inv hn hok
  refine gd_dec (fun hlt => ?_) (fun hge => ?_)
  rotate_left
  · have e : n = l.length := by omega
    subst e
    have := h _ s.ext
    rwa [hok] at this
  have hn' : n < l.length := by omega
  have hstep := vrf_succ hn'
  rw [hok, Bool.true_and] at hstep
  have htake := take_succ' hn'
  have hget := List.getElem?_eq_getElem hn'
  generalize l[n] = y at hstep htake hget
  have bad : rowR (l.take n) (lastR (l.take n)) y = false → ∀ w', Ext w0 w' → K false w' := fun e w' hw => by
    have := h w' hw
    rwa [vrf_false (hstep.trans e) hn'] at this
  refine ⟨fun x w => x.1 = rId y ∧ rowR (l.take n) (lastR (l.take n)) y = true ∧ Sp w0 [] w, ?_, ?_⟩
  rotate_left
  · rintro ⟨x, _⟩ w3 ⟨hx, hr, s⟩ _
    dsimp only at hx ⊢
    subst hx
    refine arith_i64 (by omega) (by omega) (loop_nx hn' ⟨?_, ?_, s⟩)
    · rw [htake, lastR_snoc]
    · rw [hstep]; exact hr
  refine (hv.ext s.ext).idx rfl hget rfl fun q hq => ⟨y, hq, s.allocK fun a7 w3 s => s.st0 0 rfl rfl rfl fun w4 s => s.ldi (x := rId y) 0 0 rfl rfl (gd_dec (fun c => bad (by unfold rowR; rw [decide_eq_false (by omega)]; rfl) _ s.ext) fun c => ?_)⟩
  have hrow : rowR (l.take n) (lastR (l.take n)) y = (leafR y || pairR (l.take n) y) := by unfold rowR; rw [decide_eq_true (by omega)]; rfl
  refine s.ldi (x := rId y) 0 0 rfl rfl ⟨fun _ w => leafR y = false ∧ Sp w0 [cel a7 (cells yevergreenref13_Row y)] w, ?_, ?_⟩
  · refine s.ldi (x := rL y) 0 1 rfl rfl (gd_eq (fun c1 => s.ldi (x := rR y) 0 2 rfl rfl (gd_eq (fun c2 => s.ldi (x := rD y) 0 3 rfl rfl (gd_eq (fun c3 => s.ldi (x := rN y) 0 4 rfl rfl (gd_eq (fun c4 => ⟨rfl, ?_, s.pop⟩) (fun c4 => ⟨?_, s⟩))) (fun c3 => ⟨?_, s⟩))) (fun c2 => ⟨?_, s⟩))) (fun c1 => ⟨?_, s⟩))
    · rw [hrow]; unfold leafR; simp [c1, c2, c3, c4]
    · unfold leafR; simp [c4]
    · unfold leafR; simp [c3]
    · unfold leafR; simp [c2]
    · unfold leafR; simp [c1]
  rintro ⟨⟩ w5 ⟨hleaf, s⟩ _
  rw [hleaf, Bool.false_or] at hrow
  have htn : ((l.take n).length : Int) ≤ 4611686018427387904 := by rw [List.length_take]; omega
  have hrow2 : pairR (l.take n) y = false → ∀ w', Ext w0 w' → K false w' := fun e => bad (hrow.trans e)
  unfold pairR at hrow hrow2
  refine ⟨fun x w => ∃ b, x.1 = ⟨b, 0, none⟩ ∧ x.2.1 = (fd (l.take n) (rL y)).isSome ∧ Sp w0 [cel b (cells yevergreenref13_Row ((fd (l.take n) (rL y)).getD (0, 0, 0, 0, 0))), cel a7 (cells yevergreenref13_Row y)] w, ?_, ?_⟩
  · refine s.drawK fun w7 s => View.slTo (hv.ext s.ext) hn hc fun s18 hs18 => s.ldi (x := rL y) 0 1 rfl rfl ⟨?_, ?_⟩
    · exact ref13_find_spec (hs18 _ (hv.ext s.ext)) htn fun w8 e => (s.toExt e).allocK fun b w9 s => s.st0 0 rfl rfl rfl fun w10 s => ⟨b, rfl, rfl, s⟩
    · refine s.allocK fun b w9 s => ⟨s.still 1 1 rfl rfl, ref13_find_spec (hs18 _ (hv.ext s.ext)) htn fun w8 e => (s.toExt e).st0 0 rfl rfl rfl fun w10 s => ⟨b, rfl, rfl, s⟩⟩
  rintro ⟨_, _, _⟩ w6 ⟨b, hb1, hb2, s⟩ _
  dsimp only at hb1 hb2 ⊢
  subst hb1 hb2
  refine ⟨fun x w => ∃ c, x.1 = ⟨c, 0, none⟩ ∧ x.2.1 = (fd (l.take n) (rR y)).isSome ∧ Sp w0 [cel c (cells yevergreenref13_Row ((fd (l.take n) (rR y)).getD (0, 0, 0, 0, 0))), cel b (cells yevergreenref13_Row ((fd (l.take n) (rL y)).getD (0, 0, 0, 0, 0))), cel a7 (cells yevergreenref13_Row y)] w, ?_, ?_⟩
  · refine s.drawK fun w7 s => View.slTo (hv.ext s.ext) hn hc fun s18 hs18 => s.ldi (x := rR y) 1 2 rfl rfl ⟨?_, ?_⟩
    · exact ref13_find_spec (hs18 _ (hv.ext s.ext)) htn fun w8 e => (s.toExt e).allocK fun b w9 s => s.st0 0 rfl rfl rfl fun w10 s => ⟨b, rfl, rfl, s⟩
    · refine s.allocK fun b w9 s => ⟨s.still 2 2 rfl rfl, ref13_find_spec (hs18 _ (hv.ext s.ext)) htn fun w8 e => (s.toExt e).st0 0 rfl rfl rfl fun w10 s => ⟨b, rfl, rfl, s⟩⟩
  rintro ⟨_, _, _⟩ w14 ⟨c', hc1, hc2, s⟩ _
  dsimp only at hc1 hc2 ⊢
  subst hc1 hc2
  cases hfa : fd (l.take n) (rL y) with
  | none =>
    rw [hfa] at hrow2
    exact JoinP.inl (gd_t rfl fun _ => gd_t rfl (hrow2 rfl _ s.ext))
  | some a =>
  cases hfb : fd (l.take n) (rR y) with
  | none =>
    rw [hfa, hfb] at hrow2
    exact JoinP.inl (gd_f rfl fun _ => gd_t rfl (hrow2 rfl _ s.ext))
  | some d =>
  rw [hfa, hfb] at hrow2 hrow s
  have hrow2 : fit y a d = false → ∀ w', Ext w0 w' → K false w' := hrow2
  have hrow : rowR (l.take n) (lastR (l.take n)) y = fit y a d := hrow
  have ia := (hinv a (fd_mem hfa).1).1.dep
  have id := (hinv d (fd_mem hfb).1).1.dep
  have m1 : (if rD a < rD d then rD d else rD a) = max (rD a) (rD d) := by split <;> omega
  refine JoinP.inl (gd_f rfl fun _ => gd_f rfl (s.ldi (x := rD a) 1 3 rfl rfl (s.ldi (x := rD d) 0 3 rfl rfl (arith_i64 (by omega) (by omega) ⟨fun x w => x.1 = (!(fit y a d)) ∧ Sp w0 [cel c' (cells yevergreenref13_Row d), cel b (cells yevergreenref13_Row a), cel a7 (cells yevergreenref13_Row y)] w, ?_, ?_⟩))))
  · have no : fit y a d = false → true = !(fit y a d) := fun e => by rw [e]; rfl
    refine gd_dec (fun c1 => ⟨no (decide_eq_false (by omega)), s⟩) (fun c1 => gd_dec (fun c2 => ⟨no (decide_eq_false (by omega)), s⟩) (fun c2 => ?_))
    refine s.ldi (x := rD y) 2 3 rfl rfl (s.ldi (x := rD a) 1 3 rfl rfl (s.ldi (x := rD d) 0 3 rfl rfl (arith_i64 (by omega) (by omega) (gd_ne (fun c3 => ⟨no (decide_eq_false (by omega)), s⟩) (fun c3 => ?_)))))
    refine s.ldi (x := rN y) 2 4 rfl rfl (s.ldi (x := rN a) 1 4 rfl rfl (s.ldi (x := rN d) 0 4 rfl rfl (arith_i64 (by omega) (by omega) (gd_ne (fun c4 => ⟨no (decide_eq_false (by omega)), s⟩) (fun c4 => s.ldi (x := rN y) 2 4 rfl rfl ⟨?_, s⟩)))))
    by_cases c5 : rN y ≤ 1152921504606846976
    · rw [show fit y a d = true from decide_eq_true (by omega)]
      exact decide_eq_false (by omega)
    · rw [show fit y a d = false from decide_eq_false (by omega)]
      exact decide_eq_true (by omega)
  rintro ⟨b2, _⟩ w23 ⟨hb2, s⟩ _
  dsimp only at hb2 ⊢
  subst hb2
  refine gd_not (gd_mk (fun e => ⟨rfl, hrow.trans e, s.drop 3⟩) (fun e => hrow2 e _ s.ext))

theorem law13_rows_spec {sl : Sl} {l : List RowT} (hv : View yavl_Row w0 sl l) (s : Sp w0 Ω w) (hN : (l.length : Int) ≤ 1000000000) {K : Sl → World → Prop} (h : ∀ s' w', Sp w0 (own yevergreenref13_Row s' l :: Ω) w' → K s' w') : C_law13_rows sl K w := by
  apply S_law13_rows
  unfold F_law13_rows
  have hlen := hv.len
  refine loop_by (fun x => x.2.1) l.length (fun n x w => Sp w0 (own yevergreenref13_Row x.1 (l.take n) :: Ω) w) rfl (s.nil _) ?_
  rintro n ⟨xs, x, _⟩ w2 hn hx s _
  dsimp only at hx s ⊢
  subst hx
  refine gd_dec (fun hlt => ?_) (fun hge => ?_)
  · have hn' : n < l.length := by omega
    have htake := take_succ' hn'
    have hget := List.getElem?_eq_getElem hn'
    generalize l[n] = y at htake hget
    refine (hv.ext s.ext).idx rfl hget rfl fun q hq => ⟨y, hq, s.allocK fun a5 w3 s => s.st0 0 rfl rfl rfl fun w4 s => s.ldi (x := rId y) 0 0 rfl rfl (s.ldi (x := rL y) 0 1 rfl rfl (s.ldi (x := rR y) 0 2 rfl rfl (s.ldi (x := rD y) 0 3 rfl rfl (s.ldi (x := rN y) 0 4 rfl rfl ?_))))⟩
    refine s.allocK fun a11 w5 s => s.app 2 rfl ((s.lit (ty := yevergreenref13_Row) 0 rfl [y] 1 rfl rfl).view 0 rfl) (by simp only [List.length_take, List.length_cons, List.length_nil]; omega) fun s12 w6 s => arith_i64 (by omega) (by omega) (loop_nx hn' ?_)
    rw [htake]
    exact s.drop 2
  · have e : n = l.length := by omega
    subst e
    rw [List.take_length] at s
    exact h _ _ s

theorem law13_AvlVerifies_spec {sl : Sl} {l : List RowT} (hv : View yavl_Row w0 sl l) (hr : ∀ r ∈ l, -9223372036854775808 ≤ rD r ∧ rD r ≤ 9223372036854775807) {K : Bool → World → Prop} (h : ∀ w', Ext w0 w' → K true w') : C_law13_AvlVerifies sl K w0 := by
  apply S_law13_AvlVerifies
  unfold F_law13_AvlVerifies
  refine awake_guard (fun w1 x hx e1 => fun _ => gd_t hx (law13_awake_spec fun w2 e2 => h _ (e1.trans e2))) fun w1 x hs hx e1 => fun _ => gd_f hx ?_
  have hlen := hv.len
  refine avl_Verify_spec (hv.ext e1) (by omega) fun w2 e2 => law13_rows_spec hv ((Sp.init w0).toExt (e1.trans e2)) (by omega) fun s' w3 s => ?_
  refine ref13_Verify_spec (s.view 0 rfl) (s.own_ 0 rfl).cap (by omega) fun w4 e4 => ?_
  have s := s.toExt e4
  refine gd_f (by simp) (loop_by (fun x => x.1) l.length (fun n x w => Sp w0 [] w) rfl s.pop ?_)
  rintro n ⟨x, _⟩ w5 hn hx s _
  dsimp only at hx ⊢
  subst hx
  refine gd_dec (fun hlt => ?_) (fun hge => h _ s.ext)
  have hn' : n < l.length := by omega
  have hmem := List.getElem_mem hn'
  have hget := List.getElem?_eq_getElem hn'
  generalize l[n] = y at hmem hget
  have hry := hr y hmem
  refine (hv.ext s.ext).idx rfl hget rfl fun q hq => ⟨y, hq, s.allocK fun a12 w8 s => s.st0 0 rfl rfl rfl fun w9 s => s.ldi (x := rN y) 0 4 rfl rfl ?_⟩
  cases hok : vrf l l.length with
  | true =>
    have hinv := (vrf_inv (Nat.le_refl _) hok y (by rw [List.take_length]; exact hmem)).1
    have hd := hinv.dep
    have hfib := hinv.2.1
    refine avl_Bound_spec (by omega) fun d hdb => JoinP.inl (s.drawK fun w12 s => gd_t rfl (nilIfc_nil (gd_f rfl (s.ldi (x := rD y) 0 3 rfl rfl (gd_f (decide_eq_false ?_) (s.ldi (x := rN y) 0 4 rfl rfl (s.ldi (x := rD y) 0 3 rfl rfl (avl_Least_spec (by omega) ⟨s.still 0 4 rfl rfl, ?_⟩))))))))
    · have := hdb.le hfib
      dsimp only
      omega
    · intro _
      refine gd_f (decide_eq_false ?_) (arith_i64 (by omega) (by omega) (loop_nx hn' s.pop))
      have h1 := (least_le (d := (rD y).toNat) (n := rN y) (by omega)).2 hfib
      rw [show (((rD y).toNat : Nat) : Int) = rD y by omega] at h1
      omega
  | false =>
    have fin : ∀ x14 : Int × Value, ∀ w', Sp w0 [cel a12 (cells yavl_Row y)] w' → (∃ m : Nat, (n : Int) + 1 = (m : Int) ∧ m ≤ l.length ∧ Sp w0 [] w') ∧ ((l.length : Int) - ((n : Int) + 1)).toNat < ((l.length : Int) - (n : Int)).toNat := fun _ w' s => loop_nx (R := fun _ => Sp w0 [] w') hn' s.pop
    by_cases hb : 0 ≤ rN y ∧ rN y ≤ 1152921504606846976
    · exact avl_Bound_spec hb fun d hdb => JoinP.inl (s.drawK fun w12 s => gd_f rfl fun _ => gd_f rfl (arith_i64 (by omega) (by omega) (fin (0, .nilIface) _ s)))
    · exact avl_Bound_bad hb (JoinP.inl (s.drawK fun w12 s => gd_f rfl fun _ => gd_f rfl (arith_i64 (by omega) (by omega) (fin (0, .nilIface) _ s))))

end Go.Proofs.Ytedmbgddmckegaa
