/- Texts that belong together, joined: SortL, Sort, Rch, ExpA, ExpB, Copy, LawDE. No conditions. -/
import Derived.Shelf.SortM.Plain
import Derived.Shelf.SortM.SortNone
import Derived.Test.YtddhndabnbckmaaProg
import Derived.Test.YtddhndabnbckmaaGB
import Derived.Test.YtddhndabnbckmaaGT
import Derived.Test.YtddhndabnbckmaaGD
/- The contract of slices.Sort at this program's numbers: the kit's laying, as plain text printed by a program. No conditions. -/
namespace Go.Proofs.Ytddhndabnbckmaa
open Go.Shelf

def sortRen : Go.Shelf.Ren := ⟨fun | 5 => 75 | 8 => 79 | 7 => 78 | 19 => 89 | 20 => 90 | 10 => 80 | 11 => 81 | 12 => 82 | 13 => 83 | 14 => 84 | 15 => 85 | 16 => 86 | 17 => 87 | 18 => 88 | 30 => 91 | 31 => 92 | 32 => 93 | 33 => 94 | 34 => 95 | 35 => 96 | 40 => 97 | n => n, fun | 23 => 112 | 25 => 36 | 3 => 3 | 32 => 56 | 22 => 112 | 0 => 0 | 44 => 140 | 46 => 48 | 4 => 4 | 36 => 132 | 35 => 131 | 41 => 137 | 5 => 5 | 9 => 9 | 53 => 142 | 57 => 146 | 63 => 148 | 64 => 149 | n => n, fun n => n⟩
theorem sortLay : SlLaysM.n5 Try.prog sortRen := {
  mixed := by kernel_rfl,
  f5 := ⟨Try.f75.name, by decide, Try.func75.trans (congrArg some (by kernel_rfl))⟩,
  f7 := ⟨Try.f78.name, by decide, Try.func78.trans (congrArg some (by kernel_rfl))⟩,
  f8 := Try.func79.trans (congrArg some (by kernel_rfl)),
  f10 := ⟨Try.f80.name, by decide, Try.func80.trans (congrArg some (by kernel_rfl))⟩,
  f11 := ⟨Try.f81.name, by decide, Try.func81.trans (congrArg some (by kernel_rfl))⟩,
  f12 := ⟨Try.f82.name, by decide, Try.func82.trans (congrArg some (by kernel_rfl))⟩,
  f13 := ⟨Try.f83.name, by decide, Try.func83.trans (congrArg some (by kernel_rfl))⟩,
  f14 := ⟨Try.f84.name, by decide, Try.func84.trans (congrArg some (by kernel_rfl))⟩,
  f15 := ⟨Try.f85.name, by decide, Try.func85.trans (congrArg some (by kernel_rfl))⟩,
  f16 := ⟨Try.f86.name, by decide, Try.func86.trans (congrArg some (by kernel_rfl))⟩,
  f17 := ⟨Try.f87.name, by decide, Try.func87.trans (congrArg some (by kernel_rfl))⟩,
  f18 := ⟨Try.f88.name, by decide, Try.func88.trans (congrArg some (by kernel_rfl))⟩,
  f19 := Try.func89.trans (congrArg some (by kernel_rfl)),
  f20 := Try.func90.trans (congrArg some (by kernel_rfl)),
  f30 := ⟨Try.f91.name, by decide, Try.func91.trans (congrArg some (by kernel_rfl))⟩,
  f31 := Try.func92.trans (congrArg some (by kernel_rfl)),
  f32 := Try.func93.trans (congrArg some (by kernel_rfl)),
  f33 := ⟨Try.f94.name, by decide, Try.func94.trans (congrArg some (by kernel_rfl))⟩,
  f34 := ⟨Try.f95.name, by decide, Try.func95.trans (congrArg some (by kernel_rfl))⟩,
  f35 := ⟨Try.f96.name, by decide, Try.func96.trans (congrArg some (by kernel_rfl))⟩,
  f40 := ⟨Try.f97.name, by decide, Try.func97.trans (congrArg some (by kernel_rfl))⟩,
  t0 := Try.underlying0,
  a0 := Try.isAgg0,
  z0 := Try.sizeOf0,
  v0 := Try.zeroValue0,
  t3 := Try.underlying3,
  a3 := Try.isAgg3,
  z3 := Try.sizeOf3,
  v3 := Try.zeroValue3,
  t4 := Try.underlying4,
  a4 := Try.isAgg4,
  z4 := Try.sizeOf4,
  v4 := Try.zeroValue4,
  t5 := Try.underlying5,
  a5 := Try.isAgg5,
  z5 := Try.sizeOf5,
  v5 := Try.zeroValue5,
  t9 := Try.underlying9,
  a9 := Try.isAgg9,
  z9 := Try.sizeOf9,
  v9 := Try.zeroValue9,
  t22 := Try.underlying112,
  a22 := Try.isAgg112,
  z22 := Try.sizeOf112,
  v22 := Try.zeroValue112,
  t23 := Try.underlying112,
  a23 := Try.isAgg112,
  z23 := Try.sizeOf112,
  v23 := Try.zeroValue112,
  t25 := Try.underlying36,
  a25 := Try.isAgg36,
  z25 := Try.sizeOf36,
  v25 := Try.zeroValue36,
  t32 := Try.underlying56,
  a32 := Try.isAgg56,
  z32 := Try.sizeOf56,
  v32 := Try.zeroValue56,
  t35 := Try.underlying131,
  a35 := Try.isAgg131,
  z35 := Try.sizeOf131,
  v35 := Try.zeroValue131,
  t36 := Try.underlying132,
  a36 := Try.isAgg132,
  z36 := Try.sizeOf132,
  v36 := Try.zeroValue132,
  t41 := Try.underlying137,
  a41 := Try.isAgg137,
  z41 := Try.sizeOf137,
  v41 := Try.zeroValue137,
  t44 := Try.underlying140,
  a44 := Try.isAgg140,
  z44 := Try.sizeOf140,
  v44 := Try.zeroValue140,
  t46 := Try.underlying48,
  a46 := Try.isAgg48,
  z46 := Try.sizeOf48,
  v46 := Try.zeroValue48,
  t53 := Try.underlying142,
  a53 := Try.isAgg142,
  z53 := Try.sizeOf142,
  v53 := Try.zeroValue142,
  t57 := Try.underlying146,
  a57 := Try.isAgg146,
  z57 := Try.sizeOf146,
  v57 := Try.zeroValue146,
  t63 := Try.underlying148,
  a63 := Try.isAgg148,
  z63 := Try.sizeOf148,
  v63 := Try.zeroValue148,
  t64 := Try.underlying149,
  a64 := Try.isAgg149,
  z64 := Try.sizeOf149,
  v64 := Try.zeroValue149 }

end Go.Proofs.Ytddhndabnbckmaa

/- What slices.Sort leaves: the same numbers, in order. -/
set_option linter.unusedVariables false
set_option linter.unusedSimpArgs false
namespace Go.Proofs.Ytddhndabnbckmaa
open Go.Den

variable {w0 w : World} {Ω : List Ob} {sl : Sl} {xs : List (Ty.int .i64).T}

def srt (xs : List Int) : List Int := xs.mergeSort fun x y => decide (x ≤ y)
theorem srt_len (xs : List Int) : (srt xs).length = xs.length := List.length_mergeSort xs
theorem srt_perm (xs : List Int) : (srt xs).Perm xs := List.mergeSort_perm xs _
theorem srt_sorted (xs : List Int) : (srt xs).Pairwise (fun x y => x ≤ y) := by
  have := List.pairwise_mergeSort (le := fun (x y : Int) => decide (x ≤ y)) (fun a b c h1 h2 => by simp at *; omega) (fun a b => by simp; omega) xs
  exact this.imp fun h => by simpa using h
theorem flat_int (xs : List (Ty.int .i64).T) : flat (.int .i64) xs = xs.map (Value.int .i64) := by
  induction xs with
  | nil => rfl
  | cons x xs ih => simp only [flat, List.flatMap_cons, List.map_cons] at ih ⊢; rw [ih]; rfl
theorem addr_mk (q : Addr) (h : q.spot = none) : q = ⟨q.block, q.off, none⟩ := by cases q; cases h; rfl
theorem add_mk (b o j : Nat) : Addr.add ⟨b, o, none⟩ j = ⟨b, o + j, none⟩ := by
  unfold Addr.add; split <;> simp_all

/-- a row of a slice, sorted in place -/
theorem sort_own (o : Own (.int .i64) w sl xs) {q : Addr} (hq : sl.a = some q) (n : Nat) (os : Array Obj) (ys : List (Ty.int .i64).T) (hl : ys.length = xs.length) :
    Go.Sort.Holds (Value.int .i64) w q.block q.off (xs.toArray : Array Int) ∧ Own (.int .i64) (Go.Sort.grow (Go.Sort.putRow (Value.int .i64) (Go.Sort.ahead w n) q.block q.off (ys.toArray : Array Int)) os) sl ys ∧
    Fr (fun b => b = q.block) w (Go.Sort.grow (Go.Sort.putRow (Value.int .i64) (Go.Sort.ahead w n) q.block q.off (ys.toArray : Array Int)) os) := by
  have hs := addr_mk q (o.spot q hq)
  have hlt : q.block < w.heap.size := o.lt _ ⟨q, hq, rfl⟩
  have hlen := o.view.len
  have hcap := o.cap
  have hwr := o.wr q hq
  have hat := o.view.mem q hq
  rw [flat_int] at hat
  have e1 : ∀ j, Addr.add q j = ⟨q.block, q.off + j, none⟩ := fun j => by
    conv => lhs; rw [hs]
    exact add_mk _ _ _
  have holds : Go.Sort.Holds (Value.int .i64) w q.block q.off (xs.toArray : Array Int) := fun j hj => by
    have hj' : j < xs.length := by simpa using hj
    constructor
    · have := hat j (Value.int .i64 xs[j]) (by rw [List.getElem?_map, List.getElem?_eq_getElem hj']; rfl)
      rw [e1] at this
      rw [this]
      congr 2
      simp [hj']
    · have := (hwr j (by simp only [Ty.size]; omega)).2
      rw [e1] at this
      exact this
  refine ⟨holds, ?_, ?_⟩
  · have hh : Go.Sort.Holds (Value.int .i64) (Go.Sort.ahead w n) q.block q.off (xs.toArray : Array Int) := Go.Sort.holds_ahead _ _ _ _ _ _ holds
    have h1 := Go.Sort.holds_putRow (Value.int .i64) (Go.Sort.ahead w n) q.block q.off (xs.toArray : Array Int) (ys.toArray : Array Int) hh (by simp [hl])
    have hsz : (Go.Sort.putRow (Value.int .i64) (Go.Sort.ahead w n) q.block q.off (ys.toArray : Array Int)).heap.size = w.heap.size := by simp
    have h2 := Go.Sort.holds_grow (Value.int .i64) _ os q.block q.off (ys.toArray : Array Int) (by rw [hsz]; exact hlt) h1
    refine ⟨⟨by rw [hl]; exact hlen, fun q' hq' => ?_, fun _ => ⟨q, hq⟩⟩, hcap, fun q' hq' => ?_, fun h => (by rw [hq] at h; cases h), fun b hb => ?_, o.spot⟩
    · rw [hq] at hq'; cases hq'
      rw [flat_int]
      intro i v hi
      rw [List.getElem?_map] at hi
      have hil : i < ys.length := by
        cases h : ys[i]? with
        | none => rw [h] at hi; cases hi
        | some y => exact (List.getElem?_eq_some_iff.1 h).1
      rw [List.getElem?_eq_getElem hil] at hi
      have := (h2 i (by simpa using hil)).1
      rw [e1, this]
      simp only [Option.map_some] at hi
      rw [← hi]
      congr 2
      simp [hil]
    · rw [hq] at hq'; cases hq'
      intro i hi
      obtain ⟨⟨v, hv⟩, hf⟩ := hwr i hi
      have c1 : ∃ v, (Go.Sort.putRow (Value.int .i64) (Go.Sort.ahead w n) q.block q.off (ys.toArray : Array Int)).cell? (q.add i) = some v := by
        by_cases c : i < ys.length
        · have := (h1 i (by simpa using c)).1
          exact ⟨_, by rw [e1]; exact this⟩
        · refine ⟨v, ?_⟩
          rw [Go.Sort.cell?_putRow_other _ _ _ _ _ _ (by right; right; rw [e1]; simp; omega)]
          exact hv
      obtain ⟨v', hv'⟩ := c1
      refine ⟨⟨v', ?_⟩, ?_⟩
      · rw [Go.Sort.cell?_grow _ _ _ (by rw [hsz, e1]; exact hlt)]; exact hv'
      · rw [Go.Sort.frozen?_grow _ _ _ (by rw [hsz, e1]; exact hlt), Go.Sort.frozen?_putRow]; exact hf
    · have := o.lt b hb
      rw [Go.Sort.size_grow, hsz]; omega
  · refine ⟨by rw [Go.Sort.size_grow]; simp, fun b hb hne => ?_, rfl, rfl, rfl⟩
    have hsz : (Go.Sort.putRow (Value.int .i64) (Go.Sort.ahead w n) q.block q.off (ys.toArray : Array Int)).heap.size = w.heap.size := by simp
    rw [Go.Sort.heap_grow_old _ _ (by rw [hsz]; exact hb)]
    unfold Go.Sort.putRow Go.Sort.mapBlock
    simp only [Array.getElem?_modify, Go.Sort.heap_ahead]
    rw [if_neg (Ne.symm hne)]

theorem slices_Sort_sp (s : Sp w0 Ω w) (i : Nat) (hi : Ω[i]? = some (own (.int .i64) sl xs)) (hl : xs.length ≤ 1000000000) {K : Unit → World → Prop} (h : ∀ w', Sp w0 (Ω.set i (own (.int .i64) sl (srt xs))) w' → K () w') : C_slices_Sort sl K w := by
  obtain ⟨B, ⟨o, hB⟩, hlt, back⟩ := s.open i hi rfl
  have hlen := o.view.len
  cases hq : sl.a with
  | none =>
    have h0 := o.nil hq
    have hcap := o.cap
    have hx : xs = [] := List.eq_nil_of_length_eq_zero (by omega)
    have hn : sl.len = 0 := by omega
    have := AnyM.slices_Sort_int_none sortLay none sl.cap w
    unfold C_slices_Sort
    rw [hq, hn]
    refine Calls.mono this fun e w' ⟨he, hw⟩ => ⟨(), he, ?_⟩
    subst hw
    refine h _ ?_
    subst hx
    have : srt [] = [] := by simp [srt]
    rw [this]
    exact (setSame hi).symm ▸ s
  | some q =>
    have hs := addr_mk q (o.spot q hq)
    have key := sort_own o hq
    have := AnyM.slices_Sort_int sortLay q.block q.off sl.cap xs w (key 0 #[] xs rfl).1 (o.lt _ ⟨q, hq, rfl⟩) (by omega)
    unfold C_slices_Sort
    rw [hq, hlen]
    rw [← hs] at this
    refine Calls.mono this fun e w' ⟨he, n, os, hw⟩ => ⟨(), he, ?_⟩
    obtain ⟨_, o', f⟩ := key n os (srt xs) (srt_len xs)
    subst hw
    exact h _ (back _ B _ ⟨o', hB⟩ (f.mono fun b _ hb => hb ▸ hB _ ⟨q, hq, rfl⟩) (fun _ h => Or.inl h) fun b hb => Nat.lt_of_lt_of_le (hlt b hb).2 f.size)

end Go.Proofs.Ytddhndabnbckmaa

/- What rules reach, and the list of that in order. -/
set_option linter.unusedVariables false
set_option linter.unusedSimpArgs false
namespace Go.Proofs.Ytddhndabnbckmaa
open Go.Den

variable {T : List ET} {S : List Int}

inductive Rch (T : List ET) (S : List Int) : Int → Prop
  | root {x : Int} : x ∈ S → x ≠ 0 → Rch T S x
  | ref {y x : Int} : Rch T S y → x ∈ refs (eAt T y).1 → Rch T S x

theorem refs_in (g : Grow T) {y x : Int} (h1 : 1 ≤ y) (h2 : y ≤ T.length) (h : x ∈ refs (eAt T y).1) : 1 ≤ x ∧ x < y := by
  cases g.shape h1 h2 with
  | letter b _ _ e => rw [e] at h; simp [refs, mkLetter] at h
  | pair l r _ _ _ _ _ e =>
    rw [e] at h
    have : x = l ∨ x = r := by simpa [refs, mkPair] using h
    rcases this with rfl | rfl <;> omega
  | power a k _ _ _ _ e =>
    rw [e] at h
    have : x = a := by simpa [refs, mkPower] using h
    subst this; omega
theorem Rch.bound (g : Grow T) (hS : ∀ x ∈ S, 0 ≤ x ∧ x ≤ T.length) {x : Int} (h : Rch T S x) : 1 ≤ x ∧ x ≤ T.length := by
  induction h with
  | root h1 h2 => have := hS _ h1; omega
  | ref h1 h2 ih =>
    have := refs_in g ih.1 ih.2 h2
    omega
noncomputable def rlist (T : List ET) (S : List Int) : List Int := ((List.range T.length).map fun i : Nat => (i : Int) + 1).filter fun x => @decide (Rch T S x) (Classical.propDecidable _)
theorem mem_rlist {x : Int} : x ∈ rlist T S ↔ (1 ≤ x ∧ x ≤ T.length) ∧ Rch T S x := by
  unfold rlist
  rw [List.mem_filter]
  have : x ∈ ((List.range T.length).map fun i : Nat => (i : Int) + 1) ↔ 1 ≤ x ∧ x ≤ T.length := by
    rw [List.mem_map]
    constructor
    · rintro ⟨i, hi, rfl⟩
      have := List.mem_range.1 hi
      omega
    · intro h
      exact ⟨(x - 1).toNat, List.mem_range.2 (by omega), by omega⟩
  rw [this]
  simp
theorem rlist_sorted : (rlist T S).Pairwise (fun x y => x < y) := by
  unfold rlist
  refine List.Pairwise.filter _ ?_
  rw [List.pairwise_map]
  exact List.pairwise_lt_range.imp fun h => by omega
theorem rlist_nodup : (rlist T S).Nodup := rlist_sorted.imp fun h => by omega
theorem rlist_mem (g : Grow T) (hS : ∀ x ∈ S, 0 ≤ x ∧ x ≤ T.length) {x : Int} : x ∈ rlist T S ↔ Rch T S x := by
  rw [mem_rlist]
  exact ⟨fun h => h.2, fun h => ⟨h.bound g hS, h⟩⟩
theorem sorted_unique {L M : List Int} (hL : L.Pairwise (fun x y => x < y)) (hM : M.Pairwise (fun x y => x < y)) (h : ∀ x, x ∈ L ↔ x ∈ M) : L = M := by
  induction L generalizing M with
  | nil =>
    cases M with
    | nil => rfl
    | cons y M => have := (h y).2 (by simp); cases this
  | cons x L ih =>
    cases M with
    | nil => have := (h x).1 (by simp); cases this
    | cons y M =>
      rw [List.pairwise_cons] at hL hM
      have hxy : x = y := by
        have h1 := (h x).1 (by simp)
        have h2 := (h y).2 (by simp)
        rcases List.mem_cons.1 h1 with h1 | h1
        · exact h1
        · rcases List.mem_cons.1 h2 with h2 | h2
          · exact h2.symm
          · have := hM.1 x h1; have := hL.1 y h2; omega
      subst hxy
      congr 1
      refine ih hL.2 hM.2 fun z => ?_
      have := h z
      simp only [List.mem_cons] at this
      constructor
      · intro hz
        rcases this.1 (Or.inr hz) with rfl | h'
        · have := hL.1 z hz; omega
        · exact h'
      · intro hz
        rcases this.2 (Or.inr hz) with rfl | h'
        · have := hM.1 z hz; omega
        · exact h'
theorem srt_lt {L : List Int} (hn : L.Nodup) : (srt L).Pairwise (fun x y => x < y) := by
  have h1 := srt_sorted L
  have h2 : (srt L).Nodup := (srt_perm L).nodup_iff.2 hn
  exact (h1.and h2).imp fun ⟨a, b⟩ => by omega
theorem srt_rlist (g : Grow T) (hS : ∀ x ∈ S, 0 ≤ x ∧ x ≤ T.length) {L : List Int} (hn : L.Nodup) (h : ∀ x, x ∈ L ↔ Rch T S x) : srt L = rlist T S :=
  sorted_unique (srt_lt hn) rlist_sorted fun x => by rw [(srt_perm L).mem_iff, h, rlist_mem g hS]
theorem rlist_zero : rlist T [0] = [] := by
  apply List.eq_nil_iff_forall_not_mem.2
  intro x hx
  have h := (mem_rlist.1 hx).2
  have key : ∀ x, Rch T [0] x → False := by
    intro x h
    induction h with
    | root h1 h2 => simp at h1; exact h2 h1
    | ref _ _ ih => exact ih
  exact key x h
theorem rlist_len (T : List ET) (S : List Int) : (rlist T S).length ≤ T.length := by
  unfold rlist
  refine Nat.le_trans (List.length_filter_le _ _) ?_
  simp

/-- a list of different numbers from 1 to n is no longer than n -/
theorem nodup_bound {L : List Int} {n : Nat} (hn : L.Nodup) (h : ∀ x ∈ L, 1 ≤ x ∧ x ≤ n) : L.length ≤ n := by
  have hp : srt L = ((List.range n).map fun i : Nat => (i : Int) + 1).filter (fun x => decide (x ∈ L)) := by
    refine sorted_unique (srt_lt hn) (List.Pairwise.filter _ (by rw [List.pairwise_map]; exact List.pairwise_lt_range.imp fun h => by omega)) fun x => ?_
    rw [(srt_perm L).mem_iff, List.mem_filter, List.mem_map]
    constructor
    · intro hx
      have := h x hx
      exact ⟨⟨(x - 1).toNat, List.mem_range.2 (by omega), by omega⟩, decide_eq_true hx⟩
    · intro hx
      exact of_decide_eq_true hx.2
  have h1 := srt_len L
  rw [hp] at h1
  rw [← h1]
  refine Nat.le_trans (List.length_filter_le _ _) ?_
  simp

/-! ### Positions -/
def ent (ids : List Int) : List ((Ty.int .i64).T × (Ty.int .i64).T) := ids.zipIdx.map fun p => (p.1, (p.2 : Int) + 1)
theorem ent_append (ids : List Int) (x : Int) : ent (ids ++ [x]) = ent ids ++ [(x, (ids.length : Int) + 1)] := by
  simp [ent, List.zipIdx_append]
theorem lk_append {kt vt : Ty} {es fs : List (kt.T × vt.T)} {x : kt.T} : lk (es ++ fs) x = (lk es x).or (lk fs x) := by
  unfold lk
  rw [List.find?_append]
  cases es.find? (fun p => beqT kt x p.1) <;> rfl
theorem lk_one {kt vt : Ty} (hk : leafT kt = true) {k x : kt.T} {v : vt.T} [DecidableEq kt.T] : lk [(k, v)] x = if x = k then some v else none := by
  unfold lk
  by_cases h : x = k
  · rw [if_pos h]
    have : beqT kt x k = true := (beqT_iff kt hk _ _).2 h
    simp [this]
  · rw [if_neg h]
    have : beqT kt x k = false := by
      cases hb : beqT kt x k
      · rfl
      · exact absurd ((beqT_iff kt hk _ _).1 hb) h
    simp [this]
theorem lk_ent_none {ids : List Int} {y : Int} (h : y ∉ ids) : lk (ent ids) y = none := by
  unfold lk
  have : (ent ids).find? (fun p => beqT (.int .i64) y p.1) = none := by
    rw [List.find?_eq_none]
    intro p hp hb
    have e := (beqT_iff (.int .i64) rfl _ _).1 hb
    unfold ent at hp
    obtain ⟨⟨a, i⟩, hq, rfl⟩ := List.mem_map.1 hp
    have := (List.mem_zipIdx hq).2.2
    exact h (by rw [show y = a from e, this]; exact List.getElem_mem _)
  rw [this]; rfl
theorem snoc_ind {α : Type} {M : List α → Prop} (h0 : M []) (h1 : ∀ L x, M L → M (L ++ [x])) (L : List α) : M L := by
  have key : ∀ (n : Nat) (L : List α), L.length = n → M L := by
    intro n
    induction n with
    | zero => intro L h; rw [List.eq_nil_of_length_eq_zero h]; exact h0
    | succ n ih =>
      intro L h
      obtain ⟨L', e, rfl⟩ : ∃ L' e, L = L' ++ [e] := ⟨L.dropLast, L.getLast (by intro h'; rw [h'] at h; simp at h), (List.dropLast_concat_getLast _).symm⟩
      exact h1 L' e (ih L' (by simpa using h))
  exact key _ L rfl
theorem lk_ent_some : ∀ {ids : List Int} {y : Int} {k : Nat}, ids.Nodup → ids[k]? = some y → lk (ent ids) y = some ((k : Int) + 1) := by
  intro ids
  refine snoc_ind (M := fun ids => ∀ {y : Int} {k : Nat}, ids.Nodup → ids[k]? = some y → lk (ent ids) y = some ((k : Int) + 1)) ?_ ?_ ids
  · intro y k _ h; simp at h
  · intro L x ih y k hn h
    rw [List.nodup_append] at hn
    rw [ent_append, lk_append]
    by_cases hk : k < L.length
    · rw [List.getElem?_append_left hk] at h
      rw [ih hn.1 h]; rfl
    · have hk' : k = L.length := by
        have := (List.getElem?_eq_some_iff.1 h).1
        simp at this; omega
      subst hk'
      have hx : x = y := by simpa using h
      subst hx
      rw [lk_ent_none (fun hm => (hn.2.2 x hm x (by simp)) rfl), lk_one rfl, if_pos rfl]
      rfl
def pos (ids : List Int) (y : Int) : Int := (lk (ent ids) y).getD (0 : Int)
theorem pos_none {ids : List Int} {y : Int} (h : y ∉ ids) : pos ids y = 0 := by unfold pos; rw [lk_ent_none h]; rfl
theorem pos_some {ids : List Int} {y : Int} {k : Nat} (hn : ids.Nodup) (h : ids[k]? = some y) : pos ids y = (k : Int) + 1 := by unfold pos; rw [lk_ent_some hn h]; rfl

/-! ### The grammar of a list of rules -/
def mvr (ids : List Int) (r : RT) : RT := (r.1, r.2.1, pos ids r.2.2.1, pos ids r.2.2.2.1, r.2.2.2.2)
def exp (T : List ET) (ids : List Int) : List yapi_Rule.T := ids.map fun x => mvr ids (eAt T x).1
theorem exp_len (T : List ET) (ids : List Int) : (exp T ids).length = ids.length := List.length_map _
structure Closed (T : List ET) (ids : List Int) : Prop where
  sorted : ids.Pairwise (fun x y => x < y)
  bound : ∀ x ∈ ids, 1 ≤ x ∧ x ≤ T.length
  refs : ∀ y ∈ ids, ∀ x ∈ refs (eAt T y).1, x ∈ ids
theorem Closed.nodup {ids : List Int} (h : Closed T ids) : ids.Nodup := h.sorted.imp fun h => by omega
theorem rlist_closed (g : Grow T) (hS : ∀ x ∈ S, 0 ≤ x ∧ x ≤ T.length) : Closed T (rlist T S) :=
  ⟨rlist_sorted, fun x hx => (mem_rlist.1 hx).1, fun y hy x hx => (rlist_mem g hS).2 (.ref (mem_rlist.1 hy).2 hx)⟩
theorem sorted_lt {ids : List Int} (hs : ids.Pairwise (fun x y => x < y)) {i j : Nat} {x y : Int} (hi : ids[i]? = some x) (hj : ids[j]? = some y) : x < y ↔ i < j := by
  have key : ∀ {i j : Nat} {x y : Int}, ids[i]? = some x → ids[j]? = some y → i < j → x < y := by
    intro i j x y hi hj h
    have := (List.pairwise_iff_getElem.1 hs) i j (List.getElem?_eq_some_iff.1 hi).1 (List.getElem?_eq_some_iff.1 hj).1 h
    rwa [(List.getElem?_eq_some_iff.1 hi).2, (List.getElem?_eq_some_iff.1 hj).2] at this
  constructor
  · intro h
    rcases Nat.lt_trichotomy i j with h' | h' | h'
    · exact h'
    · subst h'; rw [hi] at hj; cases hj; omega
    · have := key hj hi h'; omega
  · exact key hi hj

end Go.Proofs.Ytddhndabnbckmaa

/- What the store's reach and Export compute. -/
set_option linter.unusedVariables false
set_option linter.unusedSimpArgs false
namespace Go.Proofs.Ytddhndabnbckmaa
open Go.Den

variable {w0 w : World} {Ω : List Ob} {most : Int} {T : List ET} {i : Nat} {p : Addr}

theorem eqID : eqOK P 1 t_api_ID (.int .i64) = true := by kernel_rfl
theorem mapIB : P.underlying t_map_api_ID_bool = some (.map t_api_ID (mapElem t_map_api_ID_bool)) := by kernel_rfl
theorem zeroIB : zeroOf P (mapElem t_map_api_ID_bool) = some (val .bool false) := by kernel_rfl
theorem mapII : P.underlying t_map_api_ID_api_ID = some (.map t_api_ID (mapElem t_map_api_ID_api_ID)) := by kernel_rfl
theorem zeroII : zeroOf P (mapElem t_map_api_ID_api_ID) = some (val (.int .i64) (0 : Int)) := by kernel_rfl

def seenE (ids : List (Ty.int .i64).T) : List ((Ty.int .i64).T × Ty.bool.T) := ids.map fun x => (x, true)
theorem seenE_append (ids : List (Ty.int .i64).T) (x : Int) : seenE (ids ++ [x]) = seenE ids ++ [(x, true)] := by simp [seenE]
theorem lk_seen {ids : List (Ty.int .i64).T} {y : Int} : lk (kt := .int .i64) (vt := .bool) (seenE ids) y = if y ∈ ids then some true else none := by
  induction ids with
  | nil => rfl
  | cons x ids ih =>
    have e : seenE (x :: ids) = [(x, true)] ++ seenE ids := rfl
    rw [e, lk_append, lk_one rfl, ih]
    by_cases h : y = x
    · subst h; simp
    · rw [if_neg h]
      simp only [Option.none_or, List.mem_cons]
      by_cases h2 : y ∈ ids
      · rw [if_pos h2, if_pos (Or.inr h2)]
      · rw [if_neg h2, if_neg (by rintro (h3 | h3) <;> contradiction)]

theorem intern_reach_sp {id : Int} (s : Sp w0 Ω w) (i : Nat) (hi : Ω[i]? = some (sto p most T)) (h0 : 0 ≤ id) (h1 : id ≤ T.length) {K : Sl → World → Prop} (h : ∀ sl w', Sp w0 (own (.int .i64) sl (rlist T [id]) :: Ω) w' → K sl w') : C_intern_Store_reach (some p) id K w := by
  apply S_intern_Store_reach
  unfold F_intern_Store_reach
  obtain ⟨_, _, _, hb0, hb1, hb2, hg⟩ := Sp.entry s i hi
  have hS : ∀ x ∈ [id], 0 ≤ x ∧ x ≤ (T.length : Int) := fun x hx => by simp at hx; subst hx; exact ⟨h0, h1⟩
  refine gd_eq (fun c => ?_) (fun c => s.allocK fun a1 w1 s => s.allocMap (.int .i64) .bool fun r w2 s => ?_)
  · subst c
    rw [rlist_zero] at h
    exact h _ _ (s.nil (.int .i64))
  refine s.upNew 0 rfl (by decide) mapIB eqID (by simp) id true rfl fun w3 s => ?_
  have s' : Sp w0 (mp (.int .i64) .bool r (seenE [id]) :: own (.int .i64) ⟨some ⟨a1, 0, none⟩, 1, 1⟩ [id] :: Ω) w3 := s.lit (ty := .int .i64) 1 rfl [id] 1 rfl rfl
  clear s
  refine ⟨fun x w => ∃ (ids : List (Ty.int .i64).T) (k : Nat), x.2.1 = (k : Int) ∧ k ≤ ids.length ∧ ids.Nodup ∧ (∀ y ∈ ids, Rch T [id] y) ∧ id ∈ ids ∧ (∀ j, j < k → ∀ y : Int, ids[j]? = some y → ∀ z ∈ refs (eAt T y).1, z ∈ ids) ∧
      Sp w0 (mp (.int .i64) .bool r (seenE ids) :: own (.int .i64) x.1 ids :: Ω) w, fun x _ => ((T.length : Int) - x.2.1).toNat,
    ⟨[id], 0, rfl, Nat.zero_le _, by simp, fun y hy => by simp at hy; subst hy; exact .root (by simp) c, by simp, fun j hj => by omega, s'⟩, ?_⟩
  rintro ⟨sl, x, _⟩ w4 ⟨ids, k, hx, hk, hnd, hrch, hid, hcl, s⟩ _
  dsimp only at hx s ⊢
  subst hx
  have hlen := (s.view 1 rfl).len
  have hbd : ∀ y ∈ ids, 1 ≤ (y : Int) ∧ (y : Int) ≤ (T.length : Nat) := fun y hy => (hrch y hy).bound hg hS
  have hnb := nodup_bound hnd hbd
  refine gd_dec (fun hlt => ?_) (fun hge => ?_)
  · have hk' : k < ids.length := by omega
    obtain ⟨y, hy⟩ : ∃ y : Int, ids[k]? = some y := ⟨_, List.getElem?_eq_getElem hk'⟩
    have hyb : 1 ≤ y ∧ y ≤ (T.length : Int) := hbd y (List.mem_of_getElem? hy)
    refine s.drawK fun w5 s => nonNil_some ?_
    obtain ⟨lsl, hl, hv, _⟩ := Sp.entry s (i + 2) hi
    refine ⟨lsl, hl, (s.view 1 rfl).idx rfl hy rfl fun q hq => ⟨y, hq, arith_i64 (by omega) (by omega) ?_⟩⟩
    refine hv.idx (n := (y - 1).toNat) (by omega) (eAt_get hyb.1 hyb.2) rfl fun q hq => ⟨(eAt T y).1, hq.sub 0 rfl, rule_Refs_spec s fun rsl w6 s => ?_⟩
    have hrl := refs_len (eAt T y).1
    refine loop_by (fun x => x.2.1) (refs (eAt T y).1).length (fun n x w => ∃ more : List (Ty.int .i64).T, (ids ++ more).Nodup ∧ (∀ y ∈ ids ++ more, Rch T [id] y) ∧ (∀ j, j < n → ∀ z : Int, (refs (eAt T y).1)[j]? = some z → z ∈ ids ++ more) ∧
      Sp w0 (own (.int .i64) rsl (refs (eAt T y).1) :: mp (.int .i64) .bool r (seenE (ids ++ more)) :: own (.int .i64) x.1 (ids ++ more) :: Ω) w) rfl ⟨[], by simpa using hnd, by simpa using hrch, fun j hj => by omega, by simpa using s⟩ ?_
    rintro n ⟨sl2, x, _⟩ w7 hn hx ⟨more, hnd2, hrch2, hin, s⟩ _
    dsimp only at hx s ⊢
    subst hx
    have hrlen := (s.view 0 rfl).len
    refine gd_dec (fun hlt2 => ?_) (fun hge2 => ?_)
    · have hn' : n < (refs (eAt T y).1).length := by omega
      obtain ⟨z, hz⟩ : ∃ z : Int, (refs (eAt T y).1)[n]? = some z := ⟨_, List.getElem?_eq_getElem hn'⟩
      have hzr : Rch T [id] z := .ref (hrch y (List.mem_of_getElem? hy)) (List.mem_of_getElem? hz)
      refine JoinP.inl ((s.view 0 rfl).idx rfl hz rfl fun q hq => ⟨z, hq, ?_⟩)
      refine ⟨_, lk1_run (by decide) mapIB eqID (by simp) zeroIB (s.mp_ 1 rfl) z, ?_⟩
      rw [lk_seen]
      by_cases hm : z ∈ ids ++ more
      · rw [if_pos hm]
        refine gd_f rfl fun _ => arith_i64 (by omega) (by omega) (loop_nx hn' ⟨more, hnd2, hrch2, fun j hj u hu => ?_, s⟩)
        by_cases hjn : j < n
        · exact hin j hjn u hu
        · have : j = n := by omega
          subst this
          rw [hz] at hu; cases hu; exact hm
      · rw [if_neg hm]
        have hbd2 : ∀ y ∈ ids ++ more, 1 ≤ (y : Int) ∧ (y : Int) ≤ (T.length : Nat) := fun y hy => (hrch2 y hy).bound hg hS
        have hnb2 := nodup_bound hnd2 hbd2
        refine gd_t rfl (s.upNew 1 rfl (by decide) mapIB eqID (by simp) z true (by rw [lk_seen, if_neg hm]) fun w8 s => s.allocK fun a20 w9 s => s.app 3 rfl ((s.lit (ty := .int .i64) 0 rfl [z] 1 rfl rfl).view 0 rfl) (by simp only [List.length_cons, List.length_nil]; omega) fun s21 w10 s => ?_)
        have hnd3 : (ids ++ (more ++ [z])).Nodup := by
          rw [← List.append_assoc, List.nodup_append]
          exact ⟨hnd2, by simp, fun a ha b hb => by simp at hb; subst hb; exact fun e => hm (e ▸ ha)⟩
        intro _
        refine arith_i64 (by omega) (by omega) (loop_nx hn' ⟨more ++ [z], hnd3, fun u hu => ?_, fun j hj u hu => ?_, ?_⟩)
        · rw [← List.append_assoc] at hu
          rcases List.mem_append.1 hu with h | h
          · exact hrch2 u h
          · simp at h; subst h; exact hzr
        · rw [← List.append_assoc]
          by_cases hjn : j < n
          · exact List.mem_append_left _ (hin j hjn u hu)
          · have : j = n := by omega
            subst this
            rw [hz] at hu; cases hu; simp
        · have s' := s.pop
          rw [← List.append_assoc, seenE_append]
          exact s'
    · have hn' : n = (refs (eAt T y).1).length := by omega
      have hyT : k < T.length := by omega
      refine arith_i64 (by omega) (by omega) ⟨⟨ids ++ more, k + 1, rfl, by simp; omega, hnd2, hrch2, List.mem_append_left _ hid, fun j hj u hu z hz => ?_, s.pop⟩, by omega⟩
      by_cases hjk : j < k
      · rw [List.getElem?_append_left (by omega)] at hu
        exact List.mem_append_left _ (hcl j hjk u hu z hz)
      · have : j = k := by omega
        subst this
        rw [List.getElem?_append_left (by omega), hy] at hu
        cases hu
        obtain ⟨j2, hj2⟩ := List.getElem?_of_mem hz
        exact hin j2 (by have := (List.getElem?_eq_some_iff.1 hj2).1; omega) z hj2
  · have hk' : k = ids.length := by omega
    refine slices_Sort_sp s 1 rfl (by omega) fun w5 s => ?_
    have hmem : ∀ x : Int, x ∈ ids ↔ Rch T [id] x := fun x => by
      refine ⟨fun hx => hrch x hx, fun hx => ?_⟩
      induction hx with
      | root h1 _ => simp at h1; subst h1; exact hid
      | ref _ h2 ih =>
        obtain ⟨j, hj⟩ := List.getElem?_of_mem ih
        exact hcl j (by have := (List.getElem?_eq_some_iff.1 hj).1; omega) _ hj _ h2
    rw [srt_rlist hg hS hnd hmem] at s
    exact h _ _ s.pop

theorem intern_Export_sp {id : Int} (s : Sp w0 Ω w) (i : Nat) (hi : Ω[i]? = some (sto p most T)) {K : Sl × Value → World → Prop} (h1 : 0 ≤ id ∧ id ≤ T.length → ∀ sl w', Sp w0 (own yapi_Rule sl (exp T (rlist T [id])) :: Ω) w' → K (sl, .nilIface) w')
    (h2 : ¬ (0 ≤ id ∧ id ≤ T.length) → K (⟨none, 0, 0⟩, errV 1) w) : C_intern_Store_Export (some p) id K w := by
  apply S_intern_Store_Export
  unfold F_intern_Store_Export
  refine gd_f rfl (intern_known_sp s i hi ?_)
  by_cases hk : 0 ≤ id ∧ id ≤ T.length
  rotate_left
  · have : known T id = false := decide_eq_false hk
    rw [this]
    exact gd_t rfl (h2 hk)
  have hkn : known T id = true := decide_eq_true hk
  rw [hkn]
  replace h1 := h1 hk
  obtain ⟨_, _, _, hb0, hb1, hb2, hg⟩ := Sp.entry s i hi
  have hS : ∀ x ∈ [id], 0 ≤ x ∧ x ≤ (T.length : Int) := fun x hx => by simp at hx; subst hx; exact hk
  have hc := rlist_closed hg hS
  have hrl := rlist_len T [id]
  refine gd_f rfl (intern_reach_sp s i hi hk.1 hk.2 fun sl w2 s => s.allocMap (.int .i64) (.int .i64) fun r w3 s => ?_)
  generalize rlist T [id] = ids at *
  have hlen := (s.view 1 rfl).len
  refine ⟨by omega, by omega, by omega, by omega, s.mkS yapi_Rule (0, 0, 0, 0, 0) 0 sl.len (Nat.zero_le _) (fun a4 w4 s => ?_) rfl (by simp; rfl)⟩
  refine loop_by (fun x => x.2.1) ids.length (fun n x w => Sp w0 (own yapi_Rule x.1 ((exp T ids).take n) :: mp (.int .i64) (.int .i64) r (ent (ids.take n)) :: own (.int .i64) sl ids :: Ω) w) rfl s ?_
  rintro n ⟨out, x, _⟩ w5 hn hx s _
  dsimp only at hx s ⊢
  subst hx
  refine gd_dec (fun hlt => ?_) (fun hge => ?_)
  · have hn' : n < ids.length := by omega
    obtain ⟨y, hy⟩ : ∃ y : Int, ids[n]? = some y := ⟨_, List.getElem?_eq_getElem hn'⟩
    have hyb := hc.bound y (List.mem_of_getElem? hy)
    have hty : ids.take (n + 1) = ids.take n ++ [y] := by rw [List.take_add_one, hy]; rfl
    have hnt : (ids.take (n + 1)).Nodup := hc.nodup.sublist (List.take_sublist _ _)
    have hny : y ∉ ids.take n := fun hm => by
      rw [hty, List.nodup_append] at hnt
      exact hnt.2.2 y hm y (by simp) rfl
    have hln : (ids.take n).length = n := by rw [List.length_take]; omega
    have hex : (exp T ids)[n]? = some (mvr ids (eAt T y).1) := by unfold exp; rw [List.getElem?_map, hy]; rfl
    have hpos : ∀ z : Int, (z ∈ ids → z < y) → (lk (ent (ids.take (n + 1))) z).getD (0 : Int) = pos ids z := fun z hz => by
      by_cases hm : z ∈ ids
      · obtain ⟨j, hj⟩ := List.getElem?_of_mem hm
        have hjn : j < n := (sorted_lt hc.sorted hj hy).1 (hz hm)
        have hj' : (ids.take (n + 1))[j]? = some z := by rw [List.getElem?_take_of_lt (by omega)]; exact hj
        rw [lk_ent_some hnt hj', pos_some hc.nodup hj]; rfl
      · rw [pos_none hm, lk_ent_none fun h => hm (List.mem_of_mem_take h)]; rfl
    refine (s.view 2 rfl).idx rfl hy rfl fun q hq => ⟨y, hq, arith_i64 (by omega) (by omega) (s.upNew 1 rfl (by decide) mapII eqID (by simp) y ((n : Int) + 1) (lk_ent_none hny) fun w6 s => nonNil_some ?_)⟩
    have e : ent (ids.take n) ++ [(y, (n : Int) + 1)] = ent (ids.take (n + 1)) := by rw [hty, ent_append, hln]
    rw [e] at s
    obtain ⟨lsl, hl, hv, _⟩ := Sp.entry s (i + 3) hi
    refine ⟨lsl, hl, arith_i64 (by omega) (by omega) (hv.idx (n := (y - 1).toNat) (by omega) (eAt_get hyb.1 hyb.2) rfl fun q hq => ⟨(eAt T y).1, hq.sub 0 rfl, s.allocK fun a15 w7 s => s.st0 0 rfl rfl rfl fun w8 s => s.drawK fun w9 s => ?_⟩)⟩
    have hrefs : ((eAt T y).1.2.2.1 ∈ ids → (eAt T y).1.2.2.1 < y) ∧ ((eAt T y).1.2.2.2.1 ∈ ids → (eAt T y).1.2.2.2.1 < y) := by
      have := shape_refs (hg.shape hyb.1 hyb.2) hyb.1 hyb.2
      exact ⟨fun _ => this.1.2, fun _ => this.2.2⟩
    refine s.ldi (x := (eAt T y).1.2.2.1) 0 2 rfl rfl ⟨_, lk1_run (by decide) mapII eqID (by simp) zeroII (s.mp_ 2 rfl) (eAt T y).1.2.2.1, s.ldi (x := (eAt T y).1.2.2.2.1) 0 3 rfl rfl ⟨_, lk1_run (by decide) mapII eqID (by simp) zeroII (s.mp_ 2 rfl) (eAt T y).1.2.2.2.1, ?_⟩⟩
    rw [hpos _ hrefs.1, hpos _ hrefs.2]
    refine s.st 0 2 rfl rfl rfl fun w10 s => ⟨?_, s.st 0 3 rfl rfl rfl fun w11 s => s.ld0 (ty := yapi_Rule) (x := mvr ids (eAt T y).1) 0 rfl rfl (s.allocK fun a21 w12 s => ?_)⟩
    · have := lk1_run (P := P) (w := w10) (kt := .int .i64) (vt := .int .i64) (d := 1) (by decide) mapII eqID (by simp) zeroII (s.mp_ 2 rfl) (eAt T y).1.2.2.2.1
      rw [hpos _ hrefs.2] at this
      exact this
    refine s.app 2 rfl ((s.lit (ty := yapi_Rule) 0 rfl [mvr ids (eAt T y).1] 1 (by simp [flat]) rfl).view 0 rfl) (by
      have := exp_len T ids
      simp only [List.length_take, List.length_cons, List.length_nil]; omega) fun s22 w13 s => arith_i64 (by omega) (by omega) (loop_nx hn' ?_)
    have ht : (exp T ids).take (n + 1) = (exp T ids).take n ++ [mvr ids (eAt T y).1] := by rw [List.take_add_one, hex]; rfl
    rw [ht]
    exact s.drop 2
  · have hn' : n = ids.length := by omega
    subst hn'
    have e1 : (exp T ids).take ids.length = exp T ids := by rw [← exp_len T ids, List.take_length]
    rw [e1] at s
    exact h1 _ _ (s.pick [0] 3 rfl (by decide))

end Go.Proofs.Ytddhndabnbckmaa

/- What the specification's Reached and Export compute, and the walk of InternExports. -/
set_option linter.unusedVariables false
set_option linter.unusedSimpArgs false
namespace Go.Proofs.Ytddhndabnbckmaa
open Go.Den

variable {w0 w : World} {Ω : List Ob} {most : Int} {T : List ET} {j : Nat} {m : yevergreenref10_S.T} {p : Addr}

theorem refs_iff (g : Grow T) {y x : Int} (h1 : 1 ≤ y) (h2 : y ≤ T.length) (hx : 1 ≤ x) : x ∈ refs (eAt T y).1 ↔ x = (eAt T y).1.2.2.1 ∨ x = (eAt T y).1.2.2.2.1 := by
  cases g.shape h1 h2 with
  | letter b _ _ e => rw [e]; simp [refs, mkLetter]; omega
  | pair l r _ _ _ _ _ e => rw [e]; simp [refs, mkPair]
  | power a k _ _ _ _ e => rw [e]; simp [refs, mkPower]; omega
theorem Rch.iff {S : List Int} (g : Grow T) (hS : ∀ x ∈ S, 0 ≤ x ∧ x ≤ (T.length : Int)) {x : Int} (hx : 1 ≤ x) : Rch T S x ↔ x ∈ S ∨ ∃ y, x < y ∧ Rch T S y ∧ x ∈ refs (eAt T y).1 := by
  constructor
  · intro h
    cases h with
    | root h1 _ => exact Or.inl h1
    | ref h1 h2 =>
      have b := h1.bound g hS
      exact Or.inr ⟨_, (refs_in g b.1 b.2 h2).2, h1, h2⟩
  · rintro (h | ⟨y, _, h1, h2⟩)
    · exact .root h (by omega)
    · exact .ref h1 h2

theorem ref10_Reached_spec {id : Int} (g : Grow T) (s : Sp w0 Ω w) (j : Nat) (hj : Ω[j]? = some (rfs m most T)) (hl : T.length ≤ 1048576) (h0 : 0 ≤ id) (h1 : id ≤ T.length) {K : Sl → World → Prop}
    (h : ∀ sl (inl : List Ty.bool.T) w', inl.length = T.length + 1 → (∀ x : Nat, x ≤ T.length → ∃ b : Bool, inl[x]? = some b ∧ (b = true ↔ (x ≠ 0 ∧ Rch T [id] x))) → Sp w0 (own .bool sl inl :: Ω) w' → K sl w') : C_ref10_Reached m id K w := by
  apply S_ref10_Reached
  unfold F_ref10_Reached
  have hS : ∀ x ∈ [id], 0 ≤ x ∧ x ≤ (T.length : Int) := fun x hx => by simp at hx; subst hx; exact ⟨h0, h1⟩
  have hlen := (Sp.rfs_ s j hj).2.1.len
  rw [rulesOf_len] at hlen
  have hN : ((m.2.1.len : Int) + 1).toNat = T.length + 1 := by omega
  refine s.allocK fun a1 w1 s => s.lds (x := m.2.1) 0 1 rfl rfl (arith_i64 (by omega) (by omega) ⟨by omega, by omega, by omega, by omega, s.mkS .bool false (T.length + 1) (T.length + 1) (Nat.le_refl _) (fun a4 w2 s => ?_) rfl (by rw [hN]; rfl)⟩)
  rw [hN]
  refine ⟨fun _ w => ∃ inl : List Ty.bool.T, inl.length = T.length + 1 ∧ (∀ x : Nat, 1 ≤ x → x ≤ T.length → ∃ b : Bool, inl[x]? = some b ∧ (b = true ↔ (x : Int) = id)) ∧ Sp w0 (own .bool ⟨some ⟨a4, 0, none⟩, T.length + 1, T.length + 1⟩ inl :: cel a1 (cells yevergreenref10_S m) :: Ω) w, ?_, ?_⟩
  · have hrep : ∀ x : Nat, x ≤ T.length → (List.replicate (T.length + 1) false)[x]? = some false := fun x hx => by
      rw [List.getElem?_replicate, if_pos (by omega)]
    refine gd_dec (fun hp => ?_) (fun hp => ⟨_, by simp, fun x h1 h2 => ⟨false, hrep x h2, by simp; omega⟩, s⟩)
    refine s.setI 0 rfl (n := id.toNat) (y := true) (by omega) (by simp; omega) fun w3 s => ⟨_, by simp, fun x h1 h2 => ?_, s⟩
    rw [List.getElem?_set]
    by_cases c : id.toNat = x
    · exact ⟨true, by rw [if_pos c, if_pos (by simp; omega)], by simp; omega⟩
    · exact ⟨false, by rw [if_neg c]; exact hrep x h2, by simp; omega⟩
  rintro _ w3 ⟨inl0, hil0, hin0, s⟩ _
  refine s.lds (x := m.2.1) 1 1 rfl rfl ⟨fun x w => ∃ (i : Nat) (inl : List Ty.bool.T), x.1 = (i : Int) ∧ i ≤ T.length ∧ inl.length = T.length + 1 ∧
      (∀ x : Nat, 1 ≤ x → x ≤ T.length → ∃ b : Bool, inl[x]? = some b ∧ (b = true ↔ (x : Int) = id ∨ ∃ y : Int, (i : Int) < y ∧ Rch T [id] y ∧ (x : Int) ∈ refs (eAt T y).1)) ∧
      Sp w0 (own .bool ⟨some ⟨a4, 0, none⟩, T.length + 1, T.length + 1⟩ inl :: cel a1 (cells yevergreenref10_S m) :: Ω) w, fun x _ => x.1.toNat,
    ⟨T.length, inl0, by dsimp only; omega, Nat.le_refl _, hil0, fun x h1 h2 => ?_, s⟩, ?_⟩
  · obtain ⟨b, hb, hbi⟩ := hin0 x h1 h2
    refine ⟨b, hb, hbi.trans ⟨Or.inl, ?_⟩⟩
    rintro (h | ⟨y, h3, h4, _⟩)
    · exact h
    · have := (h4.bound g hS).2; omega
  rintro ⟨x, _⟩ w5 ⟨i, inl, hx, hi, hil, hin, s⟩ _
  dsimp only at hx ⊢
  subst hx
  refine gd_dec (fun hp => ?_) (fun hp => ?_)
  · have hi1 : 1 ≤ i := by omega
    obtain ⟨b, hb, hbi⟩ := hin i hi1 hi
    have hbr : b = true ↔ Rch T [id] i := by
      rw [hbi, Rch.iff g hS (by omega)]
      simp
    refine ⟨fun _ w => ∃ inl' : List Ty.bool.T, inl'.length = T.length + 1 ∧ (∀ x : Nat, 1 ≤ x → x ≤ T.length → ∃ b : Bool, inl'[x]? = some b ∧ (b = true ↔ (x : Int) = id ∨ ∃ y : Int, (i : Int) - 1 < y ∧ Rch T [id] y ∧ (x : Int) ∈ refs (eAt T y).1)) ∧
      Sp w0 (own .bool ⟨some ⟨a4, 0, none⟩, T.length + 1, T.length + 1⟩ inl' :: cel a1 (cells yevergreenref10_S m) :: Ω) w, (s.view 0 rfl).idx rfl hb rfl fun q hq => ⟨b, hq, gd_mk (fun e => ?_) (fun e => ?_)⟩, ?_⟩
    · have hri := hbr.1 e
      obtain ⟨⟨hr1, hr2⟩, hr3, hr4⟩ := shape_refs (g.shape (id := (i : Int)) (by omega) (by omega)) (by omega) (by omega)
      have hget := rulesOf_get (T := T) (n := i - 1) (by omega)
      rw [show ((i - 1 : Nat) : Int) + 1 = i by omega] at hget
      refine s.lds (x := m.2.1) 1 1 rfl rfl (arith_i64 (by omega) (by omega) ((Sp.rfs_ s (j + 2) hj).2.1.idx (n := i - 1) (by omega) hget rfl fun q hq => ⟨_, hq, s.allocK fun a19 w7 s => s.st0 0 rfl rfl rfl fun w8 s => ?_⟩))
      generalize hA : (eAt T (i : Int)).1.2.2.1 = A at hr1 hr2
      generalize hB : (eAt T (i : Int)).1.2.2.2.1 = B at hr3 hr4
      refine s.ldi (x := A) 0 2 rfl (by rw [← hA]; rfl) (s.setI 1 rfl (n := A.toNat) (y := true) (by omega) (by omega) fun w9 s => s.ldi (x := B) 0 3 rfl (by rw [← hB]; rfl) (s.setI 1 rfl (n := B.toNat) (y := true) (by omega) (by simp; omega) fun w10 s => ⟨_, by simp [hil], fun x h1 h2 => ?_, s.pop⟩))
      obtain ⟨b', hb', hbi'⟩ := hin x h1 h2
      have hex : (∃ y : Int, (i : Int) - 1 < y ∧ Rch T [id] y ∧ (x : Int) ∈ refs (eAt T y).1) ↔ ((x : Int) = A ∨ (x : Int) = B) ∨ ∃ y : Int, (i : Int) < y ∧ Rch T [id] y ∧ (x : Int) ∈ refs (eAt T y).1 := by
        constructor
        · rintro ⟨y, h3, h4, h5⟩
          by_cases hy : y = i
          · subst hy
            rw [refs_iff g (by omega) (by omega) (by omega), hA, hB] at h5
            exact Or.inl h5
          · exact Or.inr ⟨y, by omega, h4, h5⟩
        · rintro (h3 | ⟨y, h3, h4, h5⟩)
          · exact ⟨i, by omega, hri, by rw [refs_iff g (by omega) (by omega) (by omega), hA, hB]; exact h3⟩
          · exact ⟨y, by omega, h4, h5⟩
      rw [List.getElem?_set, List.getElem?_set, List.length_set]
      by_cases c1 : B.toNat = x
      · exact ⟨true, by rw [if_pos c1, if_pos (by omega)], by rw [hex]; simp; omega⟩
      · rw [if_neg c1]
        by_cases c2 : A.toNat = x
        · exact ⟨true, by rw [if_pos c2, if_pos (by omega)], by rw [hex]; simp; omega⟩
        · refine ⟨b', by rw [if_neg c2]; exact hb', ?_⟩
          rw [hbi', hex]
          constructor
          · rintro (h3 | h3)
            · exact Or.inl h3
            · exact Or.inr (Or.inr h3)
          · rintro (h3 | (h3 | h3) | h3)
            · exact Or.inl h3
            · omega
            · omega
            · exact Or.inr h3
    · refine ⟨inl, hil, fun x h1 h2 => ?_, s⟩
      obtain ⟨b', hb', hbi'⟩ := hin x h1 h2
      refine ⟨b', hb', hbi'.trans ?_⟩
      have hni : ¬ Rch T [id] i := fun h => by rw [hbr.2 h] at e; cases e
      constructor
      · rintro (h3 | ⟨y, h3, h4⟩)
        · exact Or.inl h3
        · exact Or.inr ⟨y, by omega, h4⟩
      · rintro (h3 | ⟨y, h3, h4, h5⟩)
        · exact Or.inl h3
        · refine Or.inr ⟨y, ?_, h4, h5⟩
          have : y ≠ i := fun e => hni (e ▸ h4)
          omega
    · rintro _ w6 ⟨inl', hil', hin', s⟩ _
      refine arith_i64 (by omega) (by omega) ⟨⟨i - 1, inl', by omega, by omega, hil', fun x h1 h2 => ?_, s⟩, by omega⟩
      rw [show ((i - 1 : Nat) : Int) = (i : Int) - 1 by omega]
      exact hin' x h1 h2
  · have hi0 : i = 0 := by omega
    subst hi0
    refine s.setI 0 rfl (n := 0) (y := false) rfl (by omega) fun w6 s => h _ _ _ (by simp [hil]) (fun x hx => ?_) (s.pick [0] 2 rfl (by decide))
    rw [List.getElem?_set]
    by_cases c : x = 0
    · subst c
      exact ⟨false, by rw [if_pos rfl, if_pos (by omega)], by simp⟩
    · obtain ⟨b, hb, hbi⟩ := hin x (by omega) hx
      refine ⟨b, by rw [if_neg (Ne.symm c)]; exact hb, ?_⟩
      rw [hbi, Rch.iff g hS (by omega)]
      simp only [List.mem_cons, List.not_mem_nil, or_false, ne_eq, c, not_false_eq_true, true_and]
      constructor
      · rintro (h3 | ⟨y, h3, h4, h5⟩)
        · exact Or.inl h3
        · have b := h4.bound g hS
          exact Or.inr ⟨y, (refs_in g b.1 b.2 h5).2, h4, h5⟩
      · rintro (h3 | ⟨y, h3, h4, h5⟩)
        · exact Or.inl h3
        · exact Or.inr ⟨y, by have := (h4.bound g hS).1; omega, h4, h5⟩

theorem ref10_Export_spec {id : Int} (g : Grow T) (s : Sp w0 Ω w) (j : Nat) (hj : Ω[j]? = some (rfs m most T)) (hl : T.length ≤ 1048576) (h0 : 0 ≤ id) (h1 : id ≤ T.length) {K : Sl → World → Prop}
    (h : ∀ sl w', Sp w0 (own yapi_Rule sl (exp T (rlist T [id])) :: Ω) w' → K sl w') : C_ref10_Export m id K w := by
  apply S_ref10_Export
  unfold F_ref10_Export
  have hS : ∀ x ∈ [id], 0 ≤ x ∧ x ≤ (T.length : Int) := fun x hx => by simp at hx; subst hx; exact ⟨h0, h1⟩
  have hc := rlist_closed g hS
  have hlen := (Sp.rfs_ s j hj).2.1.len
  rw [rulesOf_len] at hlen
  have hN : ((m.2.1.len : Int) + 1).toNat = T.length + 1 := by omega
  have hmem : ∀ x : Int, x ∈ rlist T [id] ↔ Rch T [id] x := fun x => rlist_mem g hS
  have hrl := rlist_len T [id]
  refine s.allocK fun a1 w1 s => s.ld0 0 rfl rfl (ref10_Reached_spec g s (j + 1) hj hl h0 h1 fun sl inl w2 hil hin s => s.lds (x := m.2.1) 1 1 rfl rfl (arith_i64 (by omega) (by omega) ⟨by omega, by omega, by omega, by omega, ?_⟩))
  refine s.mkS (.int .i64) (0 : Int) (T.length + 1) (T.length + 1) (Nat.le_refl _) (fun a6 w3 s => ?_) rfl (by rw [hN]; rfl)
  rw [hN]
  generalize rlist T [id] = ids at *
  have hsl := (s.view 1 rfl).len
  refine loop_from 1 (fun x => x.2.1) T.length (fun n x w => ∃ (c : Nat) (to : List (Ty.int .i64).T), c ≤ ids.length ∧ (∀ (k : Nat) (x : Int), ids[k]? = some x → (x < 1 + (n : Int) ↔ k < c)) ∧ to.length = T.length + 1 ∧ (∀ x : Nat, x ≤ T.length → to[x]? = some (if (x : Int) < 1 + (n : Int) then pos ids x else 0)) ∧
    Sp w0 (own yapi_Rule x.1 ((exp T ids).take c) :: own (.int .i64) ⟨some ⟨a6, 0, none⟩, T.length + 1, T.length + 1⟩ to :: own .bool sl inl :: cel a1 (cells yevergreenref10_S m) :: Ω) w) rfl
    ⟨0, _, Nat.zero_le _, fun k x hk => ?_, by simp, fun x hx => ?_, s.nil yapi_Rule⟩ ?_
  · have := (hc.bound x (List.mem_of_getElem? hk)).1
    omega
  · rw [List.getElem?_replicate, if_pos (by omega)]
    by_cases c : (x : Int) < 1 + ((0 : Nat) : Int)
    · have hx0 : (x : Int) = 0 := by omega
      rw [if_pos c, hx0, pos_none fun hm => by have := (hc.bound 0 hm).1; omega]
    · rw [if_neg c]
  rintro n ⟨out, x, _⟩ w4 hn hx ⟨c, to, hcl, hcc, htl, hto, s⟩ _
  dsimp only at hx s ⊢
  subst hx
  refine gd_dec (fun hlt => ?_) (fun hge => ?_)
  · have hn' : n < T.length := by omega
    obtain ⟨b, hb, hbi⟩ := hin (n + 1) (by omega)
    have hbm : b = true ↔ (1 + (n : Int)) ∈ ids := by
      rw [hbi, hmem, show (((n + 1 : Nat) : Int)) = 1 + (n : Int) by omega]
      exact ⟨fun h => h.2, fun h => ⟨by omega, h⟩⟩
    refine ⟨fun x w => ∃ (c : Nat) (to : List (Ty.int .i64).T), c ≤ ids.length ∧ (∀ (k : Nat) (x : Int), ids[k]? = some x → (x < 1 + ((n + 1 : Nat) : Int) ↔ k < c)) ∧ to.length = T.length + 1 ∧ (∀ x : Nat, x ≤ T.length → to[x]? = some (if (x : Int) < 1 + ((n + 1 : Nat) : Int) then pos ids x else 0)) ∧
      Sp w0 (own yapi_Rule x.1 ((exp T ids).take c) :: own (.int .i64) ⟨some ⟨a6, 0, none⟩, T.length + 1, T.length + 1⟩ to :: own .bool sl inl :: cel a1 (cells yevergreenref10_S m) :: Ω) w, (s.view 2 rfl).idx (n := n + 1) (by omega) hb rfl fun q hq => ⟨b, hq, ?_⟩, ?_⟩
    rotate_left
    · rintro ⟨out', _⟩ w5 ⟨c', to', e1, e2, e3, e4, s⟩ _
      exact arith_i64 (by omega) (by omega) (loop_fx hn' ⟨c', to', e1, e2, e3, e4, s⟩)
    refine gd_not (gd_mk (fun e => ?_) (fun e => ?_))
    · have hm := hbm.1 e
      obtain ⟨k, hk⟩ := List.getElem?_of_mem hm
      have hkl := (List.getElem?_eq_some_iff.1 hk).1
      have hkc : k = c := by
        have h1 := hcc k _ hk
        rcases Nat.lt_trichotomy k c with h' | h' | h'
        · have := h1.2 h'; omega
        · exact h'
        · have hcget : ids[c]? = some ids[c] := List.getElem?_eq_getElem (by omega)
          have h2 := (sorted_lt hc.sorted hcget hk).2 h'
          have h3 := (hcc c _ hcget).1 (by omega)
          omega
      subst hkc
      have hsh := g.shape (id := 1 + (n : Int)) (by omega) (by omega)
      obtain ⟨⟨hr1, hr2⟩, hr3, hr4⟩ := shape_refs hsh (by omega) (by omega)
      have hget := rulesOf_get (T := T) (n := n) (by omega)
      rw [show ((n : Int) + 1) = 1 + (n : Int) by omega] at hget
      refine s.lds (x := m.2.1) 3 1 rfl rfl (arith_i64 (by omega) (by omega) ((Sp.rfs_ s (j + 4) hj).2.1.idx (n := n) (by omega) hget rfl fun q hq => ⟨_, hq, s.allocK fun a17 w7 s => s.st0 0 rfl rfl rfl fun w8 s => ?_⟩))
      have hR : mvr ids (eAt T (1 + (n : Int))).1 = ((eAt T (1 + (n : Int))).1.1, (eAt T (1 + (n : Int))).1.2.1, pos ids (eAt T (1 + (n : Int))).1.2.2.1, pos ids (eAt T (1 + (n : Int))).1.2.2.2.1, (eAt T (1 + (n : Int))).1.2.2.2.2) := rfl
      have g1 := hto (eAt T (1 + (n : Int))).1.2.2.1.toNat (by omega)
      rw [show (((eAt T (1 + (n : Int))).1.2.2.1.toNat : Nat) : Int) = (eAt T (1 + (n : Int))).1.2.2.1 by omega, if_pos hr2] at g1
      have g2 := hto (eAt T (1 + (n : Int))).1.2.2.2.1.toNat (by omega)
      rw [show (((eAt T (1 + (n : Int))).1.2.2.2.1.toNat : Nat) : Int) = (eAt T (1 + (n : Int))).1.2.2.2.1 by omega, if_pos hr4] at g2
      have hex : (exp T ids)[k]? = some (mvr ids (eAt T (1 + (n : Int))).1) := by unfold exp; rw [List.getElem?_map, hk]; rfl
      generalize (eAt T (1 + (n : Int))).1 = r at *
      refine s.ldi (x := r.2.2.1) 0 2 rfl rfl ((s.view 2 rfl).idx (n := r.2.2.1.toNat) (by omega) g1 rfl fun q hq => ⟨_, hq, s.st 0 2 rfl rfl rfl fun w9 s => s.ldi (x := r.2.2.2.1) 0 3 rfl rfl ((s.view 2 rfl).idx (n := r.2.2.2.1.toNat) (by omega) g2 rfl fun q hq => ⟨_, hq, s.st 0 3 rfl rfl rfl fun w10 s => ?_⟩)⟩)
      refine s.ld0 (ty := yapi_Rule) (x := mvr ids r) 0 rfl rfl (s.allocK fun a25 w11 s => s.app 2 rfl ((s.lit (ty := yapi_Rule) 0 rfl [mvr ids r] 1 rfl rfl).view 0 rfl) (by
        have := exp_len T ids
        simp only [List.length_take, List.length_cons, List.length_nil]; omega) fun s26 w12 s => ?_)
      have ht : (exp T ids).take (k + 1) = (exp T ids).take k ++ [mvr ids r] := by rw [List.take_add_one, hex]; rfl
      have hslen := (s.view 2 rfl).len
      have hsl2 : s26.len = k + 1 := by
        have := exp_len T ids
        simp only [List.length_append, List.length_take, List.length_cons, List.length_nil] at hslen; omega
      rw [hsl2]
      refine s.setI 3 rfl (n := n + 1) (y := ((k + 1 : Nat) : Int)) (by omega) (by omega) fun w13 s => ⟨k + 1, to.set (n + 1) ((k + 1 : Nat) : Int), by omega, fun k' x' hk' => ?_, by rw [List.length_set]; exact htl, fun x hx => ?_, ?_⟩
      · have h1 := hcc k' x' hk'
        have h2 := sorted_lt hc.sorted hk' hk
        constructor
        · intro h3
          by_cases h4 : x' < 1 + (n : Int)
          · have := h1.1 h4; omega
          · have h5 : x' = 1 + (n : Int) := by omega
            subst h5
            have := (List.getElem_inj hc.nodup (h₀ := (List.getElem?_eq_some_iff.1 hk').1) (h₁ := hkl)).1 (by rw [(List.getElem?_eq_some_iff.1 hk').2, (List.getElem?_eq_some_iff.1 hk).2])
            omega
        · intro h3
          by_cases h4 : k' < k
          · have := h1.2 h4; omega
          · have h5 : k' = k := by omega
            subst h5
            rw [hk] at hk'; cases hk'; omega
      · rw [List.getElem?_set]
        by_cases c1 : n + 1 = x
        · rw [if_pos c1, if_pos (by omega), if_pos (by omega), show (x : Int) = 1 + (n : Int) by omega, pos_some hc.nodup hk]
          rfl
        · rw [if_neg c1, hto x hx]
          by_cases c2 : (x : Int) < 1 + (n : Int)
          · rw [if_pos c2, if_pos (by omega)]
          · rw [if_neg c2, if_neg (by omega)]
      · rw [ht]
        exact s.pick [2, 3, 4, 5] 6 rfl (by decide)
    · have hnm : ¬ (1 + (n : Int)) ∈ ids := fun h => by rw [hbm.2 h] at e; cases e
      refine ⟨c, to, hcl, fun k x hk => ?_, htl, fun x hx => ?_, s⟩
      · rw [← hcc k x hk]
        have : x ≠ 1 + (n : Int) := fun e => hnm (e ▸ List.mem_of_getElem? hk)
        omega
      · rw [hto x hx]
        by_cases c1 : (x : Int) < 1 + (n : Int)
        · rw [if_pos c1, if_pos (by omega)]
        · rw [if_neg c1]
          by_cases c2 : (x : Int) < 1 + ((n + 1 : Nat) : Int)
          · rw [if_pos c2, show (x : Int) = 1 + (n : Int) by omega, pos_none hnm]
          · rw [if_neg c2]
  · have hn' : n = T.length := by omega
    subst hn'
    have hcN : c = ids.length := by
      by_cases h : c < ids.length
      · have hk : ids[c]? = some ids[c] := List.getElem?_eq_getElem h
        have := (hcc c _ hk).1 (by have := (hc.bound _ (List.getElem_mem h)).2; omega)
        omega
      · omega
    subst hcN
    have e1 : (exp T ids).take ids.length = exp T ids := by rw [← exp_len T ids, List.take_length]
    rw [e1] at s
    exact h _ _ (s.pick [0] 4 rfl (by decide))

theorem law10_InternExports_spec {id : Int} {sl : Sl} {ops : List OT} (hv : View yevergreenlaw10_Op w0 sl ops) (ho : ∀ o ∈ ops, OpOK o) {K : Bool → World → Prop} (h : ∀ w', Ext w0 w' → K true w') : C_law10_InternExports sl id K w0 := by
  apply S_law10_InternExports
  unfold F_law10_InternExports
  refine few_guard (fun w1 x hx e1 => fun _ => gd_t hx (law10_awake_spec fun w2 e2 => h _ (e1.trans e2))) fun w1 x hs hx e1 => fun _ => gd_f hx ?_
  refine law10_Built_spec ((Sp.init w0).toExt e1) hv ho (by omega) fun p m T w3 s => s.allocK fun a7 w4 s => s.st0 0 rfl rfl rfl fun w5 s => gd_f rfl ?_
  obtain ⟨hlen, hmo⟩ := rfs_len s 1 rfl
  obtain ⟨_, _, _, hb0, hb1, hb2, hg⟩ := Sp.entry s 2 rfl
  refine loop_by (fun x => x.1) (T.length + 1) (fun n _ w => Sp w0 [cel a7 (cells yevergreenref10_S m), rfs m (clip20 100) T, sto p (clip20 100) T] w) rfl s ?_
  rintro n ⟨x, _⟩ w6 hn hx s _
  dsimp only at hx ⊢
  subst hx
  refine s.lds (x := m.2.1) 0 1 rfl rfl (gd_dec (fun hle => ?_) (fun hgt => ?_))
  · refine intern_Export_sp s 2 rfl (fun _ sl1 w7 s => ?_) (fun hn => absurd ⟨by omega, by omega⟩ hn)
    refine JoinP.inl (nilIfc_nil (gd_f rfl (s.ld0 1 rfl rfl (ref10_Export_spec hg s 2 rfl (by omega) (by omega) (by omega) fun sl2 w8 s => ?_))))
    have hel := exp_len T (rlist T [(n : Int)])
    have hrl := rlist_len T [(n : Int)]
    refine ref10_Same_spec s (fun w' s => s.view 1 rfl) (fun w' s => s.view 0 rfl) (by omega) fun w9 s => ?_
    rw [decide_eq_true rfl]
    exact fun _ => gd_f rfl (arith_i64 (by omega) (by omega) (loop_nx (by omega) (s.drop 2)))
  · refine intern_Export_sp s 2 rfl (fun hk sl1 w7 s => s.ld0 1 rfl rfl (ref10_Unknown_spec s 2 rfl fun w8 s => ?_)) (fun hk => s.ld0 0 rfl rfl (ref10_Unknown_spec s 1 rfl fun w8 s => ?_))
    · have : known T id = true := decide_eq_true hk
      rw [this]
      exact gd_t rfl (h _ s.ext)
    · have : known T id = false := decide_eq_false hk
      rw [this]
      exact gd_f rfl (base_Is_err (by decide) (gd_t rfl (h _ s.ext)))

end Go.Proofs.Ytddhndabnbckmaa

/- What is exported and imported again: into the same store nothing is added; into an empty one a copy. -/
set_option linter.unusedVariables false
set_option linter.unusedSimpArgs false
namespace Go.Proofs.Ytddhndabnbckmaa
open Go.Den

variable {T : List ET} {ids : List Int} {most : Int}

theorem Closed.nz (hc : Closed T ids) : (0 : Int) ∉ ids := fun h => by have := (hc.bound 0 h).1; omega
theorem pos_zero (hc : Closed T ids) : pos ids 0 = 0 := pos_none hc.nz
/-- the references of a rule of the list, and their places -/
theorem Closed.ref (hc : Closed T ids) (g : Grow T) {k : Nat} {y x : Int} (hk : ids[k]? = some y) (hx : x ∈ Ytddhndabnbckmaa.refs (eAt T y).1) : ∃ j, j < k ∧ ids[j]? = some x ∧ pos ids x = (j : Int) + 1 := by
  have hyb := hc.bound y (List.mem_of_getElem? hk)
  have hxm := hc.refs y (List.mem_of_getElem? hk) x hx
  obtain ⟨j, hj⟩ := List.getElem?_of_mem hxm
  have hlt := (refs_in g hyb.1 hyb.2 hx).2
  exact ⟨j, (sorted_lt hc.sorted hj hk).1 hlt, hj, pos_some hc.nodup hj⟩
theorem exp_get {k : Nat} {y : Int} (hk : ids[k]? = some y) : (exp T ids)[k]? = some (mvr ids (eAt T y).1) := by
  unfold exp; rw [List.getElem?_map, hk]; rfl
theorem chk_exp (g : Grow T) (hc : Closed T ids) {k : Nat} {y : Int} (hk : ids[k]? = some y) : chk (mvr ids (eAt T y).1) ((k : Int) + 1) = 0 := by
  have hyb := hc.bound y (List.mem_of_getElem? hk)
  have p0 := pos_zero hc
  have hf : formB (mvr ids (eAt T y).1) = true ∧ placeB (mvr ids (eAt T y).1) ((k : Int) + 1) = true := by
    cases g.shape hyb.1 hyb.2 with
    | letter b _ _ e =>
      rw [e]
      refine ⟨by simp [formB, mvr, mkLetter, p0], ?_⟩
      rw [placeB_1 (by rfl)]; simp; omega
    | pair l r _ _ _ _ _ e =>
      obtain ⟨j1, h1, _, e1⟩ := hc.ref g hk (x := l) (by rw [e]; simp [refs, mkPair])
      obtain ⟨j2, h2, _, e2⟩ := hc.ref g hk (x := r) (by rw [e]; simp [refs, mkPair])
      rw [e]
      refine ⟨by simp [formB, mvr, mkPair], ?_⟩
      rw [placeB_2 (by rfl)]
      simp only [mvr, mkPair, decide_eq_true_eq, e1, e2]; omega
    | power x n _ _ hn _ e =>
      obtain ⟨j1, h1, _, e1⟩ := hc.ref g hk (x := x) (by rw [e]; simp [refs, mkPower])
      rw [e]
      refine ⟨by simp [formB, mvr, mkPower, p0, hn], ?_⟩
      rw [placeB_3 (by rfl)]
      simp only [mvr, mkPower, decide_eq_true_eq, e1]; omega
  unfold chk
  rw [hf.1, if_pos rfl, hf.2, if_pos rfl]
theorem bad_of : ∀ (l : List RT) (n : Int), (∀ (i : Nat) (r : RT), l[i]? = some r → chk r (n + i) = 0) → bad l n = 0
  | [], _, _ => rfl
  | r :: l, n, h => by
    rw [bad_cons, if_pos (by have := h 0 r rfl; simpa using this)]
    refine bad_of l (n + 1) fun i x hi => ?_
    have := h (i + 1) x (by simpa using hi)
    rw [← this]; congr 1; omega
theorem bad_exp (g : Grow T) (hc : Closed T ids) : bad (exp T ids) 1 = 0 := by
  refine bad_of _ _ fun i r hi => ?_
  obtain ⟨y, hy⟩ : ∃ y, ids[i]? = some y := by
    have := (List.getElem?_eq_some_iff.1 hi).1
    rw [exp_len] at this
    exact ⟨_, List.getElem?_eq_getElem this⟩
  rw [exp_get hy] at hi
  cases hi
  have := chk_exp g hc hy
  rw [← this]; congr 1; omega

/-! ### Into the same store -/
theorem pPut_same (g : Grow T) (hc : Closed T ids) {k : Nat} {y : Int} (hk : ids[k]? = some y) : pPut T most ((0 : Int) :: ids.take k) (mvr ids (eAt T y).1) = (T, (y, .nilIface)) := by
  have hyb := hc.bound y (List.mem_of_getElem? hk)
  have hfind := g.find hyb.1 hyb.2
  have hat : ∀ {x : Int} {j : Nat}, j < k → ids[j]? = some x → atI ((0 : Int) :: ids.take k) ((j : Int) + 1) = x := by
    intro x j hj hx
    unfold atI
    rw [show ((j : Int) + 1).toNat = j + 1 by omega, List.getD_eq_getElem?_getD, List.getElem?_cons_succ, List.getElem?_take_of_lt hj, hx]; rfl
  unfold pPut
  cases g.shape hyb.1 hyb.2 with
  | letter b _ _ e =>
    rw [e] at hfind ⊢
    rw [if_pos (by rfl)]
    exact (pAdd_some (most := most) (e := mkLetter b) hfind).2.1
  | pair l r a1 a2 a3 a4 a5 e =>
    obtain ⟨j1, h1, g1, e1⟩ := hc.ref g hk (x := l) (by rw [e]; simp [refs, mkPair])
    obtain ⟨j2, h2, g2, e2⟩ := hc.ref g hk (x := r) (by rw [e]; simp [refs, mkPair])
    rw [e] at hfind ⊢
    rw [if_neg (by simp [mvr, mkPair]), if_pos (by rfl)]
    have q1 : atI ((0 : Int) :: ids.take k) (mvr ids (mkPair T l r).1).2.2.1 = l := by
      show atI _ (pos ids l) = l
      rw [e1]; exact hat h1 g1
    have q2 : atI ((0 : Int) :: ids.take k) (mvr ids (mkPair T l r).1).2.2.2.1 = r := by
      show atI _ (pos ids r) = r
      rw [e2]; exact hat h2 g2
    rw [q1, q2]
    unfold pPair
    have kl : known T l = true := decide_eq_true (by omega)
    have kr : known T r = true := decide_eq_true (by omega)
    rw [kl, kr, if_neg (by simp), if_neg (by omega), if_neg (by omega), if_neg (by omega)]
    exact (pAdd_some (most := most) (e := mkPair T l r) hfind).2.1
  | power x n a1 a2 a3 a4 e =>
    obtain ⟨j1, h1, g1, e1⟩ := hc.ref g hk (x := x) (by rw [e]; simp [refs, mkPower])
    rw [e] at hfind ⊢
    rw [if_neg (by simp [mvr, mkPower]), if_neg (by simp [mvr, mkPower])]
    have q1 : atI ((0 : Int) :: ids.take k) (mvr ids (mkPower T x n).1).2.2.1 = x := by
      show atI _ (pos ids x) = x
      rw [e1]; exact hat h1 g1
    rw [q1]
    show pPower T most x n = _
    unfold pPower
    have kx : known T x = true := decide_eq_true (by omega)
    rw [kx, if_neg (by simp; omega), if_neg (by omega), if_neg (by omega), if_neg (by omega)]
    exact (pAdd_some (most := most) (e := mkPower T x n) hfind).2.1
theorem pImps_same (g : Grow T) (hc : Closed T ids) : ∀ (d k : Nat), k + d = ids.length → pImps T most ((exp T ids).drop k) ((0 : Int) :: ids.take k) = (T, (((0 : Int) :: ids).getLastD 0, .nilIface))
  | 0, k, hk => by
    have : k = ids.length := by omega
    subst this
    rw [show (exp T ids).drop ids.length = [] by rw [← exp_len T ids, List.drop_length], List.take_length]
    rfl
  | d + 1, k, hk => by
    have hkl : k < ids.length := by omega
    obtain ⟨y, hy⟩ : ∃ y, ids[k]? = some y := ⟨_, List.getElem?_eq_getElem hkl⟩
    have hd : (exp T ids).drop k = mvr ids (eAt T y).1 :: (exp T ids).drop (k + 1) := by
      have h := exp_get (T := T) hy
      have hl := (List.getElem?_eq_some_iff.1 h).1
      rw [List.drop_eq_getElem_cons hl, (List.getElem?_eq_some_iff.1 h).2]
    rw [hd, pImps_cons, pPut_same g hc hy, if_pos (by rfl)]
    have ht : (0 : Int) :: ids.take k ++ [y] = (0 : Int) :: ids.take (k + 1) := by rw [List.take_add_one, hy]; rfl
    show pImps T most _ ((0 : Int) :: ids.take k ++ [y]) = _
    rw [ht]
    exact pImps_same g hc d (k + 1) (by omega)
theorem pImport_same (g : Grow T) (hc : Closed T ids) : pImport T most (exp T ids) = (T, (((0 : Int) :: ids).getLastD 0, .nilIface)) := by
  unfold pImport
  rw [if_pos (bad_exp g hc)]
  have := pImps_same (most := most) g hc ids.length 0 (by omega)
  simpa using this

/-! ### Into an empty store -/
def copy (T : List ET) (ids : List Int) : List ET := ids.map fun x => (mvr ids (eAt T x).1, (eAt T x).2)
theorem copy_len : (copy T ids).length = ids.length := List.length_map _
theorem copy_get {k : Nat} {y : Int} (hk : ids[k]? = some y) : (copy T ids)[k]? = some (mvr ids (eAt T y).1, (eAt T y).2) := by
  unfold copy; rw [List.getElem?_map, hk]; rfl
theorem copy_at {k m : Nat} {y : Int} (hk : ids[k]? = some y) (hm : k < m) : eAt ((copy T ids).take m) ((k : Int) + 1) = (mvr ids (eAt T y).1, (eAt T y).2) := by
  have hkl := (List.getElem?_eq_some_iff.1 hk).1
  have h := eAt_get (L := (copy T ids).take m) (id := (k : Int) + 1) (by omega) (by rw [List.length_take, copy_len]; omega)
  rw [show ((k : Int) + 1 - 1).toNat = k by omega, List.getElem?_take_of_lt hm, copy_get hk] at h
  exact (Option.some.inj h).symm
theorem pos_inj (hc : Closed T ids) {x y : Int} (hx : x = 0 ∨ x ∈ ids) (hy : y = 0 ∨ y ∈ ids) (h : pos ids x = pos ids y) : x = y := by
  have key : ∀ {x : Int}, x ∈ ids → ∃ j : Nat, ids[j]? = some x ∧ pos ids x = (j : Int) + 1 := fun hx => by
    obtain ⟨j, hj⟩ := List.getElem?_of_mem hx
    exact ⟨j, hj, pos_some hc.nodup hj⟩
  have p0 := pos_zero hc
  rcases hx with rfl | hx
  · rcases hy with rfl | hy
    · rfl
    · obtain ⟨j, _, e⟩ := key hy
      rw [p0, e] at h; omega
  · obtain ⟨i, hi, ei⟩ := key hx
    rcases hy with rfl | hy
    · rw [p0, ei] at h; omega
    · obtain ⟨j, hj, e⟩ := key hy
      rw [ei, e] at h
      have : i = j := by omega
      subst this
      rw [hi] at hj
      exact Option.some.inj hj
theorem refs_mem (g : Grow T) (hc : Closed T ids) {y : Int} (hy : y ∈ ids) : ((eAt T y).1.2.2.1 = 0 ∨ (eAt T y).1.2.2.1 ∈ ids) ∧ ((eAt T y).1.2.2.2.1 = 0 ∨ (eAt T y).1.2.2.2.1 ∈ ids) := by
  have hyb := hc.bound y hy
  have hr := hc.refs y hy
  cases g.shape hyb.1 hyb.2 with
  | letter b _ _ e => rw [e]; exact ⟨Or.inl rfl, Or.inl rfl⟩
  | pair l r _ _ _ _ _ e =>
    rw [e] at hr ⊢
    exact ⟨Or.inr (hr l (by simp [refs, mkPair])), Or.inr (hr r (by simp [refs, mkPair]))⟩
  | power x k _ _ _ _ e =>
    rw [e] at hr ⊢
    exact ⟨Or.inr (hr x (by simp [refs, mkPower])), Or.inl rfl⟩
theorem mvr_inj (g : Grow T) (hc : Closed T ids) {x y : Int} (hx : x ∈ ids) (hy : y ∈ ids) (h : mvr ids (eAt T x).1 = mvr ids (eAt T y).1) : x = y := by
  have hxb := hc.bound x hx
  have hyb := hc.bound y hy
  have rx := refs_mem g hc hx
  have ry := refs_mem g hc hy
  have f1 := g.find hxb.1 hxb.2
  have f2 := g.find hyb.1 hyb.2
  have e : (eAt T x).1 = (eAt T y).1 := by
    generalize (eAt T x).1 = a at h rx
    generalize (eAt T y).1 = b at h ry
    simp only [mvr, Prod.mk.injEq] at h
    obtain ⟨h1, h2, h3, h4, h5⟩ := h
    exact Prod.ext h1 (Prod.ext h2 (Prod.ext (pos_inj hc rx.1 ry.1 h3) (Prod.ext (pos_inj hc rx.2 ry.2 h4) h5)))
  rw [e, f2] at f1
  exact (Option.some.inj f1).symm
theorem copy_fresh (g : Grow T) (hc : Closed T ids) {k : Nat} {y : Int} (hk : ids[k]? = some y) : lkR ((copy T ids).take k) (mvr ids (eAt T y).1) = none := by
  refine lkR_none fun e he h => ?_
  obtain ⟨j, hj⟩ := List.getElem?_of_mem he
  have hjk : j < k := by
    have := (List.getElem?_eq_some_iff.1 hj).1
    rw [List.length_take] at this; omega
  have hkl := (List.getElem?_eq_some_iff.1 hk).1
  rw [List.getElem?_take_of_lt hjk] at hj
  obtain ⟨x, hx⟩ : ∃ x, ids[j]? = some x := ⟨_, List.getElem?_eq_getElem (by omega)⟩
  rw [copy_get hx] at hj
  cases hj
  have := mvr_inj g hc (List.mem_of_getElem? hx) (List.mem_of_getElem? hk) h
  have := (sorted_lt hc.sorted hx hk).2 hjk
  omega
def ups (k : Nat) : List Int := (List.range (k + 1)).map fun i : Nat => (i : Int)
theorem ups_succ (k : Nat) : ups (k + 1) = ups k ++ [((k : Int) + 1)] := by
  unfold ups
  rw [List.range_succ, List.map_append]; rfl
theorem ups_at {k j : Nat} (h : j ≤ k) : atI (ups k) (j : Int) = j := by
  unfold atI ups
  rw [List.getD_eq_getElem?_getD, List.getElem?_map, List.getElem?_range (by omega)]; simp
theorem pPut_copy (g : Grow T) (hc : Closed T ids) {k : Nat} {y : Int} (hk : ids[k]? = some y) (hm : (k : Int) < most) : pPut ((copy T ids).take k) most (ups k) (mvr ids (eAt T y).1) = ((copy T ids).take (k + 1), ((k : Int) + 1, .nilIface)) := by
  have hyb := hc.bound y (List.mem_of_getElem? hk)
  have hkl := (List.getElem?_eq_some_iff.1 hk).1
  have hfr := copy_fresh g hc hk
  have hlen : ((copy T ids).take k).length = k := by rw [List.length_take, copy_len]; omega
  have hstep : (copy T ids).take (k + 1) = (copy T ids).take k ++ [(mvr ids (eAt T y).1, (eAt T y).2)] := by rw [List.take_add_one, copy_get hk]; rfl
  have p0 := pos_zero hc
  have fin : ∀ e : ET, e = (mvr ids (eAt T y).1, (eAt T y).2) → pAdd ((copy T ids).take k) most e = ((copy T ids).take (k + 1), ((k : Int) + 1, .nilIface)) := by
    rintro e rfl
    rw [(pAdd_new (most := most) (e := (mvr ids (eAt T y).1, (eAt T y).2)) hfr (by rw [hlen]; omega)).2, ← hstep, hlen]
  unfold pPut
  cases g.shape hyb.1 hyb.2 with
  | letter b _ _ e =>
    rw [e] at fin ⊢
    rw [if_pos (by rfl)]
    refine fin (mkLetter b) ?_
    simp [mvr, mkLetter, p0]
  | pair l r a1 a2 a3 a4 a5 e =>
    obtain ⟨j1, h1, g1, e1⟩ := hc.ref g hk (x := l) (by rw [e]; simp [refs, mkPair])
    obtain ⟨j2, h2, g2, e2⟩ := hc.ref g hk (x := r) (by rw [e]; simp [refs, mkPair])
    rw [e] at fin ⊢
    rw [if_neg (by simp [mvr, mkPair]), if_pos (by rfl)]
    have q1 : atI (ups k) (mvr ids (mkPair T l r).1).2.2.1 = (j1 : Int) + 1 := by
      show atI _ (pos ids l) = _
      rw [e1]; exact ups_at (j := j1 + 1) (by omega)
    have q2 : atI (ups k) (mvr ids (mkPair T l r).1).2.2.2.1 = (j2 : Int) + 1 := by
      show atI _ (pos ids r) = _
      rw [e2]; exact ups_at (j := j2 + 1) (by omega)
    have w1 := copy_at (T := T) g1 h1
    have w2 := copy_at (T := T) g2 h2
    rw [q1, q2]
    unfold pPair
    have kl : known ((copy T ids).take k) ((j1 : Int) + 1) = true := decide_eq_true (by rw [hlen]; omega)
    have kr : known ((copy T ids).take k) ((j2 : Int) + 1) = true := decide_eq_true (by rw [hlen]; omega)
    rw [kl, kr, if_neg (by simp), if_neg (by omega), if_neg (by omega), w1, w2, if_neg (by simp only; omega)]
    refine fin _ ?_
    unfold mkPair
    rw [w1, w2]
    simp only [mvr, e1, e2]
  | power x n a1 a2 a3 a4 e =>
    obtain ⟨j1, h1, g1, e1⟩ := hc.ref g hk (x := x) (by rw [e]; simp [refs, mkPower])
    rw [e] at fin ⊢
    rw [if_neg (by simp [mvr, mkPower]), if_neg (by simp [mvr, mkPower])]
    have q1 : atI (ups k) (mvr ids (mkPower T x n).1).2.2.1 = (j1 : Int) + 1 := by
      show atI _ (pos ids x) = _
      rw [e1]; exact ups_at (j := j1 + 1) (by omega)
    have w1 := copy_at (T := T) g1 h1
    rw [q1]
    show pPower _ most _ n = _
    unfold pPower
    have kx : known ((copy T ids).take k) ((j1 : Int) + 1) = true := decide_eq_true (by rw [hlen]; omega)
    rw [kx, if_neg (by simp; omega), if_neg (by omega), if_neg (by omega), w1, if_neg (by simp only; omega)]
    refine fin _ ?_
    unfold mkPower
    rw [w1]
    simp only [mvr, e1, p0]
theorem pImps_copy (g : Grow T) (hc : Closed T ids) (hm : (ids.length : Int) ≤ most) : ∀ (d k : Nat), k + d = ids.length → pImps ((copy T ids).take k) most ((exp T ids).drop k) (ups k) = (copy T ids, ((ids.length : Int), .nilIface))
  | 0, k, hk => by
    have : k = ids.length := by omega
    subst this
    rw [show (exp T ids).drop ids.length = [] by rw [← exp_len T ids, List.drop_length]]
    have : (copy T ids).take ids.length = copy T ids := by rw [← copy_len (T := T), List.take_length]
    rw [this]
    unfold pImps
    congr 2
    unfold ups
    rw [List.range_succ, List.map_append]
    simp
  | d + 1, k, hk => by
    have hkl : k < ids.length := by omega
    obtain ⟨y, hy⟩ : ∃ y, ids[k]? = some y := ⟨_, List.getElem?_eq_getElem hkl⟩
    have hd : (exp T ids).drop k = mvr ids (eAt T y).1 :: (exp T ids).drop (k + 1) := by
      have h := exp_get (T := T) hy
      have hl := (List.getElem?_eq_some_iff.1 h).1
      rw [List.drop_eq_getElem_cons hl, (List.getElem?_eq_some_iff.1 h).2]
    rw [hd, pImps_cons, pPut_copy g hc hy (by omega), if_pos (by rfl)]
    show pImps _ most _ (ups k ++ [((k : Int) + 1)]) = _
    rw [← ups_succ]
    exact pImps_copy g hc hm d (k + 1) (by omega)
theorem pImport_copy (g : Grow T) (hc : Closed T ids) (hm : (ids.length : Int) ≤ most) : pImport [] most (exp T ids) = (copy T ids, ((ids.length : Int), .nilIface)) := by
  unfold pImport
  rw [if_pos (bad_exp g hc)]
  have := pImps_copy (most := most) g hc hm ids.length 0 (by omega)
  simpa [ups] using this

end Go.Proofs.Ytddhndabnbckmaa

/- A copy exports the same; the walk of InternMoves. -/
set_option linter.unusedVariables false
set_option linter.unusedSimpArgs false
namespace Go.Proofs.Ytddhndabnbckmaa
open Go.Den

variable {w0 w : World} {T : List ET} {ids : List Int} {most : Int}

theorem mvr_byte (g : Grow T) {y : Int} (h1 : 1 ≤ y) (h2 : y ≤ T.length) : 0 ≤ (mvr ids (eAt T y).1).2.1 ∧ (mvr ids (eAt T y).1).2.1 < 256 := by
  cases g.shape h1 h2 with
  | letter b h3 h4 e => rw [e]; exact ⟨h3, h4⟩
  | pair l r _ _ _ _ _ e => rw [e]; simp [mvr, mkPair]
  | power x k _ _ _ _ e => rw [e]; simp [mvr, mkPower]
theorem copy_grow (g : Grow T) (hc : Closed T ids) : Grow (copy T ids) := by
  have key : ∀ k : Nat, k ≤ ids.length → Grow ((copy T ids).take k) := by
    intro k
    induction k with
    | zero => intro _; exact .nil
    | succ k ih =>
      intro hk
      obtain ⟨y, hy⟩ : ∃ y, ids[k]? = some y := ⟨_, List.getElem?_eq_getElem hk⟩
      have hyb := hc.bound y (List.mem_of_getElem? hy)
      have hlen : ((copy T ids).take k).length = k := by rw [List.length_take, copy_len]; omega
      have := (pPut_grow (most := (k : Int) + 1) (ids := ups k) (r := mvr ids (eAt T y).1) (ih (by omega)) (by rw [hlen]; omega) (mvr_byte g hyb.1 hyb.2)).1
      rw [pPut_copy g hc hy (by omega)] at this
      exact this
  have := key ids.length (Nat.le_refl _)
  rwa [← copy_len (T := T), List.take_length] at this
theorem eAt_copy {k : Nat} {y : Int} (hk : ids[k]? = some y) : eAt (copy T ids) ((k : Int) + 1) = (mvr ids (eAt T y).1, (eAt T y).2) := by
  have h := copy_at (T := T) hk (m := ids.length) (List.getElem?_eq_some_iff.1 hk).1
  rwa [← copy_len (T := T), List.take_length] at h
theorem refs_mvr (g : Grow T) (hc : Closed T ids) {y x : Int} (hy : y ∈ ids) (hx : x ∈ refs (eAt T y).1) : pos ids x ∈ refs (mvr ids (eAt T y).1) := by
  have hyb := hc.bound y hy
  cases g.shape hyb.1 hyb.2 with
  | letter b _ _ e => rw [e] at hx; simp [refs, mkLetter] at hx
  | pair l r _ _ _ _ _ e =>
    rw [e] at hx ⊢
    have : x = l ∨ x = r := by simpa [refs, mkPair] using hx
    rcases this with rfl | rfl <;> simp [refs, mvr, mkPair]
  | power a k _ _ _ _ e =>
    rw [e] at hx ⊢
    have : x = a := by simpa [refs, mkPower] using hx
    subst this; simp [refs, mvr, mkPower]
def upTo (n : Nat) : List Int := (List.range n).map fun i : Nat => (i : Int) + 1
theorem upTo_get {n k : Nat} (h : k < n) : (upTo n)[k]? = some ((k : Int) + 1) := by
  unfold upTo
  rw [List.getElem?_map, List.getElem?_range h]; rfl
theorem upTo_mem {n : Nat} {x : Int} : x ∈ upTo n ↔ 1 ≤ x ∧ x ≤ n := by
  unfold upTo
  rw [List.mem_map]
  constructor
  · rintro ⟨i, hi, rfl⟩
    have := List.mem_range.1 hi; omega
  · intro h
    exact ⟨(x - 1).toNat, List.mem_range.2 (by omega), by omega⟩
theorem upTo_sorted (n : Nat) : (upTo n).Pairwise (fun x y => x < y) := by
  unfold upTo
  rw [List.pairwise_map]
  exact List.pairwise_lt_range.imp fun h => by omega
theorem upTo_pos {n : Nat} {x : Int} (h0 : 0 ≤ x) (h : x ≤ n) : pos (upTo n) x = x := by
  by_cases c : x = 0
  · subst c
    exact pos_none fun hm => by have := (upTo_mem.1 hm).1; omega
  · have := pos_some ((upTo_sorted n).imp fun h => by omega) (upTo_get (n := n) (k := (x - 1).toNat) (by omega))
    rw [show (((x - 1).toNat : Nat) : Int) + 1 = x by omega] at this
    exact this
theorem pos_bound (hc : Closed T ids) (x : Int) : 0 ≤ pos ids x ∧ pos ids x ≤ ids.length := by
  by_cases h : x ∈ ids
  · obtain ⟨j, hj⟩ := List.getElem?_of_mem h
    have := (List.getElem?_eq_some_iff.1 hj).1
    rw [pos_some hc.nodup hj]; omega
  · rw [pos_none h]; omega
/-- the copy of what one rule reaches, exported from its last rule -/
theorem exp_copy (g : Grow T) {id : Int} (h0 : 0 ≤ id) (h1 : id ≤ T.length) : exp (copy T (rlist T [id])) (rlist (copy T (rlist T [id])) [((rlist T [id]).length : Int)]) = exp T (rlist T [id]) ∧ ((0 : Int) :: rlist T [id]).getLastD 0 = id := by
  have hS : ∀ x ∈ [id], 0 ≤ x ∧ x ≤ (T.length : Int) := fun x hx => by simp at hx; subst hx; exact ⟨h0, h1⟩
  have hc := rlist_closed g hS
  have hmem : ∀ x : Int, x ∈ rlist T [id] ↔ Rch T [id] x := fun x => rlist_mem g hS
  generalize rlist T [id] = ids at *
  have hle : ∀ x, Rch T [id] x → x ≤ id := fun x h => by
    induction h with
    | root h _ => simp at h; omega
    | ref h1 h2 ih =>
      have b := h1.bound g hS
      have := (refs_in g b.1 b.2 h2).2
      omega
  by_cases hz : id = 0
  · subst hz
    have he : ids = [] := by
      apply List.eq_nil_iff_forall_not_mem.2
      intro x hx
      have b := hc.bound x hx
      have := hle x ((hmem x).1 hx)
      omega
    subst he
    refine ⟨?_, rfl⟩
    have : rlist (copy T []) [(([] : List Int).length : Int)] = [] := rlist_zero
    rw [this]; rfl
  have hidm : id ∈ ids := (hmem id).2 (.root (by simp) hz)
  obtain ⟨k, hk⟩ := List.getElem?_of_mem hidm
  have hkl := (List.getElem?_eq_some_iff.1 hk).1
  have hlast : k + 1 = ids.length := by
    by_cases h : k + 1 < ids.length
    · have hg : ids[k + 1]? = some ids[k + 1] := List.getElem?_eq_getElem h
      have h2 := (sorted_lt hc.sorted hk hg).2 (by omega)
      have h3 := hle _ ((hmem _).1 (List.getElem_mem h))
      omega
    · omega
  have hlen := copy_len (T := T) (ids := ids)
  have gc := copy_grow g hc
  have hS' : ∀ x ∈ [(ids.length : Int)], 0 ≤ x ∧ x ≤ ((copy T ids).length : Int) := fun x hx => by simp at hx; subst hx; omega
  have hreach : ∀ x : Int, Rch T [id] x → ∀ j : Nat, ids[j]? = some x → Rch (copy T ids) [(ids.length : Int)] ((j : Int) + 1) := by
    intro x hx
    induction hx with
    | root h1 _ =>
      intro j hj
      simp at h1
      subst h1
      have : j = k := (List.getElem_inj hc.nodup (h₀ := (List.getElem?_eq_some_iff.1 hj).1) (h₁ := hkl)).1 (by rw [(List.getElem?_eq_some_iff.1 hj).2, (List.getElem?_eq_some_iff.1 hk).2])
      subst this
      exact .root (by simp; omega) (by omega)
    | @ref y x h1 h2 ih =>
      intro j hj
      have hym := (hmem y).2 h1
      obtain ⟨i, hi⟩ := List.getElem?_of_mem hym
      have := ih i hi
      refine .ref this ?_
      rw [eAt_copy hi]
      have := refs_mvr g hc hym h2
      rwa [pos_some hc.nodup hj] at this
  have hr : rlist (copy T ids) [(ids.length : Int)] = upTo ids.length := by
    refine sorted_unique rlist_sorted (upTo_sorted _) fun x => ?_
    rw [rlist_mem gc hS', upTo_mem]
    constructor
    · intro h
      have := h.bound gc hS'
      omega
    · intro h
      have hg : ids[(x - 1).toNat]? = some ids[(x - 1).toNat] := List.getElem?_eq_getElem (by omega)
      have := hreach _ ((hmem _).1 (List.getElem_mem (by omega))) _ hg
      rwa [show (((x - 1).toNat : Nat) : Int) + 1 = x by omega] at this
  constructor
  · rw [hr]
    apply List.ext_getElem?
    intro i
    by_cases hi : i < ids.length
    · have hg : ids[i]? = some ids[i] := List.getElem?_eq_getElem hi
      rw [exp_get (upTo_get hi), exp_get hg, eAt_copy hg]
      have b1 := pos_bound hc (eAt T ids[i]).1.2.2.1
      have b2 := pos_bound hc (eAt T ids[i]).1.2.2.2.1
      simp only [mvr]
      rw [upTo_pos b1.1 b1.2, upTo_pos b2.1 b2.2]
    · rw [List.getElem?_eq_none (by rw [exp_len]; simp [upTo]; omega), List.getElem?_eq_none (by rw [exp_len]; omega)]
  · rw [List.getLastD_cons, List.getLastD_eq_getLast?, List.getLast?_eq_getElem?, show ids.length - 1 = k by omega, hk]; rfl

theorem ruleOK_exp (g : Grow T) (hc : Closed T ids) : ∀ r ∈ exp T ids, RuleOK r := by
  intro r hr
  obtain ⟨y, hy, rfl⟩ := List.mem_map.1 hr
  have hyb := hc.bound y hy
  refine ⟨mvr_byte g hyb.1 hyb.2, ?_⟩
  show (eAt T y).1.2.2.2.2 ≤ _
  cases g.shape hyb.1 hyb.2 with
  | letter b _ _ e => rw [e]; simp [mkLetter]
  | pair l r _ _ _ _ _ e => rw [e]; simp [mkPair]
  | power x k h1 h2 h3 h4 e =>
    rw [e]
    have hpos := (g.at_ (id := x) (by omega) (by omega)).2.2.2 h1
    have : 1 * k ≤ (eAt T x).2.1.1 * k := Int.mul_le_mul_of_nonneg_right hpos (by omega)
    simp only [mkPower]; omega

theorem law10_InternMoves_spec {sl : Sl} {ops : List OT} (hv : View yevergreenlaw10_Op w0 sl ops) (ho : ∀ o ∈ ops, OpOK o) {K : Bool → World → Prop} (h : ∀ w', Ext w0 w' → K true w') : C_law10_InternMoves sl K w0 := by
  apply S_law10_InternMoves
  unfold F_law10_InternMoves
  refine few_guard (fun w1 x hx e1 => fun _ => gd_t hx (law10_awake_spec fun w2 e2 => h _ (e1.trans e2))) fun w1 x hs hx e1 => fun _ => gd_f hx ?_
  have hlen := hv.len
  refine intern_New_sp ((Sp.init w0).toExt e1) fun p w2 s => intern_New_sp s fun q w3 s => JoinP.inl (gd_f rfl fun _ => gd_f rfl ?_)
  refine loop_by (fun x => x.1) ops.length (fun n _ w => ∃ T, Sp w0 [sto q 100 [], sto p 100 T] w) rfl ⟨[], s⟩ ?_
  rintro n ⟨x, _⟩ w3 hn hx ⟨T, s⟩ _
  dsimp only at hx ⊢
  subst hx
  refine gd_dec (fun hlt => ?_) (fun hge => ?_)
  · have hn' : n < ops.length := by omega
    have hok := ho _ (List.getElem_mem hn')
    refine (hv.ext s.ext).idx rfl (List.getElem?_eq_getElem hn') rfl fun q hq => ⟨_, hq, s.allocK fun a11 w8 s => s.st0 0 rfl rfl rfl fun w9 s => s.ld0 0 rfl rfl (do_zero hok s 2 rfl fun x w10 s => ?_)⟩
    exact arith_i64 (by omega) (by omega) (loop_nx hn' ⟨_, s.drop 1⟩)
  obtain ⟨_, _, _, hb0, hb1, hb2, hg⟩ := Sp.entry s 1 rfl
  have hT0 : (0 : Int) ≤ (T.length : Int) := by omega
  obtain ⟨hexp, hlast⟩ := exp_copy hg hT0 (Int.le_refl _)
  have hS : ∀ x ∈ [(T.length : Int)], 0 ≤ x ∧ x ≤ (T.length : Int) := fun x hx => by simp at hx; subst hx; omega
  have hc := rlist_closed hg hS
  have hrl := rlist_len T [(T.length : Int)]
  refine intern_Len_sp s 1 rfl (intern_Export_sp s 1 rfl (fun _ sl1 w4 s => nilIfc_nil (gd_f rfl ?_)) (fun hn => absurd ⟨by omega, by omega⟩ hn))
  generalize rlist T [(T.length : Int)] = ids at *
  have hel := exp_len T ids
  have hro := ruleOK_exp hg hc
  refine intern_Import_sp hro (by omega) s 2 rfl (fun w' Ω' s => s.view (Ω'.length + 0) (by rw [List.getElem?_append_right (by omega)]; simp)) (fun w' Ω' T' s => s.view (Ω'.length + 0) (by rw [List.getElem?_append_right (by omega)]; simp)) fun w5 s => ?_
  rw [pImport_same hg hc] at s ⊢
  refine intern_Import_sp hro (by omega) s 1 rfl (fun w' Ω' s => s.view (Ω'.length + 0) (by rw [List.getElem?_append_right (by omega)]; simp)) (fun w' Ω' T' s => s.view (Ω'.length + 0) (by rw [List.getElem?_append_right (by omega)]; simp)) fun w6 s => ?_
  rw [pImport_copy hg hc (by omega)] at s ⊢
  have hcl := copy_len (T := T) (ids := ids)
  refine intern_Export_sp s 1 rfl (fun _ sl2 w7 s => ?_) (fun hn => absurd ⟨by dsimp only; omega, by dsimp only; omega⟩ hn)
  rw [hexp] at s
  have hsl1 := (s.view 1 rfl).len
  refine nilIfc_nil (gd_t rfl (nilIfc_nil (gd_t rfl (nilIfc_nil (gd_t rfl (gd_t ?_ (intern_Len_sp s 3 rfl (gd_t (by simp) (intern_Len_sp s 2 rfl (gd_t ?_ (gd_t ?_ ?_)))))))))))
  · rw [hlast]; simp
  · rw [hcl, hsl1, hel]; simp
  · rw [hsl1, hel]; simp
  refine ref10_Same_spec s (fun w' s => s.view 1 rfl) (fun w' s => s.view 0 rfl) (by omega) fun w9 s => ?_
  rw [decide_eq_true rfl]
  exact h _ s.ext

end Go.Proofs.Ytddhndabnbckmaa
