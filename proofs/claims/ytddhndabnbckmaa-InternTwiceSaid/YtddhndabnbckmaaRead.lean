/- What an argument that was read holds: numbers, truth values and structs of such, and slices of them. Generic: no statement, no project text. -/
import Derived.Test.YtddhndabnbckmaaList
import Derived.Test.YtddhndabnbckmaaEq
import Derived.Test.YtddhndabnbckmaaLift
import Derived.Deep.Slices
namespace Go.Den
open Go.ChangeShapes Go.WideShapes Go.Deep

def wfT : (t : Ty) → t.T → Prop
  | .int k, n => (Lit.int k n).wf = true
  | .pair a b, x => wfT a x.1 ∧ wfT b x.2
  | .st t, x => wfT t x
  | _, _ => True

def rdF (P : Program) (e : TypeId → Ty → Bool) : List Field → Ty → Nat → Bool
  | [], _, _ => false
  | f :: fs, c, off => match fs, c with
    | [], a => Nat.beq f.offset off && Nat.beq (P.cellsOf f.type) a.size && e f.type a
    | _, .pair a b => Nat.beq f.offset off && Nat.beq (P.cellsOf f.type) a.size && e f.type a && rdF P e fs b (off + a.size)
    | _, _ => false
def rdOK (P : Program) : Nat → TypeId → Ty → Bool
  | 0, _, _ => false
  | d + 1, t, ty => match ty, P.underlying t with
    | .int k, some (.int k') => decide (k = k')
    | .bool, some .bool => true
    | .st c, some (.struct fs) => Nat.beq (P.cellsOf t) c.size && rdF P (rdOK P d) fs.toList c 0
    | _, _ => false

section
variable {H : Type} {enc : TypeId × Value → H} {P : Program} {w : World} {base : Nat} {spare : Nat → Bool} {held : Bool}

theorem rdF_read {e : TypeId → Ty → Bool} {cs : List Value} {FS : List Field}
    (hg : ∀ f ∈ FS, ∀ a, e f.type a = true → P.cellsOf f.type = a.size → ∃ y : a.T, (cs.drop f.offset).take a.size = cells a y ∧ wfT a y) :
    ∀ (fs : List Field) (c : Ty) (off : Nat), (∀ f ∈ fs, f ∈ FS) → rdF P e fs c off = true → cs.length = off + c.size → ∃ y : c.T, cs.drop off = cells c y ∧ wfT c y := by
  intro fs
  induction fs with
  | nil => intro c off _ h; simp [rdF] at h
  | cons f fs ih =>
    intro c off hm h hl
    cases fs with
    | nil =>
      simp only [rdF, Bool.and_eq_true] at h
      obtain ⟨⟨h1, h2⟩, h3⟩ := h
      obtain ⟨y, hy, hw⟩ := hg f (hm f (by simp)) c h3 (Nat.eq_of_beq_eq_true h2)
      refine ⟨y, ?_, hw⟩
      rw [Nat.eq_of_beq_eq_true h1] at hy
      rw [← hy, List.take_of_length_le]
      rw [List.length_drop]; omega
    | cons f2 fs =>
      cases c with
      | pair a b =>
        simp only [rdF, Bool.and_eq_true] at h
        obtain ⟨⟨⟨h1, h2⟩, h3⟩, h4⟩ := h
        obtain ⟨y, hy, hw⟩ := hg f (hm f (by simp)) a h3 (Nat.eq_of_beq_eq_true h2)
        rw [Nat.eq_of_beq_eq_true h1] at hy
        have hsz : (Ty.pair a b).size = a.size + b.size := rfl
        obtain ⟨z, hz, hv⟩ := ih b (off + a.size) (fun g hg => hm g (List.mem_cons_of_mem _ hg)) h4 (by omega)
        refine ⟨(y, z), ?_, hw, hv⟩
        rw [cells, ← hy, ← hz, ← List.drop_drop, List.take_append_drop]
      | _ => simp [rdF] at h

theorem rd_read : ∀ (d : Nat) (t : TypeId) (ty : Ty), rdOK P d t ty = true → ∀ (n : Nat) (cs : List Value) (x : DataW H × List MemPlace), DataW.trod enc P w base spare held n t cs = some x → ∃ y : ty.T, cs = cells ty y ∧ wfT ty y := by
  intro d
  induction d with
  | zero => intro t ty h; simp [rdOK] at h
  | succ d ih =>
    intro t ty h n cs x hx
    unfold rdOK at h
    split at h
    · rename_i k k' hu
      have hk := of_decide_eq_true h
      subst hk
      obtain ⟨m, rfl, _, hw⟩ := DataW.trod_int hu hx
      exact ⟨m, rfl, hw⟩
    · rename_i hu
      obtain ⟨b, rfl, _⟩ := DataW.trod_bool hu hx
      exact ⟨b, rfl, trivial⟩
    · rename_i c fs hu
      simp only [Bool.and_eq_true] at h
      obtain ⟨xs, n', hn', hy, hlen, hxl, hf⟩ := DataW.trod_struct hu hx
      have hcs : P.cellsOf t = c.size := Nat.eq_of_beq_eq_true h.1
      obtain ⟨y, hy', hw⟩ := rdF_read (P := P) (e := rdOK P d) (cs := cs) (FS := fs.toList) (fun f hm a ha hsz => by
        obtain ⟨i, hi⟩ := List.getElem?_of_mem hm
        have hi' : fs[i]? = some f := by rw [← Array.getElem?_toList]; exact hi
        have hlt : i < fs.size := (Array.getElem?_eq_some_iff.1 hi').1
        have := hf i f hi'
        rw [List.getElem?_eq_getElem (by omega), hsz] at this
        obtain ⟨y, h1, h2⟩ := ih f.type a ha _ _ _ this
        exact ⟨y, h1, h2⟩) fs.toList c 0 (fun _ h => h) h.2 (by omega)
      exact ⟨y, by rw [← List.drop_zero (l := cs)]; exact hy', hw⟩
    · cases h

theorem at_of_cells {a : Addr} {n : Nat} {cs : List Value} (h : w.cells? base a n = some cs) : At w a cs := by
  obtain ⟨_, hcl, hat⟩ := World.cells?_some h
  intro i v hi
  have hl : i < cs.length := (List.getElem?_eq_some_iff.1 hi).1
  rw [hat i (by omega)]
  exact hi
theorem range_list {α : Type} {p : Nat → α → Prop} : ∀ n : Nat, (∀ i, i < n → ∃ x, p i x) → ∃ xs : List α, xs.length = n ∧ ∀ i x, xs[i]? = some x → p i x
  | 0, _ => ⟨[], rfl, fun i x h => by simp at h⟩
  | n + 1, h => by
    obtain ⟨xs, hl, hx⟩ := range_list n fun i hi => h i (by omega)
    obtain ⟨x, hp⟩ := h n (by omega)
    refine ⟨xs ++ [x], by simp [hl], fun i y hy => ?_⟩
    rw [List.getElem?_append] at hy
    split at hy
    · exact hx i y hy
    · have : i = n := by
        have := (List.getElem?_eq_some_iff.1 hy).1
        simp at this; omega
      subst this
      rw [hl] at hy
      simp at hy
      exact hy ▸ hp
theorem at_flat {ty : Ty} : ∀ (xs : List ty.T) (q : Addr), (∀ i x, xs[i]? = some x → At w (q.add (i * ty.size)) (cells ty x)) → At w q (flat ty xs)
  | [], q, _ => fun i v h => by simp [flat] at h
  | x :: xs, q, h => by
    have e : flat ty (x :: xs) = cells ty x ++ flat ty xs := by simp [flat]
    rw [e]
    refine At.append ?_ (at_flat xs _ fun i y hy => ?_)
    · have := h 0 x rfl
      have e0 : q.add (0 * ty.size) = q := by simp [Addr.add]
      rwa [e0] at this
    · have := h (i + 1) y hy
      rw [Addr.add_add, cells_length, show ty.size + i * ty.size = (i + 1) * ty.size by rw [Nat.succ_mul]; omega]
      exact this
/-- a slice that was read: the list that it shows -/
theorem slice_read {d : Nat} {t e : TypeId} {ty : Ty} {s : Sl} {dd : DataW H} {p : List MemPlace} (ht : P.underlying t = some (.slice e)) (hr : rdOK P d e ty = true) (hc : P.cellsOf e = ty.size)
    (h : DataW.Trod enc P w base (fun _ => true) held t (.slice s.a s.len s.cap) dd p) : ∃ xs : List ty.T, View ty w s xs ∧ (∀ x ∈ xs, wfT ty x) ∧ s.len ≤ 9223372036854775807 := by
  obtain ⟨n, hx⟩ := h
  rcases open_slice ht hx with ⟨hcs, _⟩ | ⟨a, len, cap, m, n', D, Pl, hcs, _, hl, hm, hmm, _, hi⟩
  · have hcs' : Value.slice s.a s.len s.cap = .slice none 0 0 := by simpa [Value.cells] using hcs
    obtain ⟨sa, sl, sc⟩ := s
    simp only [Value.slice.injEq] at hcs'
    obtain ⟨rfl, rfl, rfl⟩ := hcs'
    exact ⟨[], .nil, fun _ h => (List.not_mem_nil h).elim, (by decide : 0 ≤ 9223372036854775807)⟩
  · have hcs' : Value.slice s.a s.len s.cap = .slice (some a) len cap := by simpa [Value.cells] using hcs
    obtain ⟨sa, sl, sc⟩ := s
    simp only [Value.slice.injEq] at hcs'
    obtain ⟨rfl, rfl, rfl⟩ := hcs'
    have hle : sl ≤ m := by
      rw [hmm]; split <;> omega
    obtain ⟨xs, hxl, hxs⟩ := range_list (p := fun i (x : ty.T) => At w (a.add (i * ty.size)) (cells ty x) ∧ wfT ty x) sl fun i hil => by
      obtain ⟨cs', h1, h2⟩ := hi i (by omega)
      obtain ⟨y, rfl, hy⟩ := rd_read d e ty hr _ _ _ h2
      rw [hc] at h1
      exact ⟨y, at_of_cells h1, hy⟩
    refine ⟨xs, ⟨hxl.symm, fun q hq => ?_, fun _ => ⟨a, rfl⟩⟩, fun x hm => ?_, ?_⟩
    · cases hq
      exact at_flat xs _ fun i x hx => (hxs i x hx).1
    · obtain ⟨i, hi⟩ := List.getElem?_of_mem hm
      exact (hxs i x hi).2
    · have : maxLen = 9223372036854775807 := by decide
      dsimp only; omega

def sliceOK (P : Program) (d : Nat) (t : TypeId) (ty : Ty) : Bool := match P.underlying t with
  | some (.slice e) => rdOK P d e ty && Nat.beq (P.cellsOf e) ty.size
  | _ => false
theorem slice_open {d : Nat} {t : TypeId} {ty : Ty} {v : Value} {dd : DataW H} {p : List MemPlace} {r : Reach} {b0 : Nat} (hs : sliceOK P d t ty = true) (hw : Value.okWide P w r b0 t v)
    (h : DataW.Trod enc P w base (fun _ => true) held t v dd p) : ∃ (s : Sl) (xs : List ty.T), v = .slice s.a s.len s.cap ∧ View ty w s xs ∧ (∀ x ∈ xs, wfT ty x) ∧ s.len ≤ 9223372036854775807 := by
  unfold sliceOK at hs
  split at hs
  · rename_i e hu
    simp only [Bool.and_eq_true] at hs
    obtain ⟨s, rfl⟩ := sliceArg (by unfold sliceElem; rw [hu]; rfl) hw
    obtain ⟨xs, h1, h2, h3⟩ := slice_read hu hs.1 (Nat.eq_of_beq_eq_true hs.2) h
    exact ⟨s, xs, rfl, h1, h2, h3⟩
  · cases hs
end
end Go.Den
