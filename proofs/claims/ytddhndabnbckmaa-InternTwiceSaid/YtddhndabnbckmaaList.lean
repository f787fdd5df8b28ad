/- Slices as lists: what is read, what is owned, what an append leaves. Generic: no statement, no project text. -/
import Derived.Test.YtddhndabnbckmaaHeap
import Derived.Laws.Append
namespace Go.Den

def flat (ty : Ty) (xs : List ty.T) : List Value := xs.flatMap (cells ty)
variable {ty : Ty} {w w' : World}

theorem flat_len (xs : List ty.T) : (flat ty xs).length = xs.length * ty.size := by
  induction xs with
  | nil => simp [flat]
  | cons x xs ih =>
    simp only [flat, List.flatMap_cons, List.length_append, cells_length, List.length_cons] at ih ⊢
    rw [ih, Nat.succ_mul]; omega
theorem flat_append (xs ys : List ty.T) : flat ty (xs ++ ys) = flat ty xs ++ flat ty ys := by simp [flat]
theorem flat_get : ∀ (xs : List ty.T) (i : Nat) (x : ty.T), xs[i]? = some x → ((flat ty xs).drop (i * ty.size)).take (cells ty x).length = cells ty x
  | [], _, _, h => by simp at h
  | y :: ys, 0, x, h => by
    simp only [List.getElem?_cons_zero, Option.some.injEq] at h
    subst h
    simp [flat]
  | y :: ys, i + 1, x, h => by
    simp only [List.getElem?_cons_succ] at h
    have := flat_get ys i x h
    have e : flat ty (y :: ys) = cells ty y ++ flat ty ys := by simp [flat]
    rw [e, show (i + 1) * ty.size = (cells ty y).length + i * ty.size by rw [cells_length, Nat.succ_mul]; omega, ← List.drop_drop, List.drop_left]
    exact this

theorem Wr.ext {a : Addr} {n : Nat} (h : Wr w a n) (f : Ext w w') : Wr w' a n := h.fr f fun h => h
theorem At.append {a : Addr} {cs ds : List Value} (h : At w a cs) (k : At w (a.add cs.length) ds) : At w a (cs ++ ds) := fun i v hi => by
  by_cases hl : i < cs.length
  · rw [List.getElem?_append_left hl] at hi
    exact h i v hi
  · rw [List.getElem?_append_right (by omega)] at hi
    have := k _ v hi
    rw [Addr.add_add] at this
    rwa [show cs.length + (i - cs.length) = i by omega] at this
theorem At.left {a : Addr} {cs ds : List Value} (h : At w a (cs ++ ds)) : At w a cs := fun i v hi => h i v (by
  rw [List.getElem?_append_left (List.getElem?_eq_some_iff.1 hi).1]; exact hi)

def blk (s : Sl) (b : Nat) : Prop := ∃ q, s.a = some q ∧ b = q.block

structure View (ty : Ty) (w : World) (s : Sl) (xs : List ty.T) : Prop where
  len : s.len = xs.length
  mem : ∀ q, s.a = some q → At w q (flat ty xs)
  ne : xs ≠ [] → ∃ q, s.a = some q

variable {s : Sl} {xs ys : List ty.T}
theorem View.fr {F : Nat → Prop} (v : View ty w s xs) (f : Fr F w w') (h : ∀ b, blk s b → ¬ F b) : View ty w' s xs := ⟨v.len, fun q hq => (v.mem q hq).fr f (h _ ⟨q, hq, rfl⟩), v.ne⟩
theorem View.ext (v : View ty w s xs) (f : Ext w w') : View ty w' s xs := v.fr f fun _ _ h => h
theorem View.nil : View ty w ⟨none, 0, 0⟩ [] := ⟨rfl, fun _ h => (nomatch h), fun h => absurd rfl h⟩
theorem View.idx {K : Addr → Prop} (v : View ty w s xs) {i : Int} {n : Nat} {x : ty.T} {sz : Nat} (hi : i = n) (hx : xs[n]? = some x) (hs : sz = ty.size) (h : ∀ p, At w p (cells ty x) → K p) : idxK s.a s.len i sz K := by
  have hl : n < xs.length := (List.getElem?_eq_some_iff.1 hx).1
  obtain ⟨q, hq⟩ := v.ne (fun e => by rw [e] at hl; simp at hl)
  refine ⟨q, hq, by omega, by rw [v.len]; omega, h _ ?_⟩
  subst hi hs
  simp only [Int.toNat_natCast]
  exact (v.mem q hq).sub _ (flat_get xs n x hx)

structure Own (ty : Ty) (w : World) (s : Sl) (xs : List ty.T) : Prop where
  view : View ty w s xs
  cap : s.len ≤ s.cap
  wr : ∀ q, s.a = some q → Wr w q (s.cap * ty.size)
  nil : s.a = none → s.cap = 0
  lt : ∀ b, blk s b → b < w.heap.size
theorem Own.fr {F : Nat → Prop} (o : Own ty w s xs) (f : Fr F w w') (h : ∀ b, blk s b → ¬ F b) : Own ty w' s xs :=
  ⟨o.view.fr f h, o.cap, fun q hq => (o.wr q hq).fr f (h _ ⟨q, hq, rfl⟩), o.nil, fun b hb => Nat.lt_of_lt_of_le (o.lt b hb) f.size⟩
theorem Own.ext (o : Own ty w s xs) (f : Ext w w') : Own ty w' s xs := o.fr f fun _ _ h => h
theorem Own.none : Own ty w ⟨none, 0, 0⟩ [] := ⟨.nil, Nat.le_refl _, fun _ h => (nomatch h), fun _ => rfl, fun b ⟨_, h, _⟩ => (nomatch h)⟩

theorem zrow_size (zs : Array Value) (n : Nat) : (zrow zs n).size = n := by simp [zrow]

theorem Own.app {t : Sl} {E sz by_ : Nat} {zs : Array Value} {K : Sl → World → Prop} (o : Own ty w s xs) (v : View ty w t ys) (n : Nat) (hn : n = ys.length) (hs : sz = ty.size) (hz : zs.size = ty.size) (ho : (flat ty ys).all one = true)
    (hb : by_ ≠ 0) (hc : (xs.length + ys.length) * by_ ≤ 140737488355328)
    (hK : ∀ s' w', Own ty w' s' (xs ++ ys) → Fr (blk s) w w' → (∀ b, blk s' b → blk s b ∨ b = w.heap.size) → K s' w') :
    appK E sz by_ zs s.a s.len s.cap (.slice t.a t.len t.cap) n w K := by
  have hsl := o.view.len
  have hlen : (flat ty ys).length = n * sz := by rw [flat_len, hn, hs]
  have hsrc : src w (.slice t.a t.len t.cap) (n * sz) (flat ty ys) := by
    cases ha : t.a with
    | none =>
      have : ys = [] := by
        by_cases h : ys = []
        · exact h
        · obtain ⟨q, hq⟩ := v.ne h
          rw [ha] at hq; cases hq
      rw [this]; rfl
    | some q => exact ⟨hlen, v.mem q ha⟩
  refine ⟨flat ty ys, hsrc, ho, fun hfit => ?_, fun hgrow => ⟨?_, growslice_fits hgrow (by rw [hsl, hn]; exact hc), hb, flat ty xs, ?_, fun c hc' => ?_⟩⟩
  · cases ha : s.a with
    | none =>
      right
      refine ⟨rfl, ?_⟩
      have hc0 := o.nil ha
      have hy : ys = [] := List.eq_nil_of_length_eq_zero (by omega)
      have hl0 : n = 0 := by omega
      subst hy hl0
      have : (⟨Option.none, s.len + 0, s.cap⟩ : Sl) = s := by rw [← ha]; rfl
      rw [this]
      exact hK s w (by simpa using o) (.refl _ _) fun b hb => Or.inl hb
    | some q =>
      left
      have hw : Wr w (q.add (s.len * sz)) (flat ty ys).length := (o.wr q ha).sub _ _ (by
        rw [hlen, hs, ← Nat.add_mul]; exact Nat.mul_le_mul_right _ hfit)
      refine ⟨q, rfl, hw, hK _ _ ⟨⟨?_, fun q' hq' => ?_, fun _ => ⟨q, rfl⟩⟩, hfit, fun q' hq' => ?_, fun h => (nomatch h), fun b ⟨q', h1, h2⟩ => ?_⟩ ?_ ?_⟩
      · simp only [List.length_append]; omega
      · cases hq'
        rw [flat_append]
        refine At.append ((o.view.mem q ha).setOther fun _ => ?_) ?_
        · right; rw [add_off, flat_len, hsl, hs]; exact Nat.le_refl _
        · rw [flat_len, ← hsl, ← hs]
          exact At.set hw
      · cases hq'
        exact (o.wr q ha).set hw
      · cases h1
        rw [setCells_size]
        exact o.lt b ⟨q, ha, h2⟩
      · have := setCells_fr w (q.add (s.len * sz)) 0 (flat ty ys)
        refine this.mono fun x _ hx => ⟨q, ha, ?_⟩
        rw [add_block] at hx; exact hx
      · rintro b ⟨q', h1, h2⟩
        cases h1
        exact Or.inl ⟨q, ha, h2⟩
  · rw [hsl, hn]
    have : xs.length + ys.length ≤ (xs.length + ys.length) * by_ := Nat.le_mul_of_pos_right _ (Nat.pos_of_ne_zero hb)
    omega
  · cases ha : s.a with
    | none =>
      have hc0 := o.nil ha
      have hy : xs = [] := List.eq_nil_of_length_eq_zero (by have := o.cap; omega)
      rw [hy]; rfl
    | some q => exact ⟨by rw [flat_len, hsl, hs], o.view.mem q ha⟩
  · have hl : (flat ty xs ++ flat ty ys).length = (s.len + n) * ty.size := by rw [List.length_append, hlen, flat_len, hs, Nat.add_mul, hsl]
    have harr : (flat ty xs ++ flat ty ys).toArray ++ zrow zs ((c - (s.len + n)) * zs.size) = (flat ty xs ++ flat ty ys ++ (zrow zs ((c - (s.len + n)) * zs.size)).toList).toArray := by
      apply Array.ext'; simp
    rw [harr]
    have hnew := alloc_new w.drew (.cells (flat ty xs ++ flat ty ys ++ (zrow zs ((c - (s.len + n)) * zs.size)).toList).toArray E)
    have hds : w.drew.heap.size = w.heap.size := rfl
    rw [hds] at hnew
    refine hK _ _ ⟨⟨?_, fun q' hq' => ?_, fun _ => ⟨_, rfl⟩⟩, hc', fun q' hq' => ?_, fun h => (nomatch h), fun b ⟨q', h1, h2⟩ => ?_⟩ ?_ ?_
    · simp only [List.length_append]; omega
    · cases hq'
      rw [flat_append]
      exact (at_block hnew).left
    · cases hq'
      have := wr_block hnew
      refine fun i hi => this i ?_
      rw [List.length_append, hl]
      have e : (zrow zs ((c - (s.len + n)) * zs.size)).toList.length = (c - (s.len + n)) * ty.size := by rw [Array.length_toList, zrow_size, hz]
      rw [e, ← Nat.add_mul]
      have : s.len + n + (c - (s.len + n)) = c := by omega
      rw [this]; exact hi
    · cases h1
      simp only [h2]
      exact (Array.getElem?_eq_some_iff.1 hnew).1
    · exact ((Fr.drew (F := fun _ => False)).thenExt (alloc_ext _ _)).mono fun _ _ h => h.elim
    · rintro b ⟨q', h1, h2⟩
      cases h1
      exact Or.inr h2

/-- from a store of the blocks B to a store of the blocks B' -/
structure Step (B B' : Nat → Prop) (w w' : World) : Prop where
  fr : Fr B w w'
  new : ∀ b, B' b → B b ∨ w.heap.size ≤ b
  sub : ∀ b, B b → B' b
theorem Step.ofExt {B : Nat → Prop} {w w' : World} (e : Ext w w') : Step B B w w' := ⟨e.fr, fun _ h => Or.inl h, fun _ h => h⟩
theorem Step.trans {B B' B'' : Nat → Prop} {w w' w'' : World} (h : Step B B' w w') (k : Step B' B'' w' w'') : Step B B'' w w'' :=
  ⟨h.fr.trans k.fr fun x hx hl => by
      rcases h.new x hx with h' | h'
      · exact h'
      · omega, fun b hb => by
      rcases k.new b hb with h' | h'
      · exact h.new b h'
      · exact Or.inr (Nat.le_trans h.fr.size h'), fun b hb => k.sub b (h.sub b hb)⟩
theorem Step.pre {B B' : Nat → Prop} {w w' w'' : World} (e : Ext w w') (k : Step B B' w' w'') : Step B B' w w'' := (Step.ofExt e).trans k
theorem Step.fresh {B B' : Nat → Prop} {w w' : World} {N : Nat} (k : Step B B' w w') (hB : ∀ b, B b → N ≤ b) (hw : N ≤ w.heap.size) : ∀ b, B' b → N ≤ b := fun b hb => by
  rcases k.new b hb with h | h
  · exact hB b h
  · omega
theorem St.tail {w0 w : World} {F : Nat → Prop} {x : Nat × List Value} {L : List (Nat × List Value)} (h : St w0 F (x :: L) w) : St w0 F L w :=
  ⟨h.fr, h.own, fun y hy => h.loc y (List.mem_cons_of_mem _ hy), by
    have := h.nodup
    rw [List.map_cons, List.nodup_cons] at this
    exact this.2⟩
theorem St.stp {w0 w w' : World} {B B' : Nat → Prop} {L : List (Nat × List Value)} (s : St w0 B L w) (k : Step B B' w w') (hlt : ∀ b, B' b → b < w'.heap.size) : St w0 B' L w' :=
  s.step k.fr (fun _ h => h) hlt k.new fun b hb _ => k.sub b hb

theorem At.splice {w : World} {p : Addr} {cs ds : List Value} {off : Nat} (h : At w p cs) (hw : Wr w (p.add off) ds.length) (hl : off + ds.length ≤ cs.length) : At (setCells w (p.add off) 0 ds) p (Den.splice cs off ds) := by
  unfold Den.splice
  refine At.append (At.append ?_ ?_) ?_
  · refine At.setOther ?_ fun _ => ?_
    · have : cs.take off ++ cs.drop off = cs := List.take_append_drop _ _
      exact At.left (ds := cs.drop off) (by rw [this]; exact h)
    · right; rw [add_off]; simp; omega
  · have e : (cs.take off).length = off := by simp; omega
    rw [e]; exact At.set hw
  · have e : (cs.take off ++ ds).length = off + ds.length := by simp; omega
    rw [e]
    refine At.setOther (h.sub _ ?_) fun _ => ?_
    · exact List.take_of_length_le (Nat.le_refl _)
    · left; rw [add_off, add_off]; omega

theorem allocK_mk {o : Obj} {w : World} {K : Addr → World → Prop} (h : K ⟨w.heap.size, 0, none⟩ (w.alloc o)) : allocK o w K := h


end Go.Den
