/- Reasoning about the typed texts: what a stretch of text leaves of memory, local rows, and the combinators one by one. Generic: no statement, no project text. -/
import Derived.Test.YtddhndabnbckmaaDenC
namespace Go.Den

/-! ### Memory that has grown -/

/-- all blocks that were there, but those of F, are as they were -/
structure Fr (F : Nat → Prop) (w w' : World) : Prop where
  size : w.heap.size ≤ w'.heap.size
  same : ∀ b, b < w.heap.size → ¬ F b → w'.heap[b]? = w.heap[b]?
  pub : w'.os = w.os ∧ w'.tape = w.tape ∧ w'.output = w.output
abbrev Ext (w w' : World) : Prop := Fr (fun _ => False) w w'

theorem Fr.refl (F : Nat → Prop) (w : World) : Fr F w w := ⟨Nat.le_refl _, fun _ _ _ => rfl, rfl, rfl, rfl⟩
theorem Fr.trans {F G : Nat → Prop} {a b c : World} (h : Fr F a b) (k : Fr G b c) (hg : ∀ x, G x → x < a.heap.size → F x) : Fr F a c :=
  ⟨Nat.le_trans h.size k.size, fun x hx hf => by rw [k.same x (Nat.lt_of_lt_of_le hx h.size) (fun hG => hf (hg x hG hx)), h.same x hx hf], k.pub.1.trans h.pub.1, k.pub.2.1.trans h.pub.2.1, k.pub.2.2.trans h.pub.2.2⟩
theorem Fr.mono {F G : Nat → Prop} {a b : World} (h : Fr F a b) (hg : ∀ x, x < a.heap.size → F x → G x) : Fr G a b :=
  ⟨h.size, fun x hx hG => h.same x hx fun hF => hG (hg x hx hF), h.pub⟩
theorem Ext.trans {a b c : World} (h : Ext a b) (k : Ext b c) : Ext a c := Fr.trans h k fun _ h _ => h
theorem Fr.thenExt {F : Nat → Prop} {a b c : World} (h : Fr F a b) (k : Ext b c) : Fr F a c := Fr.trans h k fun _ h _ => h.elim
theorem Ext.thenFr {F : Nat → Prop} {a b c : World} (h : Ext a b) (k : Fr F b c) : Fr F a c := ⟨Nat.le_trans h.size k.size, fun x hx hf => by
  rw [k.same x (Nat.lt_of_lt_of_le hx h.size) hf, h.same x hx (fun h => h)], k.pub.1.trans h.pub.1, k.pub.2.1.trans h.pub.2.1, k.pub.2.2.trans h.pub.2.2⟩
theorem Ext.fr {F : Nat → Prop} {a b : World} (h : Ext a b) : Fr F a b := h.mono fun _ _ h => h.elim
theorem Fr.drew {F : Nat → Prop} {w : World} : Fr F w w.drew := ⟨Nat.le_refl _, fun _ _ _ => rfl, rfl, rfl, rfl⟩

theorem cell_heap {w w' : World} {a : Addr} (h : w'.heap[a.block]? = w.heap[a.block]?) : w'.cell? a = w.cell? a := by unfold World.cell?; rw [h]
theorem frozen_heap {w w' : World} {a : Addr} (h : w'.heap[a.block]? = w.heap[a.block]?) : w'.frozen? a = w.frozen? a := by unfold World.frozen?; rw [h]
theorem add_block (a : Addr) (n : Nat) : (a.add n).block = a.block := by unfold Addr.add; split <;> rfl
theorem add_off (a : Addr) (n : Nat) : (a.add n).off = a.off + n := by unfold Addr.add; split <;> simp_all

theorem At.heap {w w' : World} {a : Addr} {cs : List Value} (h : At w a cs) (e : w'.heap[a.block]? = w.heap[a.block]?) : At w' a cs :=
  fun i v hi => by rw [cell_heap (w := w) (w' := w') (a := a.add i) (by rw [add_block]; exact e)]; exact h i v hi
theorem At.lt {w : World} {a : Addr} {c : Value} {cs : List Value} (h : At w a (c :: cs)) : a.block < w.heap.size := by
  have := World.block_lt_of_cell? w _ (h 0 c rfl)
  rwa [add_block] at this
theorem At.fr {F : Nat → Prop} {w w' : World} {a : Addr} {cs : List Value} (h : At w a cs) (f : Fr F w w') (hF : ¬ F a.block) : At w' a cs := by
  cases cs with
  | nil => intro i v hi; simp at hi
  | cons c cs => exact h.heap (f.same _ h.lt hF)
theorem At.ext {w w' : World} {a : Addr} {cs : List Value} (h : At w a cs) (f : Ext w w') : At w' a cs := h.fr f fun h => h
theorem At.sub {w : World} {a : Addr} {cs ds : List Value} (h : At w a cs) (off : Nat) (e : (cs.drop off).take ds.length = ds) : At w (a.add off) ds := by
  intro i v hi
  rw [Addr.add_add]
  refine h _ v ?_
  have hl : i < ds.length := (List.getElem?_eq_some_iff.1 hi).1
  rw [← e, List.getElem?_take_of_lt hl, List.getElem?_drop] at hi
  exact hi
theorem At.inj {w : World} {a : Addr} {cs ds : List Value} (h : At w a cs) (k : At w a ds) (e : cs.length = ds.length) : cs = ds := by
  apply List.ext_getElem? 
  intro i
  cases hc : cs[i]? with
  | some v =>
    have h1 := h i v hc
    have hl : i < ds.length := by rw [← e]; exact (List.getElem?_eq_some_iff.1 hc).1
    have h2 := k i ds[i] (by simp [hl])
    rw [h1] at h2
    simp [hl, Option.some.inj h2]
  | none =>
    have : ds.length ≤ i := by rw [← e]; exact List.getElem?_eq_none_iff.1 hc
    exact (List.getElem?_eq_none this).symm
theorem Wr.heap {w w' : World} {a : Addr} {n : Nat} (h : Wr w a n) (e : w'.heap[a.block]? = w.heap[a.block]?) : Wr w' a n := fun i hi => by
  obtain ⟨⟨v, hv⟩, hf⟩ := h i hi
  exact ⟨⟨v, by rw [cell_heap (w := w) (w' := w') (a := a.add i) (by rw [add_block]; exact e)]; exact hv⟩, by rw [frozen_heap (w := w) (w' := w') (a := a.add i) (by rw [add_block]; exact e)]; exact hf⟩
theorem Wr.lt {w : World} {a : Addr} {n : Nat} (h : Wr w a (n + 1)) : a.block < w.heap.size := by
  obtain ⟨⟨v, hv⟩, _⟩ := h 0 (by omega)
  have := World.block_lt_of_cell? w _ hv
  rwa [add_block] at this
theorem Wr.fr {F : Nat → Prop} {w w' : World} {a : Addr} {n : Nat} (h : Wr w a n) (f : Fr F w w') (hF : ¬ F a.block) : Wr w' a n := by
  cases n with
  | zero => intro i hi; omega
  | succ n => exact h.heap (f.same _ h.lt hF)
theorem Wr.sub {w : World} {a : Addr} {n : Nat} (h : Wr w a n) (off m : Nat) (e : off + m ≤ n) : Wr w (a.add off) m := fun i hi => by
  rw [Addr.add_add]; exact h _ (by omega)

/-! ### Stores -/
theorem setCells_size (a : Addr) : ∀ (cs : List Value) (i : Nat) (w : World), (setCells w a i cs).heap.size = w.heap.size := by
  intro cs
  induction cs with
  | nil => intro i w; rfl
  | cons c cs ih => intro i w; rw [setCells, ih]; simp
theorem setCell_block (w : World) (a : Addr) (v : Value) (b : Nat) (h : b ≠ a.block) : (w.setCell a v).heap[b]? = w.heap[b]? := by
  simp only [World.setCell, Array.getElem?_modify]
  rw [if_neg (Ne.symm h)]
theorem setCells_block (a : Addr) : ∀ (cs : List Value) (i : Nat) (w : World) (b : Nat), b ≠ a.block → (setCells w a i cs).heap[b]? = w.heap[b]? := by
  intro cs
  induction cs with
  | nil => intro i w b _; rfl
  | cons c cs ih => intro i w b h; rw [setCells, ih _ _ _ h, setCell_block _ _ _ _ (by rw [add_block]; exact h)]
theorem setCells_pub (a : Addr) : ∀ (cs : List Value) (i : Nat) (w : World), (setCells w a i cs).os = w.os ∧ (setCells w a i cs).tape = w.tape ∧ (setCells w a i cs).output = w.output := by
  intro cs
  induction cs with
  | nil => intro i w; exact ⟨rfl, rfl, rfl⟩
  | cons c cs ih => intro i w; rw [setCells]; exact ih _ _
theorem setCells_fr (w : World) (a : Addr) (i : Nat) (cs : List Value) : Fr (fun b => b = a.block) w (setCells w a i cs) :=
  ⟨by rw [setCells_size]; exact Nat.le_refl _, fun b _ hb => setCells_block a cs i w b hb, setCells_pub a cs i w⟩
theorem setCells_cell_ne (a x : Addr) : ∀ (cs : List Value) (i : Nat) (w : World), (∀ j, j < cs.length → a.add (i + j) ≠ x) → (setCells w a i cs).cell? x = w.cell? x := by
  intro cs
  induction cs with
  | nil => intro i w _; rfl
  | cons c cs ih =>
    intro i w h
    rw [setCells, ih _ _ (fun j hj => by have := h (j + 1) (by simpa using hj); rwa [show i + 1 + j = i + (j + 1) by omega])]
    exact World.cell?_setCell_other w _ _ _ (by simpa using h 0 (by simp))
theorem setCells_frozen (a x : Addr) : ∀ (cs : List Value) (i : Nat) (w : World), (setCells w a i cs).frozen? x = w.frozen? x := by
  intro cs
  induction cs with
  | nil => intro i w; rfl
  | cons c cs ih => intro i w; rw [setCells, ih, World.frozen?_setCell]
theorem setCells_cell (a : Addr) : ∀ (cs : List Value) (i : Nat) (w : World), (∀ j, j < cs.length → ∃ v, w.cell? (a.add (i + j)) = some v) → ∀ j v, cs[j]? = some v → (setCells w a i cs).cell? (a.add (i + j)) = some v := by
  intro cs
  induction cs with
  | nil => intro i w _ j v h; simp at h
  | cons c cs ih =>
    intro i w h j v hj
    cases j with
    | zero =>
      simp only [List.getElem?_cons_zero, Option.some.injEq] at hj
      subst hj
      rw [setCells, setCells_cell_ne]
      · obtain ⟨u, hu⟩ := h 0 (by simp)
        exact World.cell?_setCell_same w _ _ hu
      · intro j _ e
        have := congrArg Addr.off e
        rw [add_off, add_off] at this
        omega
    | succ j =>
      rw [setCells]
      have := ih (i + 1) (w.setCell (a.add i) c) (fun k hk => ?_) j v (by simpa using hj)
      · rwa [show i + 1 + j = i + (j + 1) by omega] at this
      · obtain ⟨u, hu⟩ := h (k + 1) (by simpa using hk)
        rw [show i + 1 + k = i + (k + 1) by omega]
        refine ⟨u, ?_⟩
        rw [World.cell?_setCell_other]
        · exact hu
        · intro e
          have := congrArg Addr.off e
          rw [add_off, add_off] at this
          omega
theorem At.set {w : World} {a : Addr} {cs : List Value} (h : Wr w a cs.length) : At (setCells w a 0 cs) a cs := fun i v hi => by
  have := setCells_cell a cs 0 w (fun j hj => by rw [Nat.zero_add]; exact (h j hj).1) i v hi
  rwa [Nat.zero_add] at this
theorem Wr.set {w : World} {a x : Addr} {cs : List Value} {n : Nat} (h : Wr w x n) (ha : Wr w a cs.length) : Wr (setCells w a 0 cs) x n := fun i hi => by
  obtain ⟨⟨v, hv⟩, hf⟩ := h i hi
  refine ⟨?_, by rw [setCells_frozen]; exact hf⟩
  by_cases e : ∃ j, j < cs.length ∧ a.add (0 + j) = x.add i
  · obtain ⟨j, hj, e⟩ := e
    refine ⟨cs[j], ?_⟩
    rw [← e]
    exact setCells_cell a cs 0 w (fun j hj => by rw [Nat.zero_add]; exact (ha j hj).1) j _ (by simp [hj])
  · exact ⟨v, by rw [setCells_cell_ne _ _ _ _ _ (fun j hj e' => e ⟨j, hj, e'⟩)]; exact hv⟩
theorem At.setOther {w : World} {a x : Addr} {cs ds : List Value} (h : At w x ds) (hne : a.block = x.block → a.off + cs.length ≤ x.off ∨ x.off + ds.length ≤ a.off) : At (setCells w a 0 cs) x ds := fun i v hi => by
  rw [setCells_cell_ne]
  · exact h i v hi
  · intro j hj e
    have hl : i < ds.length := (List.getElem?_eq_some_iff.1 hi).1
    have h1 := congrArg Addr.block e
    have h2 := congrArg Addr.off e
    rw [add_block, add_block] at h1
    rw [add_off, add_off] at h2
    have := hne h1
    omega

theorem alloc_ext (w : World) (o : Obj) : Ext w (w.alloc o) := ⟨by simp, fun b hb _ => by unfold World.alloc; dsimp only; rw [Array.getElem?_push_lt hb, Array.getElem?_eq_getElem hb], rfl, rfl, rfl⟩
theorem alloc_new (w : World) (o : Obj) : (w.alloc o).heap[w.heap.size]? = some o := by unfold World.alloc; dsimp only; rw [Array.getElem?_push_size]
theorem at_block {w : World} {b : Nat} {cs : List Value} {t : TypeId} {f : Nat × Nat} (h : w.heap[b]? = some (.cells cs.toArray t f)) : At w ⟨b, 0, none⟩ cs := fun i v hi => by
  unfold World.cell?
  rw [add_block, h]
  have hs : (Addr.add ⟨b, 0, none⟩ i).spot = none := by unfold Addr.add; split <;> rfl
  simp only [add_off, hs, Nat.zero_add]
  simpa using hi
theorem wr_block {w : World} {b : Nat} {cs : List Value} {t : TypeId} (h : w.heap[b]? = some (.cells cs.toArray t (0, 0))) : Wr w ⟨b, 0, none⟩ cs.length := fun i hi => by
  refine ⟨⟨cs[i], at_block h i _ (by simp [hi])⟩, ?_⟩
  unfold World.frozen?
  rw [add_block, h]
  simp

/-! ### The state of a stretch: local rows of its own -/

structure St (w0 : World) (F : Nat → Prop) (L : List (Nat × List Value)) (w : World) : Prop where
  fr : Fr F w0 w
  own : ∀ b, F b → b < w.heap.size
  loc : ∀ x ∈ L, w0.heap.size ≤ x.1 ∧ ¬ F x.1 ∧ ∃ t, w.heap[x.1]? = some (.cells x.2.toArray t (0, 0))
  nodup : (L.map (·.1)).Nodup

variable {w0 w w' : World} {F : Nat → Prop} {L : List (Nat × List Value)}

theorem St.init (w : World) : St w (fun _ => False) [] w := ⟨.refl _ _, fun _ h => h.elim, fun _ h => (List.not_mem_nil h).elim, List.nodup_nil⟩
theorem St.start (w : World) (hF : ∀ b, F b → b < w.heap.size) : St w F [] w := ⟨.refl _ _, hF, fun _ h => (List.not_mem_nil h).elim, List.nodup_nil⟩
theorem St.lt (h : St w0 F L w) {x : Nat × List Value} (hx : x ∈ L) : x.1 < w.heap.size := by
  obtain ⟨_, _, t, ht⟩ := h.loc x hx
  exact (Array.getElem?_eq_some_iff.1 ht).1
theorem St.ext (h : St w0 F L w) (e : Ext w w') : St w0 F L w' :=
  ⟨h.fr.thenExt e, fun b hb => Nat.lt_of_lt_of_le (h.own b hb) e.size, fun x hx => by
    obtain ⟨h1, h2, t, ht⟩ := h.loc x hx
    exact ⟨h1, h2, t, by rw [e.same _ (h.lt hx) (fun h => h)]; exact ht⟩, h.nodup⟩
/-- a step that writes blocks of G: those that the stretch owns beside its local rows -/
theorem St.step {F' G : Nat → Prop} (h : St w0 F L w) (e : Fr G w w') (hG : ∀ b, G b → F b) (hF' : ∀ b, F' b → b < w'.heap.size) (hn : ∀ b, F' b → F b ∨ w.heap.size ≤ b) (hk : ∀ b, F b → b < w0.heap.size → F' b) : St w0 F' L w' :=
  ⟨⟨Nat.le_trans h.fr.size e.size, fun b hb hf => by
      have : ¬ F b := fun hF => hf (hk b hF hb)
      rw [e.same b (Nat.lt_of_lt_of_le hb h.fr.size) (fun hg => this (hG b hg)), h.fr.same b hb this], e.pub.1.trans h.fr.pub.1, e.pub.2.1.trans h.fr.pub.2.1, e.pub.2.2.trans h.fr.pub.2.2⟩, hF', fun x hx => by
    obtain ⟨h1, h2, t, ht⟩ := h.loc x hx
    refine ⟨h1, fun hF => ?_, t, by rw [e.same _ (h.lt hx) (fun hg => h2 (hG _ hg))]; exact ht⟩
    rcases hn _ hF with hF | hF
    · exact h2 hF
    · have := h.lt hx; omega, h.nodup⟩
theorem St.drop (h : St w0 F L w) : St w0 F [] w := ⟨h.fr, h.own, fun _ h => (List.not_mem_nil h).elim, List.nodup_nil⟩
theorem St.at_ {i : Nat} {x : Nat × List Value} (h : St w0 F L w) (hm : L[i]? = some x) : At w ⟨x.1, 0, none⟩ x.2 := by
  obtain ⟨_, _, t, ht⟩ := h.loc x (List.mem_of_getElem? hm)
  exact at_block ht

theorem St.allocK {cs : List Value} {t : TypeId} {K : Addr → World → Prop} (h : St w0 F L w)
    (hK : ∀ b w', St w0 F ((b, cs) :: L) w' → Ext w w' → b = w.heap.size → K ⟨b, 0, none⟩ w') : allocK (.cells cs.toArray t) w K := by
  have he := alloc_ext w (.cells cs.toArray t)
  refine hK w.heap.size _ ?_ he rfl
  have h' := h.ext he
  refine ⟨h'.fr, h'.own, fun x hx => ?_, ?_⟩
  · rcases List.mem_cons.1 hx with rfl | hx
    · exact ⟨h.fr.size, fun hF => Nat.lt_irrefl _ (h.own _ hF), t, alloc_new _ _⟩
    · exact h'.loc x hx
  · simp only [List.map_cons, List.nodup_cons]
    refine ⟨fun hm => ?_, h.nodup⟩
    obtain ⟨x, hx, e⟩ := List.mem_map.1 hm
    have := h.lt hx
    omega
theorem St.drawK {K : World → Prop} (h : St w0 F L w) (hK : ∀ w', St w0 F L w' → Ext w w' → w'.heap = w.heap → K w') : drawK w K := hK _ (h.ext Fr.drew) Fr.drew rfl
theorem St.ld {ty : Ty} {K : ty.T → Prop} {x : ty.T} {b : Nat} {cs : List Value} (h : St w0 F L w) (i off : Nat) (hm : L[i]? = some (b, cs)) (e : (cs.drop off).take (cells ty x).length = cells ty x) (hK : K x) :
    ∃ x, At w (Addr.add ⟨b, 0, none⟩ off) (cells ty x) ∧ K x := ⟨x, (h.at_ hm).sub off e, hK⟩
theorem St.ld0 {ty : Ty} {K : ty.T → Prop} {x : ty.T} {b : Nat} {cs : List Value} (h : St w0 F L w) (i : Nat) (hm : L[i]? = some (b, cs)) (e : cs = cells ty x) (hK : K x) :
    ∃ x, At w ⟨b, 0, none⟩ (cells ty x) ∧ K x := ⟨x, e ▸ h.at_ hm, hK⟩
theorem St.ldi {k : IntKind} {K : Int → Prop} {x : Int} {b : Nat} {cs : List Value} (h : St w0 F L w) (i off : Nat) (hm : L[i]? = some (b, cs)) (e : (cs.drop off).take 1 = [.int k x]) (hK : K x) :
    ∃ x : Int, At w (Addr.add ⟨b, 0, none⟩ off) (cells (.int k) x) ∧ K x := h.ld (ty := .int k) i off hm e hK
theorem St.ldb {K : Bool → Prop} {x : Bool} {b : Nat} {cs : List Value} (h : St w0 F L w) (i off : Nat) (hm : L[i]? = some (b, cs)) (e : (cs.drop off).take 1 = [.bool x]) (hK : K x) :
    ∃ x : Bool, At w (Addr.add ⟨b, 0, none⟩ off) (cells .bool x) ∧ K x := h.ld (ty := .bool) i off hm e hK
theorem St.lds {K : Sl → Prop} {x : Sl} {b : Nat} {cs : List Value} (h : St w0 F L w) (i off : Nat) (hm : L[i]? = some (b, cs)) (e : (cs.drop off).take 1 = [.slice x.a x.len x.cap]) (hK : K x) :
    ∃ x : Sl, At w (Addr.add ⟨b, 0, none⟩ off) (cells .slice x) ∧ K x := h.ld (ty := .slice) i off hm e hK
theorem St.ldp {K : Option Addr → Prop} {x : Option Addr} {b : Nat} {cs : List Value} (h : St w0 F L w) (i off : Nat) (hm : L[i]? = some (b, cs)) (e : (cs.drop off).take 1 = [.pointer x]) (hK : K x) :
    ∃ x : Option Addr, At w (Addr.add ⟨b, 0, none⟩ off) (cells .ptr x) ∧ K x := h.ld (ty := .ptr) i off hm e hK
theorem St.ldm {K : Option Nat → Prop} {x : Option Nat} {b : Nat} {cs : List Value} (h : St w0 F L w) (i off : Nat) (hm : L[i]? = some (b, cs)) (e : (cs.drop off).take 1 = [.map x]) (hK : K x) :
    ∃ x : Option Nat, At w (Addr.add ⟨b, 0, none⟩ off) (cells .map x) ∧ K x := h.ld (ty := .map) i off hm e hK
theorem St.ldi0 {k : IntKind} {K : Int → Prop} {x : Int} {b : Nat} {cs : List Value} (h : St w0 F L w) (i : Nat) (hm : L[i]? = some (b, cs)) (e : cs = [.int k x]) (hK : K x) :
    ∃ x : Int, At w ⟨b, 0, none⟩ (cells (.int k) x) ∧ K x := h.ld0 (ty := .int k) i hm e hK
theorem St.lds0 {K : Sl → Prop} {x : Sl} {b : Nat} {cs : List Value} (h : St w0 F L w) (i : Nat) (hm : L[i]? = some (b, cs)) (e : cs = [.slice x.a x.len x.cap]) (hK : K x) :
    ∃ x : Sl, At w ⟨b, 0, none⟩ (cells .slice x) ∧ K x := h.ld0 (ty := .slice) i hm e hK
theorem St.ldp0 {K : Option Addr → Prop} {x : Option Addr} {b : Nat} {cs : List Value} (h : St w0 F L w) (i : Nat) (hm : L[i]? = some (b, cs)) (e : cs = [.pointer x]) (hK : K x) :
    ∃ x : Option Addr, At w ⟨b, 0, none⟩ (cells .ptr x) ∧ K x := h.ld0 (ty := .ptr) i hm e hK
theorem St.still {b : Nat} {cs ds : List Value} (h : St w0 F L w) (i off : Nat) (hm : L[i]? = some (b, cs)) (e : (cs.drop off).take ds.length = ds) : At w (Addr.add ⟨b, 0, none⟩ off) ds := (h.at_ hm).sub off e
def splice (cs : List Value) (off : Nat) (ds : List Value) : List Value := cs.take off ++ ds ++ cs.drop (off + ds.length)
theorem setIfInBounds_toArray (cs : List Value) (i : Nat) (v : Value) : cs.toArray.setIfInBounds i v = (cs.set i v).toArray := by simp
theorem setCells_heap (b : Nat) (t : TypeId) : ∀ (ds cs : List Value) (off i : Nat) (w : World), w.heap[b]? = some (.cells cs.toArray t (0, 0)) → off + i + ds.length ≤ cs.length →
    (setCells w (Addr.add ⟨b, 0, none⟩ off) i ds).heap[b]? = some (.cells (splice cs (off + i) ds).toArray t (0, 0)) := by
  intro ds
  induction ds with
  | nil => intro cs off i w h hl; simp [setCells, splice, h]
  | cons d ds ih =>
    intro cs off i w h hl
    simp only [List.length_cons] at hl
    rw [setCells]
    have h1 : (w.setCell ((Addr.add ⟨b, 0, none⟩ off).add i) d).heap[b]? = some (.cells (cs.set (off + i) d).toArray t (0, 0)) := by
      rw [Addr.add_add]
      simp only [World.setCell, Array.getElem?_modify, add_block, if_true, h, Option.map_some, add_off, Nat.zero_add]
      have hs : (Addr.add ⟨b, 0, none⟩ (off + i)).spot = none := by unfold Addr.add; split <;> rfl
      simp [hs]
    rw [ih (cs.set (off + i) d) off (i + 1) _ h1 (by simp; omega)]
    congr 2
    unfold splice
    have hlt : off + i < cs.length := by omega
    have e1 : (cs.set (off + i) d).take (off + (i + 1)) = cs.take (off + i) ++ [d] := by
      rw [show off + (i + 1) = (off + i) + 1 by omega, List.take_succ_eq_append_getElem (by simpa using hlt)]
      rw [List.take_set_of_le (Nat.le_refl _)]
      simp
    have e2 : (cs.set (off + i) d).drop (off + (i + 1) + ds.length) = cs.drop (off + i + (d :: ds).length) := by
      rw [List.drop_set_of_lt (by omega)]
      congr 1; simp; omega
    rw [e1, e2]; simp
theorem St.st {K : World → Prop} {b : Nat} {cs ds : List Value} (h : St w0 F L w) (i off : Nat) (hm : L[i]? = some (b, cs)) (hl : off + ds.length ≤ cs.length) (ho : ds.all one = true)
    (hK : ∀ w', St w0 F (L.set i (b, splice cs off ds)) w' → Fr (fun x => x = b) w w' → K w') : stK w (Addr.add ⟨b, 0, none⟩ off) ds K := by
  have hmem := List.mem_of_getElem? hm
  obtain ⟨h1, h2, t, ht⟩ := h.loc _ hmem
  refine ⟨(wr_block ht).sub off ds.length hl, ho, hK _ ?_ ?_⟩
  · have hf := setCells_fr w (Addr.add ⟨b, 0, none⟩ off) 0 ds
    have hi : i < L.length := (List.getElem?_eq_some_iff.1 hm).1
    have hmap : (L.set i (b, splice cs off ds)).map (·.1) = L.map (·.1) := by
      rw [List.map_set]
      apply List.ext_getElem? 
      intro j
      rw [List.getElem?_set]
      split
      · rename_i e; subst e
        have e2 : L[i] = (b, cs) := by rw [List.getElem?_eq_getElem hi] at hm; exact Option.some.inj hm
        simp [hi, e2]
      · rfl
    refine ⟨⟨by rw [setCells_size]; exact h.fr.size, fun x hx hF => ?_, ?_⟩, fun x hx => by rw [setCells_size]; exact h.own x hx, fun x hx => ?_, by rw [hmap]; exact h.nodup⟩
    · rw [setCells_block _ _ _ _ _ (by rw [add_block]; dsimp only at h1 ⊢; omega)]
      exact h.fr.same x hx hF
    · exact ⟨(setCells_pub _ ds 0 w).1.trans h.fr.pub.1, (setCells_pub _ ds 0 w).2.1.trans h.fr.pub.2.1, (setCells_pub _ ds 0 w).2.2.trans h.fr.pub.2.2⟩
    · obtain ⟨j, hj⟩ := List.getElem?_of_mem hx
      rw [List.getElem?_set] at hj
      split at hj
      · rename_i e
        subst e
        simp only [hi, if_true, Option.some.injEq] at hj
        subst hj
        refine ⟨h1, h2, t, ?_⟩
        have := setCells_heap b t ds cs off 0 w ht (by omega)
        rwa [Nat.add_zero] at this
      · rename_i hne
        obtain ⟨g1, g2, t', gt⟩ := h.loc x (List.mem_of_getElem? hj)
        refine ⟨g1, g2, t', ?_⟩
        rw [setCells_block _ _ _ _ _ ?_]
        · exact gt
        · rw [add_block]
          intro e
          have hjl : j < L.length := (List.getElem?_eq_some_iff.1 hj).1
          have := (List.getElem_inj (h₀ := by simpa using hjl) (h₁ := by simpa using hi) h.nodup).1 (by
            have e1 : L[j] = x := by rw [List.getElem?_eq_getElem hjl] at hj; exact Option.some.inj hj
            have e2 : L[i] = (b, cs) := by rw [List.getElem?_eq_getElem hi] at hm; exact Option.some.inj hm
            simp [e1, e2, e])
          exact hne this.symm
  · have := setCells_fr w (Addr.add ⟨b, 0, none⟩ off) 0 ds
    rwa [add_block] at this
theorem St.st0 {K : World → Prop} {b : Nat} {cs ds : List Value} (h : St w0 F L w) (i : Nat) (hm : L[i]? = some (b, cs)) (hl : ds.length = cs.length) (ho : ds.all one = true)
    (hK : ∀ w', St w0 F (L.set i (b, ds)) w' → Fr (fun x => x = b) w w' → K w') : stK w ⟨b, 0, none⟩ ds K := by
  have := h.st (K := K) i 0 hm (by omega) ho (by
    have e : splice cs 0 ds = ds := by simp [splice, hl]
    rw [e]; exact hK)
  exact this

/-! ### The combinators -/
theorem gd_mk {b : Bool} {A B : Prop} (h1 : b = true → A) (h2 : b = false → B) : gd b A B := by
  cases b
  · exact h2 rfl
  · exact h1 rfl
theorem gd_t {b : Bool} {A B : Prop} (hb : b = true) (h : A) : gd b A B := by subst hb; exact h
theorem gd_f {b : Bool} {A B : Prop} (hb : b = false) (h : B) : gd b A B := by subst hb; exact h
theorem gd_dec {p : Prop} [Decidable p] {A B : Prop} (h1 : p → A) (h2 : ¬ p → B) : gd (decide p) A B := gd_mk (fun e => h1 (of_decide_eq_true e)) (fun e => h2 (of_decide_eq_false e))
theorem gd_eq {a b : Int} {A B : Prop} (h1 : a = b → A) (h2 : a ≠ b → B) : gd (a == b) A B := gd_mk (fun e => h1 (by simpa using e)) (fun e => h2 (by simpa using e))
theorem gd_ne {a b : Int} {A B : Prop} (h1 : a ≠ b → A) (h2 : a = b → B) : gd (a != b) A B := gd_mk (fun e => h1 (by simpa using e)) (fun e => h2 (by simpa using e))
theorem gd_not {b : Bool} {A B : Prop} (h : gd b B A) : gd (!b) A B := by cases b <;> exact h
theorem arith_i64 {n : Int} {K : Int → Prop} (h1 : -9223372036854775808 ≤ n) (h2 : n ≤ 9223372036854775807) (h : K n) : arith .i64 n K := by
  intro m hm
  have : IntKind.i64.wrap n = n := by rw [IntKind.wrap_i64]; omega
  rw [hm, this]; exact h
theorem wrap_u64 (n : Int) : IntKind.u64.wrap n = n % 18446744073709551616 := by simp [IntKind.wrap, IntKind.bits, IntKind.signed]
theorem arith_u64 {n : Int} {K : Int → Prop} (h1 : 0 ≤ n) (h2 : n ≤ 18446744073709551615) (h : K n) : arith .u64 n K := by
  intro m hm
  have : IntKind.u64.wrap n = n := by rw [wrap_u64]; omega
  rw [hm, this]; exact h
theorem arith_u64' {n : Int} {K : Int → Prop} (h : K (n % 18446744073709551616)) : arith .u64 n K := by
  intro m hm
  rw [hm, wrap_u64]; exact h
theorem arith_u8' {n : Int} {K : Int → Prop} (h : K (n % 256)) : arith .u8 n K := by
  intro m hm
  rw [hm, show IntKind.u8.wrap n = n % 256 by simp [IntKind.wrap, IntKind.bits, IntKind.signed]]; exact h
theorem letZ_mk {n : Int} {K : Int → Prop} (h : K n) : letZ n K := fun m hm => by rw [hm]; exact h
theorem nonNil_some {α : Type} {p : α} {K : α → Prop} (h : K p) : nonNil (some p) K := ⟨p, rfl, h⟩
theorem nilIfc_nil {K : Bool → Prop} (h : K true) : nilIfcK .nilIface K := ⟨rfl, h⟩
theorem nilIfc_err {t : TypeId} {v : Value} {K : Bool → Prop} (h : K false) : nilIfcK (.iface t v) K := ⟨rfl, h⟩
theorem callP_mono {P : Program} {f : FuncId} {args : Array Value} {ty : Ty} {K K' : ty.T → World → Prop} (h : callP P f args ty w K) (hk : ∀ r w', K r w' → K' r w') : callP P f args ty w K' :=
  Calls.mono h fun _ w' ⟨r, he, hr⟩ => ⟨r, he, hk r w' hr⟩

end Go.Den
