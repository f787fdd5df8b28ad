/- Texts that belong together, joined: Heap, List, Eq, Sp, Part, Lift, Read. No conditions. -/
import Derived.Laws.Append
import Derived.Laws.StructEq
import Derived.WideKeyRuns
import Derived.MapKept
import Derived.Carry
import Derived.ChangeSame
import Derived.OpenShut
import Derived.ProofKit
import Derived.Deep.Slices
import Derived.Test.YtcmncfglcjcmhaaGreatDenC
/- Reasoning about the typed texts: what a stretch of text leaves of memory, local rows, and the combinators one by one. Generic: no statement, no project text. -/
set_option linter.unusedVariables false
set_option linter.unusedSimpArgs false
namespace Go.Den

/-! ### Memory that has grown -/

/-- all blocks that were there, but those of F, are as they were -/
structure Fr (F : Nat → Prop) (w w' : World) : Prop where
  size : w.heap.size ≤ w'.heap.size
  same : ∀ b, b < w.heap.size → ¬ F b → w'.heap[b]? = w.heap[b]?
  pub : w'.os = w.os ∧ w'.tape = w.tape ∧ w'.output = w.output
abbrev Ext (w w' : World) : Prop := Fr (fun _ => False) w w'

theorem Fr.refl (F : Nat → Prop) (w : World) : Fr F w w := ⟨Nat.le_refl _, fun _ _ _ => rfl, rfl, rfl, rfl⟩
theorem Fr.trans {F G : Nat → Prop} {a b c : World} (h : Fr F a b) (k : Fr G b c) (hg : ∀ x, G x → x < a.heap.size → F x) : Fr F a c :=
  ⟨Nat.le_trans h.size k.size, fun x hx hf => by rw [k.same x (Nat.lt_of_lt_of_le hx h.size) (fun hG => hf (hg x hG hx)), h.same x hx hf], k.pub.1.trans h.pub.1, k.pub.2.1.trans h.pub.2.1, k.pub.2.2.trans h.pub.2.2⟩
theorem Fr.mono {F G : Nat → Prop} {a b : World} (h : Fr F a b) (hg : ∀ x, x < a.heap.size → F x → G x) : Fr G a b :=
  ⟨h.size, fun x hx hG => h.same x hx fun hF => hG (hg x hx hF), h.pub⟩
theorem Ext.trans {a b c : World} (h : Ext a b) (k : Ext b c) : Ext a c := Fr.trans h k fun _ h _ => h
theorem Fr.thenExt {F : Nat → Prop} {a b c : World} (h : Fr F a b) (k : Ext b c) : Fr F a c := Fr.trans h k fun _ h _ => h.elim
theorem Ext.thenFr {F : Nat → Prop} {a b c : World} (h : Ext a b) (k : Fr F b c) : Fr F a c := ⟨Nat.le_trans h.size k.size, fun x hx hf => by
  rw [k.same x (Nat.lt_of_lt_of_le hx h.size) hf, h.same x hx (fun h => h)], k.pub.1.trans h.pub.1, k.pub.2.1.trans h.pub.2.1, k.pub.2.2.trans h.pub.2.2⟩
theorem Ext.fr {F : Nat → Prop} {a b : World} (h : Ext a b) : Fr F a b := h.mono fun _ _ h => h.elim
theorem Fr.drew {F : Nat → Prop} {w : World} : Fr F w w.drew := ⟨Nat.le_refl _, fun _ _ _ => rfl, rfl, rfl, rfl⟩

theorem cell_heap {w w' : World} {a : Addr} (h : w'.heap[a.block]? = w.heap[a.block]?) : w'.cell? a = w.cell? a := by unfold World.cell?; rw [h]
theorem frozen_heap {w w' : World} {a : Addr} (h : w'.heap[a.block]? = w.heap[a.block]?) : w'.frozen? a = w.frozen? a := by unfold World.frozen?; rw [h]
theorem add_block (a : Addr) (n : Nat) : (a.add n).block = a.block := by unfold Addr.add; split <;> rfl
theorem add_off (a : Addr) (n : Nat) : (a.add n).off = a.off + n := by unfold Addr.add; split <;> simp_all

theorem At.heap {w w' : World} {a : Addr} {cs : List Value} (h : At w a cs) (e : w'.heap[a.block]? = w.heap[a.block]?) : At w' a cs :=
  fun i v hi => by rw [cell_heap (w := w) (w' := w') (a := a.add i) (by rw [add_block]; exact e)]; exact h i v hi
theorem At.lt {w : World} {a : Addr} {c : Value} {cs : List Value} (h : At w a (c :: cs)) : a.block < w.heap.size := by
  have := World.block_lt_of_cell? w _ (h 0 c rfl)
  rwa [add_block] at this
theorem At.fr {F : Nat → Prop} {w w' : World} {a : Addr} {cs : List Value} (h : At w a cs) (f : Fr F w w') (hF : ¬ F a.block) : At w' a cs := by
  cases cs with
  | nil => intro i v hi; simp at hi
  | cons c cs => exact h.heap (f.same _ h.lt hF)
theorem At.ext {w w' : World} {a : Addr} {cs : List Value} (h : At w a cs) (f : Ext w w') : At w' a cs := h.fr f fun h => h
theorem At.sub {w : World} {a : Addr} {cs ds : List Value} (h : At w a cs) (off : Nat) (e : (cs.drop off).take ds.length = ds) : At w (a.add off) ds := by
  intro i v hi
  rw [Addr.add_add]
  refine h _ v ?_
  have hl : i < ds.length := (List.getElem?_eq_some_iff.1 hi).1
  rw [← e, List.getElem?_take_of_lt hl, List.getElem?_drop] at hi
  exact hi
theorem At.inj {w : World} {a : Addr} {cs ds : List Value} (h : At w a cs) (k : At w a ds) (e : cs.length = ds.length) : cs = ds := by
  apply List.ext_getElem? 
  intro i
  cases hc : cs[i]? with
  | some v =>
    have h1 := h i v hc
    have hl : i < ds.length := by rw [← e]; exact (List.getElem?_eq_some_iff.1 hc).1
    have h2 := k i ds[i] (by simp [hl])
    rw [h1] at h2
    simp [hl, Option.some.inj h2]
  | none =>
    have : ds.length ≤ i := by rw [← e]; exact List.getElem?_eq_none_iff.1 hc
    exact (List.getElem?_eq_none this).symm
theorem Wr.heap {w w' : World} {a : Addr} {n : Nat} (h : Wr w a n) (e : w'.heap[a.block]? = w.heap[a.block]?) : Wr w' a n := fun i hi => by
  obtain ⟨⟨v, hv⟩, hf⟩ := h i hi
  exact ⟨⟨v, by rw [cell_heap (w := w) (w' := w') (a := a.add i) (by rw [add_block]; exact e)]; exact hv⟩, by rw [frozen_heap (w := w) (w' := w') (a := a.add i) (by rw [add_block]; exact e)]; exact hf⟩
theorem Wr.lt {w : World} {a : Addr} {n : Nat} (h : Wr w a (n + 1)) : a.block < w.heap.size := by
  obtain ⟨⟨v, hv⟩, _⟩ := h 0 (by omega)
  have := World.block_lt_of_cell? w _ hv
  rwa [add_block] at this
theorem Wr.fr {F : Nat → Prop} {w w' : World} {a : Addr} {n : Nat} (h : Wr w a n) (f : Fr F w w') (hF : ¬ F a.block) : Wr w' a n := by
  cases n with
  | zero => intro i hi; omega
  | succ n => exact h.heap (f.same _ h.lt hF)
theorem Wr.sub {w : World} {a : Addr} {n : Nat} (h : Wr w a n) (off m : Nat) (e : off + m ≤ n) : Wr w (a.add off) m := fun i hi => by
  rw [Addr.add_add]; exact h _ (by omega)

/-! ### Stores -/
theorem setCells_size (a : Addr) : ∀ (cs : List Value) (i : Nat) (w : World), (setCells w a i cs).heap.size = w.heap.size := by
  intro cs
  induction cs with
  | nil => intro i w; rfl
  | cons c cs ih => intro i w; rw [setCells, ih]; simp
theorem setCell_block (w : World) (a : Addr) (v : Value) (b : Nat) (h : b ≠ a.block) : (w.setCell a v).heap[b]? = w.heap[b]? := by
  simp only [World.setCell, Array.getElem?_modify]
  rw [if_neg (Ne.symm h)]
theorem setCells_block (a : Addr) : ∀ (cs : List Value) (i : Nat) (w : World) (b : Nat), b ≠ a.block → (setCells w a i cs).heap[b]? = w.heap[b]? := by
  intro cs
  induction cs with
  | nil => intro i w b _; rfl
  | cons c cs ih => intro i w b h; rw [setCells, ih _ _ _ h, setCell_block _ _ _ _ (by rw [add_block]; exact h)]
theorem setCells_pub (a : Addr) : ∀ (cs : List Value) (i : Nat) (w : World), (setCells w a i cs).os = w.os ∧ (setCells w a i cs).tape = w.tape ∧ (setCells w a i cs).output = w.output := by
  intro cs
  induction cs with
  | nil => intro i w; exact ⟨rfl, rfl, rfl⟩
  | cons c cs ih => intro i w; rw [setCells]; exact ih _ _
theorem setCells_fr (w : World) (a : Addr) (i : Nat) (cs : List Value) : Fr (fun b => b = a.block) w (setCells w a i cs) :=
  ⟨by rw [setCells_size]; exact Nat.le_refl _, fun b _ hb => setCells_block a cs i w b hb, setCells_pub a cs i w⟩
theorem setCells_cell_ne (a x : Addr) : ∀ (cs : List Value) (i : Nat) (w : World), (∀ j, j < cs.length → a.add (i + j) ≠ x) → (setCells w a i cs).cell? x = w.cell? x := by
  intro cs
  induction cs with
  | nil => intro i w _; rfl
  | cons c cs ih =>
    intro i w h
    rw [setCells, ih _ _ (fun j hj => by have := h (j + 1) (by simpa using hj); rwa [show i + 1 + j = i + (j + 1) by omega])]
    exact World.cell?_setCell_other w _ _ _ (by simpa using h 0 (by simp))
theorem setCells_frozen (a x : Addr) : ∀ (cs : List Value) (i : Nat) (w : World), (setCells w a i cs).frozen? x = w.frozen? x := by
  intro cs
  induction cs with
  | nil => intro i w; rfl
  | cons c cs ih => intro i w; rw [setCells, ih, World.frozen?_setCell]
theorem setCells_cell (a : Addr) : ∀ (cs : List Value) (i : Nat) (w : World), (∀ j, j < cs.length → ∃ v, w.cell? (a.add (i + j)) = some v) → ∀ j v, cs[j]? = some v → (setCells w a i cs).cell? (a.add (i + j)) = some v := by
  intro cs
  induction cs with
  | nil => intro i w _ j v h; simp at h
  | cons c cs ih =>
    intro i w h j v hj
    cases j with
    | zero =>
      simp only [List.getElem?_cons_zero, Option.some.injEq] at hj
      subst hj
      rw [setCells, setCells_cell_ne]
      · obtain ⟨u, hu⟩ := h 0 (by simp)
        exact World.cell?_setCell_same w _ _ hu
      · intro j _ e
        have := congrArg Addr.off e
        rw [add_off, add_off] at this
        omega
    | succ j =>
      rw [setCells]
      have := ih (i + 1) (w.setCell (a.add i) c) (fun k hk => ?_) j v (by simpa using hj)
      · rwa [show i + 1 + j = i + (j + 1) by omega] at this
      · obtain ⟨u, hu⟩ := h (k + 1) (by simpa using hk)
        rw [show i + 1 + k = i + (k + 1) by omega]
        refine ⟨u, ?_⟩
        rw [World.cell?_setCell_other]
        · exact hu
        · intro e
          have := congrArg Addr.off e
          rw [add_off, add_off] at this
          omega
theorem At.set {w : World} {a : Addr} {cs : List Value} (h : Wr w a cs.length) : At (setCells w a 0 cs) a cs := fun i v hi => by
  have := setCells_cell a cs 0 w (fun j hj => by rw [Nat.zero_add]; exact (h j hj).1) i v hi
  rwa [Nat.zero_add] at this
theorem Wr.set {w : World} {a x : Addr} {cs : List Value} {n : Nat} (h : Wr w x n) (ha : Wr w a cs.length) : Wr (setCells w a 0 cs) x n := fun i hi => by
  obtain ⟨⟨v, hv⟩, hf⟩ := h i hi
  refine ⟨?_, by rw [setCells_frozen]; exact hf⟩
  by_cases e : ∃ j, j < cs.length ∧ a.add (0 + j) = x.add i
  · obtain ⟨j, hj, e⟩ := e
    refine ⟨cs[j], ?_⟩
    rw [← e]
    exact setCells_cell a cs 0 w (fun j hj => by rw [Nat.zero_add]; exact (ha j hj).1) j _ (by simp [hj])
  · exact ⟨v, by rw [setCells_cell_ne _ _ _ _ _ (fun j hj e' => e ⟨j, hj, e'⟩)]; exact hv⟩
theorem At.setOther {w : World} {a x : Addr} {cs ds : List Value} (h : At w x ds) (hne : a.block = x.block → a.off + cs.length ≤ x.off ∨ x.off + ds.length ≤ a.off) : At (setCells w a 0 cs) x ds := fun i v hi => by
  rw [setCells_cell_ne]
  · exact h i v hi
  · intro j hj e
    have hl : i < ds.length := (List.getElem?_eq_some_iff.1 hi).1
    have h1 := congrArg Addr.block e
    have h2 := congrArg Addr.off e
    rw [add_block, add_block] at h1
    rw [add_off, add_off] at h2
    have := hne h1
    omega

theorem alloc_ext (w : World) (o : Obj) : Ext w (w.alloc o) := ⟨by simp, fun b hb _ => by unfold World.alloc; dsimp only; rw [Array.getElem?_push_lt hb, Array.getElem?_eq_getElem hb], rfl, rfl, rfl⟩
theorem alloc_new (w : World) (o : Obj) : (w.alloc o).heap[w.heap.size]? = some o := by unfold World.alloc; dsimp only; rw [Array.getElem?_push_size]
theorem at_block {w : World} {b : Nat} {cs : List Value} {t : TypeId} {f : Nat × Nat} (h : w.heap[b]? = some (.cells cs.toArray t f)) : At w ⟨b, 0, none⟩ cs := fun i v hi => by
  unfold World.cell?
  rw [add_block, h]
  have hs : (Addr.add ⟨b, 0, none⟩ i).spot = none := by unfold Addr.add; split <;> rfl
  simp only [add_off, hs, Nat.zero_add]
  simpa using hi
theorem wr_block {w : World} {b : Nat} {cs : List Value} {t : TypeId} (h : w.heap[b]? = some (.cells cs.toArray t (0, 0))) : Wr w ⟨b, 0, none⟩ cs.length := fun i hi => by
  refine ⟨⟨cs[i], at_block h i _ (by simp [hi])⟩, ?_⟩
  unfold World.frozen?
  rw [add_block, h]
  simp

/-! ### The state of a stretch: local rows of its own -/

structure St (w0 : World) (F : Nat → Prop) (L : List (Nat × List Value)) (w : World) : Prop where
  fr : Fr F w0 w
  own : ∀ b, F b → b < w.heap.size
  loc : ∀ x ∈ L, w0.heap.size ≤ x.1 ∧ ¬ F x.1 ∧ ∃ t, w.heap[x.1]? = some (.cells x.2.toArray t (0, 0))
  nodup : (L.map (·.1)).Nodup

variable {w0 w w' : World} {F : Nat → Prop} {L : List (Nat × List Value)}

theorem St.init (w : World) : St w (fun _ => False) [] w := ⟨.refl _ _, fun _ h => h.elim, fun _ h => (List.not_mem_nil h).elim, List.nodup_nil⟩
theorem St.start (w : World) (hF : ∀ b, F b → b < w.heap.size) : St w F [] w := ⟨.refl _ _, hF, fun _ h => (List.not_mem_nil h).elim, List.nodup_nil⟩
theorem St.lt (h : St w0 F L w) {x : Nat × List Value} (hx : x ∈ L) : x.1 < w.heap.size := by
  obtain ⟨_, _, t, ht⟩ := h.loc x hx
  exact (Array.getElem?_eq_some_iff.1 ht).1
theorem St.ext (h : St w0 F L w) (e : Ext w w') : St w0 F L w' :=
  ⟨h.fr.thenExt e, fun b hb => Nat.lt_of_lt_of_le (h.own b hb) e.size, fun x hx => by
    obtain ⟨h1, h2, t, ht⟩ := h.loc x hx
    exact ⟨h1, h2, t, by rw [e.same _ (h.lt hx) (fun h => h)]; exact ht⟩, h.nodup⟩
/-- a step that writes blocks of G: those that the stretch owns beside its local rows -/
theorem St.step {F' G : Nat → Prop} (h : St w0 F L w) (e : Fr G w w') (hG : ∀ b, G b → F b) (hF' : ∀ b, F' b → b < w'.heap.size) (hn : ∀ b, F' b → F b ∨ w.heap.size ≤ b) (hk : ∀ b, F b → b < w0.heap.size → F' b) : St w0 F' L w' :=
  ⟨⟨Nat.le_trans h.fr.size e.size, fun b hb hf => by
      have : ¬ F b := fun hF => hf (hk b hF hb)
      rw [e.same b (Nat.lt_of_lt_of_le hb h.fr.size) (fun hg => this (hG b hg)), h.fr.same b hb this], e.pub.1.trans h.fr.pub.1, e.pub.2.1.trans h.fr.pub.2.1, e.pub.2.2.trans h.fr.pub.2.2⟩, hF', fun x hx => by
    obtain ⟨h1, h2, t, ht⟩ := h.loc x hx
    refine ⟨h1, fun hF => ?_, t, by rw [e.same _ (h.lt hx) (fun hg => h2 (hG _ hg))]; exact ht⟩
    rcases hn _ hF with hF | hF
    · exact h2 hF
    · have := h.lt hx; omega, h.nodup⟩
theorem St.drop (h : St w0 F L w) : St w0 F [] w := ⟨h.fr, h.own, fun _ h => (List.not_mem_nil h).elim, List.nodup_nil⟩
theorem St.at_ {i : Nat} {x : Nat × List Value} (h : St w0 F L w) (hm : L[i]? = some x) : At w ⟨x.1, 0, none⟩ x.2 := by
  obtain ⟨_, _, t, ht⟩ := h.loc x (List.mem_of_getElem? hm)
  exact at_block ht

theorem St.allocK {cs : List Value} {t : TypeId} {K : Addr → World → Prop} (h : St w0 F L w)
    (hK : ∀ b w', St w0 F ((b, cs) :: L) w' → Ext w w' → b = w.heap.size → K ⟨b, 0, none⟩ w') : allocK (.cells cs.toArray t) w K := by
  have he := alloc_ext w (.cells cs.toArray t)
  refine hK w.heap.size _ ?_ he rfl
  have h' := h.ext he
  refine ⟨h'.fr, h'.own, fun x hx => ?_, ?_⟩
  · rcases List.mem_cons.1 hx with rfl | hx
    · exact ⟨h.fr.size, fun hF => Nat.lt_irrefl _ (h.own _ hF), t, alloc_new _ _⟩
    · exact h'.loc x hx
  · simp only [List.map_cons, List.nodup_cons]
    refine ⟨fun hm => ?_, h.nodup⟩
    obtain ⟨x, hx, e⟩ := List.mem_map.1 hm
    have := h.lt hx
    omega
theorem St.drawK {K : World → Prop} (h : St w0 F L w) (hK : ∀ w', St w0 F L w' → Ext w w' → w'.heap = w.heap → K w') : drawK w K := hK _ (h.ext Fr.drew) Fr.drew rfl
theorem St.ld {ty : Ty} {K : ty.T → Prop} {x : ty.T} {b : Nat} {cs : List Value} (h : St w0 F L w) (i off : Nat) (hm : L[i]? = some (b, cs)) (e : (cs.drop off).take (cells ty x).length = cells ty x) (hK : K x) :
    ∃ x, At w (Addr.add ⟨b, 0, none⟩ off) (cells ty x) ∧ K x := ⟨x, (h.at_ hm).sub off e, hK⟩
theorem St.ld0 {ty : Ty} {K : ty.T → Prop} {x : ty.T} {b : Nat} {cs : List Value} (h : St w0 F L w) (i : Nat) (hm : L[i]? = some (b, cs)) (e : cs = cells ty x) (hK : K x) :
    ∃ x, At w ⟨b, 0, none⟩ (cells ty x) ∧ K x := ⟨x, e ▸ h.at_ hm, hK⟩
theorem St.ldi {k : IntKind} {K : Int → Prop} {x : Int} {b : Nat} {cs : List Value} (h : St w0 F L w) (i off : Nat) (hm : L[i]? = some (b, cs)) (e : (cs.drop off).take 1 = [.int k x]) (hK : K x) :
    ∃ x : Int, At w (Addr.add ⟨b, 0, none⟩ off) (cells (.int k) x) ∧ K x := h.ld (ty := .int k) i off hm e hK
theorem St.ldb {K : Bool → Prop} {x : Bool} {b : Nat} {cs : List Value} (h : St w0 F L w) (i off : Nat) (hm : L[i]? = some (b, cs)) (e : (cs.drop off).take 1 = [.bool x]) (hK : K x) :
    ∃ x : Bool, At w (Addr.add ⟨b, 0, none⟩ off) (cells .bool x) ∧ K x := h.ld (ty := .bool) i off hm e hK
theorem St.lds {K : Sl → Prop} {x : Sl} {b : Nat} {cs : List Value} (h : St w0 F L w) (i off : Nat) (hm : L[i]? = some (b, cs)) (e : (cs.drop off).take 1 = [.slice x.a x.len x.cap]) (hK : K x) :
    ∃ x : Sl, At w (Addr.add ⟨b, 0, none⟩ off) (cells .slice x) ∧ K x := h.ld (ty := .slice) i off hm e hK
theorem St.ldp {K : Option Addr → Prop} {x : Option Addr} {b : Nat} {cs : List Value} (h : St w0 F L w) (i off : Nat) (hm : L[i]? = some (b, cs)) (e : (cs.drop off).take 1 = [.pointer x]) (hK : K x) :
    ∃ x : Option Addr, At w (Addr.add ⟨b, 0, none⟩ off) (cells .ptr x) ∧ K x := h.ld (ty := .ptr) i off hm e hK
theorem St.ldm {K : Option Nat → Prop} {x : Option Nat} {b : Nat} {cs : List Value} (h : St w0 F L w) (i off : Nat) (hm : L[i]? = some (b, cs)) (e : (cs.drop off).take 1 = [.map x]) (hK : K x) :
    ∃ x : Option Nat, At w (Addr.add ⟨b, 0, none⟩ off) (cells .map x) ∧ K x := h.ld (ty := .map) i off hm e hK
theorem St.ldi0 {k : IntKind} {K : Int → Prop} {x : Int} {b : Nat} {cs : List Value} (h : St w0 F L w) (i : Nat) (hm : L[i]? = some (b, cs)) (e : cs = [.int k x]) (hK : K x) :
    ∃ x : Int, At w ⟨b, 0, none⟩ (cells (.int k) x) ∧ K x := h.ld0 (ty := .int k) i hm e hK
theorem St.lds0 {K : Sl → Prop} {x : Sl} {b : Nat} {cs : List Value} (h : St w0 F L w) (i : Nat) (hm : L[i]? = some (b, cs)) (e : cs = [.slice x.a x.len x.cap]) (hK : K x) :
    ∃ x : Sl, At w ⟨b, 0, none⟩ (cells .slice x) ∧ K x := h.ld0 (ty := .slice) i hm e hK
theorem St.ldp0 {K : Option Addr → Prop} {x : Option Addr} {b : Nat} {cs : List Value} (h : St w0 F L w) (i : Nat) (hm : L[i]? = some (b, cs)) (e : cs = [.pointer x]) (hK : K x) :
    ∃ x : Option Addr, At w ⟨b, 0, none⟩ (cells .ptr x) ∧ K x := h.ld0 (ty := .ptr) i hm e hK
theorem St.still {b : Nat} {cs ds : List Value} (h : St w0 F L w) (i off : Nat) (hm : L[i]? = some (b, cs)) (e : (cs.drop off).take ds.length = ds) : At w (Addr.add ⟨b, 0, none⟩ off) ds := (h.at_ hm).sub off e
def splice (cs : List Value) (off : Nat) (ds : List Value) : List Value := cs.take off ++ ds ++ cs.drop (off + ds.length)
theorem setIfInBounds_toArray (cs : List Value) (i : Nat) (v : Value) : cs.toArray.setIfInBounds i v = (cs.set i v).toArray := by simp
theorem setCells_heap (b : Nat) (t : TypeId) : ∀ (ds cs : List Value) (off i : Nat) (w : World), w.heap[b]? = some (.cells cs.toArray t (0, 0)) → off + i + ds.length ≤ cs.length →
    (setCells w (Addr.add ⟨b, 0, none⟩ off) i ds).heap[b]? = some (.cells (splice cs (off + i) ds).toArray t (0, 0)) := by
  intro ds
  induction ds with
  | nil => intro cs off i w h hl; simp [setCells, splice, h]
  | cons d ds ih =>
    intro cs off i w h hl
    simp only [List.length_cons] at hl
    rw [setCells]
    have h1 : (w.setCell ((Addr.add ⟨b, 0, none⟩ off).add i) d).heap[b]? = some (.cells (cs.set (off + i) d).toArray t (0, 0)) := by
      rw [Addr.add_add]
      simp only [World.setCell, Array.getElem?_modify, add_block, if_true, h, Option.map_some, add_off, Nat.zero_add]
      have hs : (Addr.add ⟨b, 0, none⟩ (off + i)).spot = none := by unfold Addr.add; split <;> rfl
      simp [hs]
    rw [ih (cs.set (off + i) d) off (i + 1) _ h1 (by simp; omega)]
    congr 2
    unfold splice
    have hlt : off + i < cs.length := by omega
    have e1 : (cs.set (off + i) d).take (off + (i + 1)) = cs.take (off + i) ++ [d] := by
      rw [show off + (i + 1) = (off + i) + 1 by omega, List.take_succ_eq_append_getElem (by simpa using hlt)]
      rw [List.take_set_of_le (Nat.le_refl _)]
      simp
    have e2 : (cs.set (off + i) d).drop (off + (i + 1) + ds.length) = cs.drop (off + i + (d :: ds).length) := by
      rw [List.drop_set_of_lt (by omega)]
      congr 1; simp; omega
    rw [e1, e2]; simp
theorem St.st {K : World → Prop} {b : Nat} {cs ds : List Value} (h : St w0 F L w) (i off : Nat) (hm : L[i]? = some (b, cs)) (hl : off + ds.length ≤ cs.length) (ho : ds.all one = true)
    (hK : ∀ w', St w0 F (L.set i (b, splice cs off ds)) w' → Fr (fun x => x = b) w w' → K w') : stK w (Addr.add ⟨b, 0, none⟩ off) ds K := by
  have hmem := List.mem_of_getElem? hm
  obtain ⟨h1, h2, t, ht⟩ := h.loc _ hmem
  refine ⟨(wr_block ht).sub off ds.length hl, ho, hK _ ?_ ?_⟩
  · have hf := setCells_fr w (Addr.add ⟨b, 0, none⟩ off) 0 ds
    have hi : i < L.length := (List.getElem?_eq_some_iff.1 hm).1
    have hmap : (L.set i (b, splice cs off ds)).map (·.1) = L.map (·.1) := by
      rw [List.map_set]
      apply List.ext_getElem? 
      intro j
      rw [List.getElem?_set]
      split
      · rename_i e; subst e
        have e2 : L[i] = (b, cs) := by rw [List.getElem?_eq_getElem hi] at hm; exact Option.some.inj hm
        simp [hi, e2]
      · rfl
    refine ⟨⟨by rw [setCells_size]; exact h.fr.size, fun x hx hF => ?_, ?_⟩, fun x hx => by rw [setCells_size]; exact h.own x hx, fun x hx => ?_, by rw [hmap]; exact h.nodup⟩
    · rw [setCells_block _ _ _ _ _ (by rw [add_block]; dsimp only at h1 ⊢; omega)]
      exact h.fr.same x hx hF
    · exact ⟨(setCells_pub _ ds 0 w).1.trans h.fr.pub.1, (setCells_pub _ ds 0 w).2.1.trans h.fr.pub.2.1, (setCells_pub _ ds 0 w).2.2.trans h.fr.pub.2.2⟩
    · obtain ⟨j, hj⟩ := List.getElem?_of_mem hx
      rw [List.getElem?_set] at hj
      split at hj
      · rename_i e
        subst e
        simp only [hi, if_true, Option.some.injEq] at hj
        subst hj
        refine ⟨h1, h2, t, ?_⟩
        have := setCells_heap b t ds cs off 0 w ht (by omega)
        rwa [Nat.add_zero] at this
      · rename_i hne
        obtain ⟨g1, g2, t', gt⟩ := h.loc x (List.mem_of_getElem? hj)
        refine ⟨g1, g2, t', ?_⟩
        rw [setCells_block _ _ _ _ _ ?_]
        · exact gt
        · rw [add_block]
          intro e
          have hjl : j < L.length := (List.getElem?_eq_some_iff.1 hj).1
          have := (List.getElem_inj (h₀ := by simpa using hjl) (h₁ := by simpa using hi) h.nodup).1 (by
            have e1 : L[j] = x := by rw [List.getElem?_eq_getElem hjl] at hj; exact Option.some.inj hj
            have e2 : L[i] = (b, cs) := by rw [List.getElem?_eq_getElem hi] at hm; exact Option.some.inj hm
            simp [e1, e2, e])
          exact hne this.symm
  · have := setCells_fr w (Addr.add ⟨b, 0, none⟩ off) 0 ds
    rwa [add_block] at this
theorem St.st0 {K : World → Prop} {b : Nat} {cs ds : List Value} (h : St w0 F L w) (i : Nat) (hm : L[i]? = some (b, cs)) (hl : ds.length = cs.length) (ho : ds.all one = true)
    (hK : ∀ w', St w0 F (L.set i (b, ds)) w' → Fr (fun x => x = b) w w' → K w') : stK w ⟨b, 0, none⟩ ds K := by
  have := h.st (K := K) i 0 hm (by omega) ho (by
    have e : splice cs 0 ds = ds := by simp [splice, hl]
    rw [e]; exact hK)
  exact this

/-! ### The combinators -/
theorem gd_mk {b : Bool} {A B : Prop} (h1 : b = true → A) (h2 : b = false → B) : gd b A B := by
  cases b
  · exact h2 rfl
  · exact h1 rfl
theorem gd_t {b : Bool} {A B : Prop} (hb : b = true) (h : A) : gd b A B := by subst hb; exact h
theorem gd_f {b : Bool} {A B : Prop} (hb : b = false) (h : B) : gd b A B := by subst hb; exact h
theorem gd_dec {p : Prop} [Decidable p] {A B : Prop} (h1 : p → A) (h2 : ¬ p → B) : gd (decide p) A B := gd_mk (fun e => h1 (of_decide_eq_true e)) (fun e => h2 (of_decide_eq_false e))
theorem gd_eq {a b : Int} {A B : Prop} (h1 : a = b → A) (h2 : a ≠ b → B) : gd (a == b) A B := gd_mk (fun e => h1 (by simpa using e)) (fun e => h2 (by simpa using e))
theorem gd_ne {a b : Int} {A B : Prop} (h1 : a ≠ b → A) (h2 : a = b → B) : gd (a != b) A B := gd_mk (fun e => h1 (by simpa using e)) (fun e => h2 (by simpa using e))
theorem gd_not {b : Bool} {A B : Prop} (h : gd b B A) : gd (!b) A B := by cases b <;> exact h
theorem arith_i64 {n : Int} {K : Int → Prop} (h1 : -9223372036854775808 ≤ n) (h2 : n ≤ 9223372036854775807) (h : K n) : arith .i64 n K := by
  intro m hm
  have : IntKind.i64.wrap n = n := by rw [IntKind.wrap_i64]; omega
  rw [hm, this]; exact h
theorem wrap_u64 (n : Int) : IntKind.u64.wrap n = n % 18446744073709551616 := by simp [IntKind.wrap, IntKind.bits, IntKind.signed]
theorem arith_u64 {n : Int} {K : Int → Prop} (h1 : 0 ≤ n) (h2 : n ≤ 18446744073709551615) (h : K n) : arith .u64 n K := by
  intro m hm
  have : IntKind.u64.wrap n = n := by rw [wrap_u64]; omega
  rw [hm, this]; exact h
theorem arith_u64' {n : Int} {K : Int → Prop} (h : K (n % 18446744073709551616)) : arith .u64 n K := by
  intro m hm
  rw [hm, wrap_u64]; exact h
theorem arith_u8' {n : Int} {K : Int → Prop} (h : K (n % 256)) : arith .u8 n K := by
  intro m hm
  rw [hm, show IntKind.u8.wrap n = n % 256 by simp [IntKind.wrap, IntKind.bits, IntKind.signed]]; exact h
theorem letZ_mk {n : Int} {K : Int → Prop} (h : K n) : letZ n K := fun m hm => by rw [hm]; exact h
theorem nonNil_some {α : Type} {p : α} {K : α → Prop} (h : K p) : nonNil (some p) K := ⟨p, rfl, h⟩
theorem nilIfc_nil {K : Bool → Prop} (h : K true) : nilIfcK .nilIface K := ⟨rfl, h⟩
theorem nilIfc_err {t : TypeId} {v : Value} {K : Bool → Prop} (h : K false) : nilIfcK (.iface t v) K := ⟨rfl, h⟩
theorem callP_mono {P : Program} {f : FuncId} {args : Array Value} {ty : Ty} {K K' : ty.T → World → Prop} (h : callP P f args ty w K) (hk : ∀ r w', K r w' → K' r w') : callP P f args ty w K' :=
  Calls.mono h fun _ w' ⟨r, he, hr⟩ => ⟨r, he, hk r w' hr⟩

end Go.Den

/- Slices as lists: what is read, what is owned, what an append leaves. Generic: no statement, no project text. -/
set_option linter.unusedVariables false
set_option linter.unusedSimpArgs false
namespace Go.Den

def flat (ty : Ty) (xs : List ty.T) : List Value := xs.flatMap (cells ty)
variable {ty : Ty} {w w' : World}

theorem flat_len (xs : List ty.T) : (flat ty xs).length = xs.length * ty.size := by
  induction xs with
  | nil => simp [flat]
  | cons x xs ih =>
    simp only [flat, List.flatMap_cons, List.length_append, cells_length, List.length_cons] at ih ⊢
    rw [ih, Nat.succ_mul]; omega
theorem flat_append (xs ys : List ty.T) : flat ty (xs ++ ys) = flat ty xs ++ flat ty ys := by simp [flat]
theorem flat_get : ∀ (xs : List ty.T) (i : Nat) (x : ty.T), xs[i]? = some x → ((flat ty xs).drop (i * ty.size)).take (cells ty x).length = cells ty x
  | [], _, _, h => by simp at h
  | y :: ys, 0, x, h => by
    simp only [List.getElem?_cons_zero, Option.some.injEq] at h
    subst h
    simp [flat]
  | y :: ys, i + 1, x, h => by
    simp only [List.getElem?_cons_succ] at h
    have := flat_get ys i x h
    have e : flat ty (y :: ys) = cells ty y ++ flat ty ys := by simp [flat]
    rw [e, show (i + 1) * ty.size = (cells ty y).length + i * ty.size by rw [cells_length, Nat.succ_mul]; omega, ← List.drop_drop, List.drop_left]
    exact this

theorem Wr.ext {a : Addr} {n : Nat} (h : Wr w a n) (f : Ext w w') : Wr w' a n := h.fr f fun h => h
theorem At.append {a : Addr} {cs ds : List Value} (h : At w a cs) (k : At w (a.add cs.length) ds) : At w a (cs ++ ds) := fun i v hi => by
  by_cases hl : i < cs.length
  · rw [List.getElem?_append_left hl] at hi
    exact h i v hi
  · rw [List.getElem?_append_right (by omega)] at hi
    have := k _ v hi
    rw [Addr.add_add] at this
    rwa [show cs.length + (i - cs.length) = i by omega] at this
theorem At.left {a : Addr} {cs ds : List Value} (h : At w a (cs ++ ds)) : At w a cs := fun i v hi => h i v (by
  rw [List.getElem?_append_left (List.getElem?_eq_some_iff.1 hi).1]; exact hi)

def blk (s : Sl) (b : Nat) : Prop := ∃ q, s.a = some q ∧ b = q.block

structure View (ty : Ty) (w : World) (s : Sl) (xs : List ty.T) : Prop where
  len : s.len = xs.length
  mem : ∀ q, s.a = some q → At w q (flat ty xs)
  ne : xs ≠ [] → ∃ q, s.a = some q

variable {s : Sl} {xs ys : List ty.T}
theorem View.fr {F : Nat → Prop} (v : View ty w s xs) (f : Fr F w w') (h : ∀ b, blk s b → ¬ F b) : View ty w' s xs := ⟨v.len, fun q hq => (v.mem q hq).fr f (h _ ⟨q, hq, rfl⟩), v.ne⟩
theorem View.ext (v : View ty w s xs) (f : Ext w w') : View ty w' s xs := v.fr f fun _ _ h => h
theorem View.nil : View ty w ⟨none, 0, 0⟩ [] := ⟨rfl, fun _ h => (by cases h), fun h => absurd rfl h⟩
theorem View.idx {K : Addr → Prop} (v : View ty w s xs) {i : Int} {n : Nat} {x : ty.T} {sz : Nat} (hi : i = n) (hx : xs[n]? = some x) (hs : sz = ty.size) (h : ∀ p, At w p (cells ty x) → K p) : idxK s.a s.len i sz K := by
  have hl : n < xs.length := (List.getElem?_eq_some_iff.1 hx).1
  obtain ⟨q, hq⟩ := v.ne (fun e => by rw [e] at hl; simp at hl)
  refine ⟨q, hq, by omega, by rw [v.len]; omega, h _ ?_⟩
  subst hi hs
  simp only [Int.toNat_natCast]
  exact (v.mem q hq).sub _ (flat_get xs n x hx)

theorem View.idx2 {K : Addr → Prop} (v : View ty w s xs) {i : Int} {n : Nat} {x : ty.T} {sz : Nat} (hi : i = n) (hx : xs[n]? = some x) (hs : sz = ty.size) (h : ∀ p, (∀ w', View ty w' s xs → At w' p (cells ty x)) → K p) : idxK s.a s.len i sz K := by
  have hl : n < xs.length := (List.getElem?_eq_some_iff.1 hx).1
  obtain ⟨q, hq⟩ := v.ne (fun e => by rw [e] at hl; simp at hl)
  refine ⟨q, hq, by omega, by rw [v.len]; omega, h _ fun w' v' => ?_⟩
  subst hi hs
  simp only [Int.toNat_natCast]
  exact (v'.mem q hq).sub _ (flat_get xs n x hx)

structure Own (ty : Ty) (w : World) (s : Sl) (xs : List ty.T) : Prop where
  view : View ty w s xs
  cap : s.len ≤ s.cap
  wr : ∀ q, s.a = some q → Wr w q (s.cap * ty.size)
  nil : s.a = none → s.cap = 0
  lt : ∀ b, blk s b → b < w.heap.size
  spot : ∀ q, s.a = some q → q.spot = Option.none
theorem Own.fr {F : Nat → Prop} (o : Own ty w s xs) (f : Fr F w w') (h : ∀ b, blk s b → ¬ F b) : Own ty w' s xs :=
  ⟨o.view.fr f h, o.cap, fun q hq => (o.wr q hq).fr f (h _ ⟨q, hq, rfl⟩), o.nil, fun b hb => Nat.lt_of_lt_of_le (o.lt b hb) f.size, o.spot⟩
theorem Own.ext (o : Own ty w s xs) (f : Ext w w') : Own ty w' s xs := o.fr f fun _ _ h => h
theorem Own.none : Own ty w ⟨none, 0, 0⟩ [] := ⟨.nil, Nat.le_refl _, fun _ h => (by cases h), fun _ => rfl, fun b ⟨_, h, _⟩ => (by cases h), fun _ h => (by cases h)⟩

theorem zrow_size (zs : Array Value) (n : Nat) : (zrow zs n).size = n := by simp [zrow]

theorem Own.app {t : Sl} {E sz by_ : Nat} {zs : Array Value} {K : Sl → World → Prop} (o : Own ty w s xs) (v : View ty w t ys) (n : Nat) (hn : n = ys.length) (hs : sz = ty.size) (hz : zs.size = ty.size) (ho : (flat ty ys).all one = true)
    (hb : by_ ≠ 0) (hc : (xs.length + ys.length) * by_ ≤ 140737488355328)
    (hK : ∀ s' w', Own ty w' s' (xs ++ ys) → Fr (blk s) w w' → (∀ b, blk s' b → blk s b ∨ b = w.heap.size) → K s' w') :
    appK E sz by_ zs s.a s.len s.cap (.slice t.a t.len t.cap) n w K := by
  have hsl := o.view.len
  have hlen : (flat ty ys).length = n * sz := by rw [flat_len, hn, hs]
  have hsrc : src w (.slice t.a t.len t.cap) (n * sz) (flat ty ys) := by
    cases ha : t.a with
    | none =>
      have : ys = [] := by
        by_cases h : ys = []
        · exact h
        · obtain ⟨q, hq⟩ := v.ne h
          rw [ha] at hq; cases hq
      rw [this]; rfl
    | some q => exact ⟨hlen, v.mem q ha⟩
  refine ⟨flat ty ys, hsrc, ho, fun hfit => ?_, fun hgrow => ⟨?_, growslice_fits hgrow (by rw [hsl, hn]; exact hc), hb, flat ty xs, ?_, fun c hc' => ?_⟩⟩
  · cases ha : s.a with
    | none =>
      right
      refine ⟨rfl, ?_⟩
      have hc0 := o.nil ha
      have hy : ys = [] := List.eq_nil_of_length_eq_zero (by omega)
      have hl0 : n = 0 := by omega
      subst hy hl0
      have : (⟨Option.none, s.len + 0, s.cap⟩ : Sl) = s := by rw [← ha]; rfl
      rw [this]
      exact hK s w (by simpa using o) (.refl _ _) fun b hb => Or.inl hb
    | some q =>
      left
      have hw : Wr w (q.add (s.len * sz)) (flat ty ys).length := (o.wr q ha).sub _ _ (by
        rw [hlen, hs, ← Nat.add_mul]; exact Nat.mul_le_mul_right _ hfit)
      refine ⟨q, rfl, hw, hK _ _ ⟨⟨?_, fun q' hq' => ?_, fun _ => ⟨q, rfl⟩⟩, hfit, fun q' hq' => ?_, fun h => (by cases h), fun b ⟨q', h1, h2⟩ => ?_, fun q' h => by cases h; exact o.spot q ha⟩ ?_ ?_⟩
      · simp only [List.length_append]; omega
      · cases hq'
        rw [flat_append]
        refine At.append ((o.view.mem q ha).setOther fun _ => ?_) ?_
        · right; rw [add_off, flat_len, hsl, hs]; exact Nat.le_refl _
        · rw [flat_len, ← hsl, ← hs]
          exact At.set hw
      · cases hq'
        exact (o.wr q ha).set hw
      · cases h1
        rw [setCells_size]
        exact o.lt b ⟨q, ha, h2⟩
      · have := setCells_fr w (q.add (s.len * sz)) 0 (flat ty ys)
        refine this.mono fun x _ hx => ⟨q, ha, ?_⟩
        rw [add_block] at hx; exact hx
      · rintro b ⟨q', h1, h2⟩
        cases h1
        exact Or.inl ⟨q, ha, h2⟩
  · rw [hsl, hn]
    have : xs.length + ys.length ≤ (xs.length + ys.length) * by_ := Nat.le_mul_of_pos_right _ (Nat.pos_of_ne_zero hb)
    omega
  · cases ha : s.a with
    | none =>
      have hc0 := o.nil ha
      have hy : xs = [] := List.eq_nil_of_length_eq_zero (by have := o.cap; omega)
      rw [hy]; rfl
    | some q => exact ⟨by rw [flat_len, hsl, hs], o.view.mem q ha⟩
  · have hl : (flat ty xs ++ flat ty ys).length = (s.len + n) * ty.size := by rw [List.length_append, hlen, flat_len, hs, Nat.add_mul, hsl]
    have harr : (flat ty xs ++ flat ty ys).toArray ++ zrow zs ((c - (s.len + n)) * zs.size) = (flat ty xs ++ flat ty ys ++ (zrow zs ((c - (s.len + n)) * zs.size)).toList).toArray := by
      apply Array.ext'; simp
    rw [harr]
    have hnew := alloc_new w.drew (.cells (flat ty xs ++ flat ty ys ++ (zrow zs ((c - (s.len + n)) * zs.size)).toList).toArray E)
    have hds : w.drew.heap.size = w.heap.size := rfl
    rw [hds] at hnew
    refine hK _ _ ⟨⟨?_, fun q' hq' => ?_, fun _ => ⟨_, rfl⟩⟩, hc', fun q' hq' => ?_, fun h => (by cases h), fun b ⟨q', h1, h2⟩ => ?_, fun q' h => by cases h; rfl⟩ ?_ ?_
    · simp only [List.length_append]; omega
    · cases hq'
      rw [flat_append]
      exact (at_block hnew).left
    · cases hq'
      have := wr_block hnew
      refine fun i hi => this i ?_
      rw [List.length_append, hl]
      have e : (zrow zs ((c - (s.len + n)) * zs.size)).toList.length = (c - (s.len + n)) * ty.size := by rw [Array.length_toList, zrow_size, hz]
      rw [e, ← Nat.add_mul]
      have : s.len + n + (c - (s.len + n)) = c := by omega
      rw [this]; exact hi
    · cases h1
      simp only [h2]
      exact (Array.getElem?_eq_some_iff.1 hnew).1
    · exact ((Fr.drew (F := fun _ => False)).thenExt (alloc_ext _ _)).mono fun _ _ h => h.elim
    · rintro b ⟨q', h1, h2⟩
      cases h1
      exact Or.inr h2

/-- from a store of the blocks B to a store of the blocks B' -/
structure Step (B B' : Nat → Prop) (w w' : World) : Prop where
  fr : Fr B w w'
  new : ∀ b, B' b → B b ∨ w.heap.size ≤ b
  sub : ∀ b, B b → B' b
theorem Step.ofExt {B : Nat → Prop} {w w' : World} (e : Ext w w') : Step B B w w' := ⟨e.fr, fun _ h => Or.inl h, fun _ h => h⟩
theorem Step.trans {B B' B'' : Nat → Prop} {w w' w'' : World} (h : Step B B' w w') (k : Step B' B'' w' w'') : Step B B'' w w'' :=
  ⟨h.fr.trans k.fr fun x hx hl => by
      rcases h.new x hx with h' | h'
      · exact h'
      · omega, fun b hb => by
      rcases k.new b hb with h' | h'
      · exact h.new b h'
      · exact Or.inr (Nat.le_trans h.fr.size h'), fun b hb => k.sub b (h.sub b hb)⟩
theorem Step.pre {B B' : Nat → Prop} {w w' w'' : World} (e : Ext w w') (k : Step B B' w' w'') : Step B B' w w'' := (Step.ofExt e).trans k
theorem Step.fresh {B B' : Nat → Prop} {w w' : World} {N : Nat} (k : Step B B' w w') (hB : ∀ b, B b → N ≤ b) (hw : N ≤ w.heap.size) : ∀ b, B' b → N ≤ b := fun b hb => by
  rcases k.new b hb with h | h
  · exact hB b h
  · omega
theorem St.tail {w0 w : World} {F : Nat → Prop} {x : Nat × List Value} {L : List (Nat × List Value)} (h : St w0 F (x :: L) w) : St w0 F L w :=
  ⟨h.fr, h.own, fun y hy => h.loc y (List.mem_cons_of_mem _ hy), by
    have := h.nodup
    rw [List.map_cons, List.nodup_cons] at this
    exact this.2⟩
theorem St.stp {w0 w w' : World} {B B' : Nat → Prop} {L : List (Nat × List Value)} (s : St w0 B L w) (k : Step B B' w w') (hlt : ∀ b, B' b → b < w'.heap.size) : St w0 B' L w' :=
  s.step k.fr (fun _ h => h) hlt k.new fun b hb _ => k.sub b hb

theorem At.splice {w : World} {p : Addr} {cs ds : List Value} {off : Nat} (h : At w p cs) (hw : Wr w (p.add off) ds.length) (hl : off + ds.length ≤ cs.length) : At (setCells w (p.add off) 0 ds) p (Den.splice cs off ds) := by
  unfold Den.splice
  refine At.append (At.append ?_ ?_) ?_
  · refine At.setOther ?_ fun _ => ?_
    · have : cs.take off ++ cs.drop off = cs := List.take_append_drop _ _
      exact At.left (ds := cs.drop off) (by rw [this]; exact h)
    · right; rw [add_off]; simp; omega
  · have e : (cs.take off).length = off := by simp; omega
    rw [e]; exact At.set hw
  · have e : (cs.take off ++ ds).length = off + ds.length := by simp; omega
    rw [e]
    refine At.setOther (h.sub _ ?_) fun _ => ?_
    · exact List.take_of_length_le (Nat.le_refl _)
    · left; rw [add_off, add_off]; omega

theorem allocK_mk {o : Obj} {w : World} {K : Addr → World → Prop} (h : K ⟨w.heap.size, 0, none⟩ (w.alloc o)) : allocK o w K := h


end Go.Den

/- Equality of values, and maps by their entries. Generic: no statement, no project text. -/
set_option linter.unusedVariables false
set_option linter.unusedSimpArgs false
namespace Go.Den

/-! ### Equality of values whose leaves are numbers and truth values -/
def beqT : (t : Ty) → t.T → t.T → Bool
  | .int _, x, y => x == y
  | .bool, x, y => x == y
  | .str, x, y => decide (x = y)
  | .pair a b, x, y => beqT a x.1 y.1 && beqT b x.2 y.2
  | .st t, x, y => beqT t x y
  | _, _, _ => false
def leafT : Ty → Bool
  | .int _ => true
  | .bool => true
  | .str => true
  | .pair a b => leafT a && leafT b
  | .st t => leafT t
  | _ => false
theorem beqT_iff : ∀ (t : Ty), leafT t = true → ∀ x y : t.T, beqT t x y = true ↔ x = y
  | .int _, _, x, y => by simp [beqT]
  | .bool, _, x, y => by simp [beqT]
  | .str, _, x, y => by simp [beqT]
  | .pair a b, h, x, y => by
    simp only [leafT, Bool.and_eq_true] at h
    simp only [beqT, Bool.and_eq_true, beqT_iff a h.1, beqT_iff b h.2]
    exact ⟨fun e => Prod.ext e.1 e.2, fun e => by rw [e]; exact ⟨rfl, rfl⟩⟩
  | .st t, h, x, y => by simp only [beqT]; exact beqT_iff t h x y
theorem ba_loop (bs : ByteArray) : ∀ (n i : Nat) (r : List UInt8), bs.size - i = n → ByteArray.toList.loop bs i r = r.reverse ++ bs.data.toList.drop i := by
  intro n
  induction n with
  | zero =>
    intro i r h
    unfold ByteArray.toList.loop
    rw [if_neg (by omega), List.drop_of_length_le (by rw [Array.length_toList]; show bs.size ≤ i; omega), List.append_nil]
  | succ n ih =>
    intro i r h
    unfold ByteArray.toList.loop
    have hi : i < bs.data.toList.length := by rw [Array.length_toList]; show i < bs.size; omega
    have hd := List.drop_eq_getElem_cons hi
    rw [if_pos (by omega), ih (i + 1) _ (by omega), hd, List.reverse_cons, List.append_assoc]
    congr 1
    have : bs.get! i = bs.data.toList[i] := by
      show bs.data[i]! = _
      rw [getElem!_pos bs.data i (by rw [← Array.length_toList]; exact hi)]
      simp
    rw [this]; rfl
theorem ba_toList (a : ByteArray) : a.toList = a.data.toList := by
  have := ba_loop a _ 0 [] rfl
  simpa [ByteArray.toList] using this
theorem ba_eq (a b : ByteArray) : (a.toList == b.toList) = decide (a = b) := by
  rw [ba_toList, ba_toList, Bool.eq_iff_iff, beq_iff_eq, decide_eq_true_eq]
  constructor
  · intro h
    exact ByteArray.ext (Array.toList_inj.1 h)
  · intro h; rw [h]
theorem ba_beq (a b : ByteArray) : (a == b) = decide (a = b) := by
  obtain ⟨x⟩ := a
  obtain ⟨y⟩ := b
  show (x == y) = _
  rw [Bool.eq_iff_iff, beq_iff_eq, decide_eq_true_eq]
  exact ⟨fun h => by rw [h], fun h => by injection h⟩
theorem cells_len : ∀ (t : Ty) (x : t.T), (cells t x).length = t.size
  | .int _, _ => rfl
  | .bool, _ => rfl
  | .str, _ => rfl
  | .ptr, _ => rfl
  | .addr, _ => rfl
  | .slice, _ => rfl
  | .map, _ => rfl
  | .iface, _ => rfl
  | .func, _ => rfl
  | .unit, _ => rfl
  | .pair a b, x => by simp only [cells, List.length_append, Ty.size]; rw [cells_len a, cells_len b]
  | .st t, x => by simp only [cells, Ty.size]; exact cells_len t x
  | .tup t, x => by simp only [cells, Ty.size]; exact cells_len t x

def fieldOK (P : Program) (e : TypeId → Ty → Bool) (f : Field) (a : Ty) (off : Nat) : Bool := match a with
  | .st t => f.name != "_" && Nat.beq f.offset off && e f.type (.st t) && isAggP P f.type && (match szOf P f.type with | some n => Nat.beq n t.size | none => false)
  | .int k => f.name != "_" && Nat.beq f.offset off && e f.type (.int k) && !isAggP P f.type && (P.underlying f.type).isSome
  | .bool => f.name != "_" && Nat.beq f.offset off && e f.type .bool && !isAggP P f.type && (P.underlying f.type).isSome
  | _ => false
def fsOK (P : Program) (e : TypeId → Ty → Bool) : List Field → Ty → Nat → Bool
  | [], _, _ => false
  | f :: fs, c, off => match fs, c with
    | [], a => fieldOK P e f a off
    | _, .pair a b => fieldOK P e f a off && fsOK P e fs b (off + a.size)
    | _, _ => false
def eqOK (P : Program) : Nat → TypeId → Ty → Bool
  | 0, _, _ => false
  | d + 1, t, ty => match ty, P.underlying t with
    | .int k, some (.int k') => decide (k = k')
    | .bool, some .bool => true
    | .str, some .string => true
    | .st c, some (.struct fs) => !P.stoodInHeld t && fsOK P (eqOK P d) fs.toList c 0
    | _, _ => false

section
variable {P : Program} {w : World}

theorem field_part {e : TypeId → Ty → Bool} {f : Field} {a : Ty} {off : Nat} (h : fieldOK P e f a off = true) {xs : Array Value} {pre post : List Value} {x : a.T}
    (hx : xs.toList = pre ++ cells a x ++ post) (hp : pre.length = off) : e f.type a = true ∧ f.name ≠ "_" ∧ ∀ w, (part f.type xs f.offset).run P w = .ok (val a x) w := by
  have key : ∀ v : Value, cells a x = [v] → (P.underlying f.type).isSome = true → isAggP P f.type = false → f.offset = off → ∀ w, (part f.type xs f.offset).run P w = .ok v w := by
    intro v hv hu ha ho w
    refine run_part ?_
    unfold partV
    cases hu' : P.underlying f.type with
    | none => rw [hu'] at hu; cases hu
    | some d =>
      simp only [ha, ho]
      rw [← Array.getElem?_toList, hx, hv, ← hp]
      simp
  cases a with
  | int k =>
    simp only [fieldOK, Bool.and_eq_true, bne_iff_ne, ne_eq, Bool.not_eq_true'] at h
    obtain ⟨⟨⟨⟨h1, h2⟩, h3⟩, h4⟩, h5⟩ := h
    exact ⟨h3, h1, key _ rfl h5 h4 (Nat.eq_of_beq_eq_true h2)⟩
  | bool =>
    simp only [fieldOK, Bool.and_eq_true, bne_iff_ne, ne_eq, Bool.not_eq_true'] at h
    obtain ⟨⟨⟨⟨h1, h2⟩, h3⟩, h4⟩, h5⟩ := h
    exact ⟨h3, h1, key _ rfl h5 h4 (Nat.eq_of_beq_eq_true h2)⟩
  | st t =>
    simp only [fieldOK, Bool.and_eq_true, bne_iff_ne, ne_eq] at h
    obtain ⟨⟨⟨⟨h1, h2⟩, h3⟩, h4⟩, h5⟩ := h
    refine ⟨h3, h1, fun w => run_part ?_⟩
    unfold partV
    cases hs : szOf P f.type with
    | none => rw [hs] at h5; cases h5
    | some n =>
      rw [hs] at h5
      have hn : n = t.size := Nat.eq_of_beq_eq_true h5
      cases hu' : P.underlying f.type with
      | none => simp [isAggP, hu'] at h4
      | some d =>
        simp only [h4, val]
        congr 2
        apply Array.ext'
        rw [Array.toList_extract, hx, Nat.eq_of_beq_eq_true h2, ← hp, List.extract_eq_take_drop]
        have hl : (cells t x).length = n := by rw [cells_len, hn]
        have he : cells (.st t) x = cells t x := rfl
        rw [he]
        simp [← hl]
  | _ => simp [fieldOK] at h

theorem eqFields_run {D : Nat} {e : TypeId → Ty → Bool} (he : ∀ t ty, e t ty = true → ∀ x y : ty.T, ∀ w, (Op.equalIn D t (val ty x) (val ty y)).run P w = .ok (beqT ty x y) w) {xs ys : Array Value} :
    ∀ (fs : List Field) (c : Ty) (off : Nat) (px py : List Value) (x y : c.T), fsOK P e fs c off = true → xs.toList = px ++ cells c x → px.length = off → ys.toList = py ++ cells c y → py.length = off →
      ∀ w, (Op.eqFields D xs ys fs).run P w = .ok (beqT c x y) w := by
  intro fs
  induction fs with
  | nil => intro c off px py x y h; simp [fsOK] at h
  | cons f fs ih =>
    intro c off px py x y h hx hpx hy hpy w
    cases fs with
    | nil =>
      simp only [fsOK] at h
      obtain ⟨h1, h2, h3⟩ := field_part h (x := x) (pre := px) (post := []) (by simpa using hx) hpx
      obtain ⟨_, _, h4⟩ := field_part h (x := y) (pre := py) (post := []) (by simpa using hy) hpy
      simp only [Op.eqFields, ne_eq, h2, not_false_eq_true, if_true, Sem.run_bind, h3, h4, Result.andThen_ok, he _ _ h1]
      cases beqT c x y <;> simp
    | cons g fs =>
      cases c with
      | pair a b =>
        simp only [fsOK, Bool.and_eq_true] at h
        obtain ⟨ha, hb⟩ := h
        have hx' : xs.toList = px ++ cells a x.1 ++ cells b x.2 := by rw [hx]; simp [cells]
        have hy' : ys.toList = py ++ cells a y.1 ++ cells b y.2 := by rw [hy]; simp [cells]
        obtain ⟨h1, h2, h3⟩ := field_part ha (x := x.1) hx' hpx
        obtain ⟨_, _, h4⟩ := field_part ha (x := y.1) hy' hpy
        have := ih b (off + a.size) (px ++ cells a x.1) (py ++ cells a y.1) x.2 y.2 hb hx' (by simp [cells_len, hpx]) hy' (by simp [cells_len, hpy]) w
        rw [Op.eqFields]
        simp only [ne_eq, h2, not_false_eq_true, if_true, Sem.run_bind, h3, h4, Result.andThen_ok, he _ _ h1, beqT]
        cases beqT a x.1 y.1
        · simp
        · simp [this]
      | _ => simp [fsOK] at h

theorem equalIn_run : ∀ (d D : Nat), d ≤ D → ∀ (t : TypeId) (ty : Ty), eqOK P d t ty = true → ∀ (x y : ty.T) (w : World), (Op.equalIn D t (val ty x) (val ty y)).run P w = .ok (beqT ty x y) w := by
  intro d
  induction d with
  | zero => intro D _ t ty h; simp [eqOK] at h
  | succ d ih =>
    intro D hD t ty h x y w
    obtain ⟨D, rfl⟩ : ∃ E, D = E + 1 := ⟨D - 1, by omega⟩
    unfold eqOK at h
    split at h
    · rename_i hu
      exact run_equalIn_int w D t _ _ _ _ hu
    · rename_i hu
      exact run_equalIn_bool' w D t _ _ hu
    · rename_i hu
      have := run_equalIn_string w D t x y hu
      rw [ba_eq] at this
      exact this
    · rename_i c fs hu
      simp only [Bool.and_eq_true, Bool.not_eq_true'] at h
      have hf : P.fieldsOf t = fs := by unfold Program.fieldsOf; rw [hu]
      show (Op.equalIn (D + 1) t (.agg _) (.agg _)).run P w = _
      rw [run_equalIn_agg w D t _ _ (by rw [hf]; exact hu) h.1, hf]
      exact eqFields_run (fun t ty h x y w => ih D (by omega) t ty h x y w) fs.toList c 0 [] [] x y h.2 (by simp) rfl (by simp) rfl w
    · cases h
theorem equal_run {d : Nat} (hd : d ≤ 10000) {t : TypeId} {ty : Ty} (h : eqOK P d t ty = true) (x y : ty.T) (w : World) : (Op.equal t (val ty x) (val ty y)).run P w = .ok (beqT ty x y) w :=
  equalIn_run d 10000 hd t ty h x y w

theorem test_eql {d : Nat} {t : TypeId} {c : Ty} {xo yo : Operand} {x y : (Ty.st c).T} {K : Bool → Prop} (hd : d ≤ 10000) (h : eqOK P d t (.st c) = true) (hg : P.eqGuardType P.depth t = false) (hK : K (beqT c x y)) :
    testK P (do eqGuard .eql t xo yo (val (.st c) x) (val (.st c) y); binOp .eql t (val (.st c) x) (val (.st c) y)) K := by
  refine ⟨_, fun w => ?_, hK⟩
  rw [Sem.run_bind]
  have e1 : (eqGuard .eql t xo yo (val (.st c) x) (val (.st c) y)).run P w = .ok () w := run_eqGuard_agg w .eql t xo yo _ _ hg
  have e2 : (binOp .eql t (val (.st c) x) (val (.st c) y)).run P w = _ := run_eql_struct w t _ _
  rw [e1, Result.andThen_ok, e2]
  have := equal_run hd h x y w
  unfold Op.equal Op.maxDepth at this
  simp only [val] at this
  rw [this]; rfl
theorem test_neq {d : Nat} {t : TypeId} {c : Ty} {xo yo : Operand} {x y : (Ty.st c).T} {K : Bool → Prop} (hd : d ≤ 10000) (h : eqOK P d t (.st c) = true) (hg : P.eqGuardType P.depth t = false) (hK : K (!beqT c x y)) :
    testK P (do eqGuard .neq t xo yo (val (.st c) x) (val (.st c) y); binOp .neq t (val (.st c) x) (val (.st c) y)) K := by
  refine ⟨_, fun w => ?_, hK⟩
  rw [Sem.run_bind]
  have e1 : (eqGuard .neq t xo yo (val (.st c) x) (val (.st c) y)).run P w = .ok () w := run_eqGuard_agg w .neq t xo yo _ _ hg
  have e2 : (binOp .neq t (val (.st c) x) (val (.st c) y)).run P w = _ := run_neq_struct w t _ _
  rw [e1, Result.andThen_ok, e2]
  have := equal_run hd h x y w
  unfold Op.equal Op.maxDepth at this
  simp only [val] at this
  rw [this]; rfl

/-! ### Keys of maps -/
theorem chkFields_run {n : Nat} {e : TypeId → Ty → Bool} (he : ∀ t ty, e t ty = true → ∀ (x : ty.T) (em : Bool) w, (Instr.checkKey em n t (val ty x)).run P w = .ok () w) {xs : Array Value} (em : Bool) :
    ∀ (fs : List Field) (c : Ty) (off : Nat) (px : List Value) (x : c.T), fsOK P e fs c off = true → xs.toList = px ++ cells c x → px.length = off →
      ∀ w, (Sem.run P (forIn fs PUnit.unit fun f (_ : PUnit) => do
        if f.name ≠ "_" then do
          Instr.checkKey em n f.type (← part f.type xs f.offset)
          pure (ForInStep.yield PUnit.unit)
        else pure (ForInStep.yield PUnit.unit)) w) = .ok PUnit.unit w := by
  intro fs
  induction fs with
  | nil => intro c off px x h; simp [fsOK] at h
  | cons f fs ih =>
    intro c off px x h hx hpx w
    cases fs with
    | nil =>
      simp only [fsOK] at h
      obtain ⟨h1, h2, h3⟩ := field_part h (x := x) (pre := px) (post := []) (by simpa using hx) hpx
      simp [List.forIn_cons, h2, h3, he _ _ h1]
    | cons g fs =>
      cases c with
      | pair a b =>
        simp only [fsOK, Bool.and_eq_true] at h
        obtain ⟨ha, hb⟩ := h
        have hx' : xs.toList = px ++ cells a x.1 ++ cells b x.2 := by rw [hx]; simp [cells]
        obtain ⟨h1, h2, h3⟩ := field_part ha (x := x.1) hx' hpx
        have := ih b (off + a.size) (px ++ cells a x.1) x.2 hb hx' (by simp [cells_len, hpx]) w
        rw [List.forIn_cons]
        simp only [ne_eq, h2, not_false_eq_true, if_true, Sem.run_bind, h3, Result.andThen_ok, he _ _ h1, Sem.run_pure]
        simpa using this
      | _ => simp [fsOK] at h
theorem checkKey_run : ∀ (d D : Nat), d ≤ D → ∀ (t : TypeId) (ty : Ty), eqOK P d t ty = true → ∀ (x : ty.T) (em : Bool) (w : World), (Instr.checkKey em D t (val ty x)).run P w = .ok () w := by
  intro d
  induction d with
  | zero => intro D _ t ty h; simp [eqOK] at h
  | succ d ih =>
    intro D hD t ty h x em w
    obtain ⟨D, rfl⟩ : ∃ E, D = E + 1 := ⟨D - 1, by omega⟩
    unfold eqOK at h
    split at h
    · rename_i hu
      simp [Instr.checkKey, run_underlying hu, val]
    · rename_i hu
      simp [Instr.checkKey, run_underlying hu, val]
    · rename_i hu
      simp [Instr.checkKey, run_underlying hu, val]
    · rename_i c fs hu
      simp only [Bool.and_eq_true, Bool.not_eq_true'] at h
      have := chkFields_run (n := D) (fun t ty h x em w => ih D (by omega) t ty h x em w) em fs.toList c 0 [] x h.2 (xs := (cells c x).toArray) (by simp) rfl w
      simp only [Instr.checkKey, Sem.run_bind, run_underlying hu, Result.andThen_ok, val]
      rw [← Array.forIn_toList]
      exact (congrArg (fun r => Result.andThen r fun _ w' => Sem.run P (pure ()) w') this).trans (by simp)
    · cases h

def fnd (ty : Ty) (x : ty.T) : List MapEntry → List ty.T → Nat → Option (Nat × Value)
  | e :: es, k :: ks, i => if beqT ty x k then some (i, e.val) else fnd ty x es ks (i + 1)
  | _, _, _ => none
theorem findAsking_run {t : TypeId} {ty : Ty} (heq : ∀ (x y : ty.T) w, (Op.equal t (val ty x) (val ty y)).run P w = .ok (beqT ty x y) w) (x : ty.T) :
    ∀ (es : List MapEntry) (ks : List ty.T) (i : Nat), es.map (·.key) = ks.map (val ty) → (Instr.findAsking t (val ty x) es i).run P w = .ok (fnd ty x es ks i) w
  | [], ks, i, h => by simp [Instr.findAsking, fnd]
  | e :: es, [], i, h => by simp at h
  | e :: es, k :: ks, i, h => by
    simp only [List.map_cons, List.cons.injEq] at h
    simp only [Instr.findAsking, Sem.run_bind, h.1, heq, Result.andThen_ok, fnd]
    cases beqT ty x k
    · simpa using findAsking_run heq x es ks (i + 1) h.2
    · simp
theorem findNow_int {k : IntKind} (x : Int) : ∀ (es : List MapEntry) (ks : List Int) (i : Nat), es.map (·.key) = ks.map (val (.int k)) → Instr.findNow (.int k) (.int k x) es i = some (fnd (.int k) x es ks i)
  | [], ks, i, h => by simp [Instr.findNow, fnd]
  | e :: es, [], i, h => by simp at h
  | e :: es, y :: ks, i, h => by
    simp only [List.map_cons, List.cons.injEq] at h
    simp only [Instr.findNow, h.1, val, Instr.sameNow, fnd, beqT]
    by_cases hxy : x = y
    · subst hxy; simp
    · have := findNow_int x es ks (i + 1) h.2
      have hb : (x == y) = false := by simp [hxy]
      simp only [if_pos, hb, Bool.false_eq_true, if_false]
      exact this
theorem findNow_str (x : ByteArray) : ∀ (es : List MapEntry) (ks : List ByteArray) (i : Nat), es.map (·.key) = ks.map (val .str) → Instr.findNow .string (.string x) es i = some (fnd .str x es ks i)
  | [], ks, i, h => by simp [Instr.findNow, fnd]
  | e :: es, [], i, h => by simp at h
  | e :: es, y :: ks, i, h => by
    simp only [List.map_cons, List.cons.injEq] at h
    have hs : Instr.sameNow .string (.string x) (.string y) = some (decide (x = y)) := by
      show some (x == y) = _
      rw [ba_beq]
    simp only [Instr.findNow, h.1, val, fnd, beqT, hs]
    by_cases hxy : x = y
    · subst hxy; simp
    · have := findNow_str x es ks (i + 1) h.2
      simp only [hxy, decide_false, Bool.false_eq_true, if_false]
      exact this
theorem findKey_run {d : Nat} (hd : d ≤ 10000) {t : TypeId} {ty : Ty} (h : eqOK P d t ty = true) (hb : ty ≠ .bool) (x : ty.T) (es : List MapEntry) (ks : List ty.T) (he : es.map (·.key) = ks.map (val ty)) :
    (Instr.findKey t (val ty x) es).run P w = .ok (fnd ty x es ks 0) w := by
  have heq := equal_run hd h
  cases d with
  | zero => simp [eqOK] at h
  | succ d =>
    unfold eqOK at h
    split at h
    · rename_i hu
      have hk := of_decide_eq_true h
      subst hk
      simp only [Instr.findKey, Sem.run_bind, run_underlying hu, Result.andThen_ok, val]
      rw [findNow_int x es ks 0 he]
      simp
    · exact absurd rfl hb
    · rename_i hu
      simp only [Instr.findKey, Sem.run_bind, run_underlying hu, Result.andThen_ok, val]
      rw [findNow_str x es ks 0 he]
      simp
    · rename_i hu
      rw [run_findKey_eq w (by rw [hu])]
      exact findAsking_run heq x es ks 0 he
    · cases h

/-! ### Maps by their entries, oldest first -/
def MapIs (kt vt : Ty) (w : World) (r : Nat) (es : List (kt.T × vt.T)) : Prop :=
  ∃ arr clock, w.heap[r]? = some (.map arr clock) ∧ arr.toList.map (fun e => (e.key, e.val)) = es.map (fun p => (val kt p.1, val vt p.2))
variable {kt vt : Ty}
theorem MapIs.heap {w' : World} {r : Nat} {es : List (kt.T × vt.T)} (h : MapIs kt vt w r es) (e : w'.heap[r]? = w.heap[r]?) : MapIs kt vt w' r es := by
  obtain ⟨a, c, h1, h2⟩ := h
  exact ⟨a, c, by rw [e]; exact h1, h2⟩
theorem MapIs.lt {r : Nat} {es : List (kt.T × vt.T)} (h : MapIs kt vt w r es) : r < w.heap.size := by
  obtain ⟨a, c, h1, _⟩ := h
  exact (Array.getElem?_eq_some_iff.1 h1).1
theorem MapIs.fr {F : Nat → Prop} {w' : World} {r : Nat} {es : List (kt.T × vt.T)} (h : MapIs kt vt w r es) (f : Fr F w w') (hF : ¬ F r) : MapIs kt vt w' r es := h.heap (f.same r h.lt hF)
theorem MapIs.ext {w' : World} {r : Nat} {es : List (kt.T × vt.T)} (h : MapIs kt vt w r es) (f : Ext w w') : MapIs kt vt w' r es := h.fr f fun h => h
def lk (es : List (kt.T × vt.T)) (x : kt.T) : Option vt.T := (es.find? fun p => beqT kt x p.1).map (·.2)
theorem fnd_lk {x : kt.T} : ∀ (ls : List MapEntry) (es : List (kt.T × vt.T)) (i : Nat), ls.map (fun e => (e.key, e.val)) = es.map (fun p => (val kt p.1, val vt p.2)) →
    (fnd kt x ls (es.map (·.1)) i).map (·.2) = (lk es x).map (val vt)
  | [], [], i, _ => by simp [fnd, lk]
  | [], _ :: _, _, h => by simp at h
  | _ :: _, [], _, h => by simp at h
  | e :: ls, p :: es, i, h => by
    simp only [List.map_cons, List.cons.injEq, Prod.mk.injEq] at h
    have := fnd_lk (x := x) ls es (i + 1) h.2
    simp only [List.map_cons, fnd, lk, List.find?_cons, h.1.2] at this ⊢
    cases hb : beqT kt x p.1
    · simpa using this
    · simp
theorem keys_of {ls : List MapEntry} {es : List (kt.T × vt.T)} (h : ls.map (fun e => (e.key, e.val)) = es.map (fun p => (val kt p.1, val vt p.2))) : ls.map (·.key) = (es.map (·.1)).map (val kt) := by
  have := congrArg (List.map Prod.fst) h
  simpa [List.map_map, Function.comp_def] using this

theorem lk2_run {d : Nat} (hd : d ≤ 10000) {t k e : TypeId} (hu : P.underlying t = some (.map k e)) (hk : eqOK P d k kt = true) (hb : kt ≠ .bool) {z : vt.T} (hz : zeroOf P e = some (val vt z))
    {r : Nat} {es : List (kt.T × vt.T)} (m : MapIs kt vt w r es) (x : kt.T) : Lk2 P t vt (.map (some r)) (val kt x) ((lk es x).getD z) (lk es x).isSome w := by
  obtain ⟨arr, clock, h1, h2⟩ := m
  unfold Lk2 Instr.lookup
  have hf := findKey_run (w := w) hd hk hb x arr.toList (es.map (·.1)) (keys_of h2)
  have hl := fnd_lk (x := x) arr.toList es 0 h2
  have hg : (getObj r).run P w = .ok (.map arr clock) w := MapKept.run_getObj_map h1
  simp only [Sem.run_bind, run_underlying hu, Result.andThen_ok, hg, Sem.run_pure, checkKey_run d 10000 hd k kt hk x, hf]
  cases hh : fnd kt x arr.toList (es.map (·.1)) 0 with
  | none =>
    rw [hh] at hl
    have hl' : lk es x = none := by
      cases h : lk es x with
      | none => rfl
      | some v => rw [h] at hl; cases hl
    simp [hl', run_zero' hz]
  | some p =>
    rw [hh] at hl
    cases h : lk es x with
    | none => rw [h] at hl; cases hl
    | some v =>
      rw [h] at hl
      simp only [Option.map_some, Option.some.injEq] at hl
      simp [hl]
theorem lk1_run {d : Nat} (hd : d ≤ 10000) {t k e : TypeId} (hu : P.underlying t = some (.map k e)) (hk : eqOK P d k kt = true) (hb : kt ≠ .bool) {z : vt.T} (hz : zeroOf P e = some (val vt z))
    {r : Nat} {es : List (kt.T × vt.T)} (m : MapIs kt vt w r es) (x : kt.T) : Lk1 P t vt (.map (some r)) (val kt x) ((lk es x).getD z) w := by
  unfold Lk1 Instr.lookup
  obtain ⟨arr, clock, h1, h2⟩ := m
  have hf := findKey_run (w := w) hd hk hb x arr.toList (es.map (·.1)) (keys_of h2)
  have hl := fnd_lk (x := x) arr.toList es 0 h2
  have hg : (getObj r).run P w = .ok (.map arr clock) w := MapKept.run_getObj_map h1
  simp only [Sem.run_bind, run_underlying hu, Result.andThen_ok, hg, Sem.run_pure, checkKey_run d 10000 hd k kt hk x, hf]
  cases hh : fnd kt x arr.toList (es.map (·.1)) 0 with
  | none =>
    rw [hh] at hl
    have hl' : lk es x = none := by
      cases h : lk es x with
      | none => rfl
      | some v => rw [h] at hl; cases hl
    simp [hl', run_zero' hz]
  | some p =>
    rw [hh] at hl
    cases h : lk es x with
    | none => rw [h] at hl; cases hl
    | some v =>
      rw [h] at hl
      simp only [Option.map_some, Option.some.injEq] at hl
      simp [hl]
/-- a key that is new -/
theorem up_run {d : Nat} (hd : d ≤ 10000) {t k e : TypeId} (hu : P.underlying t = some (.map k e)) (hk : eqOK P d k kt = true) (hb : kt ≠ .bool)
    {r : Nat} {es : List (kt.T × vt.T)} (m : MapIs kt vt w r es) (x : kt.T) (v : vt.T) (hn : lk es x = none) {K : World → Prop}
    (hK : ∀ w', Fr (fun b => b = r) w w' → MapIs kt vt w' r (es ++ [(x, v)]) → K w') : runU P (Instr.mapUpdate t (.map (some r)) (val kt x) (val vt v)) w K := by
  have hr := m.lt
  obtain ⟨arr, clock, h1, h2⟩ := m
  have hf := findKey_run (w := w) hd hk hb x arr.toList (es.map (·.1)) (keys_of h2)
  have hl := fnd_lk (x := x) arr.toList es 0 h2
  have hg : (getObj r).run P w = .ok (.map arr clock) w := MapKept.run_getObj_map h1
  have hh : fnd kt x arr.toList (es.map (·.1)) 0 = none := by
    rw [hn] at hl
    cases h : fnd kt x arr.toList (es.map (·.1)) 0 with
    | none => rfl
    | some p => rw [h] at hl; cases hl
  refine ⟨{ w with heap := w.heap.setIfInBounds r (.map (arr.push { key := val kt x, val := val vt v, born := clock }) (clock + 1)) }, ?_, hK _ ⟨?_, ?_, rfl, rfl, rfl⟩ ⟨arr.push { key := val kt x, val := val vt v, born := clock }, clock + 1, ?_, ?_⟩⟩
  · unfold Instr.mapUpdate
    simp only [Sem.run_bind, run_underlying hu, Result.andThen_ok, hg, checkKey_run d 10000 hd k kt hk x, hf, hh]
    simp [MapKept.run_setObj_map _ h1]
  · simp
  · intro b _ hb
    simp [Array.getElem?_setIfInBounds, Ne.symm hb]
  · simp [hr]
  · simp [h2]

end
end Go.Den

/- The state of a stretch as a list of objects in memory, side by side: cells, slices, maps, stores; what is allocated, read, written, called. Generic: no statement, no project text. -/
set_option linter.unusedVariables false
set_option linter.unusedSimpArgs false
namespace Go.Den

/-- something in memory, on the blocks B; ro: it is only read from now on -/
structure Ob where
  ro : Bool
  P : (Nat → Prop) → World → Prop
  fr : ∀ {B F : Nat → Prop} {w w' : World}, P B w → Fr F w w' → (∀ b, B b → ¬ F b) → P B w'

/-- the objects L, side by side, all younger than w0; what was there in w0 is as it was -/
structure Sp (w0 : World) (L : List Ob) (w : World) : Prop where
  ext : Ext w0 w
  ex : ∃ f : Nat → Nat → Prop, (∀ i o, L[i]? = some o → o.P (f i) w ∧ ∀ b, f i b → w0.heap.size ≤ b ∧ b < w.heap.size) ∧
    (∀ i j o o', i ≠ j → L[i]? = some o → L[j]? = some o' → (o.ro = true ∧ o'.ro = true) ∨ ∀ b, f i b → ¬ f j b)

variable {w0 w w' : World} {L : List Ob} {o o' : Ob}

theorem Sp.init (w : World) : Sp w [] w := ⟨.refl _ _, fun _ _ => False, fun _ _ h => by simp at h, fun _ _ _ _ _ h => by simp at h⟩
theorem Sp.toExt (s : Sp w0 L w) (e : Ext w w') : Sp w0 L w' := by
  obtain ⟨h0, f, h1, h2⟩ := s
  refine ⟨h0.trans e, f, fun i o h => ?_, h2⟩
  obtain ⟨a, b⟩ := h1 i o h
  exact ⟨o.fr a e fun _ _ h => h, fun x hx => ⟨(b x hx).1, Nat.lt_of_lt_of_le (b x hx).2 e.size⟩⟩
theorem Sp.get (s : Sp w0 L w) (i : Nat) (h : L[i]? = some o) : ∃ B, o.P B w ∧ ∀ b, B b → w0.heap.size ≤ b ∧ b < w.heap.size := by
  obtain ⟨_, f, h1, _⟩ := s
  exact ⟨f i, h1 i o h⟩
/-- an object of new blocks -/
theorem Sp.push {B : Nat → Prop} (s : Sp w0 L w) (e : Ext w w') (hP : o.P B w') (hB : ∀ b, B b → w.heap.size ≤ b ∧ b < w'.heap.size) : Sp w0 (o :: L) w' := by
  obtain ⟨h0, f, h1, h2⟩ := s
  refine ⟨h0.trans e, fun i => match i with | 0 => B | i + 1 => f i, fun i o' h => ?_, fun i j o1 o2 hne hi hj => ?_⟩
  · cases i with
    | zero =>
      simp only [List.getElem?_cons_zero, Option.some.injEq] at h
      subst h
      exact ⟨hP, fun b hb => ⟨Nat.le_trans h0.size (hB b hb).1, (hB b hb).2⟩⟩
    | succ i =>
      simp only [List.getElem?_cons_succ] at h
      obtain ⟨a, b⟩ := h1 i o' h
      exact ⟨o'.fr a e fun _ _ h => h, fun x hx => ⟨(b x hx).1, Nat.lt_of_lt_of_le (b x hx).2 e.size⟩⟩
  · cases i with
    | zero =>
      cases j with
      | zero => exact absurd rfl hne
      | succ j =>
        simp only [List.getElem?_cons_succ] at hj
        right
        intro b hb hb'
        have := ((h1 j o2 hj).2 b hb').2
        have := (hB b hb).1
        omega
    | succ i =>
      simp only [List.getElem?_cons_succ] at hi
      cases j with
      | zero =>
        right
        intro b hb hb'
        have := ((h1 i o1 hi).2 b hb).2
        have := (hB b hb').1
        omega
      | succ j =>
        simp only [List.getElem?_cons_succ] at hj
        exact h2 i j o1 o2 (by omega) hi hj
/-- to change one object -/
theorem Sp.open (s : Sp w0 L w) (i : Nat) (h : L[i]? = some o) (hro : o.ro = false) : ∃ B, o.P B w ∧ (∀ b, B b → w0.heap.size ≤ b ∧ b < w.heap.size) ∧
    ∀ (o' : Ob) (B' : Nat → Prop) (w' : World), o'.P B' w' → Fr B w w' → (∀ b, B' b → B b ∨ w.heap.size ≤ b) → (∀ b, B' b → b < w'.heap.size) → Sp w0 (L.set i o') w' := by
  obtain ⟨h0, f, h1, h2⟩ := s
  obtain ⟨hP, hB⟩ := h1 i o h
  refine ⟨f i, hP, hB, fun o' B' w' hP' hF hN hlt => ⟨?_, fun j => if j = i then B' else f j, fun j o1 hj => ?_, fun j k o1 o2 hne hj hk => ?_⟩⟩
  · exact ⟨Nat.le_trans h0.size hF.size, fun b hb _ => by
      rw [hF.same b (Nat.lt_of_lt_of_le hb h0.size) (fun hf => by have := (hB b hf).1; omega), h0.same b hb (fun h => h)],
      hF.pub.1.trans h0.pub.1, hF.pub.2.1.trans h0.pub.2.1, hF.pub.2.2.trans h0.pub.2.2⟩
  · rw [List.getElem?_set] at hj
    by_cases e : i = j
    · subst e
      have hi : i < L.length := (List.getElem?_eq_some_iff.1 h).1
      simp only [if_true, hi, Option.some.injEq] at hj
      subst hj
      simp only [if_true]
      refine ⟨hP', fun b hb => ⟨?_, hlt b hb⟩⟩
      rcases hN b hb with h' | h'
      · exact (hB b h').1
      · exact Nat.le_trans h0.size h'
    · rw [if_neg e] at hj
      obtain ⟨a, b⟩ := h1 j o1 hj
      have e' : ¬ j = i := fun h => e h.symm
      simp only [if_neg e']
      refine ⟨o1.fr a hF ?_, fun x hx => ⟨(b x hx).1, Nat.lt_of_lt_of_le (b x hx).2 hF.size⟩⟩
      intro x hx hf
      rcases h2 i j o o1 e h hj with ⟨h', _⟩ | h'
      · rw [hro] at h'; cases h'
      · exact h' x hf hx
  · rw [List.getElem?_set] at hj hk
    have hi : i < L.length := (List.getElem?_eq_some_iff.1 h).1
    by_cases ej : i = j
    · subst ej
      have ek : ¬ i = k := hne
      rw [if_neg ek] at hk
      have ek' : ¬ k = i := fun h => ek h.symm
      simp only [if_true, if_neg ek']
      right
      intro b hb hb'
      rcases hN b hb with h' | h'
      · rcases h2 i k o o2 ek h hk with ⟨h3, _⟩ | h3
        · rw [hro] at h3; cases h3
        · exact h3 b h' hb'
      · have := ((h1 k o2 hk).2 b hb').2
        omega
    · rw [if_neg ej] at hj
      have ej' : ¬ j = i := fun h => ej h.symm
      by_cases ek : i = k
      · subst ek
        simp only [if_true, if_neg ej']
        right
        intro b hb hb'
        rcases hN b hb' with h' | h'
        · rcases h2 i j o o1 ej h hj with ⟨h3, _⟩ | h3
          · rw [hro] at h3; cases h3
          · exact h3 b h' hb
        · have := ((h1 j o1 hj).2 b hb).2
          omega
      · rw [if_neg ek] at hk
        have ek' : ¬ k = i := fun h => ek h.symm
        simp only [if_neg ej', if_neg ek']
        exact h2 j k o1 o2 hne hj hk
/-- the objects that σ names -/
theorem Sp.sel (s : Sp w0 L w) (M : List Ob) (σ : Nat → Nat) (h : ∀ i o, M[i]? = some o → L[σ i]? = some o) (hi : ∀ i j, i ≠ j → i < M.length → j < M.length → σ i ≠ σ j) : Sp w0 M w := by
  obtain ⟨h0, f, h1, h2⟩ := s
  refine ⟨h0, fun i => f (σ i), fun i o hm => h1 _ _ (h i o hm), fun i j o o' hne hm hm' => h2 _ _ o o' ?_ (h i o hm) (h j o' hm')⟩
  exact hi i j hne (List.getElem?_eq_some_iff.1 hm).1 (List.getElem?_eq_some_iff.1 hm').1
theorem Sp.drop (s : Sp w0 L w) (n : Nat) : Sp w0 (L.drop n) w :=
  s.sel _ (fun i => n + i) (fun i o h => by rw [List.getElem?_drop] at h; exact h) (fun i j hne _ _ => by omega)
theorem Sp.pop (s : Sp w0 (o :: L) w) : Sp w0 L w := s.drop 1
theorem Sp.era (s : Sp w0 L w) (n : Nat) : Sp w0 (L.eraseIdx n) w :=
  s.sel _ (fun i => if i < n then i else i + 1) (fun i o h => by
    rw [List.getElem?_eraseIdx] at h
    split at h
    · rename_i h'; rw [if_pos h']; exact h
    · rename_i h'; rw [if_neg h']; exact h) (fun i j hne _ _ => by split <;> split <;> omega)
theorem Sp.pull (s : Sp w0 L w) (n : Nat) (h : L[n]? = some o) : Sp w0 (o :: L.eraseIdx n) w := by
  refine s.sel _ (fun i => match i with | 0 => n | i + 1 => if i < n then i else i + 1) (fun i o' h' => ?_) (fun i j hne _ _ => ?_)
  · cases i with
    | zero => simp only [List.getElem?_cons_zero, Option.some.injEq] at h'; subst h'; exact h
    | succ i =>
      simp only [List.getElem?_cons_succ] at h'
      rw [List.getElem?_eraseIdx] at h'
      dsimp only
      split at h'
      · rename_i e; rw [if_pos e]; exact h'
      · rename_i e; rw [if_neg e]; exact h'
  · cases i with
    | zero =>
      cases j with
      | zero => exact absurd rfl hne
      | succ j => dsimp only; split <;> omega
    | succ i =>
      cases j with
      | zero => dsimp only; split <;> omega
      | succ j => dsimp only; split <;> split <;> omega
/-- what is only read may stand there twice -/
theorem Sp.dup (s : Sp w0 L w) (n : Nat) (h : L[n]? = some o) (hro : o.ro = true) : Sp w0 (o :: L) w := by
  obtain ⟨h0, f, h1, h2⟩ := s
  refine ⟨h0, fun i => match i with | 0 => f n | i + 1 => f i, fun i o' h' => ?_, fun i j o1 o2 hne hi hj => ?_⟩
  · cases i with
    | zero => simp only [List.getElem?_cons_zero, Option.some.injEq] at h'; subst h'; exact h1 n o h
    | succ i => exact h1 i o' (by simpa using h')
  · cases i with
    | zero =>
      simp only [List.getElem?_cons_zero, Option.some.injEq] at hi
      subst hi
      cases j with
      | zero => exact absurd rfl hne
      | succ j =>
        simp only [List.getElem?_cons_succ] at hj
        by_cases e : n = j
        · subst e
          rw [h] at hj
          have := Option.some.inj hj
          subst this
          exact Or.inl ⟨hro, hro⟩
        · exact h2 n j o o2 e h hj
    | succ i =>
      simp only [List.getElem?_cons_succ] at hi
      cases j with
      | zero =>
        simp only [List.getElem?_cons_zero, Option.some.injEq] at hj
        subst hj
        by_cases e : i = n
        · subst e
          rw [h] at hi
          have := Option.some.inj hi
          subst this
          exact Or.inl ⟨hro, hro⟩
        · exact h2 i n o1 o e hi h
      | succ j =>
        simp only [List.getElem?_cons_succ] at hj
        exact h2 i j o1 o2 (by omega) hi hj
/-- an object, seen as another one -/
theorem Sp.weak (s : Sp w0 L w) (n : Nat) (h : L[n]? = some o) (o' : Ob) (hw : ∀ B, o.P B w → (∀ b, B b → b < w.heap.size) → ∃ B', o'.P B' w ∧ ∀ b, B' b → B b) (hro : o.ro = true → o'.ro = true) : Sp w0 (L.set n o') w := by
  obtain ⟨h0, f, h1, h2⟩ := s
  obtain ⟨hP, hB⟩ := h1 n o h
  obtain ⟨B', hP', hs⟩ := hw _ hP fun b hb => (hB b hb).2
  have hn : n < L.length := (List.getElem?_eq_some_iff.1 h).1
  refine ⟨h0, fun j => if j = n then B' else f j, fun j o1 hj => ?_, fun j k o1 o2 hne hj hk => ?_⟩
  · rw [List.getElem?_set] at hj
    by_cases e : n = j
    · subst e
      simp only [if_true, hn, Option.some.injEq] at hj
      subst hj
      simp only [if_true]
      exact ⟨hP', fun b hb => hB b (hs b hb)⟩
    · rw [if_neg e] at hj
      have e' : ¬ j = n := fun h => e h.symm
      simp only [if_neg e']
      exact h1 j o1 hj
  · rw [List.getElem?_set] at hj hk
    by_cases ej : n = j
    · subst ej
      simp only [if_true, hn, Option.some.injEq] at hj
      subst hj
      have ek : ¬ n = k := hne
      rw [if_neg ek] at hk
      have ek' : ¬ k = n := fun h => ek h.symm
      simp only [if_true, if_neg ek']
      rcases h2 n k o o2 ek h hk with ⟨a, b⟩ | a
      · exact Or.inl ⟨hro a, b⟩
      · exact Or.inr fun b hb => a b (hs b hb)
    · rw [if_neg ej] at hj
      have ej' : ¬ j = n := fun h => ej h.symm
      by_cases ek : n = k
      · subst ek
        simp only [if_true, hn, Option.some.injEq] at hk
        subst hk
        simp only [if_true, if_neg ej']
        rcases h2 j n o1 o ej' hj h with ⟨a, b⟩ | a
        · exact Or.inl ⟨a, hro b⟩
        · exact Or.inr fun b hb hb' => a b hb (hs b hb')
      · rw [if_neg ek] at hk
        have ek' : ¬ k = n := fun h => ek h.symm
        simp only [if_neg ej', if_neg ek']
        exact h2 j k o1 o2 hne hj hk
/-- the first k objects, seen as one -/
theorem Sp.fold (s : Sp w0 L w) (k : Nat) (o : Ob) (hro : o.ro = true ∨ ∀ i o', i < k → L[i]? = some o' → o'.ro = false)
    (hw : ∀ f : Nat → Nat → Prop, (∀ i o', i < k → L[i]? = some o' → o'.P (f i) w ∧ ∀ b, f i b → b < w.heap.size) → (∀ i j o1 o2, i ≠ j → i < k → j < k → L[i]? = some o1 → L[j]? = some o2 → (o1.ro = true ∧ o2.ro = true) ∨ ∀ b, f i b → ¬ f j b) →
      o.P (fun b => ∃ i, i < k ∧ i < L.length ∧ f i b) w) : Sp w0 (o :: L.drop k) w := by
  obtain ⟨h0, f, g1, g2⟩ := s
  have hP := hw f (fun i o' _ hi => ⟨(g1 i o' hi).1, fun b hb => ((g1 i o' hi).2 b hb).2⟩) (fun i j o1 o2 hne _ _ hi hj => g2 i j o1 o2 hne hi hj)
  have key : ∀ j o', k ≤ j → L[j]? = some o' → (o.ro = true ∧ o'.ro = true) ∨ ∀ b, (∃ i, i < k ∧ i < L.length ∧ f i b) → ¬ f j b := fun j o' hkj hj => by
    cases hr : o'.ro with
    | true =>
      rcases hro with h | h
      · exact Or.inl ⟨h, rfl⟩
      · right
        rintro b ⟨i, hik, hil, hb⟩
        have hi : L[i]? = some L[i] := List.getElem?_eq_getElem hil
        rcases g2 i j _ o' (by omega) hi hj with ⟨a, _⟩ | a
        · rw [h i _ hik hi] at a; cases a
        · exact a b hb
    | false =>
      right
      rintro b ⟨i, hik, hil, hb⟩
      have hi : L[i]? = some L[i] := List.getElem?_eq_getElem hil
      rcases g2 i j _ o' (by omega) hi hj with ⟨_, a⟩ | a
      · rw [hr] at a; cases a
      · exact a b hb
  refine ⟨h0, fun i => match i with | 0 => fun b => ∃ i, i < k ∧ i < L.length ∧ f i b | i + 1 => f (k + i), fun i o' h' => ?_, fun i j o1 o2 hne hi hj => ?_⟩
  · cases i with
    | zero =>
      simp only [List.getElem?_cons_zero, Option.some.injEq] at h'
      subst h'
      refine ⟨hP, ?_⟩
      rintro b ⟨i, hik, hil, hb⟩
      exact (g1 i _ (List.getElem?_eq_getElem hil)).2 b hb
    | succ i => exact g1 (k + i) o' (by simpa [List.getElem?_drop] using h')
  · cases i with
    | zero =>
      simp only [List.getElem?_cons_zero, Option.some.injEq] at hi
      subst hi
      cases j with
      | zero => exact absurd rfl hne
      | succ j => exact key (k + j) o2 (by omega) (by simpa [List.getElem?_drop] using hj)
    | succ i =>
      cases j with
      | zero =>
        simp only [List.getElem?_cons_zero, Option.some.injEq] at hj
        subst hj
        rcases key (k + i) o1 (by omega) (by simpa [List.getElem?_drop] using hi) with ⟨a, b⟩ | a
        · exact Or.inl ⟨b, a⟩
        · exact Or.inr fun b hb hb' => a b hb' hb
      | succ j => exact g2 (k + i) (k + j) o1 o2 (by omega) (by simpa [List.getElem?_drop] using hi) (by simpa [List.getElem?_drop] using hj)
def noOb : Ob := ⟨true, fun _ _ => True, fun _ _ _ => trivial⟩
/-- the objects of the numbers σ, and those from k on -/
theorem Sp.pick (s : Sp w0 L w) (σ : List Nat) (k : Nat) (h : (σ.all fun i => (L[i]?).isSome && decide (i < k)) = true) (hn : σ.Nodup) : Sp w0 (σ.map (fun i => (L[i]?).getD noOb) ++ L.drop k) w := by
  rw [List.all_eq_true] at h
  have hσ : ∀ i (hi : i < σ.length), (L[σ[i]]?).isSome = true ∧ σ[i] < k := fun i hi => by
    have := h _ (List.getElem_mem hi)
    simpa using this
  refine s.sel _ (fun i => if hi : i < σ.length then σ[i] else k + (i - σ.length)) (fun i o ho => ?_) (fun i j hne _ _ => ?_)
  · rw [List.getElem?_append] at ho
    split at ho
    · rename_i hi
      simp only [List.length_map] at hi
      rw [dif_pos hi]
      rw [List.getElem?_map, List.getElem?_eq_getElem hi, Option.map_some] at ho
      have := (hσ i hi).1
      cases hx : L[σ[i]]? with
      | none => rw [hx] at this; cases this
      | some x => rw [hx] at ho; simpa using ho
    · rename_i hi
      simp only [List.length_map] at hi ho
      rw [dif_neg hi]
      rw [List.getElem?_drop] at ho
      exact ho
  · by_cases hi : i < σ.length
    · by_cases hj : j < σ.length
      · rw [dif_pos hi, dif_pos hj]
        exact fun e => hne ((List.getElem_inj hn).1 e)
      · rw [dif_pos hi, dif_neg hj]
        have := (hσ i hi).2
        omega
    · by_cases hj : j < σ.length
      · rw [dif_neg hi, dif_pos hj]
        have := (hσ j hj).2
        omega
      · rw [dif_neg hi, dif_neg hj]
        omega
/-- one object, seen as two -/
theorem Sp.part {o1 o2 : Ob} (s : Sp w0 (o :: L) w) (h1 : o.ro = true → o1.ro = true ∧ o2.ro = true)
    (hw : ∀ B, o.P B w → (∀ b, B b → b < w.heap.size) → ∃ B1 B2, o1.P B1 w ∧ o2.P B2 w ∧ (∀ b, B1 b → B b) ∧ (∀ b, B2 b → B b) ∧ ((o1.ro = true ∧ o2.ro = true) ∨ ∀ b, B1 b → ¬ B2 b)) : Sp w0 (o1 :: o2 :: L) w := by
  obtain ⟨h0, f, g1, g2⟩ := s
  obtain ⟨p, b⟩ := g1 0 o rfl
  obtain ⟨B1, B2, q1, q2, s1, s2, hd⟩ := hw _ p fun x hx => (b x hx).2
  have key : ∀ j o', L[j]? = some o' → ((o1.ro = true ∧ o'.ro = true) ∨ ∀ b, B1 b → ¬ f (j + 1) b) ∧ ((o2.ro = true ∧ o'.ro = true) ∨ ∀ b, B2 b → ¬ f (j + 1) b) := fun j o' hj => by
    rcases g2 0 (j + 1) o o' (by omega) rfl (by simpa using hj) with ⟨a, c⟩ | a
    · exact ⟨Or.inl ⟨(h1 a).1, c⟩, Or.inl ⟨(h1 a).2, c⟩⟩
    · exact ⟨Or.inr fun x hx => a x (s1 x hx), Or.inr fun x hx => a x (s2 x hx)⟩
  have sym : ∀ {X Y : Nat → Prop} {p q : Prop}, (p ∧ q ∨ ∀ b, X b → ¬ Y b) → (q ∧ p ∨ ∀ b, Y b → ¬ X b) := fun h => by
    rcases h with ⟨a, b⟩ | h
    · exact Or.inl ⟨b, a⟩
    · exact Or.inr fun b hb hb' => h b hb' hb
  refine ⟨h0, fun i => match i with | 0 => B1 | 1 => B2 | i + 2 => f (i + 1), fun i o' h' => ?_, fun i j a b hne hi hj => ?_⟩
  · match i, h' with
    | 0, h' =>
      simp only [List.getElem?_cons_zero, Option.some.injEq] at h'
      subst h'
      exact ⟨q1, fun x hx => b x (s1 x hx)⟩
    | 1, h' =>
      simp only [List.getElem?_cons_succ, List.getElem?_cons_zero, Option.some.injEq] at h'
      subst h'
      exact ⟨q2, fun x hx => b x (s2 x hx)⟩
    | i + 2, h' => exact g1 (i + 1) o' (by simpa using h')
  · match i, j, hi, hj, hne with
    | 0, 0, _, _, hne => exact absurd rfl hne
    | 1, 1, _, _, hne => exact absurd rfl hne
    | 0, 1, hi, hj, _ =>
      simp only [List.getElem?_cons_succ, List.getElem?_cons_zero, Option.some.injEq] at hi hj
      subst hi hj
      exact hd
    | 1, 0, hi, hj, _ =>
      simp only [List.getElem?_cons_succ, List.getElem?_cons_zero, Option.some.injEq] at hi hj
      subst hi hj
      exact sym hd
    | 0, j + 2, hi, hj, _ =>
      simp only [List.getElem?_cons_zero, Option.some.injEq] at hi
      subst hi
      exact (key j b (by simpa using hj)).1
    | 1, j + 2, hi, hj, _ =>
      simp only [List.getElem?_cons_succ, List.getElem?_cons_zero, Option.some.injEq] at hi
      subst hi
      exact (key j b (by simpa using hj)).2
    | i + 2, 0, hi, hj, _ =>
      simp only [List.getElem?_cons_zero, Option.some.injEq] at hj
      subst hj
      exact sym (key i a (by simpa using hi)).1
    | i + 2, 1, hi, hj, _ =>
      simp only [List.getElem?_cons_succ, List.getElem?_cons_zero, Option.some.injEq] at hj
      subst hj
      exact sym (key i a (by simpa using hi)).2
    | i + 2, j + 2, hi, hj, hne => exact g2 (i + 1) (j + 1) a b (by omega) (by simpa using hi) (by simpa using hj)

theorem setGet {i : Nat} {x y : Ob} (h : L[i]? = some x) : (L.set i y)[i]? = some y := by
  rw [List.getElem?_set, if_pos rfl, if_pos (List.getElem?_eq_some_iff.1 h).1]
theorem setNe {i j : Nat} {x y : Ob} (h : L[j]? = some x) (hne : i ≠ j) : (L.set i y)[j]? = some x := by
  rw [List.getElem?_set, if_neg hne]; exact h
theorem setSame {i : Nat} {x : Ob} (h : L[i]? = some x) : L.set i x = L := by
  apply List.ext_getElem?
  intro k
  rw [List.getElem?_set]
  split
  · rename_i e; subst e
    rw [if_pos (List.getElem?_eq_some_iff.1 h).1, h]
  · rfl

/-! ### Cells -/
/-- a block of cells -/
def cel (b : Nat) (cs : List Value) : Ob := ⟨false, fun B w => B b ∧ ∃ t, w.heap[b]? = some (.cells cs.toArray t (0, 0)), fun {B F w w'} h f hB => by
  obtain ⟨h1, t, ht⟩ := h
  exact ⟨h1, t, by rw [f.same b (Array.getElem?_eq_some_iff.1 ht).1 (hB b h1)]; exact ht⟩⟩
theorem Sp.at_ {b : Nat} {cs : List Value} (s : Sp w0 L w) (i : Nat) (h : L[i]? = some (cel b cs)) : At w ⟨b, 0, none⟩ cs := by
  obtain ⟨B, ⟨_, t, ht⟩, _⟩ := s.get i h
  exact at_block ht
theorem Sp.still {b : Nat} {cs ds : List Value} (s : Sp w0 L w) (i off : Nat) (hm : L[i]? = some (cel b cs)) (e : (cs.drop off).take ds.length = ds) : At w (Addr.add ⟨b, 0, none⟩ off) ds := (s.at_ i hm).sub off e
theorem Sp.allocK {cs : List Value} {t : TypeId} {K : Addr → World → Prop} (s : Sp w0 L w) (hK : ∀ b w', Sp w0 (cel b cs :: L) w' → K ⟨b, 0, none⟩ w') : allocK (.cells cs.toArray t) w K := by
  refine allocK_mk (hK _ _ (s.push (B := fun b => b = w.heap.size) (alloc_ext w _) ⟨rfl, t, alloc_new w _⟩ ?_))
  rintro b rfl
  exact ⟨Nat.le_refl _, by simp⟩
theorem Sp.drawK {K : World → Prop} (s : Sp w0 L w) (hK : ∀ w', Sp w0 L w' → K w') : drawK w K := hK _ (s.toExt Fr.drew)
theorem Sp.ld {ty : Ty} {K : ty.T → Prop} {x : ty.T} {b : Nat} {cs : List Value} (s : Sp w0 L w) (i off : Nat) (hm : L[i]? = some (cel b cs)) (e : (cs.drop off).take (cells ty x).length = cells ty x) (hK : K x) :
    ∃ x, At w (Addr.add ⟨b, 0, none⟩ off) (cells ty x) ∧ K x := ⟨x, (s.at_ i hm).sub off e, hK⟩
theorem Sp.ld0 {ty : Ty} {K : ty.T → Prop} {x : ty.T} {b : Nat} {cs : List Value} (s : Sp w0 L w) (i : Nat) (hm : L[i]? = some (cel b cs)) (e : cs = cells ty x) (hK : K x) :
    ∃ x, At w ⟨b, 0, none⟩ (cells ty x) ∧ K x := ⟨x, e ▸ s.at_ i hm, hK⟩
theorem Sp.ldi {k : IntKind} {K : Int → Prop} {x : Int} {b : Nat} {cs : List Value} (s : Sp w0 L w) (i off : Nat) (hm : L[i]? = some (cel b cs)) (e : (cs.drop off).take 1 = [.int k x]) (hK : K x) :
    ∃ x : Int, At w (Addr.add ⟨b, 0, none⟩ off) (cells (.int k) x) ∧ K x := s.ld (ty := .int k) i off hm e hK
theorem Sp.ldb {K : Bool → Prop} {x : Bool} {b : Nat} {cs : List Value} (s : Sp w0 L w) (i off : Nat) (hm : L[i]? = some (cel b cs)) (e : (cs.drop off).take 1 = [.bool x]) (hK : K x) :
    ∃ x : Bool, At w (Addr.add ⟨b, 0, none⟩ off) (cells .bool x) ∧ K x := s.ld (ty := .bool) i off hm e hK
theorem Sp.lds {K : Sl → Prop} {x : Sl} {b : Nat} {cs : List Value} (s : Sp w0 L w) (i off : Nat) (hm : L[i]? = some (cel b cs)) (e : (cs.drop off).take 1 = [.slice x.a x.len x.cap]) (hK : K x) :
    ∃ x : Sl, At w (Addr.add ⟨b, 0, none⟩ off) (cells .slice x) ∧ K x := s.ld (ty := .slice) i off hm e hK
theorem Sp.ldp {K : Option Addr → Prop} {x : Option Addr} {b : Nat} {cs : List Value} (s : Sp w0 L w) (i off : Nat) (hm : L[i]? = some (cel b cs)) (e : (cs.drop off).take 1 = [.pointer x]) (hK : K x) :
    ∃ x : Option Addr, At w (Addr.add ⟨b, 0, none⟩ off) (cells .ptr x) ∧ K x := s.ld (ty := .ptr) i off hm e hK
theorem Sp.ldm {K : Option Nat → Prop} {x : Option Nat} {b : Nat} {cs : List Value} (s : Sp w0 L w) (i off : Nat) (hm : L[i]? = some (cel b cs)) (e : (cs.drop off).take 1 = [.map x]) (hK : K x) :
    ∃ x : Option Nat, At w (Addr.add ⟨b, 0, none⟩ off) (cells .map x) ∧ K x := s.ld (ty := .map) i off hm e hK
theorem Sp.ldi0 {k : IntKind} {K : Int → Prop} {x : Int} {b : Nat} {cs : List Value} (s : Sp w0 L w) (i : Nat) (hm : L[i]? = some (cel b cs)) (e : cs = [.int k x]) (hK : K x) :
    ∃ x : Int, At w ⟨b, 0, none⟩ (cells (.int k) x) ∧ K x := s.ld0 (ty := .int k) i hm e hK
theorem Sp.ldb0 {K : Bool → Prop} {x : Bool} {b : Nat} {cs : List Value} (s : Sp w0 L w) (i : Nat) (hm : L[i]? = some (cel b cs)) (e : cs = [.bool x]) (hK : K x) :
    ∃ x : Bool, At w ⟨b, 0, none⟩ (cells .bool x) ∧ K x := s.ld0 (ty := .bool) i hm e hK
theorem Sp.lds0 {K : Sl → Prop} {x : Sl} {b : Nat} {cs : List Value} (s : Sp w0 L w) (i : Nat) (hm : L[i]? = some (cel b cs)) (e : cs = [.slice x.a x.len x.cap]) (hK : K x) :
    ∃ x : Sl, At w ⟨b, 0, none⟩ (cells .slice x) ∧ K x := s.ld0 (ty := .slice) i hm e hK
theorem Sp.ldp0 {K : Option Addr → Prop} {x : Option Addr} {b : Nat} {cs : List Value} (s : Sp w0 L w) (i : Nat) (hm : L[i]? = some (cel b cs)) (e : cs = [.pointer x]) (hK : K x) :
    ∃ x : Option Addr, At w ⟨b, 0, none⟩ (cells .ptr x) ∧ K x := s.ld0 (ty := .ptr) i hm e hK
theorem Sp.ldm0 {K : Option Nat → Prop} {x : Option Nat} {b : Nat} {cs : List Value} (s : Sp w0 L w) (i : Nat) (hm : L[i]? = some (cel b cs)) (e : cs = [.map x]) (hK : K x) :
    ∃ x : Option Nat, At w ⟨b, 0, none⟩ (cells .map x) ∧ K x := s.ld0 (ty := .map) i hm e hK
theorem Sp.ldv0 {K : Value → Prop} {x : Value} {b : Nat} {cs : List Value} (s : Sp w0 L w) (i : Nat) (hm : L[i]? = some (cel b cs)) (e : cs = [x]) (hK : K x) :
    ∃ x : Value, At w ⟨b, 0, none⟩ (cells .iface x) ∧ K x := s.ld0 (ty := .iface) i hm e hK
theorem Sp.st {K : World → Prop} {b : Nat} {cs ds : List Value} (s : Sp w0 L w) (i off : Nat) (hm : L[i]? = some (cel b cs)) (hl : Nat.ble (off + ds.length) cs.length = true) (ho : ds.all one = true)
    (hK : ∀ w', Sp w0 (L.set i (cel b (splice cs off ds))) w' → K w') : stK w (Addr.add ⟨b, 0, none⟩ off) ds K := by
  replace hl := Nat.le_of_ble_eq_true hl
  obtain ⟨B, ⟨hb, t, ht⟩, hlt, back⟩ := s.open i hm rfl
  have hf := setCells_fr w (Addr.add ⟨b, 0, none⟩ off) 0 ds
  rw [add_block] at hf
  refine ⟨(wr_block ht).sub off ds.length hl, ho, hK _ (back _ B _ ⟨hb, t, ?_⟩ (hf.mono fun x _ e => e ▸ hb) (fun _ h => Or.inl h) fun b hb => by rw [setCells_size]; exact (hlt b hb).2)⟩
  have := setCells_heap b t ds cs off 0 w ht (by omega)
  rwa [Nat.add_zero] at this
theorem Sp.st0 {K : World → Prop} {b : Nat} {cs ds : List Value} (s : Sp w0 L w) (i : Nat) (hm : L[i]? = some (cel b cs)) (hl : ds.length = cs.length) (ho : ds.all one = true)
    (hK : ∀ w', Sp w0 (L.set i (cel b ds)) w' → K w') : stK w ⟨b, 0, none⟩ ds K := by
  have := s.st (K := K) i 0 hm (by rw [Nat.ble_eq]; omega) ho (by
    have e : splice cs 0 ds = ds := by simp [splice, hl]
    rw [e]; exact hK)
  exact this

/-! ### Slices -/
variable {ty : Ty} {sl t : Sl} {xs ys : List ty.T}
def own (ty : Ty) (sl : Sl) (xs : List ty.T) : Ob := ⟨false, fun B w => Own ty w sl xs ∧ ∀ b, blk sl b → B b, fun h f hB => ⟨h.1.fr f fun b hb => hB b (h.2 b hb), h.2⟩⟩
def vw (ty : Ty) (sl : Sl) (xs : List ty.T) : Ob := ⟨true, fun B w => View ty w sl xs ∧ ∀ b, blk sl b → B b, fun h f hB => ⟨h.1.fr f fun b hb => hB b (h.2 b hb), h.2⟩⟩
theorem Sp.own_ (s : Sp w0 L w) (i : Nat) (h : L[i]? = some (own ty sl xs)) : Own ty w sl xs := by
  obtain ⟨B, h, _⟩ := s.get i h
  exact h.1
theorem Sp.view (s : Sp w0 L w) (i : Nat) (h : L[i]? = some (own ty sl xs)) : View ty w sl xs := (s.own_ i h).view
theorem Sp.vw_ (s : Sp w0 L w) (i : Nat) (h : L[i]? = some (vw ty sl xs)) : View ty w sl xs := by
  obtain ⟨B, h, _⟩ := s.get i h
  exact h.1
theorem Sp.freeze (s : Sp w0 L w) (i : Nat) (h : L[i]? = some (own ty sl xs)) : Sp w0 (L.set i (vw ty sl xs)) w :=
  s.weak i h _ (fun B hP _ => ⟨B, ⟨hP.1.view, hP.2⟩, fun _ h => h⟩) (fun _ => rfl)
theorem Sp.nil (s : Sp w0 L w) (ty : Ty) : Sp w0 (own ty ⟨none, 0, 0⟩ [] :: L) w :=
  s.push (B := fun _ => False) (.refl _ _) ⟨.none, fun b ⟨_, h, _⟩ => (by cases h)⟩ (fun _ h => h.elim)
/-- a block of cells as a slice -/
theorem Sp.lit {b : Nat} {cs : List Value} (s : Sp w0 L w) (i : Nat) (h : L[i]? = some (cel b cs)) (xs : List ty.T) (n : Nat) (hx : cs = flat ty xs) (hn : n = xs.length) : Sp w0 (L.set i (own ty ⟨some ⟨b, 0, none⟩, n, n⟩ xs)) w := by
  refine s.weak i h _ (fun B hP hlt => ⟨B, ⟨⟨⟨hn, fun q hq => ?_, fun _ => ⟨_, rfl⟩⟩, Nat.le_refl _, fun q hq => ?_, fun h => (by cases h), fun b' ⟨q, h1, h2⟩ => ?_, fun q h => by cases h; rfl⟩, fun b' ⟨q, h1, h2⟩ => ?_⟩, fun _ h => h⟩) (fun h => h)
  · obtain ⟨_, t, ht⟩ := hP
    cases hq
    rw [← hx]; exact at_block ht
  · obtain ⟨_, t, ht⟩ := hP
    cases hq
    have := wr_block ht
    rw [hx, flat_len, ← hn] at this
    exact this
  · cases h1
    exact hlt _ (h2 ▸ hP.1)
  · cases h1
    exact h2 ▸ hP.1
/-- a block of cells with room as a slice -/
theorem Sp.room {b : Nat} {cs : List Value} (s : Sp w0 L w) (i : Nat) (h : L[i]? = some (cel b cs)) (xs : List ty.T) (n c : Nat) (hx : flat ty xs = cs.take (n * ty.size)) (hn : n = xs.length) (hc : n ≤ c) (hl : cs.length = c * ty.size) : Sp w0 (L.set i (own ty ⟨some ⟨b, 0, none⟩, n, c⟩ xs)) w := by
  refine s.weak i h _ (fun B hP hlt => ⟨B, ⟨⟨⟨hn, fun q hq => ?_, fun _ => ⟨_, rfl⟩⟩, hc, fun q hq => ?_, fun h => (by cases h), fun b' ⟨q, h1, h2⟩ => ?_, fun q h => by cases h; rfl⟩, fun b' ⟨q, h1, h2⟩ => ?_⟩, fun _ h => h⟩) (fun h => h)
  · obtain ⟨_, t, ht⟩ := hP
    cases hq
    have := at_block ht
    rw [← List.take_append_drop (n * ty.size) cs, ← hx] at this
    exact this.left
  · obtain ⟨_, t, ht⟩ := hP
    cases hq
    have := wr_block ht
    rw [hl] at this
    exact this
  · cases h1
    exact hlt _ (h2 ▸ hP.1)
  · cases h1
    exact h2 ▸ hP.1
theorem all_one_flat (h : ∀ x : ty.T, (cells ty x).all one = true) (xs : List ty.T) : (flat ty xs).all one = true := by
  induction xs with
  | nil => rfl
  | cons x xs ih => simp only [flat, List.flatMap_cons, List.all_append, Bool.and_eq_true]; exact ⟨h x, ih⟩
/-- no cell of the type may hold an aggregate -/
def oneT : Ty → Bool
  | .iface => false
  | .func => false
  | .pair a b => oneT a && oneT b
  | .st t => oneT t
  | .tup t => oneT t
  | _ => true
theorem all_oneT : ∀ (t : Ty), oneT t = true → ∀ x : t.T, (cells t x).all one = true
  | .int _, _, _ => rfl
  | .bool, _, _ => rfl
  | .str, _, _ => rfl
  | .ptr, _, _ => rfl
  | .addr, _, _ => rfl
  | .slice, _, _ => rfl
  | .map, _, _ => rfl
  | .iface, h, _ => by simp [oneT] at h
  | .func, h, _ => by simp [oneT] at h
  | .unit, _, _ => rfl
  | .pair a b, h, x => by
    simp only [oneT, Bool.and_eq_true] at h
    simp only [cells, List.all_append, Bool.and_eq_true]
    exact ⟨all_oneT a h.1 _, all_oneT b h.2 _⟩
  | .st t, h, x => by simp only [oneT] at h; exact all_oneT t h x
  | .tup t, h, x => by simp only [oneT] at h; exact all_oneT t h x
theorem Sp.app {E sz by_ : Nat} {zs : Array Value} {K : Sl → World → Prop} {a ta : Option Addr} {len cap tl tc : Nat} (s : Sp w0 L w) (i : Nat) (h : L[i]? = some (own ty sl xs)) (v : View ty w ⟨ta, tl, tc⟩ ys)
    (hc : (xs.length + ys.length) * by_ ≤ 140737488355328) (hK : ∀ s' w', Sp w0 (L.set i (own ty s' (xs ++ ys))) w' → K s' w')
    (ha : (⟨a, len, cap⟩ : Sl) = sl := by rfl) (hs : sz = ty.size := by rfl) (hz : zs.size = ty.size := by rfl) (ho : oneT ty = true := by rfl) (hb : by_ ≠ 0 := by decide) : appK E sz by_ zs a len cap (.slice ta tl tc) tl w K := by
  subst ha
  obtain ⟨B, ⟨o, hB⟩, hlt, back⟩ := s.open i h rfl
  refine o.app v tl v.len hs hz (all_one_flat (all_oneT ty ho) ys) hb hc fun s' w' o' hf hnew => hK s' w' (back _ (fun b => blk s' b) w' ⟨o', fun _ h => h⟩ (hf.mono fun b _ hb => hB b hb) (fun b hb => ?_) fun b hb => o'.lt b hb)
  rcases hnew b hb with h | h
  · exact Or.inl (hB b h)
  · exact Or.inr (by omega)
theorem splice_len {cs ds : List Value} {off : Nat} (h : off + ds.length ≤ cs.length) : (splice cs off ds).length = cs.length := by
  simp only [splice, List.length_append, List.length_take, List.length_drop]; omega
theorem flat_set : ∀ (xs : List ty.T) (n : Nat) (x y : ty.T), xs[n]? = some x → ∀ (off : Nat) (ds : List Value), off + ds.length ≤ ty.size → cells ty y = splice (cells ty x) off ds →
    flat ty (xs.set n y) = splice (flat ty xs) (n * ty.size + off) ds
  | [], _, _, _, h, _, _, _, _ => by simp at h
  | z :: zs, 0, x, y, h, off, ds, hl, e => by
    simp only [List.getElem?_cons_zero, Option.some.injEq] at h
    subst h
    have e1 : flat ty ((z :: zs).set 0 y) = cells ty y ++ flat ty zs := by simp [flat]
    have e2 : flat ty (z :: zs) = cells ty z ++ flat ty zs := by simp [flat]
    have hz : (cells ty z).length = ty.size := cells_len ty z
    rw [e1, e2, e]
    simp only [splice, Nat.zero_mul, Nat.zero_add]
    rw [List.take_append_of_le_length (by omega), List.drop_append_of_le_length (by omega)]
    simp
  | z :: zs, n + 1, x, y, h, off, ds, hl, e => by
    simp only [List.getElem?_cons_succ] at h
    have ih := flat_set zs n x y h off ds hl e
    have e1 : flat ty ((z :: zs).set (n + 1) y) = cells ty z ++ flat ty (zs.set n y) := by simp [flat]
    have e2 : flat ty (z :: zs) = cells ty z ++ flat ty zs := by simp [flat]
    have hz : (cells ty z).length = ty.size := cells_len ty z
    rw [e1, e2, ih]
    have e3 : (n + 1) * ty.size + off = (cells ty z).length + (n * ty.size + off) := by rw [hz, Nat.succ_mul]; omega
    rw [e3]
    simp only [splice]
    rw [List.take_length_add_append]
    rw [show (cells ty z).length + (n * ty.size + off) + ds.length = (cells ty z).length + (n * ty.size + off + ds.length) by omega, List.drop_length_add_append]
    simp
/-- to write a part of an element -/
theorem Sp.put {K : World → Prop} {n off : Nat} {q : Addr} {x y : ty.T} {ds : List Value} (s : Sp w0 L w) (i : Nat) (h : L[i]? = some (own ty sl xs)) (hq : sl.a = some q) (hx : xs[n]? = some x) (hl : off + ds.length ≤ ty.size) (ho : ds.all one = true) (e : cells ty y = splice (cells ty x) off ds)
    (hK : ∀ w', Sp w0 (L.set i (own ty sl (xs.set n y))) w' → K w') : stK w (q.add (n * ty.size + off)) ds K := by
  obtain ⟨B, ⟨o, hB⟩, hlt, back⟩ := s.open i h rfl
  have hn : n < xs.length := (List.getElem?_eq_some_iff.1 hx).1
  have hsl := o.view.len
  have hle : n * ty.size + off + ds.length ≤ xs.length * ty.size := by
    have : (n + 1) * ty.size ≤ xs.length * ty.size := Nat.mul_le_mul_right _ hn
    rw [Nat.succ_mul] at this; omega
  have hcap : xs.length * ty.size ≤ sl.cap * ty.size := Nat.mul_le_mul_right _ (by have := o.cap; omega)
  have hw : Wr w (q.add (n * ty.size + off)) ds.length := (o.wr q hq).sub _ _ (by omega)
  have hbk : blk sl q.block := ⟨q, hq, rfl⟩
  have hf := setCells_fr w (q.add (n * ty.size + off)) 0 ds
  rw [add_block] at hf
  refine ⟨hw, ho, hK _ (back _ B _ ⟨⟨⟨by rw [List.length_set]; exact o.view.len, fun q' hq' => ?_, fun _ => ⟨q, hq⟩⟩, o.cap, fun q' hq' => ?_, o.nil, fun b hb => by rw [setCells_size]; exact o.lt b hb, o.spot⟩, hB⟩ (hf.mono fun b _ hb => hb ▸ hB _ hbk) (fun _ h => Or.inl h) fun b hb => by rw [setCells_size]; exact (hlt b hb).2)⟩
  · rw [hq] at hq'; cases hq'
    rw [flat_set xs n x y hx off ds hl e]
    exact (o.view.mem q hq).splice hw (by rw [flat_len]; omega)
  · rw [hq] at hq'; cases hq'
    exact (o.wr q hq).set hw

/-- to write an element -/
theorem Sp.setI {K : World → Prop} {a : Option Addr} {len : Nat} {i' : Int} {sz : Nat} (s : Sp w0 L w) (i : Nat) (h : L[i]? = some (own ty sl xs)) {n : Nat} (hi : i' = (n : Int)) (hn : n < xs.length) {y : ty.T}
    (hK : ∀ w', Sp w0 (L.set i (own ty sl (xs.set n y))) w' → K w') (ha : a = sl.a := by rfl) (hl : len = sl.len := by rfl) (hs : sz = ty.size := by rfl) (ho : oneT ty = true := by rfl) : idxK a len i' sz (fun p => stK w p (cells ty y) K) := by
  subst ha hl hs hi
  have o := s.own_ i h
  have hsl := o.view.len
  obtain ⟨q, hq⟩ := o.view.ne (fun e => by rw [e] at hn; simp at hn)
  refine ⟨q, hq, by omega, by omega, ?_⟩
  have := s.put (off := 0) i h hq (List.getElem?_eq_getElem hn) (y := y) (ds := cells ty y) (by rw [cells_len]; omega) (all_oneT ty ho y) (by simp [splice, cells_len]) hK
  simpa using this
theorem flat_getElem? (xs : List ty.T) (q r : Nat) (x : ty.T) (hx : xs[q]? = some x) (hr : r < ty.size) : (flat ty xs)[q * ty.size + r]? = (cells ty x)[r]? := by
  have h := flat_get xs q x hx
  have h2 : ((flat ty xs).drop (q * ty.size) |>.take (cells ty x).length)[r]? = (cells ty x)[r]? := congrArg (fun l => l[r]?) h
  rw [List.getElem?_take_of_lt (by rw [cells_len]; exact hr), List.getElem?_drop] at h2
  exact h2
theorem zrow_flat (ty : Ty) (z : ty.T) (N : Nat) : zrow (cells ty z).toArray (N * ty.size) = (flat ty (List.replicate N z)).toArray := by
  unfold zrow
  congr 1
  apply List.ext_getElem?
  intro i
  by_cases hi : i < N * ty.size
  · have hpos : 0 < ty.size := Nat.pos_of_ne_zero fun e => by rw [e] at hi; simp at hi
    have hq : i / ty.size < N := Nat.div_lt_of_lt_mul (by rw [Nat.mul_comm]; exact hi)
    have hr : i % ty.size < ty.size := Nat.mod_lt _ hpos
    have e : i / ty.size * ty.size + i % ty.size = i := by rw [Nat.mul_comm]; exact Nat.div_add_mod _ _
    have := flat_getElem? (List.replicate N z) (i / ty.size) (i % ty.size) z (by simp [hq]) hr
    rw [e] at this
    rw [this, List.getElem?_map, List.getElem?_range hi]
    simp only [Option.map_some, List.size_toArray, cells_len]
    rw [List.getElem?_eq_getElem (by rw [cells_len]; exact hr)]
    simp [cells_len, hr]
  · rw [List.getElem?_eq_none (by simpa using hi), List.getElem?_eq_none (by rw [flat_len, List.length_replicate]; omega)]
/-- a new slice of zero values -/
theorem Sp.mkS {K : Addr → World → Prop} {t : TypeId} {zs : Array Value} (s : Sp w0 L w) (ty : Ty) (z : ty.T) (l N : Nat) (hl : l ≤ N) (hK : ∀ b w', Sp w0 (own ty ⟨some ⟨b, 0, none⟩, l, N⟩ (List.replicate l z) :: L) w' → K ⟨b, 0, none⟩ w')
    (hz : zs = (cells ty z).toArray := by rfl) {c : Nat} (hc : c = N * ty.size := by rfl) : Go.Den.allocK (.cells (zrow zs c) t) w K := by
  subst hz hc
  rw [zrow_flat]
  refine s.allocK fun b w' s => hK b w' (s.room 0 rfl (List.replicate l z) l N ?_ (by simp) hl (by rw [flat_len, List.length_replicate]))
  have e : List.replicate N z = List.replicate l z ++ List.replicate (N - l) z := by rw [List.replicate_append_replicate]; congr 1; omega
  rw [e, flat_append]
  have e2 : (flat ty (List.replicate l z)).length = l * ty.size := by rw [flat_len, List.length_replicate]
  rw [← e2, List.take_left]

/-! ### Maps -/
variable {kt vt : Ty}
def mp (kt vt : Ty) (r : Nat) (es : List (kt.T × vt.T)) : Ob := ⟨false, fun B w => MapIs kt vt w r es ∧ B r, fun h f hB => ⟨h.1.fr f (hB _ h.2), h.2⟩⟩
theorem Sp.mp_ {r : Nat} {es : List (kt.T × vt.T)} (s : Sp w0 L w) (i : Nat) (h : L[i]? = some (mp kt vt r es)) : MapIs kt vt w r es := by
  obtain ⟨B, h, _⟩ := s.get i h
  exact h.1
theorem Sp.allocMap {K : Addr → World → Prop} (s : Sp w0 L w) (kt vt : Ty) (hK : ∀ r w', Sp w0 (mp kt vt r [] :: L) w' → K ⟨r, 0, none⟩ w') : Go.Den.allocK (.map #[] 0) w K := by
  refine allocK_mk (hK _ _ (s.push (B := fun b => b = w.heap.size) (alloc_ext w _) ⟨⟨#[], 0, alloc_new w _, rfl⟩, rfl⟩ ?_))
  rintro b rfl
  exact ⟨Nat.le_refl _, by simp⟩
theorem Sp.upNew {P : Program} {d : Nat} {t k e : TypeId} {r : Nat} {es : List (kt.T × vt.T)} {K : World → Prop} (s : Sp w0 L w) (i : Nat) (h : L[i]? = some (mp kt vt r es)) (hd : d ≤ 10000) (hu : P.underlying t = some (.map k e)) (hk : eqOK P d k kt = true) (hb : kt ≠ .bool)
    (x : kt.T) (v : vt.T) (hn : lk es x = none) (hK : ∀ w', Sp w0 (L.set i (mp kt vt r (es ++ [(x, v)]))) w' → K w') : runU P (Instr.mapUpdate t (.map (some r)) (val kt x) (val vt v)) w K := by
  obtain ⟨B, ⟨m, hB⟩, hlt, back⟩ := s.open i h rfl
  exact up_run hd hu hk hb m x v hn fun w' hf m' => hK w' (back _ B w' ⟨m', hB⟩ (hf.mono fun b _ hb => hb ▸ hB) (fun _ h => Or.inl h) fun b hb => Nat.lt_of_lt_of_le (hlt b hb).2 hf.size)

/-! ### Loops over an index -/
theorem loop_by {X : Type} {x₀ : X} {body : (X → World → Prop) → X → World → Prop} (ix : X → Int) (N : Nat) (I : Nat → X → World → Prop) (h0 : ix x₀ = 0) (hI : I 0 x₀ w)
    (h : ∀ n x w, n ≤ N → ix x = (n : Int) → I n x w → body (fun x' w' => (∃ m : Nat, ix x' = (m : Int) ∧ m ≤ N ∧ I m x' w') ∧ ((N : Int) - ix x').toNat < ((N : Int) - ix x).toNat) x w) : LoopP x₀ w body :=
  ⟨fun x w => ∃ m : Nat, ix x = (m : Int) ∧ m ≤ N ∧ I m x w, fun x _ => ((N : Int) - ix x).toNat, ⟨0, h0, Nat.zero_le _, hI⟩, fun x w ⟨m, h1, h2, h3⟩ => h m x w h2 h1 h3⟩
theorem loop_nx {N n : Nat} {R : Nat → Prop} (hn : n < N) (h : R (n + 1)) : (∃ m : Nat, (n : Int) + 1 = (m : Int) ∧ m ≤ N ∧ R m) ∧ ((N : Int) - ((n : Int) + 1)).toNat < ((N : Int) - (n : Int)).toNat :=
  ⟨⟨n + 1, rfl, hn, h⟩, by omega⟩

theorem loop_from {X : Type} {x₀ : X} {body : (X → World → Prop) → X → World → Prop} (a : Int) (ix : X → Int) (N : Nat) (I : Nat → X → World → Prop) (h0 : ix x₀ = a) (hI : I 0 x₀ w)
    (h : ∀ n x w, n ≤ N → ix x = a + (n : Int) → I n x w → body (fun x' w' => (∃ m : Nat, ix x' = a + (m : Int) ∧ m ≤ N ∧ I m x' w') ∧ (a + (N : Int) - ix x').toNat < (a + (N : Int) - ix x).toNat) x w) : LoopP x₀ w body :=
  ⟨fun x w => ∃ m : Nat, ix x = a + (m : Int) ∧ m ≤ N ∧ I m x w, fun x _ => (a + (N : Int) - ix x).toNat, ⟨0, by rw [h0]; simp, Nat.zero_le _, hI⟩, fun x w ⟨m, h1, h2, h3⟩ => h m x w h2 h1 h3⟩
theorem loop_fx {a : Int} {N n : Nat} {R : Nat → Prop} (hn : n < N) (h : R (n + 1)) : (∃ m : Nat, a + (n : Int) + 1 = a + (m : Int) ∧ m ≤ N ∧ R m) ∧ (a + (N : Int) - (a + (n : Int) + 1)).toNat < (a + (N : Int) - (a + (n : Int))).toNat :=
  ⟨⟨n + 1, by simp; omega, hn, h⟩, by omega⟩

theorem Sp.fresh (s : Sp w0 L w) : Ext w0 w := s.ext
theorem JoinP.inl {X : Type} {A : (X → World → Prop) → Prop} {B : X → World → Prop} (h : A B) : JoinP A B := ⟨B, h, fun _ _ h => h⟩

end Go.Den

/- A part of a slice. Generic. -/
set_option linter.unusedVariables false
set_option linter.unusedSimpArgs false
namespace Go.Proofs.YtcmncfglcjcmhaaGreat
open Go.Den

variable {w0 w : World}

/-- a part of a slice -/
theorem View.part {ty : Ty} {s : Sl} {xs : List ty.T} {K : Sl → Prop} {sz l h : Nat} {lo hi : Option Int} (n : s.len = xs.length) (hl : (lo = none ∧ l = 0) ∨ lo = some (l : Int)) (hh : (hi = none ∧ h = xs.length) ∨ hi = some (h : Int)) (hlh : l ≤ h) (hn : h ≤ xs.length) (hc : s.len ≤ s.cap)
    (k : ∀ s', (∀ w', View ty w' s xs → View ty w' s' ((xs.take h).drop l)) → s'.len ≤ s'.cap → K s') (hs : sz = ty.size := by rfl) : slK sz s.a s.len s.cap lo hi K := by
  subst hs
  have core : ∀ L H : Nat, L = l → H = h → K ⟨(if s.cap = L then s.a else s.a.map (·.add (L * ty.size))), H - L, s.cap - L⟩ := by
    rintro L H rfl rfl
    refine k _ (fun w' v => ⟨?_, fun q hq => ?_, fun hne => ?_⟩) ?_
    · simp only [List.length_drop, List.length_take]; omega
    · dsimp only at hq
      split at hq
      · rename_i c
        have : (xs.take H).drop L = [] := by apply List.drop_of_length_le; simp only [List.length_take]; omega
        rw [this]
        intro j v hj
        simp [flat] at hj
      · cases ha : s.a with
        | none => rw [ha] at hq; cases hq
        | some a =>
          rw [ha] at hq
          simp only [Option.map_some, Option.some.injEq] at hq
          subst hq
          refine (v.mem a ha).sub _ ?_
          have e : flat ty xs = flat ty (xs.take L) ++ (flat ty ((xs.take H).drop L) ++ flat ty (xs.drop H)) := by
            rw [← flat_append, ← flat_append]
            congr 1
            have h1 : (xs.take H).take L ++ (xs.take H).drop L = xs.take H := List.take_append_drop _ _
            have h2 : (xs.take H).take L = xs.take L := by rw [List.take_take, Nat.min_eq_left hlh]
            rw [h2] at h1
            rw [← List.append_assoc, h1, List.take_append_drop]
          have hlen : (flat ty (xs.take L)).length = L * ty.size := by rw [flat_len, List.length_take, Nat.min_eq_left (by omega)]
          rw [e, ← hlen, List.drop_left, List.take_left]
    · have hne' : xs ≠ [] := fun e => by rw [e] at hne; simp at hne
      obtain ⟨q, hq⟩ := v.ne hne'
      dsimp only
      split
      · exact ⟨q, hq⟩
      · exact ⟨_, by rw [hq]; rfl⟩
    · dsimp only; omega
  rcases hl with ⟨rfl, rfl⟩ | rfl <;> rcases hh with ⟨rfl, rfl⟩ | rfl
  · exact ⟨fun x e => (by cases e), fun x e => (by cases e), core 0 s.len rfl n⟩
  · exact ⟨fun x e => (by cases e; omega), fun x e => (by cases e), core 0 h rfl rfl⟩
  · exact ⟨fun x e => (by cases e), fun x e => (by cases e; dsimp only; omega), core l s.len rfl n⟩
  · exact ⟨fun x e => (by cases e; omega), fun x e => (by cases e; dsimp only; omega), core l h rfl rfl⟩

end Go.Proofs.YtcmncfglcjcmhaaGreat

/- From a function's contract to a statement of the form 'true, and the input reads as it did'. Generic: no statement, no project text. -/
set_option linter.unusedVariables false
set_option linter.unusedSimpArgs false
namespace Go.Den
open Go.ChangeShapes Go.WideShapes Go.ChangeAt Go.RowKit

theorem Fr.below {W W' : World} (e : Ext W W') : Below W.heap.size W W' := ⟨e.pub.1, e.pub.2.1, e.pub.2.2, e.size, fun k hk => e.same k hk fun h => h⟩

def rowedB (P : Program) (ts : List TypeId) : Bool := ts.all fun t => P.readableRec t && decide (t < P.types.size)

theorem trodAll_below {H : Type} {enc : TypeId × Value → H} {P : Program} (hl : laidOutB P = true) {W W' : World} (hb : Below W.heap.size W W') :
    ∀ {ts : List TypeId} {vs : List Value} {ds : List (DataW H)} {ps : List MemPlace}, rowedB P ts = true → DataW.TrodAll enc P W 0 (fun _ => true) true ts vs ds ps → (∀ x ∈ ps, x.block < W.heap.size) →
      DataW.TrodAll enc P W' 0 (fun b => decide (b < W.heap.size)) true ts vs ds ps
  | [], [], [], _, _, h, _ => h
  | [], [], _ :: _, _, _, h, _ => h.elim
  | [], _ :: _, _, _, _, h, _ => h.elim
  | _ :: _, [], _, _, _, h, _ => h.elim
  | _ :: _, _ :: _, [], _, _, h, _ => h.elim
  | t :: ts, v :: vs, d :: ds, ps, ht, h, hlt => by
    obtain ⟨p, q, h1, h2, rfl⟩ := h
    simp only [rowedB, List.all_cons, Bool.and_eq_true, decide_eq_true_eq] at ht
    exact ⟨p, q, Below.trod hl ht.1.1 ht.1.2 h1 hb (fun x hx => hlt x (by simp [hx])), trodAll_below hl hb ht.2 h2 (fun x hx => hlt x (by simp [hx])), rfl⟩

theorem post_true {H : Type} {enc : TypeId × Value → H} {P : Program} (hl : laidOutB P = true) {f : Func} {s : ChangeSpec} {apart fresh handsOn : Bool} {tb : TypeId} (hts : rowedB P f.params.toList = true) (hr : f.resultTypes = #[tb]) (hb : P.underlying tb = some .bool)
    (hv : s.vars = []) {W W' : World} {args : Array Value} {ds gs : List (DataW H)} {before : List MemPlace} (hfn : s.fn H ds = { results := [.lit (.bool true)], args := ds })
    (hW : DataW.Whole enc P f.params.toList s.vars apart W args.toList ds gs before) (e : Ext W W') : s.post enc P f apart fresh handsOn false W args (.bool true) W' := by
  have hlt := hW.lt
  have hW' := hW
  obtain ⟨p, q, hA, hV, rfl, hfz, hnd⟩ := hW
  rw [hv] at hV
  obtain ⟨rfl, rfl⟩ := trodVars_none hV
  refine ⟨ds, [], p ++ [], [], p, [], hW', ?_, ?_, ?_, e.below.frame _, fun h => (by cases h)⟩
  · rw [List.append_nil, hfn, hr]
    exact trodAll_cons_mk (shut_bool hb _) trodAll_mk0
  · rw [List.append_nil, hfn]
    exact trodAll_below hl e.below hts hA (fun x hx => hlt x (by simp [hx]))
  · rw [List.append_nil, hfn, hv]
    rfl

theorem sliceArg {P : Program} {w : World} {r : Reach} {base : Nat} {t : TypeId} {v : Value} (h : (sliceElem P t).isSome = true) (hw : Value.okWide P w r base t v) : ∃ s : Sl, v = .slice s.a s.len s.cap := by
  unfold sliceElem at h
  split at h
  · rename_i e hu
    obtain ⟨a, l, c, rfl⟩ := okWide_slice hu hw
    exact ⟨⟨a, l, c⟩, rfl⟩
  · cases h

theorem u8_range {n : Int} (h : (Lit.int .u8 n).wf = true) : 0 ≤ n ∧ n < 256 := by
  have : 0 ≤ n ∧ n ≤ 255 := by simpa [Lit.wf, IntKind.min, IntKind.max, IntKind.signed, IntKind.bits] using h
  omega
theorem i64_range {n : Int} (h : (Lit.int .i64 n).wf = true) : -9223372036854775808 ≤ n ∧ n ≤ 9223372036854775807 := by
  simpa [Lit.wf, IntKind.min, IntKind.max, IntKind.signed, IntKind.bits] using h

end Go.Den

/- What an argument that was read holds: numbers, truth values and structs of such, and slices of them. Generic: no statement, no project text. -/
set_option linter.unusedVariables false
set_option linter.unusedSimpArgs false
namespace Go.Den
open Go.ChangeShapes Go.WideShapes Go.Deep

def wfT : (t : Ty) → t.T → Prop
  | .int k, n => (Lit.int k n).wf = true
  | .str, (x : ByteArray) => x.size ≤ 9223372036854775807
  | .pair a b, x => wfT a x.1 ∧ wfT b x.2
  | .st t, x => wfT t x
  | _, _ => True

def rdF (P : Program) (e : TypeId → Ty → Bool) : List Field → Ty → Nat → Bool
  | [], _, _ => false
  | f :: fs, c, off => match fs, c with
    | [], a => Nat.beq f.offset off && Nat.beq (P.cellsOf f.type) a.size && e f.type a
    | _, .pair a b => Nat.beq f.offset off && Nat.beq (P.cellsOf f.type) a.size && e f.type a && rdF P e fs b (off + a.size)
    | _, _ => false
def rdOK (P : Program) : Nat → TypeId → Ty → Bool
  | 0, _, _ => false
  | d + 1, t, ty => match ty, P.underlying t with
    | .int k, some (.int k') => decide (k = k')
    | .bool, some .bool => true
    | .str, some .string => true
    | .st c, some (.struct fs) => Nat.beq (P.cellsOf t) c.size && rdF P (rdOK P d) fs.toList c 0
    | _, _ => false

section
variable {H : Type} {enc : TypeId × Value → H} {P : Program} {w : World} {base : Nat} {spare : Nat → Bool} {held : Bool}

theorem rdF_read {e : TypeId → Ty → Bool} {cs : List Value} {FS : List Field}
    (hg : ∀ f ∈ FS, ∀ a, e f.type a = true → P.cellsOf f.type = a.size → ∃ y : a.T, (cs.drop f.offset).take a.size = cells a y ∧ wfT a y) :
    ∀ (fs : List Field) (c : Ty) (off : Nat), (∀ f ∈ fs, f ∈ FS) → rdF P e fs c off = true → cs.length = off + c.size → ∃ y : c.T, cs.drop off = cells c y ∧ wfT c y := by
  intro fs
  induction fs with
  | nil => intro c off _ h; simp [rdF] at h
  | cons f fs ih =>
    intro c off hm h hl
    cases fs with
    | nil =>
      simp only [rdF, Bool.and_eq_true] at h
      obtain ⟨⟨h1, h2⟩, h3⟩ := h
      obtain ⟨y, hy, hw⟩ := hg f (hm f (by simp)) c h3 (Nat.eq_of_beq_eq_true h2)
      refine ⟨y, ?_, hw⟩
      rw [Nat.eq_of_beq_eq_true h1] at hy
      rw [← hy, List.take_of_length_le]
      rw [List.length_drop]; omega
    | cons f2 fs =>
      cases c with
      | pair a b =>
        simp only [rdF, Bool.and_eq_true] at h
        obtain ⟨⟨⟨h1, h2⟩, h3⟩, h4⟩ := h
        obtain ⟨y, hy, hw⟩ := hg f (hm f (by simp)) a h3 (Nat.eq_of_beq_eq_true h2)
        rw [Nat.eq_of_beq_eq_true h1] at hy
        have hsz : (Ty.pair a b).size = a.size + b.size := rfl
        obtain ⟨z, hz, hv⟩ := ih b (off + a.size) (fun g hg => hm g (List.mem_cons_of_mem _ hg)) h4 (by omega)
        refine ⟨(y, z), ?_, hw, hv⟩
        rw [cells, ← hy, ← hz, ← List.drop_drop, List.take_append_drop]
      | _ => simp [rdF] at h

theorem rd_read : ∀ (d : Nat) (t : TypeId) (ty : Ty), rdOK P d t ty = true → ∀ (n : Nat) (cs : List Value) (x : DataW H × List MemPlace), DataW.trod enc P w base spare held n t cs = some x → ∃ y : ty.T, cs = cells ty y ∧ wfT ty y := by
  intro d
  induction d with
  | zero => intro t ty h; simp [rdOK] at h
  | succ d ih =>
    intro t ty h n cs x hx
    unfold rdOK at h
    split at h
    · rename_i k k' hu
      have hk := of_decide_eq_true h
      subst hk
      obtain ⟨m, rfl, _, hw⟩ := DataW.trod_int hu hx
      exact ⟨m, rfl, hw⟩
    · rename_i hu
      obtain ⟨b, rfl, _⟩ := DataW.trod_bool hu hx
      exact ⟨b, rfl, trivial⟩
    · rename_i hu
      obtain ⟨b, rfl, _, hb⟩ := DataW.trod_string hu hx
      exact ⟨b, rfl, hb⟩
    · rename_i c fs hu
      simp only [Bool.and_eq_true] at h
      obtain ⟨xs, n', hn', hy, hlen, hxl, hf⟩ := DataW.trod_struct hu hx
      have hcs : P.cellsOf t = c.size := Nat.eq_of_beq_eq_true h.1
      obtain ⟨y, hy', hw⟩ := rdF_read (P := P) (e := rdOK P d) (cs := cs) (FS := fs.toList) (fun f hm a ha hsz => by
        obtain ⟨i, hi⟩ := List.getElem?_of_mem hm
        have hi' : fs[i]? = some f := by rw [← Array.getElem?_toList]; exact hi
        have hlt : i < fs.size := (Array.getElem?_eq_some_iff.1 hi').1
        have := hf i f hi'
        rw [List.getElem?_eq_getElem (by omega), hsz] at this
        obtain ⟨y, h1, h2⟩ := ih f.type a ha _ _ _ this
        exact ⟨y, h1, h2⟩) fs.toList c 0 (fun _ h => h) h.2 (by omega)
      exact ⟨y, by rw [← List.drop_zero (l := cs)]; exact hy', hw⟩
    · cases h

theorem at_of_cells {a : Addr} {n : Nat} {cs : List Value} (h : w.cells? base a n = some cs) : At w a cs := by
  obtain ⟨_, hcl, hat⟩ := World.cells?_some h
  intro i v hi
  have hl : i < cs.length := (List.getElem?_eq_some_iff.1 hi).1
  rw [hat i (by omega)]
  exact hi
theorem range_list {α : Type} {p : Nat → α → Prop} : ∀ n : Nat, (∀ i, i < n → ∃ x, p i x) → ∃ xs : List α, xs.length = n ∧ ∀ i x, xs[i]? = some x → p i x
  | 0, _ => ⟨[], rfl, fun i x h => by simp at h⟩
  | n + 1, h => by
    obtain ⟨xs, hl, hx⟩ := range_list n fun i hi => h i (by omega)
    obtain ⟨x, hp⟩ := h n (by omega)
    refine ⟨xs ++ [x], by simp [hl], fun i y hy => ?_⟩
    rw [List.getElem?_append] at hy
    split at hy
    · exact hx i y hy
    · have : i = n := by
        have := (List.getElem?_eq_some_iff.1 hy).1
        simp at this; omega
      subst this
      rw [hl] at hy
      simp at hy
      exact hy ▸ hp
theorem at_flat {ty : Ty} : ∀ (xs : List ty.T) (q : Addr), (∀ i x, xs[i]? = some x → At w (q.add (i * ty.size)) (cells ty x)) → At w q (flat ty xs)
  | [], q, _ => fun i v h => by simp [flat] at h
  | x :: xs, q, h => by
    have e : flat ty (x :: xs) = cells ty x ++ flat ty xs := by simp [flat]
    rw [e]
    refine At.append ?_ (at_flat xs _ fun i y hy => ?_)
    · have := h 0 x rfl
      have e0 : q.add (0 * ty.size) = q := by simp [Addr.add]
      rwa [e0] at this
    · have := h (i + 1) y hy
      rw [Addr.add_add, cells_length, show ty.size + i * ty.size = (i + 1) * ty.size by rw [Nat.succ_mul]; omega]
      exact this
/-- a slice that was read: the list that it shows -/
theorem slice_read {d : Nat} {t e : TypeId} {ty : Ty} {s : Sl} {dd : DataW H} {p : List MemPlace} (ht : P.underlying t = some (.slice e)) (hr : rdOK P d e ty = true) (hc : P.cellsOf e = ty.size)
    (h : DataW.Trod enc P w base (fun _ => true) held t (.slice s.a s.len s.cap) dd p) : ∃ xs : List ty.T, View ty w s xs ∧ (∀ x ∈ xs, wfT ty x) ∧ s.len ≤ 9223372036854775807 := by
  obtain ⟨n, hx⟩ := h
  rcases open_slice ht hx with ⟨hcs, _⟩ | ⟨a, len, cap, m, n', D, Pl, hcs, _, hl, hm, hmm, _, hi⟩
  · have hcs' : Value.slice s.a s.len s.cap = .slice none 0 0 := by simpa [Value.cells] using hcs
    obtain ⟨sa, sl, sc⟩ := s
    simp only [Value.slice.injEq] at hcs'
    obtain ⟨rfl, rfl, rfl⟩ := hcs'
    exact ⟨[], .nil, fun _ h => (List.not_mem_nil h).elim, (by decide : 0 ≤ 9223372036854775807)⟩
  · have hcs' : Value.slice s.a s.len s.cap = .slice (some a) len cap := by simpa [Value.cells] using hcs
    obtain ⟨sa, sl, sc⟩ := s
    simp only [Value.slice.injEq] at hcs'
    obtain ⟨rfl, rfl, rfl⟩ := hcs'
    have hle : sl ≤ m := by
      rw [hmm]; split <;> omega
    obtain ⟨xs, hxl, hxs⟩ := range_list (p := fun i (x : ty.T) => At w (a.add (i * ty.size)) (cells ty x) ∧ wfT ty x) sl fun i hil => by
      obtain ⟨cs', h1, h2⟩ := hi i (by omega)
      obtain ⟨y, rfl, hy⟩ := rd_read d e ty hr _ _ _ h2
      rw [hc] at h1
      exact ⟨y, at_of_cells h1, hy⟩
    refine ⟨xs, ⟨hxl.symm, fun q hq => ?_, fun _ => ⟨a, rfl⟩⟩, fun x hm => ?_, ?_⟩
    · cases hq
      exact at_flat xs _ fun i x hx => (hxs i x hx).1
    · obtain ⟨i, hi⟩ := List.getElem?_of_mem hm
      exact (hxs i x hi).2
    · have : maxLen = 9223372036854775807 := by decide
      dsimp only; omega

def sliceOK (P : Program) (d : Nat) (t : TypeId) (ty : Ty) : Bool := match P.underlying t with
  | some (.slice e) => rdOK P d e ty && Nat.beq (P.cellsOf e) ty.size
  | _ => false
theorem slice_open {d : Nat} {t : TypeId} {ty : Ty} {v : Value} {dd : DataW H} {p : List MemPlace} {r : Reach} {b0 : Nat} (hs : sliceOK P d t ty = true) (hw : Value.okWide P w r b0 t v)
    (h : DataW.Trod enc P w base (fun _ => true) held t v dd p) : ∃ (s : Sl) (xs : List ty.T), v = .slice s.a s.len s.cap ∧ View ty w s xs ∧ (∀ x ∈ xs, wfT ty x) ∧ s.len ≤ 9223372036854775807 := by
  unfold sliceOK at hs
  split at hs
  · rename_i e hu
    simp only [Bool.and_eq_true] at hs
    obtain ⟨s, rfl⟩ := sliceArg (by unfold sliceElem; rw [hu]; rfl) hw
    obtain ⟨xs, h1, h2, h3⟩ := slice_read hu hs.1 (Nat.eq_of_beq_eq_true hs.2) h
    exact ⟨s, xs, rfl, h1, h2, h3⟩
  · cases hs
theorem struct_open {d : Nat} {t : TypeId} {c : Ty} {v : Value} {dd : DataW H} {p : List MemPlace} {r : Reach} {b0 : Nat} (hs : rdOK P d t (.st c) = true) (hw : Value.okWide P w r b0 t v)
    (h : DataW.Trod enc P w base (fun _ => true) held t v dd p) : ∃ x : (Ty.st c).T, v = val (.st c) x ∧ wfT (.st c) x := by
  have hu : ∃ fs, P.underlying t = some (.struct fs) := by
    cases d with
    | zero => simp [rdOK] at hs
    | succ d =>
      cases hu : P.underlying t with
      | none => simp [rdOK, hu] at hs
      | some x =>
        cases x with
        | struct fs => exact ⟨fs, rfl⟩
        | _ => simp [rdOK, hu] at hs
  obtain ⟨fs, hu⟩ := hu
  obtain ⟨cs, rfl, _⟩ := okWide_struct hu hw
  obtain ⟨n, hx⟩ := h
  obtain ⟨y, hy, hwf⟩ := rd_read d t (.st c) hs _ _ _ hx
  refine ⟨y, ?_, hwf⟩
  have : cs.toList = cells c y := by simpa [Value.cells, cells] using hy
  rw [val, ← this]
end
end Go.Den
