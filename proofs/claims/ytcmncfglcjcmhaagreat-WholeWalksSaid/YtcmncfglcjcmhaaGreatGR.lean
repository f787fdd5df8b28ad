/- Texts that belong together, joined: Rng. No conditions. -/
import Derived.Test.YtcmncfglcjcmhaaGreatGB
/- A range over a function, on the list of objects: the loop's record, the block for the rounds' deferred calls. Generic: no statement, no project text. -/
set_option linter.unusedVariables false
set_option linter.unusedSectionVars false
set_option linter.unusedSimpArgs false
namespace Go.Den

variable {w0 w w' : World} {L : List Ob} {P : Program} [EntTys]

theorem putObj_fr (w : World) (l : Nat) (o : Obj) : Fr (fun b => b = l) w (w.putObj l o) :=
  ⟨by simp, fun b hb hne => World.putObj_heap_other hne, rfl, rfl, rfl⟩
/-- a loop's record -/
def lp (l : Nat) (r : Loop) (st : LoopState) (j : Option Code) : Ob := ⟨false, fun B w => B l ∧ w.heap[l]? = some (.loop (recS r st j)), fun {B F w w'} h f hB => ⟨h.1, by rw [f.same l (Array.getElem?_eq_some_iff.1 h.2).1 (hB l h.1)]; exact h.2⟩⟩
/-- the block for the rounds' deferred calls -/
def df (D : Nat) : Ob := ⟨false, fun B w => B D ∧ w.heap[D]? = some (.deferred (some [])), fun {B F w w'} h f hB => ⟨h.1, by rw [f.same D (Array.getElem?_eq_some_iff.1 h.2).1 (hB D h.1)]; exact h.2⟩⟩
theorem Sp.lpAt {l : Nat} {r : Loop} {st : LoopState} {j : Option Code} (s : Sp w0 L w) (i : Nat) (h : L[i]? = some (lp l r st j)) : w.heap[l]? = some (.loop (recS r st j)) := by
  obtain ⟨B, ⟨_, h⟩, _⟩ := s.get i h
  exact h
theorem Sp.lpTurn {l : Nat} {r : Loop} {st st' : LoopState} {j j' : Option Code} (s : Sp w0 L w) (i : Nat) (h : L[i]? = some (lp l r st j)) : Sp w0 (L.set i (lp l r st' j')) (w.putObj l (.loop (recS r st' j'))) := by
  obtain ⟨B, ⟨hB, ha⟩, hlt, back⟩ := s.open i h rfl
  refine back _ B _ ⟨hB, ?_⟩ ((putObj_fr w l _).mono fun b _ e => e ▸ hB) (fun _ h => Or.inl h) fun b hb => ?_
  · exact World.putObj_heap_same (Array.getElem?_eq_some_iff.1 ha).1
  · rw [World.putObj_size]; exact (hlt b hb).2
theorem Sp.busy {l : Nat} {r : Loop} {K : World → Prop} (s : Sp w0 L w) (i : Nat) (h : L[i]? = some (lp l r .ready none)) (hK : ∀ w', Sp w0 (L.set i (lp l r .busy none)) w' → K w') : busyK l r w K :=
  ⟨s.lpAt i h, hK _ (s.lpTurn i h)⟩
theorem Sp.endR {l : Nat} {r : Loop} {K : Bool → World → Prop} (s : Sp w0 L w) (i : Nat) (h : L[i]? = some (lp l r .busy none)) (hK : ∀ w', Sp w0 (L.set i (lp l r .ready none)) w' → K true w') : endK l r none w K :=
  ⟨s.lpAt i h, hK _ (s.lpTurn i h)⟩
theorem Sp.shut {D : Nat} {m : List Nat} {K : World → Prop} (s : Sp w0 L w) (i : Nat) (h : L[i]? = some (df D)) (hK : ∀ w', Sp w0 (L.set i noOb) w' → shutL m w' K) : shutL (D :: m) w K := by
  obtain ⟨B, ⟨hB, ha⟩, hlt, back⟩ := s.open i h rfl
  refine ⟨ha, hK _ (back noOb (fun _ => False) _ trivial ((putObj_fr w D _).mono fun b _ e => e ▸ hB) (fun _ h => h.elim) fun b hb => hb.elim)⟩
/-- the statement: what the function that is ranged over does, in memory with the record beside it -/
theorem Sp.range {v : Value} {gf : FuncId} {first captured : Array Value} {X : Type} {vs : X → List Value} {B : Nat → Loop → X → World → (Bool → World → Prop) → Prop} {Q : Option Code → World → Prop} (s : Sp w0 L w)
    (hv : v = .func (.func gf) first captured) (hb : bodyful P gf = true)
    (h : ∀ (l : Nat) (r : Loop) (w1 : World), Sp w0 (lp l r .ready none :: df w.heap.size :: L) w1 →
      (∀ (x : X) (w' : World) (K : Bool → World → Prop), w'.heap[l]? = some (.loop (recS r .ready none)) → B l r x w' K → callV P (.func (.yield l) #[] #[]) (vs x) .bool w' K) →
      callP P gf (first.toList ++ [Value.func (.yield l) #[] #[]] ++ captured.toList).toArray (.tup .unit) w1 fun _ w3 => ∃ L3 i, L3[i]? = some (lp l r .ready none) ∧ Sp w0 L3 w3 ∧ ∀ w4, Sp w0 (L3.set i (lp l r .exhausted none)) w4 → Q none w4) : RangeP P v w X vs B Q := by
  refine ⟨gf, first, captured, hv, hb, fun r hr => ?_⟩
  have s1 : Sp w0 (df w.heap.size :: L) (w.alloc (.deferred (some []))) := s.push (B := fun b => b = w.heap.size) (alloc_ext w _) ⟨rfl, alloc_new w _⟩ (by rintro b rfl; exact ⟨Nat.le_refl _, by simp⟩)
  have s2 : Sp w0 (lp (w.heap.size + 1) r .ready none :: df w.heap.size :: L) ((w.alloc (.deferred (some []))).alloc (.loop (recS r .ready none))) := by
    have e : (w.alloc (.deferred (some []))).heap.size = w.heap.size + 1 := by simp
    rw [← e]
    exact s1.push (B := fun b => b = (w.alloc (.deferred (some []))).heap.size) (alloc_ext _ _) ⟨rfl, alloc_new _ _⟩ (by rintro b rfl; exact ⟨Nat.le_refl _, by simp⟩)
  refine Calls.mono (h (w.heap.size + 1) r _ s2 hr) ?_
  rintro e w3 ⟨u, rfl, L3, i, hi, s3, hQ⟩
  exact ⟨u, rfl, .ready, none, by simp, s3.lpAt i hi, hQ _ (s3.lpTurn i hi)⟩

end Go.Den
