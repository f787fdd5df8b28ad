/- From a function's contract to a statement of the form 'true, and the input reads as it did'. Generic: no statement, no project text. -/
import Derived.Test.YtddhndabnbckmaaHeap
import Derived.Carry
import Derived.ChangeSame
import Derived.OpenShut
import Derived.ProofKit
namespace Go.Den
open Go.ChangeShapes Go.WideShapes Go.ChangeAt Go.RowKit

theorem Fr.below {W W' : World} (e : Ext W W') : Below W.heap.size W W' := ⟨e.pub.1, e.pub.2.1, e.pub.2.2, e.size, fun k hk => e.same k hk fun h => h⟩

def rowedB (P : Program) (ts : List TypeId) : Bool := ts.all fun t => P.readableRec t && decide (t < P.types.size)

theorem trodAll_below {H : Type} {enc : TypeId × Value → H} {P : Program} (hl : laidOutB P = true) {W W' : World} (hb : Below W.heap.size W W') :
    ∀ {ts : List TypeId} {vs : List Value} {ds : List (DataW H)} {ps : List MemPlace}, rowedB P ts = true → DataW.TrodAll enc P W 0 (fun _ => true) true ts vs ds ps → (∀ x ∈ ps, x.block < W.heap.size) →
      DataW.TrodAll enc P W' 0 (fun b => decide (b < W.heap.size)) true ts vs ds ps
  | [], [], [], _, _, h, _ => h
  | [], [], _ :: _, _, _, h, _ => h.elim
  | [], _ :: _, _, _, _, h, _ => h.elim
  | _ :: _, [], _, _, _, h, _ => h.elim
  | _ :: _, _ :: _, [], _, _, h, _ => h.elim
  | t :: ts, v :: vs, d :: ds, ps, ht, h, hlt => by
    obtain ⟨p, q, h1, h2, rfl⟩ := h
    simp only [rowedB, List.all_cons, Bool.and_eq_true, decide_eq_true_eq] at ht
    exact ⟨p, q, Below.trod hl ht.1.1 ht.1.2 h1 hb (fun x hx => hlt x (by simp [hx])), trodAll_below hl hb ht.2 h2 (fun x hx => hlt x (by simp [hx])), rfl⟩

theorem post_true {H : Type} {enc : TypeId × Value → H} {P : Program} (hl : laidOutB P = true) {f : Func} {s : ChangeSpec} {apart fresh handsOn : Bool} {tb : TypeId} (hts : rowedB P f.params.toList = true) (hr : f.resultTypes = #[tb]) (hb : P.underlying tb = some .bool)
    (hv : s.vars = []) {W W' : World} {args : Array Value} {ds gs : List (DataW H)} {before : List MemPlace} (hfn : s.fn H ds = { results := [.lit (.bool true)], args := ds })
    (hW : DataW.Whole enc P f.params.toList s.vars apart W args.toList ds gs before) (e : Ext W W') : s.post enc P f apart fresh handsOn false W args (.bool true) W' := by
  have hlt := hW.lt
  have hW' := hW
  obtain ⟨p, q, hA, hV, rfl, hfz, hnd⟩ := hW
  rw [hv] at hV
  obtain ⟨rfl, rfl⟩ := trodVars_none hV
  refine ⟨ds, [], p ++ [], [], p, [], hW', ?_, ?_, ?_, e.below.frame _, fun h => (nomatch h)⟩
  · rw [List.append_nil, hfn, hr]
    exact trodAll_cons_mk (shut_bool hb _) trodAll_mk0
  · rw [List.append_nil, hfn]
    exact trodAll_below hl e.below hts hA (fun x hx => hlt x (by simp [hx]))
  · rw [List.append_nil, hfn, hv]
    rfl

theorem sliceArg {P : Program} {w : World} {r : Reach} {base : Nat} {t : TypeId} {v : Value} (h : (sliceElem P t).isSome = true) (hw : Value.okWide P w r base t v) : ∃ s : Sl, v = .slice s.a s.len s.cap := by
  unfold sliceElem at h
  split at h
  · rename_i e hu
    obtain ⟨a, l, c, rfl⟩ := okWide_slice hu hw
    exact ⟨⟨a, l, c⟩, rfl⟩
  · cases h

theorem u8_range {n : Int} (h : (Lit.int .u8 n).wf = true) : 0 ≤ n ∧ n < 256 := by
  have : 0 ≤ n ∧ n ≤ 255 := by simpa [Lit.wf, IntKind.min, IntKind.max, IntKind.signed, IntKind.bits] using h
  omega
theorem i64_range {n : Int} (h : (Lit.int .i64 n).wf = true) : -9223372036854775808 ≤ n ∧ n ≤ 9223372036854775807 := by
  simpa [Lit.wf, IntKind.min, IntKind.max, IntKind.signed, IntKind.bits] using h

end Go.Den
