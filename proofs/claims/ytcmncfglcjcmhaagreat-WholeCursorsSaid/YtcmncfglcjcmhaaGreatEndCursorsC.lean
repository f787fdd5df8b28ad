/- WholeCursors: the statement, proved. For every input the function returns true and leaves its arguments as they were. -/
import Derived.Test.YtcmncfglcjcmhaaGreatRows
import Derived.ProofKit
import Derived.Test.YtcmncfglcjcmhaaGreatGH
import Derived.Test.YtcmncfglcjcmhaaGreatGB
/- WholeCursors: the statement, proved. For every input the function returns true and leaves its arguments as they were. -/
namespace Go.Proofs.YtcmncfglcjcmhaaGreat
open Go.Den
open Go.ChangeShapes Go.WideShapes Go.ChangeAt Go.RowKit

theorem ownKnobs : ownKnob P.godebug = none := by kernel_rfl
theorem laidOuts : laidOutB P = true := by kernel_rfl

set_option maxRecDepth 100000 in
theorem wholeCursors_lifted (os : Os) (started : os.Started) (H : Type) (enc : TypeId × Value → H) :
    ReturnsInHanded {} Tryz.checked os 3 .any (Rows.wholeCursorsSpec.pre6 enc Tryz.prog Tryz.f3 Rows.wholeCursorsRow.domain false) (Rows.wholeCursorsSpec.post enc Tryz.prog Tryz.f3 false true false false) := by
  refine returnsInHanded_of_change (C := Tryz.checked) ownKnobs started (by kernel_rfl) Tryz.func3
    (ChangeSpec.witness6 (enc := enc) (C := Tryz.checked) false ⟨#[], #[.slice none 0 0, .slice none 0 0], []⟩ 8 (by kernel_rfl) (by kernel_rfl) (by kernel_rfl) (by kernel_rfl)) ?_
  intro W base args ds gs before hval0 hW hcnd _
  have hval : ∀ (j : Nat) t v, Tryz.f3.params[j]? = some t → args[j]? = some v → Value.okWide Tryz.prog W .any base t v := hval0
  have hW' := hW
  obtain ⟨p, q, hA0, hV, rfl, hfz, hnd⟩ := hW
  have hA : DataW.TrodAll enc Tryz.prog W 0 (fun _ => true) true Tryz.f3.params.toList args.toList ds p := hA0
  rw [Tryz.params3] at hA hval
  obtain ⟨v0, v1, d0, d1, p0, p1, rfl, rfl, rfl, h0, h1⟩ := trodAll_two hA
  obtain ⟨s, list, rfl, hv_s, ho_s, _⟩ := slice_open (d := 3) (ty := yevergreentop_Make) (by kernel_rfl) (hval 0 _ v0 rfl rfl) h0
  obtain ⟨s2, moves, rfl, hv_s2, ho_s2, _⟩ := slice_open (d := 1) (ty := .int .i64) (by kernel_rfl) (hval 1 _ v1 rfl rfl) h1
  refine Calls.mono (top_WholeCursors_spec (K := fun r w => r = true ∧ Ext W w) (w0 := W) hv_s hv_s2 (fun o hm => (ho_s o hm).2.2.2.2.2) fun w' e => ⟨rfl, e⟩) fun e W' ⟨r, he, hr, hx⟩ => ?_
  subst he hr
  exact ⟨_, rfl, post_true laidOuts (by kernel_rfl) rfl (by kernel_rfl) rfl rfl hW' hx⟩
theorem wholeCursors_holds : Rows.WholeCursorsSaid :=
  OpenClaim.holds_of_wide 3 Tryz.f3 rfl rfl rfl rfl rfl rfl rfl ⟨rfl, rfl, rfl, rfl, rfl⟩ rfl rfl rfl rfl rfl (by kernel_rfl) Tryz.func3 (by kernel_rfl)
    (of_decide_eq_true (by kernel_rfl)) (by unfold Func.isWrapper; first | (rw [if_pos (by decide +kernel)]; kernel_rfl) | (rw [if_neg (by decide +kernel)]; exact ⟨rfl, rfl⟩))
    (fun os started H enc _ => wholeCursors_lifted os started H enc)
end Go.Proofs.YtcmncfglcjcmhaaGreat
