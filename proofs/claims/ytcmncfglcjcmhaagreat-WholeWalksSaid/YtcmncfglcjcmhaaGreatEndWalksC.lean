/- WholeWalks: the statement, proved. For every input the function returns true and leaves its arguments as they were. -/
import Derived.Test.YtcmncfglcjcmhaaGreatRows
import Derived.ProofKit
import Derived.Test.YtcmncfglcjcmhaaGreatGJ
import Derived.Test.YtcmncfglcjcmhaaGreatGB
/- WholeWalks: the statement, proved. For every input the function returns true and leaves its arguments as they were. -/
namespace Go.Proofs.YtcmncfglcjcmhaaGreat
open Go.Den
open Go.ChangeShapes Go.WideShapes Go.ChangeAt Go.RowKit

theorem ownKnobs : ownKnob P.godebug = none := by kernel_rfl
theorem laidOuts : laidOutB P = true := by kernel_rfl

set_option maxRecDepth 100000 in
theorem wholeWalks_lifted (os : Os) (started : os.Started) (H : Type) (enc : TypeId × Value → H) :
    ReturnsInHanded {} Tryz.checked os 4 .any (Rows.wholeWalksSpec.pre6 enc Tryz.prog Tryz.f4 Rows.wholeWalksRow.domain false) (Rows.wholeWalksSpec.post enc Tryz.prog Tryz.f4 false true false false) := by
  refine returnsInHanded_of_change (C := Tryz.checked) ownKnobs started (by kernel_rfl) Tryz.func4
    (ChangeSpec.witness6 (enc := enc) (C := Tryz.checked) false ⟨#[], #[.slice none 0 0, .int .i64 0, .int .i64 0], []⟩ 8 (by kernel_rfl) (by kernel_rfl) (by kernel_rfl) (by kernel_rfl)) ?_
  intro W base args ds gs before hval0 hW hcnd _
  have hval : ∀ (j : Nat) t v, Tryz.f4.params[j]? = some t → args[j]? = some v → Value.okWide Tryz.prog W .any base t v := hval0
  have hW' := hW
  obtain ⟨p, q, hA0, hV, rfl, hfz, hnd⟩ := hW
  have hA : DataW.TrodAll enc Tryz.prog W 0 (fun _ => true) true Tryz.f4.params.toList args.toList ds p := hA0
  rw [Tryz.params4] at hA hval
  obtain ⟨v0, v1, v2, d0, d1, d2, p0, p1, p2, rfl, rfl, rfl, h0, h1, h2⟩ := trodAll_three hA
  obtain ⟨s, list, rfl, hv_s, ho_s, _⟩ := slice_open (d := 3) (ty := yevergreentop_Make) (by kernel_rfl) (hval 0 _ v0 rfl rfl) h0
  obtain ⟨from_, rfl, rfl, rfl, w_from_⟩ := open_int (k := .i64) (by kernel_rfl) (hval 1 _ v1 rfl rfl) h1
  obtain ⟨n, rfl, rfl, rfl, w_n⟩ := open_int (k := .i64) (by kernel_rfl) (hval 2 _ v2 rfl rfl) h2
  refine Calls.mono (top_WholeWalks_spec (K := fun r w => r = true ∧ Ext W w) (w0 := W) (from_ := from_) (n := n) hv_s (fun o hm => (ho_s o hm).2.2.2.2.2) fun w' e => ⟨rfl, e⟩) fun e W' ⟨r, he, hr, hx⟩ => ?_
  subst he hr
  exact ⟨_, rfl, post_true laidOuts (by kernel_rfl) rfl (by kernel_rfl) rfl rfl hW' hx⟩
theorem wholeWalks_holds : Rows.WholeWalksSaid :=
  OpenClaim.holds_of_wide 4 Tryz.f4 rfl rfl rfl rfl rfl rfl rfl ⟨rfl, rfl, rfl, rfl, rfl⟩ rfl rfl rfl rfl rfl (by kernel_rfl) Tryz.func4 (by kernel_rfl)
    (of_decide_eq_true (by kernel_rfl)) (by unfold Func.isWrapper; first | (rw [if_pos (by decide +kernel)]; kernel_rfl) | (rw [if_neg (by decide +kernel)]; exact ⟨rfl, rfl⟩))
    (fun os started H enc _ => wholeWalks_lifted os started H enc)
end Go.Proofs.YtcmncfglcjcmhaaGreat
