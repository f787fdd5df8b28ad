/- A second call changes nothing: the statement, proved. -/
import Derived.Test.YtddhndabnbckmaaRows
import Derived.Test.YtddhndabnbckmaaLawBB
import Derived.ProofKit
namespace Go.Proofs.Ytddhndabnbckmaa
open Go.Den
open Go.ChangeShapes Go.WideShapes Go.ChangeAt Go.RowKit

theorem ownKnobs : ownKnob P.godebug = none := by kernel_rfl
theorem laidOuts : laidOutB P = true := by kernel_rfl
theorem opOK_of {o : OT} (h : wfT yevergreenlaw10_Op o) : OpOK o := by
  obtain ⟨h1, h2, _, _, h5⟩ := h
  exact ⟨(u8_range h1).1, u8_range h2, (i64_range h5).2⟩

set_option maxRecDepth 100000 in
theorem internTwice_lifted (os : Os) (started : os.Started) (H : Type) (enc : TypeId × Value → H) :
    ReturnsInHanded {} Try.checked os 4 .any (Rows.internTwiceSpec.pre6 enc Try.prog Try.f4 Rows.internTwiceRow.domain false) (Rows.internTwiceSpec.post enc Try.prog Try.f4 false true false false) := by
  refine returnsInHanded_of_change (C := Try.checked) ownKnobs started (by kernel_rfl) Try.func4
    (ChangeSpec.witness6 (enc := enc) (C := Try.checked) false ⟨#[], #[.slice none 0 0], []⟩ 8 (by kernel_rfl) (by kernel_rfl) (by kernel_rfl) (by kernel_rfl)) ?_
  intro W base args ds gs before hval0 hW hcnd _
  have hval : ∀ (j : Nat) t v, Try.f4.params[j]? = some t → args[j]? = some v → Value.okWide Try.prog W .any base t v := hval0
  have hW' := hW
  obtain ⟨p, q, hA0, hV, rfl, hfz, hnd⟩ := hW
  have hA : DataW.TrodAll enc Try.prog W 0 (fun _ => true) true Try.f4.params.toList args.toList ds p := hA0
  rw [Try.params4] at hA hval
  obtain ⟨v0, d0, rfl, rfl, h0⟩ := trodAll_one hA
  obtain ⟨s, ops, rfl, hv, ho, _⟩ := slice_open (d := 3) (ty := yevergreenlaw10_Op) (by kernel_rfl) (hval 0 _ v0 rfl rfl) h0
  refine Calls.mono (law10_InternTwice_spec (s := s) (w0 := W) (K := fun r w => r = true ∧ Ext W w) hv (fun o hm => opOK_of (ho o hm)) fun w' e => ⟨rfl, e⟩) fun e W' ⟨r, he, hr, hx⟩ => ?_
  subst he hr
  exact ⟨_, rfl, post_true laidOuts (by kernel_rfl) rfl (by kernel_rfl) rfl rfl hW' hx⟩
theorem internTwice_holds : Rows.InternTwiceSaid :=
  OpenClaim.holds_of_wide 4 Try.f4 rfl rfl rfl rfl rfl rfl rfl ⟨rfl, rfl, rfl, rfl, rfl⟩ rfl rfl rfl rfl rfl (by kernel_rfl) Try.func4 (by kernel_rfl)
    (of_decide_eq_true (by kernel_rfl)) (by unfold Func.isWrapper; first | (rw [if_pos (by decide +kernel)]; kernel_rfl) | (rw [if_neg (by decide +kernel)]; exact ⟨rfl, rfl⟩))
    (fun os started H enc _ => internTwice_lifted os started H enc)
end Go.Proofs.Ytddhndabnbckmaa
