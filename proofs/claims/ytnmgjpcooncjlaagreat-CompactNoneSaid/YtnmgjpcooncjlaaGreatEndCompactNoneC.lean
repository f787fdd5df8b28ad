/- CompactNone: the statement, proved. For every input the function returns true and leaves its arguments as they were. -/
import Derived.Test.YtnmgjpcooncjlaaGreatRows
import Derived.ProofKit
import Derived.Test.YtnmgjpcooncjlaaGreatGF
/- CompactNone: the statement, proved. For every input the function returns true and leaves its arguments as they were. -/
namespace Go.Proofs.YtnmgjpcooncjlaaGreat
open Go.Den
open Go.ChangeShapes Go.WideShapes Go.ChangeAt Go.RowKit

theorem ownKnobs : ownKnob P.godebug = none := by kernel_rfl
theorem laidOuts : laidOutB P = true := by kernel_rfl

set_option maxRecDepth 100000 in
theorem compactNone_lifted (os : Os) (started : os.Started) (H : Type) (enc : TypeId × Value → H) :
    ReturnsInHanded {} Tryz.checked os 6 .any (Rows.compactNoneSpec.pre6 enc Tryz.prog Tryz.f6 Rows.compactNoneRow.domain false) (Rows.compactNoneSpec.post enc Tryz.prog Tryz.f6 false true false false) := by
  refine returnsInHanded_of_change (C := Tryz.checked) ownKnobs started (by kernel_rfl) Tryz.func6
    (ChangeSpec.witness6 (enc := enc) (C := Tryz.checked) false ⟨#[], #[.int .i64 0], []⟩ 8 (by kernel_rfl) (by kernel_rfl) (by kernel_rfl) (by kernel_rfl)) ?_
  intro W base args ds gs before hval0 hW hcnd _
  have hval : ∀ (j : Nat) t v, Tryz.f6.params[j]? = some t → args[j]? = some v → Value.okWide Tryz.prog W .any base t v := hval0
  have hW' := hW
  obtain ⟨p, q, hA0, hV, rfl, hfz, hnd⟩ := hW
  have hA : DataW.TrodAll enc Tryz.prog W 0 (fun _ => true) true Tryz.f6.params.toList args.toList ds p := hA0
  rw [Tryz.params6] at hA hval
  obtain ⟨v0, d0, rfl, rfl, h0⟩ := trodAll_one hA
  obtain ⟨most, rfl, rfl, _, w_most⟩ := open_int (k := .i64) (by kernel_rfl) (hval 0 _ v0 rfl rfl) h0
  refine Calls.mono (law51_CompactNone_spec (K := fun r w => r = true ∧ Ext W w) (w0 := W) (most := most) fun w' e => ⟨rfl, e⟩) fun e W' ⟨r, he, hr, hx⟩ => ?_
  subst he hr
  exact ⟨_, rfl, post_true laidOuts (by kernel_rfl) rfl (by kernel_rfl) rfl rfl hW' hx⟩
theorem compactNone_holds : Rows.CompactNoneSaid :=
  OpenClaim.holds_of_wide 6 Tryz.f6 rfl rfl rfl rfl rfl rfl rfl ⟨rfl, rfl, rfl, rfl, rfl⟩ rfl rfl rfl rfl rfl (by kernel_rfl) Tryz.func6 (by kernel_rfl)
    (of_decide_eq_true (by kernel_rfl)) (by unfold Func.isWrapper; first | (rw [if_pos (by decide +kernel)]; kernel_rfl) | (rw [if_neg (by decide +kernel)]; exact ⟨rfl, rfl⟩))
    (fun os started H enc _ => compactNone_lifted os started H enc)
end Go.Proofs.YtnmgjpcooncjlaaGreat
