/- CompactAgain, where what it reads is of bulk at most 1048576: the statement in its second form, proved. For every such input the function returns true and leaves its arguments as they were. -/
import Derived.Test.YtnmgjpcooncjlaaGreatRows
import Derived.JoinedCond
import Derived.ProofKit
import Derived.Test.YtnmgjpcooncjlaaGreatGJ
import Derived.Test.YtnmgjpcooncjlaaGreatGF
/- CompactAgain, where what it reads is of bulk at most 1048576: the statement in its second form, proved. For every such input the function returns true and leaves its arguments as they were. -/
namespace Go.Proofs.YtnmgjpcooncjlaaGreat
open Go.Den
open Go.ChangeShapes Go.WideShapes Go.ChangeAt Go.RowKit

theorem ownKnobs : ownKnob P.godebug = none := by kernel_rfl
theorem laidOuts : laidOutB P = true := by kernel_rfl

set_option maxRecDepth 100000 in
theorem compactAgain_lifted (os : Os) (started : os.Started) (H : Type) (enc : TypeId × Value → H) (F : Stop.Interp) :
    ReturnsInHanded {} Tryz.checked os 7 .any ((Rows.OpenSpec.upto Rows.compactAgainSpec).pre6 enc Tryz.prog Tryz.f7 Rows.compactAgainUptoRow.domain false) (((Rows.OpenSpec.upto Rows.compactAgainSpec).at F).post enc Tryz.prog Tryz.f7 false true false false) := by
  refine returnsInHanded_of_cond (C := Tryz.checked) (s := Rows.OpenSpec.upto Rows.compactAgainSpec) (k := Rows.uptoSmall) rfl ownKnobs started (by kernel_rfl) Tryz.func7
    (OpenSpec.witness (enc := enc) (C := Tryz.checked) (s := Rows.OpenSpec.upto Rows.compactAgainSpec) (k := Rows.uptoSmall) rfl false ⟨#[], #[.agg #[.slice none 0 0, .slice none 0 0, .slice none 0 0]], []⟩ 8 (by kernel_rfl) (by kernel_rfl) (by kernel_rfl)
      (x := ([.agg [.nil, .nil, .nil]], [], [])) (by kernel_rfl) rfl (by kernel_rfl)) ?_
  intro W base args ds gs before hval0 hW hcnd hkk _
  have hval : ∀ (j : Nat) t v, Tryz.f7.params[j]? = some t → args[j]? = some v → Value.okWide Tryz.prog W .any base t v := hval0
  have hW' := hW
  obtain ⟨p, q, hA0, hV, rfl, hfz, hnd⟩ := hW
  have hA : DataW.TrodAll enc Tryz.prog W 0 (fun _ => true) true Tryz.f7.params.toList args.toList ds p := hA0
  rw [Tryz.params7] at hA hval
  obtain ⟨v0, d0, rfl, rfl, h0⟩ := trodAll_one hA
  obtain ⟨x, ops, cms, ic, ns, rfl, hI⟩ := input_read (by kernel_rfl) (hval 0 _ v0 rfl rfl) h0
  have hb : Rows.uptoBulkAll ([d0] ++ gs) ≤ 1048576 := of_decide_eq_true hkk
  simp only [List.cons_append, List.nil_append, Rows.uptoBulkAll] at hb
  have hI := hI (by omega)
  refine Calls.mono (law51_CompactAgain_spec (K := fun r w => r = true ∧ Ext W w) (w0 := W) hI fun w' e => ⟨rfl, e⟩) fun e W' ⟨r, he, hr, hx⟩ => ?_
  subst he hr
  exact ⟨_, rfl, post_true laidOuts (by kernel_rfl) rfl (by kernel_rfl) rfl rfl hW' hx⟩
theorem compactAgainUpto_holds : Rows.CompactAgainUptoSaid :=
  OpenClaim.holds_of_cond 7 Tryz.f7 rfl rfl rfl rfl rfl rfl rfl ⟨rfl, rfl, rfl, rfl, rfl⟩ rfl rfl rfl rfl rfl (by kernel_rfl) Tryz.func7 (by kernel_rfl)
    (of_decide_eq_true (by kernel_rfl)) (by unfold Func.isWrapper; first | (rw [if_pos (by decide +kernel)]; kernel_rfl) | (rw [if_neg (by decide +kernel)]; exact ⟨rfl, rfl⟩))
    (fun os started H enc _ F => compactAgain_lifted os started H enc F)
end Go.Proofs.YtnmgjpcooncjlaaGreat
