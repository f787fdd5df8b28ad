/- BalanceGreat: the statement, proved. For every input the function returns true and leaves its arguments as they were. -/
import Derived.Test.YtnbkhhjklpoipaaRows
import Derived.ProofKit
import Derived.Test.YtnbkhhjklpoipaaGF
import Derived.Test.YtnbkhhjklpoipaaGB
/- BalanceGreat: the statement, proved. For every input the function returns true and leaves its arguments as they were. -/
namespace Go.Proofs.Ytnbkhhjklpoipaa
open Go.Den
open Go.ChangeShapes Go.WideShapes Go.ChangeAt Go.RowKit

theorem ownKnobs : ownKnob P.godebug = none := by kernel_rfl
theorem laidOuts : laidOutB P = true := by kernel_rfl

set_option maxRecDepth 100000 in
theorem balanceGreat_lifted (os : Os) (started : os.Started) (H : Type) (enc : TypeId × Value → H) :
    ReturnsInHanded {} Try.checked os 9 .any (Rows.balanceGreatSpec.pre6 enc Try.prog Try.f9 Rows.balanceGreatRow.domain false) (Rows.balanceGreatSpec.post enc Try.prog Try.f9 false true false false) := by
  refine returnsInHanded_of_change (C := Try.checked) ownKnobs started (by kernel_rfl) Try.func9
    (ChangeSpec.witness6 (enc := enc) (C := Try.checked) false ⟨#[], #[.slice none 0 0, .int .i64 0], []⟩ 8 (by kernel_rfl) (by kernel_rfl) (by kernel_rfl) (by kernel_rfl)) ?_
  intro W base args ds gs before hval0 hW hcnd _
  have hval : ∀ (j : Nat) t v, Try.f9.params[j]? = some t → args[j]? = some v → Value.okWide Try.prog W .any base t v := hval0
  have hW' := hW
  obtain ⟨p, q, hA0, hV, rfl, hfz, hnd⟩ := hW
  have hA : DataW.TrodAll enc Try.prog W 0 (fun _ => true) true Try.f9.params.toList args.toList ds p := hA0
  rw [Try.params9] at hA hval
  obtain ⟨v0, v1, d0, d1, p0, p1, rfl, rfl, rfl, h0, h1⟩ := trodAll_two hA
  obtain ⟨s, ops, rfl, hv_s, ho_s, _⟩ := slice_open (d := 3) (ty := yevergreenref12_Make) (by kernel_rfl) (hval 0 _ v0 rfl rfl) h0
  obtain ⟨n, rfl, rfl, rfl, w_n⟩ := open_int (k := .i64) (by kernel_rfl) (hval 1 _ v1 rfl rfl) h1
  refine Calls.mono (law15_BalanceGreat_spec (K := fun r w => r = true ∧ Ext W w) (w0 := W) (n := n) hv_s (fun o hm => makeOK_of (ho_s o hm)) fun w' e => ⟨rfl, e⟩) fun e W' ⟨r, he, hr, hx⟩ => ?_
  subst he hr
  exact ⟨_, rfl, post_true laidOuts (by kernel_rfl) rfl (by kernel_rfl) rfl rfl hW' hx⟩
theorem balanceGreat_holds : Rows.BalanceGreatSaid :=
  OpenClaim.holds_of_wide 9 Try.f9 rfl rfl rfl rfl rfl rfl rfl ⟨rfl, rfl, rfl, rfl, rfl⟩ rfl rfl rfl rfl rfl (by kernel_rfl) Try.func9 (by kernel_rfl)
    (of_decide_eq_true (by kernel_rfl)) (by unfold Func.isWrapper; first | (rw [if_pos (by decide +kernel)]; kernel_rfl) | (rw [if_neg (by decide +kernel)]; exact ⟨rfl, rfl⟩))
    (fun os started H enc _ => balanceGreat_lifted os started H enc)
end Go.Proofs.Ytnbkhhjklpoipaa
