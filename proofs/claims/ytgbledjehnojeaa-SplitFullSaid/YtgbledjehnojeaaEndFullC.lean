/- SplitFull: the statement, proved. For every input the function returns true and leaves its arguments as they were. -/
import Derived.Test.YtgbledjehnojeaaRows
import Derived.ProofKit
import Derived.Test.YtgbledjehnojeaaGG
import Derived.Test.YtgbledjehnojeaaGB
/- SplitFull: the statement, proved. For every input the function returns true and leaves its arguments as they were. -/
namespace Go.Proofs.Ytgbledjehnojeaa
open Go.Den
open Go.ChangeShapes Go.WideShapes Go.ChangeAt Go.RowKit

theorem ownKnobs : ownKnob P.godebug = none := by kernel_rfl
theorem laidOuts : laidOutB P = true := by kernel_rfl

set_option maxRecDepth 100000 in
theorem splitFull_lifted (os : Os) (started : os.Started) (H : Type) (enc : TypeId × Value → H) :
    ReturnsInHanded {} Try.checked os 10 .any (Rows.splitFullSpec.pre6 enc Try.prog Try.f10 Rows.splitFullRow.domain false) (Rows.splitFullSpec.post enc Try.prog Try.f10 false true false false) := by
  refine returnsInHanded_of_change (C := Try.checked) ownKnobs started (by kernel_rfl) Try.func10
    (ChangeSpec.witness6 (enc := enc) (C := Try.checked) false ⟨#[], #[.slice none 0 0, .int .i64 0, .int .u16 0], []⟩ 8 (by kernel_rfl) (by kernel_rfl) (by kernel_rfl) (by kernel_rfl)) ?_
  intro W base args ds gs before hval0 hW hcnd _
  have hval : ∀ (j : Nat) t v, Try.f10.params[j]? = some t → args[j]? = some v → Value.okWide Try.prog W .any base t v := hval0
  have hW' := hW
  obtain ⟨p, q, hA0, hV, rfl, hfz, hnd⟩ := hW
  have hA : DataW.TrodAll enc Try.prog W 0 (fun _ => true) true Try.f10.params.toList args.toList ds p := hA0
  rw [Try.params10] at hA hval
  obtain ⟨v0, v1, v2, d0, d1, d2, p0, p1, p2, rfl, rfl, rfl, h0, h1, h2⟩ := trodAll_three hA
  obtain ⟨s, ops, rfl, hv_s, ho_s, _⟩ := slice_open (d := 3) (ty := yevergreenlaw14_Step) (by kernel_rfl) (hval 0 _ v0 rfl rfl) h0
  obtain ⟨a, rfl, rfl, rfl, w_a⟩ := open_int (k := .i64) (by kernel_rfl) (hval 1 _ v1 rfl rfl) h1
  obtain ⟨room, rfl, rfl, rfl, w_room⟩ := open_int (k := .u16) (by kernel_rfl) (hval 2 _ v2 rfl rfl) h2
  refine Calls.mono (law14_SplitFull_spec (K := fun r w => r = true ∧ Ext W w) (w0 := W) (a := a) (room := room) hv_s (fun o hm => stepOK_of (ho_s o hm)) (u16_range w_room) fun w' e => ⟨rfl, e⟩) fun e W' ⟨r, he, hr, hx⟩ => ?_
  subst he hr
  exact ⟨_, rfl, post_true laidOuts (by kernel_rfl) rfl (by kernel_rfl) rfl rfl hW' hx⟩
theorem splitFull_holds : Rows.SplitFullSaid :=
  OpenClaim.holds_of_wide 10 Try.f10 rfl rfl rfl rfl rfl rfl rfl ⟨rfl, rfl, rfl, rfl, rfl⟩ rfl rfl rfl rfl rfl (by kernel_rfl) Try.func10 (by kernel_rfl)
    (of_decide_eq_true (by kernel_rfl)) (by unfold Func.isWrapper; first | (rw [if_pos (by decide +kernel)]; kernel_rfl) | (rw [if_neg (by decide +kernel)]; exact ⟨rfl, rfl⟩))
    (fun os started H enc _ => splitFull_lifted os started H enc)
end Go.Proofs.Ytgbledjehnojeaa
