/- CollectCloses, where what it reads is of bulk at most 1048576: the statement in its second form, proved. For every such input the function returns true and leaves its arguments as they were. -/
import Derived.Test.YtbghccafigmnjaaRows
import Derived.JoinedCond
import Derived.ProofKit
import Derived.Test.YtbghccafigmnjaaGF
import Derived.Test.YtbghccafigmnjaaGB
/- CollectCloses, where what it reads is of bulk at most 1048576: the statement in its second form, proved. For every such input the function returns true and leaves its arguments as they were. -/
namespace Go.Proofs.Ytbghccafigmnjaa
open Go.Den
open Go.ChangeShapes Go.WideShapes Go.ChangeAt Go.RowKit Go.Deep

theorem ownKnobs : ownKnob P.godebug = none := by kernel_rfl
theorem laidOuts : laidOutB P = true := by kernel_rfl
theorem bulk_one {H : Type} (d : DataW H) : 1 ≤ Rows.uptoBulk d := by
  cases d with
  | lit l => cases l <;> simp [Rows.uptoBulk]
  | nil => simp [Rows.uptoBulk]
  | ptr d => simp [Rows.uptoBulk]
  | slice a b => simp [Rows.uptoBulk]
  | agg a => simp [Rows.uptoBulk]
  | iface a b => simp [Rows.uptoBulk]
  | map a => simp [Rows.uptoBulk]
  | held a => simp [Rows.uptoBulk]
theorem bulk_all {H : Type} : ∀ l : List (DataW H), l.length ≤ Rows.uptoBulkAll l
  | [] => Nat.zero_le _
  | d :: r => by
    have h1 := bulk_one d
    have h2 := bulk_all r
    rw [Rows.uptoBulkAll]
    simp only [List.length_cons]; omega
theorem slice_bulk {H : Type} {enc : TypeId × Value → H} {w : World} {base : Nat} {held : Bool} {t : TypeId} {s : Sl} {dd : DataW H} {p : List MemPlace} (hs : (sliceElem P t).isSome = true) (h : DataW.Trod enc P w base (fun _ => true) held t (.slice s.a s.len s.cap) dd p) : s.len ≤ Rows.uptoBulk dd := by
  obtain ⟨e, he⟩ := Option.isSome_iff_exists.1 hs
  have ht := sliceElem_spec he
  obtain ⟨n, hx⟩ := h
  rcases open_slice ht hx with ⟨hcs, _⟩ | ⟨a, len, cap, m, n', D, Pl, hcs, _, hl, hm, hmm, hxx, hi⟩
  · have hcs' : Value.slice s.a s.len s.cap = .slice none 0 0 := by simpa [Value.cells] using hcs
    obtain ⟨sa, sl, sc⟩ := s
    simp only [Value.slice.injEq] at hcs'
    obtain ⟨rfl, rfl, rfl⟩ := hcs'
    exact Nat.zero_le _
  · have hcs' : Value.slice s.a s.len s.cap = .slice (some a) len cap := by simpa [Value.cells] using hcs
    obtain ⟨sa, sl, sc⟩ := s
    simp only [Value.slice.injEq] at hcs'
    obtain ⟨rfl, rfl, rfl⟩ := hcs'
    simp only [Prod.mk.injEq] at hxx
    obtain ⟨rfl, _⟩ := hxx
    rw [Rows.uptoBulk]
    have := bulk_all ((List.range sl).map D)
    simp only [List.length_map, List.length_range] at this
    dsimp only
    omega

set_option maxRecDepth 100000 in
theorem collectCloses_lifted (os : Os) (started : os.Started) (H : Type) (enc : TypeId × Value → H) (F : Stop.Interp) :
    ReturnsInHanded {} Try.checked os 4 .any ((Rows.OpenSpec.upto Rows.collectClosesSpec).pre6 enc Try.prog Try.f4 Rows.collectClosesUptoRow.domain false) (((Rows.OpenSpec.upto Rows.collectClosesSpec).at F).post enc Try.prog Try.f4 false true false false) := by
  refine returnsInHanded_of_cond (C := Try.checked) (s := Rows.OpenSpec.upto Rows.collectClosesSpec) (k := Rows.uptoSmall) rfl ownKnobs started (by kernel_rfl) Try.func4
    (OpenSpec.witness (enc := enc) (C := Try.checked) (s := Rows.OpenSpec.upto Rows.collectClosesSpec) (k := Rows.uptoSmall) rfl false ⟨#[], #[.slice none 0 0, .slice none 0 0, .slice none 0 0], []⟩ 8 (by kernel_rfl) (by kernel_rfl) (by kernel_rfl)
      (x := ([.nil, .nil, .nil], [], [])) (by kernel_rfl) rfl (by kernel_rfl)) ?_
  intro W base args ds gs before hval0 hW hcnd hkk _
  have hval : ∀ (j : Nat) t v, Try.f4.params[j]? = some t → args[j]? = some v → Value.okWide Try.prog W .any base t v := hval0
  have hW' := hW
  obtain ⟨p, q, hA0, hV, rfl, hfz, hnd⟩ := hW
  have hA : DataW.TrodAll enc Try.prog W 0 (fun _ => true) true Try.f4.params.toList args.toList ds p := hA0
  rw [Try.params4] at hA hval
  obtain ⟨v0, v1, v2, d0, d1, d2, p0, p1, p2, rfl, rfl, rfl, h0, h1, h2⟩ := trodAll_three hA
  obtain ⟨s, ops, rfl, hv_s, ho_s, _⟩ := slice_open (d := 3) (ty := yevergreenref12_Make) (by kernel_rfl) (hval 0 _ v0 rfl rfl) h0
  obtain ⟨s1, one_, rfl, hv_s1, ho_s1, _⟩ := slice_open (d := 1) (ty := .int .i64) (by kernel_rfl) (hval 1 _ v1 rfl rfl) h1
  obtain ⟨s2, two_, rfl, hv_s2, ho_s2, _⟩ := slice_open (d := 1) (ty := .int .i64) (by kernel_rfl) (hval 2 _ v2 rfl rfl) h2
  have hb : Rows.uptoBulkAll ([d0, d1, d2] ++ gs) ≤ 1048576 := of_decide_eq_true hkk
  simp only [List.cons_append, List.nil_append, Rows.uptoBulkAll] at hb
  have b1 := slice_bulk (by kernel_rfl) h1
  have b2 := slice_bulk (by kernel_rfl) h2
  refine Calls.mono (law12_CollectCloses_spec (K := fun r w => r = true ∧ Ext W w) (w0 := W) hv_s (fun o hm => makeOK_of (ho_s o hm)) hv_s1 hv_s2 (by omega) (by omega) fun w' e => ⟨rfl, e⟩) fun e W' ⟨r, he, hr, hx⟩ => ?_
  subst he hr
  exact ⟨_, rfl, post_true laidOuts (by kernel_rfl) rfl (by kernel_rfl) rfl rfl hW' hx⟩
theorem collectClosesUpto_holds : Rows.CollectClosesUptoSaid :=
  OpenClaim.holds_of_cond 4 Try.f4 rfl rfl rfl rfl rfl rfl rfl ⟨rfl, rfl, rfl, rfl, rfl⟩ rfl rfl rfl rfl rfl (by kernel_rfl) Try.func4 (by kernel_rfl)
    (of_decide_eq_true (by kernel_rfl)) (by unfold Func.isWrapper; first | (rw [if_pos (by decide +kernel)]; kernel_rfl) | (rw [if_neg (by decide +kernel)]; exact ⟨rfl, rfl⟩))
    (fun os started H enc _ F => collectCloses_lifted os started H enc F)
end Go.Proofs.Ytbghccafigmnjaa
