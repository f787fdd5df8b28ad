/-
  No cell of these rows narrows 'for every input' (looked for: loops, veiled, ifaces, maps, wideKeys, modest, calm, conditions, laid).
  DERIVED. THE GIVEN ROWS OF THIS SEAT. 9 by the template 'for every input the law returns true; each argument reads behind the call as it read before'; 0 by the template 'total and deterministic' (their statements: YtbghccafigmnjaaTotals.lean).
  GIVEN WITH THE SEED: the statements are not yours to turn. If you find one false, say at which input.
  Laid BY PROGRAM, IN A SANDBOX (cutbox-rows.mjs): the forced cells as the released guide's own fill.sh prints them over the translation 953a8d4ddfa5796f… (all of the seat's roots in one cut). By AI agents, Wed Nov 11 2026. No macro, syntax, notation, axiom, sorry.
-/
import Derived.Test.YtbghccafigmnjaaChecked
import GoSem.Claim
import GoSem.ClaimJoined
import GoSem.ClaimMapViews
import Derived.JoinedTies
import Derived.KernelRfl
namespace Go.Proofs.Ytbghccafigmnjaa
/- THE CELL 'sum', in the pinned program and in every row, IS THE sha256 OF THE DUMP (.gsa) THAT YtbghccafigmnjaaProg.lean LOADS. Nothing in Lean hashes anything: it is a label: what it is worth is what the hold of that sum in a sandbox is worth. -/
noncomputable def Try.pinned : Pinned := { name := "ytbghccafigmnjaa", sum := "953a8d4ddfa5796fb6431b23f9b666a13ba838905be1fb3995496f5d9fc3a08d", checked := Try.checked }
namespace Rows
def none {H : Type} : Left H := { results := [], args := [] }

/-- 'evergreenlaw12.CollectReaches': WHATEVER THE INPUT: true; the input reads as it did. -/
def collectReachesSpec : ChangeSpec := { name := "collectReaches", fn := fun _ => fun
  | [d1, d2] => { results := [.lit (.bool true)], args := [d1, d2] }
  | _ => none }
def collectReachesRow : OpenClaim := { program := "ytbghccafigmnjaa", sum := "953a8d4ddfa5796fb6431b23f9b666a13ba838905be1fb3995496f5d9fc3a08d", func := "evergreen/evergreenlaw12.CollectReaches", spec := "collectReaches", unfollowed := true, recurses := true, plainKeys := false, apart := false }
def CollectReachesSaid : Prop := collectReachesRow.holds Try.pinned (OpenSpec.ofChange collectReachesSpec)

/-- ITS FALSE NEIGHBOUR: 'it returns false'. Refute it at one input. -/
def collectReachesWrong : ChangeSpec := { name := "collectReaches", fn := fun _ => fun
  | [d1, d2] => { results := [.lit (.bool false)], args := [d1, d2] }
  | _ => none }
def CollectReachesWrongFalsely : Prop := collectReachesRow.holds Try.pinned (OpenSpec.ofChange collectReachesWrong)

/-- 'evergreenlaw12.CollectCloses': WHATEVER THE INPUT: true; the input reads as it did. -/
def collectClosesSpec : ChangeSpec := { name := "collectCloses", fn := fun _ => fun
  | [d1, d2, d3] => { results := [.lit (.bool true)], args := [d1, d2, d3] }
  | _ => none }
def collectClosesRow : OpenClaim := { program := "ytbghccafigmnjaa", sum := "953a8d4ddfa5796fb6431b23f9b666a13ba838905be1fb3995496f5d9fc3a08d", func := "evergreen/evergreenlaw12.CollectCloses", spec := "collectCloses", unfollowed := true, recurses := true, plainKeys := false, apart := false }
def CollectClosesSaid : Prop := collectClosesRow.holds Try.pinned (OpenSpec.ofChange collectClosesSpec)

/-- ITS FALSE NEIGHBOUR: 'it returns false'. Refute it at one input. -/
def collectClosesWrong : ChangeSpec := { name := "collectCloses", fn := fun _ => fun
  | [d1, d2, d3] => { results := [.lit (.bool false)], args := [d1, d2, d3] }
  | _ => none }
def CollectClosesWrongFalsely : Prop := collectClosesRow.holds Try.pinned (OpenSpec.ofChange collectClosesWrong)

/-- 'evergreenlaw12.CollectCounts': WHATEVER THE INPUT: true; the input reads as it did. -/
def collectCountsSpec : ChangeSpec := { name := "collectCounts", fn := fun _ => fun
  | [d1, d2] => { results := [.lit (.bool true)], args := [d1, d2] }
  | _ => none }
def collectCountsRow : OpenClaim := { program := "ytbghccafigmnjaa", sum := "953a8d4ddfa5796fb6431b23f9b666a13ba838905be1fb3995496f5d9fc3a08d", func := "evergreen/evergreenlaw12.CollectCounts", spec := "collectCounts", unfollowed := true, recurses := true, plainKeys := false, apart := false }
def CollectCountsSaid : Prop := collectCountsRow.holds Try.pinned (OpenSpec.ofChange collectCountsSpec)

/-- ITS FALSE NEIGHBOUR: 'it returns false'. Refute it at one input. -/
def collectCountsWrong : ChangeSpec := { name := "collectCounts", fn := fun _ => fun
  | [d1, d2] => { results := [.lit (.bool false)], args := [d1, d2] }
  | _ => none }
def CollectCountsWrongFalsely : Prop := collectCountsRow.holds Try.pinned (OpenSpec.ofChange collectCountsWrong)

/-- 'evergreenlaw12.CollectSums': WHATEVER THE INPUT: true; the input reads as it did. -/
def collectSumsSpec : ChangeSpec := { name := "collectSums", fn := fun _ => fun
  | [d1, d2] => { results := [.lit (.bool true)], args := [d1, d2] }
  | _ => none }
def collectSumsRow : OpenClaim := { program := "ytbghccafigmnjaa", sum := "953a8d4ddfa5796fb6431b23f9b666a13ba838905be1fb3995496f5d9fc3a08d", func := "evergreen/evergreenlaw12.CollectSums", spec := "collectSums", unfollowed := true, recurses := true, plainKeys := false, apart := false }
def CollectSumsSaid : Prop := collectSumsRow.holds Try.pinned (OpenSpec.ofChange collectSumsSpec)

/-- ITS FALSE NEIGHBOUR: 'it returns false'. Refute it at one input. -/
def collectSumsWrong : ChangeSpec := { name := "collectSums", fn := fun _ => fun
  | [d1, d2] => { results := [.lit (.bool false)], args := [d1, d2] }
  | _ => none }
def CollectSumsWrongFalsely : Prop := collectSumsRow.holds Try.pinned (OpenSpec.ofChange collectSumsWrong)

/-- 'evergreenlaw12.CollectHolds': WHATEVER THE INPUT: true; the input reads as it did. -/
def collectHoldsSpec : ChangeSpec := { name := "collectHolds", fn := fun _ => fun
  | [d1, d2] => { results := [.lit (.bool true)], args := [d1, d2] }
  | _ => none }
def collectHoldsRow : OpenClaim := { program := "ytbghccafigmnjaa", sum := "953a8d4ddfa5796fb6431b23f9b666a13ba838905be1fb3995496f5d9fc3a08d", func := "evergreen/evergreenlaw12.CollectHolds", spec := "collectHolds", unfollowed := true, recurses := true, plainKeys := false, apart := false }
def CollectHoldsSaid : Prop := collectHoldsRow.holds Try.pinned (OpenSpec.ofChange collectHoldsSpec)

/-- ITS FALSE NEIGHBOUR: 'it returns false'. Refute it at one input. -/
def collectHoldsWrong : ChangeSpec := { name := "collectHolds", fn := fun _ => fun
  | [d1, d2] => { results := [.lit (.bool false)], args := [d1, d2] }
  | _ => none }
def CollectHoldsWrongFalsely : Prop := collectHoldsRow.holds Try.pinned (OpenSpec.ofChange collectHoldsWrong)

/-- 'evergreenlaw12.CollectSweeps': WHATEVER THE INPUT: true; the input reads as it did. -/
def collectSweepsSpec : ChangeSpec := { name := "collectSweeps", fn := fun _ => fun
  | [d1, d2, d3] => { results := [.lit (.bool true)], args := [d1, d2, d3] }
  | _ => none }
def collectSweepsRow : OpenClaim := { program := "ytbghccafigmnjaa", sum := "953a8d4ddfa5796fb6431b23f9b666a13ba838905be1fb3995496f5d9fc3a08d", func := "evergreen/evergreenlaw12.CollectSweeps", spec := "collectSweeps", unfollowed := true, recurses := true, plainKeys := false, apart := false }
def CollectSweepsSaid : Prop := collectSweepsRow.holds Try.pinned (OpenSpec.ofChange collectSweepsSpec)

/-- ITS FALSE NEIGHBOUR: 'it returns false'. Refute it at one input. -/
def collectSweepsWrong : ChangeSpec := { name := "collectSweeps", fn := fun _ => fun
  | [d1, d2, d3] => { results := [.lit (.bool false)], args := [d1, d2, d3] }
  | _ => none }
def CollectSweepsWrongFalsely : Prop := collectSweepsRow.holds Try.pinned (OpenSpec.ofChange collectSweepsWrong)

/-- 'evergreenlaw12.CollectAgain': WHATEVER THE INPUT: true; the input reads as it did. -/
def collectAgainSpec : ChangeSpec := { name := "collectAgain", fn := fun _ => fun
  | [d1, d2] => { results := [.lit (.bool true)], args := [d1, d2] }
  | _ => none }
def collectAgainRow : OpenClaim := { program := "ytbghccafigmnjaa", sum := "953a8d4ddfa5796fb6431b23f9b666a13ba838905be1fb3995496f5d9fc3a08d", func := "evergreen/evergreenlaw12.CollectAgain", spec := "collectAgain", unfollowed := true, recurses := true, plainKeys := false, apart := false }
def CollectAgainSaid : Prop := collectAgainRow.holds Try.pinned (OpenSpec.ofChange collectAgainSpec)

/-- ITS FALSE NEIGHBOUR: 'it returns false'. Refute it at one input. -/
def collectAgainWrong : ChangeSpec := { name := "collectAgain", fn := fun _ => fun
  | [d1, d2] => { results := [.lit (.bool false)], args := [d1, d2] }
  | _ => none }
def CollectAgainWrongFalsely : Prop := collectAgainRow.holds Try.pinned (OpenSpec.ofChange collectAgainWrong)

/-- 'evergreenlaw12.CollectNone': WHATEVER THE INPUT: true; the input reads as it did. -/
def collectNoneSpec : ChangeSpec := { name := "collectNone", fn := fun _ => fun
  | [d1, d2] => { results := [.lit (.bool true)], args := [d1, d2] }
  | _ => none }
def collectNoneRow : OpenClaim := { program := "ytbghccafigmnjaa", sum := "953a8d4ddfa5796fb6431b23f9b666a13ba838905be1fb3995496f5d9fc3a08d", func := "evergreen/evergreenlaw12.CollectNone", spec := "collectNone", unfollowed := true, recurses := true, plainKeys := false, apart := false }
def CollectNoneSaid : Prop := collectNoneRow.holds Try.pinned (OpenSpec.ofChange collectNoneSpec)

/-- ITS FALSE NEIGHBOUR: 'it returns false'. Refute it at one input. -/
def collectNoneWrong : ChangeSpec := { name := "collectNone", fn := fun _ => fun
  | [d1, d2] => { results := [.lit (.bool false)], args := [d1, d2] }
  | _ => none }
def CollectNoneWrongFalsely : Prop := collectNoneRow.holds Try.pinned (OpenSpec.ofChange collectNoneWrong)

/-- 'evergreenlaw12.CollectKeeps': WHATEVER THE INPUT: true; the input reads as it did. -/
def collectKeepsSpec : ChangeSpec := { name := "collectKeeps", fn := fun _ => fun
  | [d1, d2] => { results := [.lit (.bool true)], args := [d1, d2] }
  | _ => none }
def collectKeepsRow : OpenClaim := { program := "ytbghccafigmnjaa", sum := "953a8d4ddfa5796fb6431b23f9b666a13ba838905be1fb3995496f5d9fc3a08d", func := "evergreen/evergreenlaw12.CollectKeeps", spec := "collectKeeps", unfollowed := true, recurses := true, plainKeys := false, apart := false }
def CollectKeepsSaid : Prop := collectKeepsRow.holds Try.pinned (OpenSpec.ofChange collectKeepsSpec)

/-- ITS FALSE NEIGHBOUR: 'it returns false'. Refute it at one input. -/
def collectKeepsWrong : ChangeSpec := { name := "collectKeeps", fn := fun _ => fun
  | [d1, d2] => { results := [.lit (.bool false)], args := [d1, d2] }
  | _ => none }
def CollectKeepsWrongFalsely : Prop := collectKeepsRow.holds Try.pinned (OpenSpec.ofChange collectKeepsWrong)

/- THE SECOND FORM. 'bulk': how many values and letters a reading holds, each counted each time it is reached (what is shared counts as often as it is met; a slice's spare places count too). A statement '..UptoSaid' is the law's where the arguments, and the package variables that the reading takes, are together of bulk at most 1048576: NARROWER than '..Said'. Prove '..Said' where nothing that the law and all that it calls make is longer than what came in: it says more and counts as full. Else prove '..UptoSaid'. A law counts once. -/
mutual
def uptoBulk {H : Type} : DataW H → Nat
  | .lit (.string bytes) => bytes.length + 1
  | .lit _ => 1
  | .nil => 1
  | .ptr d => uptoBulk d + 1
  | .slice elems spare => uptoBulkAll elems + uptoBulkAll spare + 1
  | .agg parts => uptoBulkAll parts + 1
  | .iface _ d => uptoBulk d + 1
  | .map entries => uptoBulkEntries entries + 1
  | .held _ => 1
def uptoBulkAll {H : Type} : List (DataW H) → Nat
  | [] => 0
  | d :: r => uptoBulk d + uptoBulkAll r
def uptoBulkEntries {H : Type} : List (Lit × DataW H) → Nat
  | [] => 0
  | x :: r => uptoBulkEntry x + uptoBulkEntries r
def uptoBulkEntry {H : Type} : Lit × DataW H → Nat
  | (.string bytes, d) => bytes.length + uptoBulk d + 1
  | (_, d) => uptoBulk d + 1
 end
def uptoSmall : (H : Type) → List (DataW H) → Bool := fun _ ds => decide (uptoBulkAll ds ≤ 1048576)
def OpenSpec.upto (s : _root_.Go.ChangeSpec) : _root_.Go.OpenSpec := { _root_.Go.OpenSpec.ofChange s with cond := some uptoSmall }

/-- 'evergreenlaw12.CollectReaches', WHERE WHAT IT READS IS OF BULK AT MOST 1048576: true; the input reads as it did. -/
def collectReachesUptoRow : OpenClaim := { program := "ytbghccafigmnjaa", sum := "953a8d4ddfa5796fb6431b23f9b666a13ba838905be1fb3995496f5d9fc3a08d", func := "evergreen/evergreenlaw12.CollectReaches", spec := "collectReaches", unfollowed := true, recurses := true, plainKeys := false, apart := false, narrowed := true }
def CollectReachesUptoSaid : Prop := collectReachesUptoRow.holds Try.pinned (OpenSpec.upto collectReachesSpec)

/-- 'evergreenlaw12.CollectCloses', WHERE WHAT IT READS IS OF BULK AT MOST 1048576: true; the input reads as it did. -/
def collectClosesUptoRow : OpenClaim := { program := "ytbghccafigmnjaa", sum := "953a8d4ddfa5796fb6431b23f9b666a13ba838905be1fb3995496f5d9fc3a08d", func := "evergreen/evergreenlaw12.CollectCloses", spec := "collectCloses", unfollowed := true, recurses := true, plainKeys := false, apart := false, narrowed := true }
def CollectClosesUptoSaid : Prop := collectClosesUptoRow.holds Try.pinned (OpenSpec.upto collectClosesSpec)

/-- 'evergreenlaw12.CollectCounts', WHERE WHAT IT READS IS OF BULK AT MOST 1048576: true; the input reads as it did. -/
def collectCountsUptoRow : OpenClaim := { program := "ytbghccafigmnjaa", sum := "953a8d4ddfa5796fb6431b23f9b666a13ba838905be1fb3995496f5d9fc3a08d", func := "evergreen/evergreenlaw12.CollectCounts", spec := "collectCounts", unfollowed := true, recurses := true, plainKeys := false, apart := false, narrowed := true }
def CollectCountsUptoSaid : Prop := collectCountsUptoRow.holds Try.pinned (OpenSpec.upto collectCountsSpec)

/-- 'evergreenlaw12.CollectSums', WHERE WHAT IT READS IS OF BULK AT MOST 1048576: true; the input reads as it did. -/
def collectSumsUptoRow : OpenClaim := { program := "ytbghccafigmnjaa", sum := "953a8d4ddfa5796fb6431b23f9b666a13ba838905be1fb3995496f5d9fc3a08d", func := "evergreen/evergreenlaw12.CollectSums", spec := "collectSums", unfollowed := true, recurses := true, plainKeys := false, apart := false, narrowed := true }
def CollectSumsUptoSaid : Prop := collectSumsUptoRow.holds Try.pinned (OpenSpec.upto collectSumsSpec)

/-- 'evergreenlaw12.CollectHolds', WHERE WHAT IT READS IS OF BULK AT MOST 1048576: true; the input reads as it did. -/
def collectHoldsUptoRow : OpenClaim := { program := "ytbghccafigmnjaa", sum := "953a8d4ddfa5796fb6431b23f9b666a13ba838905be1fb3995496f5d9fc3a08d", func := "evergreen/evergreenlaw12.CollectHolds", spec := "collectHolds", unfollowed := true, recurses := true, plainKeys := false, apart := false, narrowed := true }
def CollectHoldsUptoSaid : Prop := collectHoldsUptoRow.holds Try.pinned (OpenSpec.upto collectHoldsSpec)

/-- 'evergreenlaw12.CollectSweeps', WHERE WHAT IT READS IS OF BULK AT MOST 1048576: true; the input reads as it did. -/
def collectSweepsUptoRow : OpenClaim := { program := "ytbghccafigmnjaa", sum := "953a8d4ddfa5796fb6431b23f9b666a13ba838905be1fb3995496f5d9fc3a08d", func := "evergreen/evergreenlaw12.CollectSweeps", spec := "collectSweeps", unfollowed := true, recurses := true, plainKeys := false, apart := false, narrowed := true }
def CollectSweepsUptoSaid : Prop := collectSweepsUptoRow.holds Try.pinned (OpenSpec.upto collectSweepsSpec)

/-- 'evergreenlaw12.CollectAgain', WHERE WHAT IT READS IS OF BULK AT MOST 1048576: true; the input reads as it did. -/
def collectAgainUptoRow : OpenClaim := { program := "ytbghccafigmnjaa", sum := "953a8d4ddfa5796fb6431b23f9b666a13ba838905be1fb3995496f5d9fc3a08d", func := "evergreen/evergreenlaw12.CollectAgain", spec := "collectAgain", unfollowed := true, recurses := true, plainKeys := false, apart := false, narrowed := true }
def CollectAgainUptoSaid : Prop := collectAgainUptoRow.holds Try.pinned (OpenSpec.upto collectAgainSpec)

/-- 'evergreenlaw12.CollectNone', WHERE WHAT IT READS IS OF BULK AT MOST 1048576: true; the input reads as it did. -/
def collectNoneUptoRow : OpenClaim := { program := "ytbghccafigmnjaa", sum := "953a8d4ddfa5796fb6431b23f9b666a13ba838905be1fb3995496f5d9fc3a08d", func := "evergreen/evergreenlaw12.CollectNone", spec := "collectNone", unfollowed := true, recurses := true, plainKeys := false, apart := false, narrowed := true }
def CollectNoneUptoSaid : Prop := collectNoneUptoRow.holds Try.pinned (OpenSpec.upto collectNoneSpec)

/-- 'evergreenlaw12.CollectKeeps', WHERE WHAT IT READS IS OF BULK AT MOST 1048576: true; the input reads as it did. -/
def collectKeepsUptoRow : OpenClaim := { program := "ytbghccafigmnjaa", sum := "953a8d4ddfa5796fb6431b23f9b666a13ba838905be1fb3995496f5d9fc3a08d", func := "evergreen/evergreenlaw12.CollectKeeps", spec := "collectKeeps", unfollowed := true, recurses := true, plainKeys := false, apart := false, narrowed := true }
def CollectKeepsUptoSaid : Prop := collectKeepsUptoRow.holds Try.pinned (OpenSpec.upto collectKeepsSpec)

end Rows
end Go.Proofs.Ytbghccafigmnjaa
