/-
  No cell of these rows narrows 'for every input' (looked for: loops, veiled, ifaces, maps, wideKeys, modest, calm, conditions, laid).
  DERIVED. THE GIVEN ROWS OF THIS SEAT. 3 by the template 'for every input the law returns true; each argument reads behind the call as it read before'; 0 by the template 'total and deterministic' (their statements: YtcmncfglcjcmhaaGreatTotals.lean).
  GIVEN WITH THE SEED: the statements are not yours to turn. If you find one false, say at which input.
  Laid BY PROGRAM, IN A SANDBOX (cutbox-rows.mjs): the forced cells as the released guide's own fill.sh prints them over the translation c3b57e39e2553ecb… (all of the seat's roots in one cut). By AI agents, Wed Nov 11 2026. No macro, syntax, notation, axiom, sorry.
-/
import Derived.Test.YtcmncfglcjcmhaaGreatChecked
import GoSem.Claim
import GoSem.ClaimJoined
import GoSem.ClaimMapViews
import Derived.JoinedTies
import Derived.KernelRfl
namespace Go.Proofs.YtcmncfglcjcmhaaGreat
/- THE CELL 'sum', in the pinned program and in every row, IS THE sha256 OF THE DUMP (.gsa) THAT YtcmncfglcjcmhaaGreatProg.lean LOADS. Nothing in Lean hashes anything: it is a label: what it is worth is what the hold of that sum in a sandbox is worth. -/
noncomputable def Tryz.pinned : Pinned := { name := "ytcmncfglcjcmhaagreat", sum := "c3b57e39e2553ecb0dc21cd2ce19f5b508967d28fcace60119d6a31136c20043", checked := Tryz.checked }
namespace Rows
def none {H : Type} : Left H := { results := [], args := [] }

/-- 'evergreentop.WholeCursors': WHATEVER THE INPUT: true; the input reads as it did. -/
def wholeCursorsSpec : ChangeSpec := { name := "wholeCursors", fn := fun _ => fun
  | [d1, d2] => { results := [.lit (.bool true)], args := [d1, d2] }
  | _ => none }
def wholeCursorsRow : OpenClaim := { program := "ytcmncfglcjcmhaagreat", sum := "c3b57e39e2553ecb0dc21cd2ce19f5b508967d28fcace60119d6a31136c20043", func := "evergreen/evergreentop.WholeCursors", spec := "wholeCursors", unfollowed := true, recurses := true, plainKeys := false, apart := false }
def WholeCursorsSaid : Prop := wholeCursorsRow.holds Tryz.pinned (OpenSpec.ofChange wholeCursorsSpec)

/-- ITS FALSE NEIGHBOUR: 'it returns false'. Refute it at one input. -/
def wholeCursorsWrong : ChangeSpec := { name := "wholeCursors", fn := fun _ => fun
  | [d1, d2] => { results := [.lit (.bool false)], args := [d1, d2] }
  | _ => none }
def WholeCursorsWrongFalsely : Prop := wholeCursorsRow.holds Tryz.pinned (OpenSpec.ofChange wholeCursorsWrong)

/-- 'evergreentop.WholeWalks': WHATEVER THE INPUT: true; the input reads as it did. -/
def wholeWalksSpec : ChangeSpec := { name := "wholeWalks", fn := fun _ => fun
  | [d1, d2, d3] => { results := [.lit (.bool true)], args := [d1, d2, d3] }
  | _ => none }
def wholeWalksRow : OpenClaim := { program := "ytcmncfglcjcmhaagreat", sum := "c3b57e39e2553ecb0dc21cd2ce19f5b508967d28fcace60119d6a31136c20043", func := "evergreen/evergreentop.WholeWalks", spec := "wholeWalks", unfollowed := true, recurses := true, plainKeys := false, apart := false }
def WholeWalksSaid : Prop := wholeWalksRow.holds Tryz.pinned (OpenSpec.ofChange wholeWalksSpec)

/-- ITS FALSE NEIGHBOUR: 'it returns false'. Refute it at one input. -/
def wholeWalksWrong : ChangeSpec := { name := "wholeWalks", fn := fun _ => fun
  | [d1, d2, d3] => { results := [.lit (.bool false)], args := [d1, d2, d3] }
  | _ => none }
def WholeWalksWrongFalsely : Prop := wholeWalksRow.holds Tryz.pinned (OpenSpec.ofChange wholeWalksWrong)

/-- 'evergreentop.WholeAccess': WHATEVER THE INPUT: true; the input reads as it did. -/
def wholeAccessSpec : ChangeSpec := { name := "wholeAccess", fn := fun _ => fun
  | [d1, d2, d3] => { results := [.lit (.bool true)], args := [d1, d2, d3] }
  | _ => none }
def wholeAccessRow : OpenClaim := { program := "ytcmncfglcjcmhaagreat", sum := "c3b57e39e2553ecb0dc21cd2ce19f5b508967d28fcace60119d6a31136c20043", func := "evergreen/evergreentop.WholeAccess", spec := "wholeAccess", unfollowed := true, recurses := true, plainKeys := false, apart := false }
def WholeAccessSaid : Prop := wholeAccessRow.holds Tryz.pinned (OpenSpec.ofChange wholeAccessSpec)

/-- ITS FALSE NEIGHBOUR: 'it returns false'. Refute it at one input. -/
def wholeAccessWrong : ChangeSpec := { name := "wholeAccess", fn := fun _ => fun
  | [d1, d2, d3] => { results := [.lit (.bool false)], args := [d1, d2, d3] }
  | _ => none }
def WholeAccessWrongFalsely : Prop := wholeAccessRow.holds Tryz.pinned (OpenSpec.ofChange wholeAccessWrong)

/- THE SECOND FORM. 'bulk': how many values and letters a reading holds, each counted each time it is reached (what is shared counts as often as it is met; a slice's spare places count too). A statement '..UptoSaid' is the law's where the arguments, and the package variables that the reading takes, are together of bulk at most 1048576: NARROWER than '..Said'. Prove '..Said' where nothing that the law and all that it calls make is longer than what came in: it says more and counts as full. Else prove '..UptoSaid'. A law counts once. -/
mutual
def uptoBulk {H : Type} : DataW H → Nat
  | .lit (.string bytes) => bytes.length + 1
  | .lit _ => 1
  | .nil => 1
  | .ptr d => uptoBulk d + 1
  | .slice elems spare => uptoBulkAll elems + uptoBulkAll spare + 1
  | .agg parts => uptoBulkAll parts + 1
  | .iface _ d => uptoBulk d + 1
  | .map entries => uptoBulkEntries entries + 1
  | .held _ => 1
def uptoBulkAll {H : Type} : List (DataW H) → Nat
  | [] => 0
  | d :: r => uptoBulk d + uptoBulkAll r
def uptoBulkEntries {H : Type} : List (Lit × DataW H) → Nat
  | [] => 0
  | x :: r => uptoBulkEntry x + uptoBulkEntries r
def uptoBulkEntry {H : Type} : Lit × DataW H → Nat
  | (.string bytes, d) => bytes.length + uptoBulk d + 1
  | (_, d) => uptoBulk d + 1
 end
def uptoSmall : (H : Type) → List (DataW H) → Bool := fun _ ds => decide (uptoBulkAll ds ≤ 1048576)
def OpenSpec.upto (s : _root_.Go.ChangeSpec) : _root_.Go.OpenSpec := { _root_.Go.OpenSpec.ofChange s with cond := some uptoSmall }

/-- 'evergreentop.WholeCursors', WHERE WHAT IT READS IS OF BULK AT MOST 1048576: true; the input reads as it did. -/
def wholeCursorsUptoRow : OpenClaim := { program := "ytcmncfglcjcmhaagreat", sum := "c3b57e39e2553ecb0dc21cd2ce19f5b508967d28fcace60119d6a31136c20043", func := "evergreen/evergreentop.WholeCursors", spec := "wholeCursors", unfollowed := true, recurses := true, plainKeys := false, apart := false, narrowed := true }
def WholeCursorsUptoSaid : Prop := wholeCursorsUptoRow.holds Tryz.pinned (OpenSpec.upto wholeCursorsSpec)

/-- 'evergreentop.WholeWalks', WHERE WHAT IT READS IS OF BULK AT MOST 1048576: true; the input reads as it did. -/
def wholeWalksUptoRow : OpenClaim := { program := "ytcmncfglcjcmhaagreat", sum := "c3b57e39e2553ecb0dc21cd2ce19f5b508967d28fcace60119d6a31136c20043", func := "evergreen/evergreentop.WholeWalks", spec := "wholeWalks", unfollowed := true, recurses := true, plainKeys := false, apart := false, narrowed := true }
def WholeWalksUptoSaid : Prop := wholeWalksUptoRow.holds Tryz.pinned (OpenSpec.upto wholeWalksSpec)

/-- 'evergreentop.WholeAccess', WHERE WHAT IT READS IS OF BULK AT MOST 1048576: true; the input reads as it did. -/
def wholeAccessUptoRow : OpenClaim := { program := "ytcmncfglcjcmhaagreat", sum := "c3b57e39e2553ecb0dc21cd2ce19f5b508967d28fcace60119d6a31136c20043", func := "evergreen/evergreentop.WholeAccess", spec := "wholeAccess", unfollowed := true, recurses := true, plainKeys := false, apart := false, narrowed := true }
def WholeAccessUptoSaid : Prop := wholeAccessUptoRow.holds Tryz.pinned (OpenSpec.upto wholeAccessSpec)

end Rows
end Go.Proofs.YtcmncfglcjcmhaaGreat
