/-
  No cell of these rows narrows 'for every input' (looked for: loops, veiled, ifaces, maps, wideKeys, modest, calm, conditions, laid).
  DERIVED. THE GIVEN ROWS OF THIS SEAT. 8 by the template 'for every input the law returns true; each argument reads behind the call as it read before'; 0 by the template 'total and deterministic' (their statements: YtgbledjehnojeaaTotals.lean).
  GIVEN WITH THE SEED: the statements are not yours to turn. If you find one false, say at which input.
  Laid BY PROGRAM, IN A SANDBOX (cutbox-rows.mjs): the forced cells as the released guide's own fill.sh prints them over the translation 36a238e382c133e7… (all of the seat's roots in one cut). By AI agents, Wed Nov 11 2026. No macro, syntax, notation, axiom, sorry.
-/
import Derived.Test.YtgbledjehnojeaaChecked
import GoSem.Claim
import GoSem.ClaimJoined
import GoSem.ClaimMapViews
import Derived.JoinedTies
import Derived.KernelRfl
namespace Go.Proofs.Ytgbledjehnojeaa
/- THE CELL 'sum', in the pinned program and in every row, IS THE sha256 OF THE DUMP (.gsa) THAT YtgbledjehnojeaaProg.lean LOADS. Nothing in Lean hashes anything: it is a label: what it is worth is what the hold of that sum in a sandbox is worth. -/
noncomputable def Try.pinned : Pinned := { name := "ytgbledjehnojeaa", sum := "36a238e382c133e78d02946556e1330e64cc753789ee822c59c17fafed6a496f", checked := Try.checked }
namespace Rows
def none {H : Type} : Left H := { results := [], args := [] }

/-- 'evergreenlaw14.SplitRejoins': WHATEVER THE INPUT: true; the input reads as it did. -/
def splitRejoinsSpec : ChangeSpec := { name := "splitRejoins", fn := fun _ => fun
  | [d1, d2] => { results := [.lit (.bool true)], args := [d1, d2] }
  | _ => none }
def splitRejoinsRow : OpenClaim := { program := "ytgbledjehnojeaa", sum := "36a238e382c133e78d02946556e1330e64cc753789ee822c59c17fafed6a496f", func := "evergreen/evergreenlaw14.SplitRejoins", spec := "splitRejoins", recurses := true, plainKeys := false, apart := false }
def SplitRejoinsSaid : Prop := splitRejoinsRow.holds Try.pinned (OpenSpec.ofChange splitRejoinsSpec)

/-- ITS FALSE NEIGHBOUR: 'it returns false'. Refute it at one input. -/
def splitRejoinsWrong : ChangeSpec := { name := "splitRejoins", fn := fun _ => fun
  | [d1, d2] => { results := [.lit (.bool false)], args := [d1, d2] }
  | _ => none }
def SplitRejoinsWrongFalsely : Prop := splitRejoinsRow.holds Try.pinned (OpenSpec.ofChange splitRejoinsWrong)

/-- 'evergreenlaw14.SplitCreates': WHATEVER THE INPUT: true; the input reads as it did. -/
def splitCreatesSpec : ChangeSpec := { name := "splitCreates", fn := fun _ => fun
  | [d1, d2, d3] => { results := [.lit (.bool true)], args := [d1, d2, d3] }
  | _ => none }
def splitCreatesRow : OpenClaim := { program := "ytgbledjehnojeaa", sum := "36a238e382c133e78d02946556e1330e64cc753789ee822c59c17fafed6a496f", func := "evergreen/evergreenlaw14.SplitCreates", spec := "splitCreates", recurses := true, plainKeys := false, apart := false }
def SplitCreatesSaid : Prop := splitCreatesRow.holds Try.pinned (OpenSpec.ofChange splitCreatesSpec)

/-- ITS FALSE NEIGHBOUR: 'it returns false'. Refute it at one input. -/
def splitCreatesWrong : ChangeSpec := { name := "splitCreates", fn := fun _ => fun
  | [d1, d2, d3] => { results := [.lit (.bool false)], args := [d1, d2, d3] }
  | _ => none }
def SplitCreatesWrongFalsely : Prop := splitCreatesRow.holds Try.pinned (OpenSpec.ofChange splitCreatesWrong)

/-- 'evergreenlaw14.SplitNests': WHATEVER THE INPUT: true; the input reads as it did. -/
def splitNestsSpec : ChangeSpec := { name := "splitNests", fn := fun _ => fun
  | [d1, d2] => { results := [.lit (.bool true)], args := [d1, d2] }
  | _ => none }
def splitNestsRow : OpenClaim := { program := "ytgbledjehnojeaa", sum := "36a238e382c133e78d02946556e1330e64cc753789ee822c59c17fafed6a496f", func := "evergreen/evergreenlaw14.SplitNests", spec := "splitNests", recurses := true, plainKeys := false, apart := false }
def SplitNestsSaid : Prop := splitNestsRow.holds Try.pinned (OpenSpec.ofChange splitNestsSpec)

/-- ITS FALSE NEIGHBOUR: 'it returns false'. Refute it at one input. -/
def splitNestsWrong : ChangeSpec := { name := "splitNests", fn := fun _ => fun
  | [d1, d2] => { results := [.lit (.bool false)], args := [d1, d2] }
  | _ => none }
def SplitNestsWrongFalsely : Prop := splitNestsRow.holds Try.pinned (OpenSpec.ofChange splitNestsWrong)

/-- 'evergreenlaw14.SplitErrors': WHATEVER THE INPUT: true; the input reads as it did. -/
def splitErrorsSpec : ChangeSpec := { name := "splitErrors", fn := fun _ => fun
  | [d1, d2, d3] => { results := [.lit (.bool true)], args := [d1, d2, d3] }
  | _ => none }
def splitErrorsRow : OpenClaim := { program := "ytgbledjehnojeaa", sum := "36a238e382c133e78d02946556e1330e64cc753789ee822c59c17fafed6a496f", func := "evergreen/evergreenlaw14.SplitErrors", spec := "splitErrors", recurses := true, plainKeys := false, apart := false }
def SplitErrorsSaid : Prop := splitErrorsRow.holds Try.pinned (OpenSpec.ofChange splitErrorsSpec)

/-- ITS FALSE NEIGHBOUR: 'it returns false'. Refute it at one input. -/
def splitErrorsWrong : ChangeSpec := { name := "splitErrors", fn := fun _ => fun
  | [d1, d2, d3] => { results := [.lit (.bool false)], args := [d1, d2, d3] }
  | _ => none }
def SplitErrorsWrongFalsely : Prop := splitErrorsRow.holds Try.pinned (OpenSpec.ofChange splitErrorsWrong)

/-- 'evergreenlaw14.SplitDivides': WHATEVER THE INPUT: true; the input reads as it did. -/
def splitDividesSpec : ChangeSpec := { name := "splitDivides", fn := fun _ => fun
  | [d1, d2] => { results := [.lit (.bool true)], args := [d1, d2] }
  | _ => none }
def splitDividesRow : OpenClaim := { program := "ytgbledjehnojeaa", sum := "36a238e382c133e78d02946556e1330e64cc753789ee822c59c17fafed6a496f", func := "evergreen/evergreenlaw14.SplitDivides", spec := "splitDivides", recurses := true, plainKeys := false, apart := false }
def SplitDividesSaid : Prop := splitDividesRow.holds Try.pinned (OpenSpec.ofChange splitDividesSpec)

/-- ITS FALSE NEIGHBOUR: 'it returns false'. Refute it at one input. -/
def splitDividesWrong : ChangeSpec := { name := "splitDivides", fn := fun _ => fun
  | [d1, d2] => { results := [.lit (.bool false)], args := [d1, d2] }
  | _ => none }
def SplitDividesWrongFalsely : Prop := splitDividesRow.holds Try.pinned (OpenSpec.ofChange splitDividesWrong)

/-- 'evergreenlaw14.SplitSections': WHATEVER THE INPUT: true; the input reads as it did. -/
def splitSectionsSpec : ChangeSpec := { name := "splitSections", fn := fun _ => fun
  | [d1, d2, d3] => { results := [.lit (.bool true)], args := [d1, d2, d3] }
  | _ => none }
def splitSectionsRow : OpenClaim := { program := "ytgbledjehnojeaa", sum := "36a238e382c133e78d02946556e1330e64cc753789ee822c59c17fafed6a496f", func := "evergreen/evergreenlaw14.SplitSections", spec := "splitSections", recurses := true, plainKeys := false, apart := false }
def SplitSectionsSaid : Prop := splitSectionsRow.holds Try.pinned (OpenSpec.ofChange splitSectionsSpec)

/-- ITS FALSE NEIGHBOUR: 'it returns false'. Refute it at one input. -/
def splitSectionsWrong : ChangeSpec := { name := "splitSections", fn := fun _ => fun
  | [d1, d2, d3] => { results := [.lit (.bool false)], args := [d1, d2, d3] }
  | _ => none }
def SplitSectionsWrongFalsely : Prop := splitSectionsRow.holds Try.pinned (OpenSpec.ofChange splitSectionsWrong)

/-- 'evergreenlaw14.SplitCuts': WHATEVER THE INPUT: true; the input reads as it did. -/
def splitCutsSpec : ChangeSpec := { name := "splitCuts", fn := fun _ => fun
  | [d1, d2] => { results := [.lit (.bool true)], args := [d1, d2] }
  | _ => none }
def splitCutsRow : OpenClaim := { program := "ytgbledjehnojeaa", sum := "36a238e382c133e78d02946556e1330e64cc753789ee822c59c17fafed6a496f", func := "evergreen/evergreenlaw14.SplitCuts", spec := "splitCuts", recurses := true, plainKeys := false, apart := false }
def SplitCutsSaid : Prop := splitCutsRow.holds Try.pinned (OpenSpec.ofChange splitCutsSpec)

/-- ITS FALSE NEIGHBOUR: 'it returns false'. Refute it at one input. -/
def splitCutsWrong : ChangeSpec := { name := "splitCuts", fn := fun _ => fun
  | [d1, d2] => { results := [.lit (.bool false)], args := [d1, d2] }
  | _ => none }
def SplitCutsWrongFalsely : Prop := splitCutsRow.holds Try.pinned (OpenSpec.ofChange splitCutsWrong)

/-- 'evergreenlaw14.SplitFull': WHATEVER THE INPUT: true; the input reads as it did. -/
def splitFullSpec : ChangeSpec := { name := "splitFull", fn := fun _ => fun
  | [d1, d2, d3] => { results := [.lit (.bool true)], args := [d1, d2, d3] }
  | _ => none }
def splitFullRow : OpenClaim := { program := "ytgbledjehnojeaa", sum := "36a238e382c133e78d02946556e1330e64cc753789ee822c59c17fafed6a496f", func := "evergreen/evergreenlaw14.SplitFull", spec := "splitFull", recurses := true, plainKeys := false, apart := false }
def SplitFullSaid : Prop := splitFullRow.holds Try.pinned (OpenSpec.ofChange splitFullSpec)

/-- ITS FALSE NEIGHBOUR: 'it returns false'. Refute it at one input. -/
def splitFullWrong : ChangeSpec := { name := "splitFull", fn := fun _ => fun
  | [d1, d2, d3] => { results := [.lit (.bool false)], args := [d1, d2, d3] }
  | _ => none }
def SplitFullWrongFalsely : Prop := splitFullRow.holds Try.pinned (OpenSpec.ofChange splitFullWrong)

/- THE SECOND FORM. 'bulk': how many values and letters a reading holds, each counted each time it is reached (what is shared counts as often as it is met; a slice's spare places count too). A statement '..UptoSaid' is the law's where the arguments, and the package variables that the reading takes, are together of bulk at most 1048576: NARROWER than '..Said'. Prove '..Said' where nothing that the law and all that it calls make is longer than what came in: it says more and counts as full. Else prove '..UptoSaid'. A law counts once. -/
mutual
def uptoBulk {H : Type} : DataW H → Nat
  | .lit (.string bytes) => bytes.length + 1
  | .lit _ => 1
  | .nil => 1
  | .ptr d => uptoBulk d + 1
  | .slice elems spare => uptoBulkAll elems + uptoBulkAll spare + 1
  | .agg parts => uptoBulkAll parts + 1
  | .iface _ d => uptoBulk d + 1
  | .map entries => uptoBulkEntries entries + 1
  | .held _ => 1
def uptoBulkAll {H : Type} : List (DataW H) → Nat
  | [] => 0
  | d :: r => uptoBulk d + uptoBulkAll r
def uptoBulkEntries {H : Type} : List (Lit × DataW H) → Nat
  | [] => 0
  | x :: r => uptoBulkEntry x + uptoBulkEntries r
def uptoBulkEntry {H : Type} : Lit × DataW H → Nat
  | (.string bytes, d) => bytes.length + uptoBulk d + 1
  | (_, d) => uptoBulk d + 1
 end
def uptoSmall : (H : Type) → List (DataW H) → Bool := fun _ ds => decide (uptoBulkAll ds ≤ 1048576)
def OpenSpec.upto (s : _root_.Go.ChangeSpec) : _root_.Go.OpenSpec := { _root_.Go.OpenSpec.ofChange s with cond := some uptoSmall }

/-- 'evergreenlaw14.SplitRejoins', WHERE WHAT IT READS IS OF BULK AT MOST 1048576: true; the input reads as it did. -/
def splitRejoinsUptoRow : OpenClaim := { program := "ytgbledjehnojeaa", sum := "36a238e382c133e78d02946556e1330e64cc753789ee822c59c17fafed6a496f", func := "evergreen/evergreenlaw14.SplitRejoins", spec := "splitRejoins", recurses := true, plainKeys := false, apart := false, narrowed := true }
def SplitRejoinsUptoSaid : Prop := splitRejoinsUptoRow.holds Try.pinned (OpenSpec.upto splitRejoinsSpec)

/-- 'evergreenlaw14.SplitCreates', WHERE WHAT IT READS IS OF BULK AT MOST 1048576: true; the input reads as it did. -/
def splitCreatesUptoRow : OpenClaim := { program := "ytgbledjehnojeaa", sum := "36a238e382c133e78d02946556e1330e64cc753789ee822c59c17fafed6a496f", func := "evergreen/evergreenlaw14.SplitCreates", spec := "splitCreates", recurses := true, plainKeys := false, apart := false, narrowed := true }
def SplitCreatesUptoSaid : Prop := splitCreatesUptoRow.holds Try.pinned (OpenSpec.upto splitCreatesSpec)

/-- 'evergreenlaw14.SplitNests', WHERE WHAT IT READS IS OF BULK AT MOST 1048576: true; the input reads as it did. -/
def splitNestsUptoRow : OpenClaim := { program := "ytgbledjehnojeaa", sum := "36a238e382c133e78d02946556e1330e64cc753789ee822c59c17fafed6a496f", func := "evergreen/evergreenlaw14.SplitNests", spec := "splitNests", recurses := true, plainKeys := false, apart := false, narrowed := true }
def SplitNestsUptoSaid : Prop := splitNestsUptoRow.holds Try.pinned (OpenSpec.upto splitNestsSpec)

/-- 'evergreenlaw14.SplitErrors', WHERE WHAT IT READS IS OF BULK AT MOST 1048576: true; the input reads as it did. -/
def splitErrorsUptoRow : OpenClaim := { program := "ytgbledjehnojeaa", sum := "36a238e382c133e78d02946556e1330e64cc753789ee822c59c17fafed6a496f", func := "evergreen/evergreenlaw14.SplitErrors", spec := "splitErrors", recurses := true, plainKeys := false, apart := false, narrowed := true }
def SplitErrorsUptoSaid : Prop := splitErrorsUptoRow.holds Try.pinned (OpenSpec.upto splitErrorsSpec)

/-- 'evergreenlaw14.SplitDivides', WHERE WHAT IT READS IS OF BULK AT MOST 1048576: true; the input reads as it did. -/
def splitDividesUptoRow : OpenClaim := { program := "ytgbledjehnojeaa", sum := "36a238e382c133e78d02946556e1330e64cc753789ee822c59c17fafed6a496f", func := "evergreen/evergreenlaw14.SplitDivides", spec := "splitDivides", recurses := true, plainKeys := false, apart := false, narrowed := true }
def SplitDividesUptoSaid : Prop := splitDividesUptoRow.holds Try.pinned (OpenSpec.upto splitDividesSpec)

/-- 'evergreenlaw14.SplitSections', WHERE WHAT IT READS IS OF BULK AT MOST 1048576: true; the input reads as it did. -/
def splitSectionsUptoRow : OpenClaim := { program := "ytgbledjehnojeaa", sum := "36a238e382c133e78d02946556e1330e64cc753789ee822c59c17fafed6a496f", func := "evergreen/evergreenlaw14.SplitSections", spec := "splitSections", recurses := true, plainKeys := false, apart := false, narrowed := true }
def SplitSectionsUptoSaid : Prop := splitSectionsUptoRow.holds Try.pinned (OpenSpec.upto splitSectionsSpec)

/-- 'evergreenlaw14.SplitCuts', WHERE WHAT IT READS IS OF BULK AT MOST 1048576: true; the input reads as it did. -/
def splitCutsUptoRow : OpenClaim := { program := "ytgbledjehnojeaa", sum := "36a238e382c133e78d02946556e1330e64cc753789ee822c59c17fafed6a496f", func := "evergreen/evergreenlaw14.SplitCuts", spec := "splitCuts", recurses := true, plainKeys := false, apart := false, narrowed := true }
def SplitCutsUptoSaid : Prop := splitCutsUptoRow.holds Try.pinned (OpenSpec.upto splitCutsSpec)

/-- 'evergreenlaw14.SplitFull', WHERE WHAT IT READS IS OF BULK AT MOST 1048576: true; the input reads as it did. -/
def splitFullUptoRow : OpenClaim := { program := "ytgbledjehnojeaa", sum := "36a238e382c133e78d02946556e1330e64cc753789ee822c59c17fafed6a496f", func := "evergreen/evergreenlaw14.SplitFull", spec := "splitFull", recurses := true, plainKeys := false, apart := false, narrowed := true }
def SplitFullUptoSaid : Prop := splitFullUptoRow.holds Try.pinned (OpenSpec.upto splitFullSpec)

end Rows
end Go.Proofs.Ytgbledjehnojeaa
