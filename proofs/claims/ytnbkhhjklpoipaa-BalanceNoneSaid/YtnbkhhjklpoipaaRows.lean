/-
  No cell of these rows narrows 'for every input' (looked for: loops, veiled, ifaces, maps, wideKeys, modest, calm, conditions, laid).
  DERIVED. THE GIVEN ROWS OF THIS SEAT. 9 by the template 'for every input the law returns true; each argument reads behind the call as it read before'; 0 by the template 'total and deterministic' (their statements: YtnbkhhjklpoipaaTotals.lean).
  GIVEN WITH THE SEED: the statements are not yours to turn. If you find one false, say at which input.
  Laid BY PROGRAM, IN A SANDBOX (cutbox-rows.mjs): the forced cells as the released guide's own fill.sh prints them over the translation 163e99683e34be9d… (all of the seat's roots in one cut). By AI agents, Wed Nov 11 2026. No macro, syntax, notation, axiom, sorry.
-/
import Derived.Test.YtnbkhhjklpoipaaChecked
import GoSem.Claim
import GoSem.ClaimJoined
import GoSem.ClaimMapViews
import Derived.JoinedTies
import Derived.KernelRfl
namespace Go.Proofs.Ytnbkhhjklpoipaa
/- THE CELL 'sum', in the pinned program and in every row, IS THE sha256 OF THE DUMP (.gsa) THAT YtnbkhhjklpoipaaProg.lean LOADS. Nothing in Lean hashes anything: it is a label: what it is worth is what the hold of that sum in a sandbox is worth. -/
noncomputable def Try.pinned : Pinned := { name := "ytnbkhhjklpoipaa", sum := "163e99683e34be9d8d27201a7b102fbe96c2d59fbfb10e0d960176430403893a", checked := Try.checked }
namespace Rows
def none {H : Type} : Left H := { results := [], args := [] }

/-- 'evergreenlaw15.BalanceLimits': WHATEVER THE INPUT: true; the input reads as it did. -/
def balanceLimitsSpec : ChangeSpec := { name := "balanceLimits", fn := fun _ => fun
  | [d1, d2] => { results := [.lit (.bool true)], args := [d1, d2] }
  | _ => none }
def balanceLimitsRow : OpenClaim := { program := "ytnbkhhjklpoipaa", sum := "163e99683e34be9d8d27201a7b102fbe96c2d59fbfb10e0d960176430403893a", func := "evergreen/evergreenlaw15.BalanceLimits", spec := "balanceLimits", recurses := true, plainKeys := false, apart := false }
def BalanceLimitsSaid : Prop := balanceLimitsRow.holds Try.pinned (OpenSpec.ofChange balanceLimitsSpec)

/-- ITS FALSE NEIGHBOUR: 'it returns false'. Refute it at one input. -/
def balanceLimitsWrong : ChangeSpec := { name := "balanceLimits", fn := fun _ => fun
  | [d1, d2] => { results := [.lit (.bool false)], args := [d1, d2] }
  | _ => none }
def BalanceLimitsWrongFalsely : Prop := balanceLimitsRow.holds Try.pinned (OpenSpec.ofChange balanceLimitsWrong)

/-- 'evergreenlaw15.BalanceTexts': WHATEVER THE INPUT: true; the input reads as it did. -/
def balanceTextsSpec : ChangeSpec := { name := "balanceTexts", fn := fun _ => fun
  | [d] => { results := [.lit (.bool true)], args := [d] }
  | _ => none }
def balanceTextsRow : OpenClaim := { program := "ytnbkhhjklpoipaa", sum := "163e99683e34be9d8d27201a7b102fbe96c2d59fbfb10e0d960176430403893a", func := "evergreen/evergreenlaw15.BalanceTexts", spec := "balanceTexts", recurses := true, plainKeys := false, apart := false }
def BalanceTextsSaid : Prop := balanceTextsRow.holds Try.pinned (OpenSpec.ofChange balanceTextsSpec)

/-- ITS FALSE NEIGHBOUR: 'it returns false'. Refute it at one input. -/
def balanceTextsWrong : ChangeSpec := { name := "balanceTexts", fn := fun _ => fun
  | [d] => { results := [.lit (.bool false)], args := [d] }
  | _ => none }
def BalanceTextsWrongFalsely : Prop := balanceTextsRow.holds Try.pinned (OpenSpec.ofChange balanceTextsWrong)

/-- 'evergreenlaw15.BalanceFull': WHATEVER THE INPUT: true; the input reads as it did. -/
def balanceFullSpec : ChangeSpec := { name := "balanceFull", fn := fun _ => fun
  | [d1, d2] => { results := [.lit (.bool true)], args := [d1, d2] }
  | _ => none }
def balanceFullRow : OpenClaim := { program := "ytnbkhhjklpoipaa", sum := "163e99683e34be9d8d27201a7b102fbe96c2d59fbfb10e0d960176430403893a", func := "evergreen/evergreenlaw15.BalanceFull", spec := "balanceFull", recurses := true, plainKeys := false, apart := false }
def BalanceFullSaid : Prop := balanceFullRow.holds Try.pinned (OpenSpec.ofChange balanceFullSpec)

/-- ITS FALSE NEIGHBOUR: 'it returns false'. Refute it at one input. -/
def balanceFullWrong : ChangeSpec := { name := "balanceFull", fn := fun _ => fun
  | [d1, d2] => { results := [.lit (.bool false)], args := [d1, d2] }
  | _ => none }
def BalanceFullWrongFalsely : Prop := balanceFullRow.holds Try.pinned (OpenSpec.ofChange balanceFullWrong)

/-- 'evergreenlaw15.BalanceRepeats': WHATEVER THE INPUT: true; the input reads as it did. -/
def balanceRepeatsSpec : ChangeSpec := { name := "balanceRepeats", fn := fun _ => fun
  | [d1, d2, d3] => { results := [.lit (.bool true)], args := [d1, d2, d3] }
  | _ => none }
def balanceRepeatsRow : OpenClaim := { program := "ytnbkhhjklpoipaa", sum := "163e99683e34be9d8d27201a7b102fbe96c2d59fbfb10e0d960176430403893a", func := "evergreen/evergreenlaw15.BalanceRepeats", spec := "balanceRepeats", recurses := true, plainKeys := false, apart := false }
def BalanceRepeatsSaid : Prop := balanceRepeatsRow.holds Try.pinned (OpenSpec.ofChange balanceRepeatsSpec)

/-- ITS FALSE NEIGHBOUR: 'it returns false'. Refute it at one input. -/
def balanceRepeatsWrong : ChangeSpec := { name := "balanceRepeats", fn := fun _ => fun
  | [d1, d2, d3] => { results := [.lit (.bool false)], args := [d1, d2, d3] }
  | _ => none }
def BalanceRepeatsWrongFalsely : Prop := balanceRepeatsRow.holds Try.pinned (OpenSpec.ofChange balanceRepeatsWrong)

/-- 'evergreenlaw15.BalanceConcats': WHATEVER THE INPUT: true; the input reads as it did. -/
def balanceConcatsSpec : ChangeSpec := { name := "balanceConcats", fn := fun _ => fun
  | [d1, d2] => { results := [.lit (.bool true)], args := [d1, d2] }
  | _ => none }
def balanceConcatsRow : OpenClaim := { program := "ytnbkhhjklpoipaa", sum := "163e99683e34be9d8d27201a7b102fbe96c2d59fbfb10e0d960176430403893a", func := "evergreen/evergreenlaw15.BalanceConcats", spec := "balanceConcats", recurses := true, plainKeys := false, apart := false }
def BalanceConcatsSaid : Prop := balanceConcatsRow.holds Try.pinned (OpenSpec.ofChange balanceConcatsSpec)

/-- ITS FALSE NEIGHBOUR: 'it returns false'. Refute it at one input. -/
def balanceConcatsWrong : ChangeSpec := { name := "balanceConcats", fn := fun _ => fun
  | [d1, d2] => { results := [.lit (.bool false)], args := [d1, d2] }
  | _ => none }
def BalanceConcatsWrongFalsely : Prop := balanceConcatsRow.holds Try.pinned (OpenSpec.ofChange balanceConcatsWrong)

/-- 'evergreenlaw15.BalanceOf': WHATEVER THE INPUT: true; the input reads as it did. -/
def balanceOfSpec : ChangeSpec := { name := "balanceOf", fn := fun _ => fun
  | [d1, d2] => { results := [.lit (.bool true)], args := [d1, d2] }
  | _ => none }
def balanceOfRow : OpenClaim := { program := "ytnbkhhjklpoipaa", sum := "163e99683e34be9d8d27201a7b102fbe96c2d59fbfb10e0d960176430403893a", func := "evergreen/evergreenlaw15.BalanceOf", spec := "balanceOf", unfollowed := true, recurses := true, plainKeys := false, apart := false }
def BalanceOfSaid : Prop := balanceOfRow.holds Try.pinned (OpenSpec.ofChange balanceOfSpec)

/-- ITS FALSE NEIGHBOUR: 'it returns false'. Refute it at one input. -/
def balanceOfWrong : ChangeSpec := { name := "balanceOf", fn := fun _ => fun
  | [d1, d2] => { results := [.lit (.bool false)], args := [d1, d2] }
  | _ => none }
def BalanceOfWrongFalsely : Prop := balanceOfRow.holds Try.pinned (OpenSpec.ofChange balanceOfWrong)

/-- 'evergreenlaw15.BalanceGreat': WHATEVER THE INPUT: true; the input reads as it did. -/
def balanceGreatSpec : ChangeSpec := { name := "balanceGreat", fn := fun _ => fun
  | [d1, d2] => { results := [.lit (.bool true)], args := [d1, d2] }
  | _ => none }
def balanceGreatRow : OpenClaim := { program := "ytnbkhhjklpoipaa", sum := "163e99683e34be9d8d27201a7b102fbe96c2d59fbfb10e0d960176430403893a", func := "evergreen/evergreenlaw15.BalanceGreat", spec := "balanceGreat", unfollowed := true, recurses := true, plainKeys := false, apart := false }
def BalanceGreatSaid : Prop := balanceGreatRow.holds Try.pinned (OpenSpec.ofChange balanceGreatSpec)

/-- ITS FALSE NEIGHBOUR: 'it returns false'. Refute it at one input. -/
def balanceGreatWrong : ChangeSpec := { name := "balanceGreat", fn := fun _ => fun
  | [d1, d2] => { results := [.lit (.bool false)], args := [d1, d2] }
  | _ => none }
def BalanceGreatWrongFalsely : Prop := balanceGreatRow.holds Try.pinned (OpenSpec.ofChange balanceGreatWrong)

/-- 'evergreenlaw15.BalancePowers': WHATEVER THE INPUT: true; the input reads as it did. -/
def balancePowersSpec : ChangeSpec := { name := "balancePowers", fn := fun _ => fun
  | [d1, d2, d3] => { results := [.lit (.bool true)], args := [d1, d2, d3] }
  | _ => none }
def balancePowersRow : OpenClaim := { program := "ytnbkhhjklpoipaa", sum := "163e99683e34be9d8d27201a7b102fbe96c2d59fbfb10e0d960176430403893a", func := "evergreen/evergreenlaw15.BalancePowers", spec := "balancePowers", unfollowed := true, recurses := true, plainKeys := false, apart := false }
def BalancePowersSaid : Prop := balancePowersRow.holds Try.pinned (OpenSpec.ofChange balancePowersSpec)

/-- ITS FALSE NEIGHBOUR: 'it returns false'. Refute it at one input. -/
def balancePowersWrong : ChangeSpec := { name := "balancePowers", fn := fun _ => fun
  | [d1, d2, d3] => { results := [.lit (.bool false)], args := [d1, d2, d3] }
  | _ => none }
def BalancePowersWrongFalsely : Prop := balancePowersRow.holds Try.pinned (OpenSpec.ofChange balancePowersWrong)

/-- 'evergreenlaw15.BalanceNone': WHATEVER THE INPUT: true; the input reads as it did. -/
def balanceNoneSpec : ChangeSpec := { name := "balanceNone", fn := fun _ => fun
  | [d1, d2, d3] => { results := [.lit (.bool true)], args := [d1, d2, d3] }
  | _ => none }
def balanceNoneRow : OpenClaim := { program := "ytnbkhhjklpoipaa", sum := "163e99683e34be9d8d27201a7b102fbe96c2d59fbfb10e0d960176430403893a", func := "evergreen/evergreenlaw15.BalanceNone", spec := "balanceNone", unfollowed := true, recurses := true, plainKeys := false, apart := false }
def BalanceNoneSaid : Prop := balanceNoneRow.holds Try.pinned (OpenSpec.ofChange balanceNoneSpec)

/-- ITS FALSE NEIGHBOUR: 'it returns false'. Refute it at one input. -/
def balanceNoneWrong : ChangeSpec := { name := "balanceNone", fn := fun _ => fun
  | [d1, d2, d3] => { results := [.lit (.bool false)], args := [d1, d2, d3] }
  | _ => none }
def BalanceNoneWrongFalsely : Prop := balanceNoneRow.holds Try.pinned (OpenSpec.ofChange balanceNoneWrong)

/- THE SECOND FORM. 'bulk': how many values and letters a reading holds, each counted each time it is reached (what is shared counts as often as it is met; a slice's spare places count too). A statement '..UptoSaid' is the law's where the arguments, and the package variables that the reading takes, are together of bulk at most 1048576: NARROWER than '..Said'. Prove '..Said' where nothing that the law and all that it calls make is longer than what came in: it says more and counts as full. Else prove '..UptoSaid'. A law counts once. -/
mutual
def uptoBulk {H : Type} : DataW H → Nat
  | .lit (.string bytes) => bytes.length + 1
  | .lit _ => 1
  | .nil => 1
  | .ptr d => uptoBulk d + 1
  | .slice elems spare => uptoBulkAll elems + uptoBulkAll spare + 1
  | .agg parts => uptoBulkAll parts + 1
  | .iface _ d => uptoBulk d + 1
  | .map entries => uptoBulkEntries entries + 1
  | .held _ => 1
def uptoBulkAll {H : Type} : List (DataW H) → Nat
  | [] => 0
  | d :: r => uptoBulk d + uptoBulkAll r
def uptoBulkEntries {H : Type} : List (Lit × DataW H) → Nat
  | [] => 0
  | x :: r => uptoBulkEntry x + uptoBulkEntries r
def uptoBulkEntry {H : Type} : Lit × DataW H → Nat
  | (.string bytes, d) => bytes.length + uptoBulk d + 1
  | (_, d) => uptoBulk d + 1
 end
def uptoSmall : (H : Type) → List (DataW H) → Bool := fun _ ds => decide (uptoBulkAll ds ≤ 1048576)
def OpenSpec.upto (s : _root_.Go.ChangeSpec) : _root_.Go.OpenSpec := { _root_.Go.OpenSpec.ofChange s with cond := some uptoSmall }

/-- 'evergreenlaw15.BalanceLimits', WHERE WHAT IT READS IS OF BULK AT MOST 1048576: true; the input reads as it did. -/
def balanceLimitsUptoRow : OpenClaim := { program := "ytnbkhhjklpoipaa", sum := "163e99683e34be9d8d27201a7b102fbe96c2d59fbfb10e0d960176430403893a", func := "evergreen/evergreenlaw15.BalanceLimits", spec := "balanceLimits", recurses := true, plainKeys := false, apart := false, narrowed := true }
def BalanceLimitsUptoSaid : Prop := balanceLimitsUptoRow.holds Try.pinned (OpenSpec.upto balanceLimitsSpec)

/-- 'evergreenlaw15.BalanceTexts', WHERE WHAT IT READS IS OF BULK AT MOST 1048576: true; the input reads as it did. -/
def balanceTextsUptoRow : OpenClaim := { program := "ytnbkhhjklpoipaa", sum := "163e99683e34be9d8d27201a7b102fbe96c2d59fbfb10e0d960176430403893a", func := "evergreen/evergreenlaw15.BalanceTexts", spec := "balanceTexts", recurses := true, plainKeys := false, apart := false, narrowed := true }
def BalanceTextsUptoSaid : Prop := balanceTextsUptoRow.holds Try.pinned (OpenSpec.upto balanceTextsSpec)

/-- 'evergreenlaw15.BalanceFull', WHERE WHAT IT READS IS OF BULK AT MOST 1048576: true; the input reads as it did. -/
def balanceFullUptoRow : OpenClaim := { program := "ytnbkhhjklpoipaa", sum := "163e99683e34be9d8d27201a7b102fbe96c2d59fbfb10e0d960176430403893a", func := "evergreen/evergreenlaw15.BalanceFull", spec := "balanceFull", recurses := true, plainKeys := false, apart := false, narrowed := true }
def BalanceFullUptoSaid : Prop := balanceFullUptoRow.holds Try.pinned (OpenSpec.upto balanceFullSpec)

/-- 'evergreenlaw15.BalanceRepeats', WHERE WHAT IT READS IS OF BULK AT MOST 1048576: true; the input reads as it did. -/
def balanceRepeatsUptoRow : OpenClaim := { program := "ytnbkhhjklpoipaa", sum := "163e99683e34be9d8d27201a7b102fbe96c2d59fbfb10e0d960176430403893a", func := "evergreen/evergreenlaw15.BalanceRepeats", spec := "balanceRepeats", recurses := true, plainKeys := false, apart := false, narrowed := true }
def BalanceRepeatsUptoSaid : Prop := balanceRepeatsUptoRow.holds Try.pinned (OpenSpec.upto balanceRepeatsSpec)

/-- 'evergreenlaw15.BalanceConcats', WHERE WHAT IT READS IS OF BULK AT MOST 1048576: true; the input reads as it did. -/
def balanceConcatsUptoRow : OpenClaim := { program := "ytnbkhhjklpoipaa", sum := "163e99683e34be9d8d27201a7b102fbe96c2d59fbfb10e0d960176430403893a", func := "evergreen/evergreenlaw15.BalanceConcats", spec := "balanceConcats", recurses := true, plainKeys := false, apart := false, narrowed := true }
def BalanceConcatsUptoSaid : Prop := balanceConcatsUptoRow.holds Try.pinned (OpenSpec.upto balanceConcatsSpec)

/-- 'evergreenlaw15.BalanceOf', WHERE WHAT IT READS IS OF BULK AT MOST 1048576: true; the input reads as it did. -/
def balanceOfUptoRow : OpenClaim := { program := "ytnbkhhjklpoipaa", sum := "163e99683e34be9d8d27201a7b102fbe96c2d59fbfb10e0d960176430403893a", func := "evergreen/evergreenlaw15.BalanceOf", spec := "balanceOf", unfollowed := true, recurses := true, plainKeys := false, apart := false, narrowed := true }
def BalanceOfUptoSaid : Prop := balanceOfUptoRow.holds Try.pinned (OpenSpec.upto balanceOfSpec)

/-- 'evergreenlaw15.BalanceGreat', WHERE WHAT IT READS IS OF BULK AT MOST 1048576: true; the input reads as it did. -/
def balanceGreatUptoRow : OpenClaim := { program := "ytnbkhhjklpoipaa", sum := "163e99683e34be9d8d27201a7b102fbe96c2d59fbfb10e0d960176430403893a", func := "evergreen/evergreenlaw15.BalanceGreat", spec := "balanceGreat", unfollowed := true, recurses := true, plainKeys := false, apart := false, narrowed := true }
def BalanceGreatUptoSaid : Prop := balanceGreatUptoRow.holds Try.pinned (OpenSpec.upto balanceGreatSpec)

/-- 'evergreenlaw15.BalancePowers', WHERE WHAT IT READS IS OF BULK AT MOST 1048576: true; the input reads as it did. -/
def balancePowersUptoRow : OpenClaim := { program := "ytnbkhhjklpoipaa", sum := "163e99683e34be9d8d27201a7b102fbe96c2d59fbfb10e0d960176430403893a", func := "evergreen/evergreenlaw15.BalancePowers", spec := "balancePowers", unfollowed := true, recurses := true, plainKeys := false, apart := false, narrowed := true }
def BalancePowersUptoSaid : Prop := balancePowersUptoRow.holds Try.pinned (OpenSpec.upto balancePowersSpec)

/-- 'evergreenlaw15.BalanceNone', WHERE WHAT IT READS IS OF BULK AT MOST 1048576: true; the input reads as it did. -/
def balanceNoneUptoRow : OpenClaim := { program := "ytnbkhhjklpoipaa", sum := "163e99683e34be9d8d27201a7b102fbe96c2d59fbfb10e0d960176430403893a", func := "evergreen/evergreenlaw15.BalanceNone", spec := "balanceNone", unfollowed := true, recurses := true, plainKeys := false, apart := false, narrowed := true }
def BalanceNoneUptoSaid : Prop := balanceNoneUptoRow.holds Try.pinned (OpenSpec.upto balanceNoneSpec)

end Rows
end Go.Proofs.Ytnbkhhjklpoipaa
