/-
  No cell of these rows narrows 'for every input' (looked for: loops, veiled, ifaces, maps, wideKeys, modest, calm, conditions, laid).
  DERIVED. THE GIVEN ROWS OF THIS SEAT. 10 by the template 'for every input the law returns true; each argument reads behind the call as it read before'; 0 by the template 'total and deterministic' (their statements: YtddhndabnbckmaaTotals.lean).
  GIVEN WITH THE SEED: the statements are not yours to turn. If you find one false, say at which input.
  Laid BY PROGRAM, IN A SANDBOX (cutbox-rows.mjs): the forced cells as the released guide's own fill.sh prints them over the translation 0aac48965fde05bd… (all of the seat's roots in one cut). By AI agents, Wed Nov 11 2026. No macro, syntax, notation, axiom, sorry.
-/
import Derived.Test.YtddhndabnbckmaaChecked
import GoSem.Claim
import GoSem.ClaimJoined
import GoSem.ClaimMapViews
import Derived.JoinedTies
import Derived.KernelRfl
namespace Go.Proofs.Ytddhndabnbckmaa
/- THE CELL 'sum', in the pinned program and in every row, IS THE sha256 OF THE DUMP (.gsa) THAT YtddhndabnbckmaaProg.lean LOADS. Nothing in Lean hashes anything: it is a label: what it is worth is what the hold of that sum in a sandbox is worth. -/
noncomputable def Try.pinned : Pinned := { name := "ytddhndabnbckmaa", sum := "0aac48965fde05bd418534c7f3babcba802cb6602b6b5e4172a983711d43a95e", checked := Try.checked }
namespace Rows
def none {H : Type} : Left H := { results := [], args := [] }

/-- 'evergreenlaw10.InternRules': WHATEVER THE INPUT: true; the input reads as it did. -/
def internRulesSpec : ChangeSpec := { name := "internRules", fn := fun _ => fun
  | [d1, d2] => { results := [.lit (.bool true)], args := [d1, d2] }
  | _ => none }
def internRulesRow : OpenClaim := { program := "ytddhndabnbckmaa", sum := "0aac48965fde05bd418534c7f3babcba802cb6602b6b5e4172a983711d43a95e", func := "evergreen/evergreenlaw10.InternRules", spec := "internRules", plainKeys := false, apart := false }
def InternRulesSaid : Prop := internRulesRow.holds Try.pinned (OpenSpec.ofChange internRulesSpec)

/-- ITS FALSE NEIGHBOUR: 'it returns false'. Refute it at one input. -/
def internRulesWrong : ChangeSpec := { name := "internRules", fn := fun _ => fun
  | [d1, d2] => { results := [.lit (.bool false)], args := [d1, d2] }
  | _ => none }
def InternRulesWrongFalsely : Prop := internRulesRow.holds Try.pinned (OpenSpec.ofChange internRulesWrong)

/-- 'evergreenlaw10.InternTwice': WHATEVER THE INPUT: true; the input reads as it did. -/
def internTwiceSpec : ChangeSpec := { name := "internTwice", fn := fun _ => fun
  | [d] => { results := [.lit (.bool true)], args := [d] }
  | _ => none }
def internTwiceRow : OpenClaim := { program := "ytddhndabnbckmaa", sum := "0aac48965fde05bd418534c7f3babcba802cb6602b6b5e4172a983711d43a95e", func := "evergreen/evergreenlaw10.InternTwice", spec := "internTwice", unfollowed := true, recurses := true, plainKeys := false, apart := false }
def InternTwiceSaid : Prop := internTwiceRow.holds Try.pinned (OpenSpec.ofChange internTwiceSpec)

/-- ITS FALSE NEIGHBOUR: 'it returns false'. Refute it at one input. -/
def internTwiceWrong : ChangeSpec := { name := "internTwice", fn := fun _ => fun
  | [d] => { results := [.lit (.bool false)], args := [d] }
  | _ => none }
def InternTwiceWrongFalsely : Prop := internTwiceRow.holds Try.pinned (OpenSpec.ofChange internTwiceWrong)

/-- 'evergreenlaw10.InternTexts': WHATEVER THE INPUT: true; the input reads as it did. -/
def internTextsSpec : ChangeSpec := { name := "internTexts", fn := fun _ => fun
  | [d] => { results := [.lit (.bool true)], args := [d] }
  | _ => none }
def internTextsRow : OpenClaim := { program := "ytddhndabnbckmaa", sum := "0aac48965fde05bd418534c7f3babcba802cb6602b6b5e4172a983711d43a95e", func := "evergreen/evergreenlaw10.InternTexts", spec := "internTexts", recurses := true, plainKeys := false, apart := false }
def InternTextsSaid : Prop := internTextsRow.holds Try.pinned (OpenSpec.ofChange internTextsSpec)

/-- ITS FALSE NEIGHBOUR: 'it returns false'. Refute it at one input. -/
def internTextsWrong : ChangeSpec := { name := "internTexts", fn := fun _ => fun
  | [d] => { results := [.lit (.bool false)], args := [d] }
  | _ => none }
def InternTextsWrongFalsely : Prop := internTextsRow.holds Try.pinned (OpenSpec.ofChange internTextsWrong)

/-- 'evergreenlaw10.InternLimits': WHATEVER THE INPUT: true; the input reads as it did. -/
def internLimitsSpec : ChangeSpec := { name := "internLimits", fn := fun _ => fun
  | [d1, d2, d3] => { results := [.lit (.bool true)], args := [d1, d2, d3] }
  | _ => none }
def internLimitsRow : OpenClaim := { program := "ytddhndabnbckmaa", sum := "0aac48965fde05bd418534c7f3babcba802cb6602b6b5e4172a983711d43a95e", func := "evergreen/evergreenlaw10.InternLimits", spec := "internLimits", plainKeys := false, apart := false }
def InternLimitsSaid : Prop := internLimitsRow.holds Try.pinned (OpenSpec.ofChange internLimitsSpec)

/-- ITS FALSE NEIGHBOUR: 'it returns false'. Refute it at one input. -/
def internLimitsWrong : ChangeSpec := { name := "internLimits", fn := fun _ => fun
  | [d1, d2, d3] => { results := [.lit (.bool false)], args := [d1, d2, d3] }
  | _ => none }
def InternLimitsWrongFalsely : Prop := internLimitsRow.holds Try.pinned (OpenSpec.ofChange internLimitsWrong)

/-- 'evergreenlaw10.InternWeights': WHATEVER THE INPUT: true; the input reads as it did. -/
def internWeightsSpec : ChangeSpec := { name := "internWeights", fn := fun _ => fun
  | [d] => { results := [.lit (.bool true)], args := [d] }
  | _ => none }
def internWeightsRow : OpenClaim := { program := "ytddhndabnbckmaa", sum := "0aac48965fde05bd418534c7f3babcba802cb6602b6b5e4172a983711d43a95e", func := "evergreen/evergreenlaw10.InternWeights", spec := "internWeights", plainKeys := false, apart := false }
def InternWeightsSaid : Prop := internWeightsRow.holds Try.pinned (OpenSpec.ofChange internWeightsSpec)

/-- ITS FALSE NEIGHBOUR: 'it returns false'. Refute it at one input. -/
def internWeightsWrong : ChangeSpec := { name := "internWeights", fn := fun _ => fun
  | [d] => { results := [.lit (.bool false)], args := [d] }
  | _ => none }
def InternWeightsWrongFalsely : Prop := internWeightsRow.holds Try.pinned (OpenSpec.ofChange internWeightsWrong)

/-- 'evergreenlaw10.InternAsks': WHATEVER THE INPUT: true; the input reads as it did. -/
def internAsksSpec : ChangeSpec := { name := "internAsks", fn := fun _ => fun
  | [d1, d2, d3] => { results := [.lit (.bool true)], args := [d1, d2, d3] }
  | _ => none }
def internAsksRow : OpenClaim := { program := "ytddhndabnbckmaa", sum := "0aac48965fde05bd418534c7f3babcba802cb6602b6b5e4172a983711d43a95e", func := "evergreen/evergreenlaw10.InternAsks", spec := "internAsks", plainKeys := false, apart := false }
def InternAsksSaid : Prop := internAsksRow.holds Try.pinned (OpenSpec.ofChange internAsksSpec)

/-- ITS FALSE NEIGHBOUR: 'it returns false'. Refute it at one input. -/
def internAsksWrong : ChangeSpec := { name := "internAsks", fn := fun _ => fun
  | [d1, d2, d3] => { results := [.lit (.bool false)], args := [d1, d2, d3] }
  | _ => none }
def InternAsksWrongFalsely : Prop := internAsksRow.holds Try.pinned (OpenSpec.ofChange internAsksWrong)

/-- 'evergreenlaw10.InternImports': WHATEVER THE INPUT: true; the input reads as it did. -/
def internImportsSpec : ChangeSpec := { name := "internImports", fn := fun _ => fun
  | [d1, d2, d3] => { results := [.lit (.bool true)], args := [d1, d2, d3] }
  | _ => none }
def internImportsRow : OpenClaim := { program := "ytddhndabnbckmaa", sum := "0aac48965fde05bd418534c7f3babcba802cb6602b6b5e4172a983711d43a95e", func := "evergreen/evergreenlaw10.InternImports", spec := "internImports", plainKeys := false, apart := false }
def InternImportsSaid : Prop := internImportsRow.holds Try.pinned (OpenSpec.ofChange internImportsSpec)

/-- ITS FALSE NEIGHBOUR: 'it returns false'. Refute it at one input. -/
def internImportsWrong : ChangeSpec := { name := "internImports", fn := fun _ => fun
  | [d1, d2, d3] => { results := [.lit (.bool false)], args := [d1, d2, d3] }
  | _ => none }
def InternImportsWrongFalsely : Prop := internImportsRow.holds Try.pinned (OpenSpec.ofChange internImportsWrong)

/-- 'evergreenlaw10.InternExports': WHATEVER THE INPUT: true; the input reads as it did. -/
def internExportsSpec : ChangeSpec := { name := "internExports", fn := fun _ => fun
  | [d1, d2] => { results := [.lit (.bool true)], args := [d1, d2] }
  | _ => none }
def internExportsRow : OpenClaim := { program := "ytddhndabnbckmaa", sum := "0aac48965fde05bd418534c7f3babcba802cb6602b6b5e4172a983711d43a95e", func := "evergreen/evergreenlaw10.InternExports", spec := "internExports", recurses := true, plainKeys := false, apart := false }
def InternExportsSaid : Prop := internExportsRow.holds Try.pinned (OpenSpec.ofChange internExportsSpec)

/-- ITS FALSE NEIGHBOUR: 'it returns false'. Refute it at one input. -/
def internExportsWrong : ChangeSpec := { name := "internExports", fn := fun _ => fun
  | [d1, d2] => { results := [.lit (.bool false)], args := [d1, d2] }
  | _ => none }
def InternExportsWrongFalsely : Prop := internExportsRow.holds Try.pinned (OpenSpec.ofChange internExportsWrong)

/-- 'evergreenlaw10.InternMoves': WHATEVER THE INPUT: true; the input reads as it did. -/
def internMovesSpec : ChangeSpec := { name := "internMoves", fn := fun _ => fun
  | [d] => { results := [.lit (.bool true)], args := [d] }
  | _ => none }
def internMovesRow : OpenClaim := { program := "ytddhndabnbckmaa", sum := "0aac48965fde05bd418534c7f3babcba802cb6602b6b5e4172a983711d43a95e", func := "evergreen/evergreenlaw10.InternMoves", spec := "internMoves", recurses := true, plainKeys := false, apart := false }
def InternMovesSaid : Prop := internMovesRow.holds Try.pinned (OpenSpec.ofChange internMovesSpec)

/-- ITS FALSE NEIGHBOUR: 'it returns false'. Refute it at one input. -/
def internMovesWrong : ChangeSpec := { name := "internMoves", fn := fun _ => fun
  | [d] => { results := [.lit (.bool false)], args := [d] }
  | _ => none }
def InternMovesWrongFalsely : Prop := internMovesRow.holds Try.pinned (OpenSpec.ofChange internMovesWrong)

/-- 'evergreenlaw10.InternNil': WHATEVER THE INPUT: true; the input reads as it did. -/
def internNilSpec : ChangeSpec := { name := "internNil", fn := fun _ => fun
  | [d1, d2, d3, d4] => { results := [.lit (.bool true)], args := [d1, d2, d3, d4] }
  | _ => none }
def internNilRow : OpenClaim := { program := "ytddhndabnbckmaa", sum := "0aac48965fde05bd418534c7f3babcba802cb6602b6b5e4172a983711d43a95e", func := "evergreen/evergreenlaw10.InternNil", spec := "internNil", recurses := true, plainKeys := false, apart := false }
def InternNilSaid : Prop := internNilRow.holds Try.pinned (OpenSpec.ofChange internNilSpec)

/-- ITS FALSE NEIGHBOUR: 'it returns false'. Refute it at one input. -/
def internNilWrong : ChangeSpec := { name := "internNil", fn := fun _ => fun
  | [d1, d2, d3, d4] => { results := [.lit (.bool false)], args := [d1, d2, d3, d4] }
  | _ => none }
def InternNilWrongFalsely : Prop := internNilRow.holds Try.pinned (OpenSpec.ofChange internNilWrong)

/- THE SECOND FORM. 'bulk': how many values and letters a reading holds, each counted each time it is reached (what is shared counts as often as it is met; a slice's spare places count too). A statement '..UptoSaid' is the law's where the arguments, and the package variables that the reading takes, are together of bulk at most 1048576: NARROWER than '..Said'. Prove '..Said' where nothing that the law and all that it calls make is longer than what came in: it says more and counts as full. Else prove '..UptoSaid'. A law counts once. -/
mutual
def uptoBulk {H : Type} : DataW H → Nat
  | .lit (.string bytes) => bytes.length + 1
  | .lit _ => 1
  | .nil => 1
  | .ptr d => uptoBulk d + 1
  | .slice elems spare => uptoBulkAll elems + uptoBulkAll spare + 1
  | .agg parts => uptoBulkAll parts + 1
  | .iface _ d => uptoBulk d + 1
  | .map entries => uptoBulkEntries entries + 1
  | .held _ => 1
def uptoBulkAll {H : Type} : List (DataW H) → Nat
  | [] => 0
  | d :: r => uptoBulk d + uptoBulkAll r
def uptoBulkEntries {H : Type} : List (Lit × DataW H) → Nat
  | [] => 0
  | x :: r => uptoBulkEntry x + uptoBulkEntries r
def uptoBulkEntry {H : Type} : Lit × DataW H → Nat
  | (.string bytes, d) => bytes.length + uptoBulk d + 1
  | (_, d) => uptoBulk d + 1
 end
def uptoSmall : (H : Type) → List (DataW H) → Bool := fun _ ds => decide (uptoBulkAll ds ≤ 1048576)
def OpenSpec.upto (s : _root_.Go.ChangeSpec) : _root_.Go.OpenSpec := { _root_.Go.OpenSpec.ofChange s with cond := some uptoSmall }

/-- 'evergreenlaw10.InternRules', WHERE WHAT IT READS IS OF BULK AT MOST 1048576: true; the input reads as it did. -/
def internRulesUptoRow : OpenClaim := { program := "ytddhndabnbckmaa", sum := "0aac48965fde05bd418534c7f3babcba802cb6602b6b5e4172a983711d43a95e", func := "evergreen/evergreenlaw10.InternRules", spec := "internRules", plainKeys := false, apart := false, narrowed := true }
def InternRulesUptoSaid : Prop := internRulesUptoRow.holds Try.pinned (OpenSpec.upto internRulesSpec)

/-- 'evergreenlaw10.InternTwice', WHERE WHAT IT READS IS OF BULK AT MOST 1048576: true; the input reads as it did. -/
def internTwiceUptoRow : OpenClaim := { program := "ytddhndabnbckmaa", sum := "0aac48965fde05bd418534c7f3babcba802cb6602b6b5e4172a983711d43a95e", func := "evergreen/evergreenlaw10.InternTwice", spec := "internTwice", unfollowed := true, recurses := true, plainKeys := false, apart := false, narrowed := true }
def InternTwiceUptoSaid : Prop := internTwiceUptoRow.holds Try.pinned (OpenSpec.upto internTwiceSpec)

/-- 'evergreenlaw10.InternTexts', WHERE WHAT IT READS IS OF BULK AT MOST 1048576: true; the input reads as it did. -/
def internTextsUptoRow : OpenClaim := { program := "ytddhndabnbckmaa", sum := "0aac48965fde05bd418534c7f3babcba802cb6602b6b5e4172a983711d43a95e", func := "evergreen/evergreenlaw10.InternTexts", spec := "internTexts", recurses := true, plainKeys := false, apart := false, narrowed := true }
def InternTextsUptoSaid : Prop := internTextsUptoRow.holds Try.pinned (OpenSpec.upto internTextsSpec)

/-- 'evergreenlaw10.InternLimits', WHERE WHAT IT READS IS OF BULK AT MOST 1048576: true; the input reads as it did. -/
def internLimitsUptoRow : OpenClaim := { program := "ytddhndabnbckmaa", sum := "0aac48965fde05bd418534c7f3babcba802cb6602b6b5e4172a983711d43a95e", func := "evergreen/evergreenlaw10.InternLimits", spec := "internLimits", plainKeys := false, apart := false, narrowed := true }
def InternLimitsUptoSaid : Prop := internLimitsUptoRow.holds Try.pinned (OpenSpec.upto internLimitsSpec)

/-- 'evergreenlaw10.InternWeights', WHERE WHAT IT READS IS OF BULK AT MOST 1048576: true; the input reads as it did. -/
def internWeightsUptoRow : OpenClaim := { program := "ytddhndabnbckmaa", sum := "0aac48965fde05bd418534c7f3babcba802cb6602b6b5e4172a983711d43a95e", func := "evergreen/evergreenlaw10.InternWeights", spec := "internWeights", plainKeys := false, apart := false, narrowed := true }
def InternWeightsUptoSaid : Prop := internWeightsUptoRow.holds Try.pinned (OpenSpec.upto internWeightsSpec)

/-- 'evergreenlaw10.InternAsks', WHERE WHAT IT READS IS OF BULK AT MOST 1048576: true; the input reads as it did. -/
def internAsksUptoRow : OpenClaim := { program := "ytddhndabnbckmaa", sum := "0aac48965fde05bd418534c7f3babcba802cb6602b6b5e4172a983711d43a95e", func := "evergreen/evergreenlaw10.InternAsks", spec := "internAsks", plainKeys := false, apart := false, narrowed := true }
def InternAsksUptoSaid : Prop := internAsksUptoRow.holds Try.pinned (OpenSpec.upto internAsksSpec)

/-- 'evergreenlaw10.InternImports', WHERE WHAT IT READS IS OF BULK AT MOST 1048576: true; the input reads as it did. -/
def internImportsUptoRow : OpenClaim := { program := "ytddhndabnbckmaa", sum := "0aac48965fde05bd418534c7f3babcba802cb6602b6b5e4172a983711d43a95e", func := "evergreen/evergreenlaw10.InternImports", spec := "internImports", plainKeys := false, apart := false, narrowed := true }
def InternImportsUptoSaid : Prop := internImportsUptoRow.holds Try.pinned (OpenSpec.upto internImportsSpec)

/-- 'evergreenlaw10.InternExports', WHERE WHAT IT READS IS OF BULK AT MOST 1048576: true; the input reads as it did. -/
def internExportsUptoRow : OpenClaim := { program := "ytddhndabnbckmaa", sum := "0aac48965fde05bd418534c7f3babcba802cb6602b6b5e4172a983711d43a95e", func := "evergreen/evergreenlaw10.InternExports", spec := "internExports", recurses := true, plainKeys := false, apart := false, narrowed := true }
def InternExportsUptoSaid : Prop := internExportsUptoRow.holds Try.pinned (OpenSpec.upto internExportsSpec)

/-- 'evergreenlaw10.InternMoves', WHERE WHAT IT READS IS OF BULK AT MOST 1048576: true; the input reads as it did. -/
def internMovesUptoRow : OpenClaim := { program := "ytddhndabnbckmaa", sum := "0aac48965fde05bd418534c7f3babcba802cb6602b6b5e4172a983711d43a95e", func := "evergreen/evergreenlaw10.InternMoves", spec := "internMoves", recurses := true, plainKeys := false, apart := false, narrowed := true }
def InternMovesUptoSaid : Prop := internMovesUptoRow.holds Try.pinned (OpenSpec.upto internMovesSpec)

/-- 'evergreenlaw10.InternNil', WHERE WHAT IT READS IS OF BULK AT MOST 1048576: true; the input reads as it did. -/
def internNilUptoRow : OpenClaim := { program := "ytddhndabnbckmaa", sum := "0aac48965fde05bd418534c7f3babcba802cb6602b6b5e4172a983711d43a95e", func := "evergreen/evergreenlaw10.InternNil", spec := "internNil", recurses := true, plainKeys := false, apart := false, narrowed := true }
def InternNilUptoSaid : Prop := internNilUptoRow.holds Try.pinned (OpenSpec.upto internNilSpec)

end Rows
end Go.Proofs.Ytddhndabnbckmaa
