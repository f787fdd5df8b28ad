/-
  No cell of these rows narrows 'for every input' (looked for: loops, veiled, ifaces, maps, wideKeys, modest, calm, conditions, laid).
  DERIVED. THE GIVEN ROWS OF THIS SEAT. 6 by the template 'for every input the law returns true; each argument reads behind the call as it read before'; 0 by the template 'total and deterministic' (their statements: YtnmgjpcooncjlaaGreatTotals.lean).
  GIVEN WITH THE SEED: the statements are not yours to turn. If you find one false, say at which input.
  Laid BY PROGRAM, IN A SANDBOX (cutbox-rows.mjs): the forced cells as the released guide's own fill.sh prints them over the translation db3cd95ebd7753af… (all of the seat's roots in one cut). By AI agents, Wed Nov 11 2026. No macro, syntax, notation, axiom, sorry.
-/
import Derived.Test.YtnmgjpcooncjlaaGreatChecked
import GoSem.Claim
import GoSem.ClaimJoined
import GoSem.ClaimMapViews
import Derived.JoinedTies
import Derived.KernelRfl
namespace Go.Proofs.YtnmgjpcooncjlaaGreat
/- THE CELL 'sum', in the pinned program and in every row, IS THE sha256 OF THE DUMP (.gsa) THAT YtnmgjpcooncjlaaGreatProg.lean LOADS. Nothing in Lean hashes anything: it is a label: what it is worth is what the hold of that sum in a sandbox is worth. -/
noncomputable def Tryz.pinned : Pinned := { name := "ytnmgjpcooncjlaagreat", sum := "db3cd95ebd7753af87e887b8bcdff14c802310feb2a83dc3749efe220a3ad23d", checked := Tryz.checked }
namespace Rows
def none {H : Type} : Left H := { results := [], args := [] }

/-- 'evergreenlaw51.CompactOf': WHATEVER THE INPUT: true; the input reads as it did. -/
def compactOfSpec : ChangeSpec := { name := "compactOf", fn := fun _ => fun
  | [d] => { results := [.lit (.bool true)], args := [d] }
  | _ => none }
def compactOfRow : OpenClaim := { program := "ytnmgjpcooncjlaagreat", sum := "db3cd95ebd7753af87e887b8bcdff14c802310feb2a83dc3749efe220a3ad23d", func := "evergreen/evergreenlaw51.CompactOf", spec := "compactOf", unfollowed := true, recurses := true, plainKeys := false, apart := false }
def CompactOfSaid : Prop := compactOfRow.holds Tryz.pinned (OpenSpec.ofChange compactOfSpec)

/-- ITS FALSE NEIGHBOUR: 'it returns false'. Refute it at one input. -/
def compactOfWrong : ChangeSpec := { name := "compactOf", fn := fun _ => fun
  | [d] => { results := [.lit (.bool false)], args := [d] }
  | _ => none }
def CompactOfWrongFalsely : Prop := compactOfRow.holds Tryz.pinned (OpenSpec.ofChange compactOfWrong)

/-- 'evergreenlaw51.CompactFull': WHATEVER THE INPUT: true; the input reads as it did. -/
def compactFullSpec : ChangeSpec := { name := "compactFull", fn := fun _ => fun
  | [d1, d2] => { results := [.lit (.bool true)], args := [d1, d2] }
  | _ => none }
def compactFullRow : OpenClaim := { program := "ytnmgjpcooncjlaagreat", sum := "db3cd95ebd7753af87e887b8bcdff14c802310feb2a83dc3749efe220a3ad23d", func := "evergreen/evergreenlaw51.CompactFull", spec := "compactFull", unfollowed := true, recurses := true, plainKeys := false, apart := false }
def CompactFullSaid : Prop := compactFullRow.holds Tryz.pinned (OpenSpec.ofChange compactFullSpec)

/-- ITS FALSE NEIGHBOUR: 'it returns false'. Refute it at one input. -/
def compactFullWrong : ChangeSpec := { name := "compactFull", fn := fun _ => fun
  | [d1, d2] => { results := [.lit (.bool false)], args := [d1, d2] }
  | _ => none }
def CompactFullWrongFalsely : Prop := compactFullRow.holds Tryz.pinned (OpenSpec.ofChange compactFullWrong)

/-- 'evergreenlaw51.CompactErrors': WHATEVER THE INPUT: true; the input reads as it did. -/
def compactErrorsSpec : ChangeSpec := { name := "compactErrors", fn := fun _ => fun
  | [d1, d2] => { results := [.lit (.bool true)], args := [d1, d2] }
  | _ => none }
def compactErrorsRow : OpenClaim := { program := "ytnmgjpcooncjlaagreat", sum := "db3cd95ebd7753af87e887b8bcdff14c802310feb2a83dc3749efe220a3ad23d", func := "evergreen/evergreenlaw51.CompactErrors", spec := "compactErrors", unfollowed := true, recurses := true, plainKeys := false, apart := false }
def CompactErrorsSaid : Prop := compactErrorsRow.holds Tryz.pinned (OpenSpec.ofChange compactErrorsSpec)

/-- ITS FALSE NEIGHBOUR: 'it returns false'. Refute it at one input. -/
def compactErrorsWrong : ChangeSpec := { name := "compactErrors", fn := fun _ => fun
  | [d1, d2] => { results := [.lit (.bool false)], args := [d1, d2] }
  | _ => none }
def CompactErrorsWrongFalsely : Prop := compactErrorsRow.holds Tryz.pinned (OpenSpec.ofChange compactErrorsWrong)

/-- 'evergreenlaw51.CompactNone': WHATEVER THE INPUT: true; the input reads as it did. -/
def compactNoneSpec : ChangeSpec := { name := "compactNone", fn := fun _ => fun
  | [d] => { results := [.lit (.bool true)], args := [d] }
  | _ => none }
def compactNoneRow : OpenClaim := { program := "ytnmgjpcooncjlaagreat", sum := "db3cd95ebd7753af87e887b8bcdff14c802310feb2a83dc3749efe220a3ad23d", func := "evergreen/evergreenlaw51.CompactNone", spec := "compactNone", unfollowed := true, recurses := true, plainKeys := false, apart := false }
def CompactNoneSaid : Prop := compactNoneRow.holds Tryz.pinned (OpenSpec.ofChange compactNoneSpec)

/-- ITS FALSE NEIGHBOUR: 'it returns false'. Refute it at one input. -/
def compactNoneWrong : ChangeSpec := { name := "compactNone", fn := fun _ => fun
  | [d] => { results := [.lit (.bool false)], args := [d] }
  | _ => none }
def CompactNoneWrongFalsely : Prop := compactNoneRow.holds Tryz.pinned (OpenSpec.ofChange compactNoneWrong)

/-- 'evergreenlaw51.CompactAgain': WHATEVER THE INPUT: true; the input reads as it did. -/
def compactAgainSpec : ChangeSpec := { name := "compactAgain", fn := fun _ => fun
  | [d] => { results := [.lit (.bool true)], args := [d] }
  | _ => none }
def compactAgainRow : OpenClaim := { program := "ytnmgjpcooncjlaagreat", sum := "db3cd95ebd7753af87e887b8bcdff14c802310feb2a83dc3749efe220a3ad23d", func := "evergreen/evergreenlaw51.CompactAgain", spec := "compactAgain", unfollowed := true, recurses := true, plainKeys := false, apart := false }
def CompactAgainSaid : Prop := compactAgainRow.holds Tryz.pinned (OpenSpec.ofChange compactAgainSpec)

/-- ITS FALSE NEIGHBOUR: 'it returns false'. Refute it at one input. -/
def compactAgainWrong : ChangeSpec := { name := "compactAgain", fn := fun _ => fun
  | [d] => { results := [.lit (.bool false)], args := [d] }
  | _ => none }
def CompactAgainWrongFalsely : Prop := compactAgainRow.holds Tryz.pinned (OpenSpec.ofChange compactAgainWrong)

/-- 'evergreenlaw51.CompactTexts': WHATEVER THE INPUT: true; the input reads as it did. -/
def compactTextsSpec : ChangeSpec := { name := "compactTexts", fn := fun _ => fun
  | [d] => { results := [.lit (.bool true)], args := [d] }
  | _ => none }
def compactTextsRow : OpenClaim := { program := "ytnmgjpcooncjlaagreat", sum := "db3cd95ebd7753af87e887b8bcdff14c802310feb2a83dc3749efe220a3ad23d", func := "evergreen/evergreenlaw51.CompactTexts", spec := "compactTexts", unfollowed := true, recurses := true, plainKeys := false, apart := false }
def CompactTextsSaid : Prop := compactTextsRow.holds Tryz.pinned (OpenSpec.ofChange compactTextsSpec)

/-- ITS FALSE NEIGHBOUR: 'it returns false'. Refute it at one input. -/
def compactTextsWrong : ChangeSpec := { name := "compactTexts", fn := fun _ => fun
  | [d] => { results := [.lit (.bool false)], args := [d] }
  | _ => none }
def CompactTextsWrongFalsely : Prop := compactTextsRow.holds Tryz.pinned (OpenSpec.ofChange compactTextsWrong)

/- THE SECOND FORM. 'bulk': how many values and letters a reading holds, each counted each time it is reached (what is shared counts as often as it is met; a slice's spare places count too). A statement '..UptoSaid' is the law's where the arguments, and the package variables that the reading takes, are together of bulk at most 1048576: NARROWER than '..Said'. Prove '..Said' where nothing that the law and all that it calls make is longer than what came in: it says more and counts as full. Else prove '..UptoSaid'. A law counts once. -/
mutual
def uptoBulk {H : Type} : DataW H → Nat
  | .lit (.string bytes) => bytes.length + 1
  | .lit _ => 1
  | .nil => 1
  | .ptr d => uptoBulk d + 1
  | .slice elems spare => uptoBulkAll elems + uptoBulkAll spare + 1
  | .agg parts => uptoBulkAll parts + 1
  | .iface _ d => uptoBulk d + 1
  | .map entries => uptoBulkEntries entries + 1
  | .held _ => 1
def uptoBulkAll {H : Type} : List (DataW H) → Nat
  | [] => 0
  | d :: r => uptoBulk d + uptoBulkAll r
def uptoBulkEntries {H : Type} : List (Lit × DataW H) → Nat
  | [] => 0
  | x :: r => uptoBulkEntry x + uptoBulkEntries r
def uptoBulkEntry {H : Type} : Lit × DataW H → Nat
  | (.string bytes, d) => bytes.length + uptoBulk d + 1
  | (_, d) => uptoBulk d + 1
 end
def uptoSmall : (H : Type) → List (DataW H) → Bool := fun _ ds => decide (uptoBulkAll ds ≤ 1048576)
def OpenSpec.upto (s : _root_.Go.ChangeSpec) : _root_.Go.OpenSpec := { _root_.Go.OpenSpec.ofChange s with cond := some uptoSmall }

/-- 'evergreenlaw51.CompactOf', WHERE WHAT IT READS IS OF BULK AT MOST 1048576: true; the input reads as it did. -/
def compactOfUptoRow : OpenClaim := { program := "ytnmgjpcooncjlaagreat", sum := "db3cd95ebd7753af87e887b8bcdff14c802310feb2a83dc3749efe220a3ad23d", func := "evergreen/evergreenlaw51.CompactOf", spec := "compactOf", unfollowed := true, recurses := true, plainKeys := false, apart := false, narrowed := true }
def CompactOfUptoSaid : Prop := compactOfUptoRow.holds Tryz.pinned (OpenSpec.upto compactOfSpec)

/-- 'evergreenlaw51.CompactFull', WHERE WHAT IT READS IS OF BULK AT MOST 1048576: true; the input reads as it did. -/
def compactFullUptoRow : OpenClaim := { program := "ytnmgjpcooncjlaagreat", sum := "db3cd95ebd7753af87e887b8bcdff14c802310feb2a83dc3749efe220a3ad23d", func := "evergreen/evergreenlaw51.CompactFull", spec := "compactFull", unfollowed := true, recurses := true, plainKeys := false, apart := false, narrowed := true }
def CompactFullUptoSaid : Prop := compactFullUptoRow.holds Tryz.pinned (OpenSpec.upto compactFullSpec)

/-- 'evergreenlaw51.CompactErrors', WHERE WHAT IT READS IS OF BULK AT MOST 1048576: true; the input reads as it did. -/
def compactErrorsUptoRow : OpenClaim := { program := "ytnmgjpcooncjlaagreat", sum := "db3cd95ebd7753af87e887b8bcdff14c802310feb2a83dc3749efe220a3ad23d", func := "evergreen/evergreenlaw51.CompactErrors", spec := "compactErrors", unfollowed := true, recurses := true, plainKeys := false, apart := false, narrowed := true }
def CompactErrorsUptoSaid : Prop := compactErrorsUptoRow.holds Tryz.pinned (OpenSpec.upto compactErrorsSpec)

/-- 'evergreenlaw51.CompactNone', WHERE WHAT IT READS IS OF BULK AT MOST 1048576: true; the input reads as it did. -/
def compactNoneUptoRow : OpenClaim := { program := "ytnmgjpcooncjlaagreat", sum := "db3cd95ebd7753af87e887b8bcdff14c802310feb2a83dc3749efe220a3ad23d", func := "evergreen/evergreenlaw51.CompactNone", spec := "compactNone", unfollowed := true, recurses := true, plainKeys := false, apart := false, narrowed := true }
def CompactNoneUptoSaid : Prop := compactNoneUptoRow.holds Tryz.pinned (OpenSpec.upto compactNoneSpec)

/-- 'evergreenlaw51.CompactAgain', WHERE WHAT IT READS IS OF BULK AT MOST 1048576: true; the input reads as it did. -/
def compactAgainUptoRow : OpenClaim := { program := "ytnmgjpcooncjlaagreat", sum := "db3cd95ebd7753af87e887b8bcdff14c802310feb2a83dc3749efe220a3ad23d", func := "evergreen/evergreenlaw51.CompactAgain", spec := "compactAgain", unfollowed := true, recurses := true, plainKeys := false, apart := false, narrowed := true }
def CompactAgainUptoSaid : Prop := compactAgainUptoRow.holds Tryz.pinned (OpenSpec.upto compactAgainSpec)

/-- 'evergreenlaw51.CompactTexts', WHERE WHAT IT READS IS OF BULK AT MOST 1048576: true; the input reads as it did. -/
def compactTextsUptoRow : OpenClaim := { program := "ytnmgjpcooncjlaagreat", sum := "db3cd95ebd7753af87e887b8bcdff14c802310feb2a83dc3749efe220a3ad23d", func := "evergreen/evergreenlaw51.CompactTexts", spec := "compactTexts", unfollowed := true, recurses := true, plainKeys := false, apart := false, narrowed := true }
def CompactTextsUptoSaid : Prop := compactTextsUptoRow.holds Tryz.pinned (OpenSpec.upto compactTextsSpec)

end Rows
end Go.Proofs.YtnmgjpcooncjlaaGreat
