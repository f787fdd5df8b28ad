/-
  No cell of these rows narrows 'for every input' (looked for: loops, veiled, ifaces, maps, wideKeys, modest, calm, conditions, laid).
  DERIVED. THE GIVEN ROWS OF THIS SEAT. 7 by the template 'for every input the law returns true; each argument reads behind the call as it read before'; 0 by the template 'total and deterministic' (their statements: YtedmbgddmckegaaTotals.lean).
  GIVEN WITH THE SEED: the statements are not yours to turn. If you find one false, say at which input.
  Laid BY PROGRAM, IN A SANDBOX (cutbox-rows.mjs): the forced cells as the released guide's own fill.sh prints them over the translation bcda4841e6be9000… (all of the seat's roots in one cut). By AI agents, Wed Nov 11 2026. No macro, syntax, notation, axiom, sorry.
-/
import Derived.Test.YtedmbgddmckegaaChecked
import GoSem.Claim
import GoSem.ClaimJoined
import GoSem.ClaimMapViews
import Derived.JoinedTies
import Derived.KernelRfl
namespace Go.Proofs.Ytedmbgddmckegaa
/- THE CELL 'sum', in the pinned program and in every row, IS THE sha256 OF THE DUMP (.gsa) THAT YtedmbgddmckegaaProg.lean LOADS. Nothing in Lean hashes anything: it is a label: what it is worth is what the hold of that sum in a sandbox is worth. -/
noncomputable def Try.pinned : Pinned := { name := "ytedmbgddmckegaa", sum := "bcda4841e6be9000f409251361989e1ef965b43334ed4a7026b54a4be74a1873", checked := Try.checked }
namespace Rows
def none {H : Type} : Left H := { results := [], args := [] }

/-- 'evergreenlaw13.AvlLeasts': WHATEVER THE INPUT: true; the input reads as it did. -/
def avlLeastsSpec : ChangeSpec := { name := "avlLeasts", fn := fun _ => fun
  | [d1, d2] => { results := [.lit (.bool true)], args := [d1, d2] }
  | _ => none }
def avlLeastsRow : OpenClaim := { program := "ytedmbgddmckegaa", sum := "bcda4841e6be9000f409251361989e1ef965b43334ed4a7026b54a4be74a1873", func := "evergreen/evergreenlaw13.AvlLeasts", spec := "avlLeasts", recurses := true, plainKeys := false, apart := false }
def AvlLeastsSaid : Prop := avlLeastsRow.holds Try.pinned (OpenSpec.ofChange avlLeastsSpec)

/-- ITS FALSE NEIGHBOUR: 'it returns false'. Refute it at one input. -/
def avlLeastsWrong : ChangeSpec := { name := "avlLeasts", fn := fun _ => fun
  | [d1, d2] => { results := [.lit (.bool false)], args := [d1, d2] }
  | _ => none }
def AvlLeastsWrongFalsely : Prop := avlLeastsRow.holds Try.pinned (OpenSpec.ofChange avlLeastsWrong)

/-- 'evergreenlaw13.AvlDeep': WHATEVER THE INPUT: true; the input reads as it did. -/
def avlDeepSpec : ChangeSpec := { name := "avlDeep", fn := fun _ => fun
  | [d] => { results := [.lit (.bool true)], args := [d] }
  | _ => none }
def avlDeepRow : OpenClaim := { program := "ytedmbgddmckegaa", sum := "bcda4841e6be9000f409251361989e1ef965b43334ed4a7026b54a4be74a1873", func := "evergreen/evergreenlaw13.AvlDeep", spec := "avlDeep", recurses := true, plainKeys := false, apart := false }
def AvlDeepSaid : Prop := avlDeepRow.holds Try.pinned (OpenSpec.ofChange avlDeepSpec)

/-- ITS FALSE NEIGHBOUR: 'it returns false'. Refute it at one input. -/
def avlDeepWrong : ChangeSpec := { name := "avlDeep", fn := fun _ => fun
  | [d] => { results := [.lit (.bool false)], args := [d] }
  | _ => none }
def AvlDeepWrongFalsely : Prop := avlDeepRow.holds Try.pinned (OpenSpec.ofChange avlDeepWrong)

/-- 'evergreenlaw13.AvlVerifies': WHATEVER THE INPUT: true; the input reads as it did. -/
def avlVerifiesSpec : ChangeSpec := { name := "avlVerifies", fn := fun _ => fun
  | [d] => { results := [.lit (.bool true)], args := [d] }
  | _ => none }
def avlVerifiesRow : OpenClaim := { program := "ytedmbgddmckegaa", sum := "bcda4841e6be9000f409251361989e1ef965b43334ed4a7026b54a4be74a1873", func := "evergreen/evergreenlaw13.AvlVerifies", spec := "avlVerifies", recurses := true, plainKeys := false, apart := false }
def AvlVerifiesSaid : Prop := avlVerifiesRow.holds Try.pinned (OpenSpec.ofChange avlVerifiesSpec)

/-- ITS FALSE NEIGHBOUR: 'it returns false'. Refute it at one input. -/
def avlVerifiesWrong : ChangeSpec := { name := "avlVerifies", fn := fun _ => fun
  | [d] => { results := [.lit (.bool false)], args := [d] }
  | _ => none }
def AvlVerifiesWrongFalsely : Prop := avlVerifiesRow.holds Try.pinned (OpenSpec.ofChange avlVerifiesWrong)

/-- 'evergreenlaw13.AvlAny': WHATEVER THE INPUT: true; the input reads as it did. -/
def avlAnySpec : ChangeSpec := { name := "avlAny", fn := fun _ => fun
  | [d1, d2, d3] => { results := [.lit (.bool true)], args := [d1, d2, d3] }
  | _ => none }
def avlAnyRow : OpenClaim := { program := "ytedmbgddmckegaa", sum := "bcda4841e6be9000f409251361989e1ef965b43334ed4a7026b54a4be74a1873", func := "evergreen/evergreenlaw13.AvlAny", spec := "avlAny", recurses := true, plainKeys := false, apart := false }
def AvlAnySaid : Prop := avlAnyRow.holds Try.pinned (OpenSpec.ofChange avlAnySpec)

/-- ITS FALSE NEIGHBOUR: 'it returns false'. Refute it at one input. -/
def avlAnyWrong : ChangeSpec := { name := "avlAny", fn := fun _ => fun
  | [d1, d2, d3] => { results := [.lit (.bool false)], args := [d1, d2, d3] }
  | _ => none }
def AvlAnyWrongFalsely : Prop := avlAnyRow.holds Try.pinned (OpenSpec.ofChange avlAnyWrong)

/-- 'evergreenlaw13.AvlJoins': WHATEVER THE INPUT: true; the input reads as it did. -/
def avlJoinsSpec : ChangeSpec := { name := "avlJoins", fn := fun _ => fun
  | [d] => { results := [.lit (.bool true)], args := [d] }
  | _ => none }
def avlJoinsRow : OpenClaim := { program := "ytedmbgddmckegaa", sum := "bcda4841e6be9000f409251361989e1ef965b43334ed4a7026b54a4be74a1873", func := "evergreen/evergreenlaw13.AvlJoins", spec := "avlJoins", recurses := true, plainKeys := false, apart := false }
def AvlJoinsSaid : Prop := avlJoinsRow.holds Try.pinned (OpenSpec.ofChange avlJoinsSpec)

/-- ITS FALSE NEIGHBOUR: 'it returns false'. Refute it at one input. -/
def avlJoinsWrong : ChangeSpec := { name := "avlJoins", fn := fun _ => fun
  | [d] => { results := [.lit (.bool false)], args := [d] }
  | _ => none }
def AvlJoinsWrongFalsely : Prop := avlJoinsRow.holds Try.pinned (OpenSpec.ofChange avlJoinsWrong)

/-- 'evergreenlaw13.AvlNil': WHATEVER THE INPUT: true; the input reads as it did. -/
def avlNilSpec : ChangeSpec := { name := "avlNil", fn := fun _ => fun
  | [d1, d2] => { results := [.lit (.bool true)], args := [d1, d2] }
  | _ => none }
def avlNilRow : OpenClaim := { program := "ytedmbgddmckegaa", sum := "bcda4841e6be9000f409251361989e1ef965b43334ed4a7026b54a4be74a1873", func := "evergreen/evergreenlaw13.AvlNil", spec := "avlNil", unfollowed := true, recurses := true, plainKeys := false, apart := false }
def AvlNilSaid : Prop := avlNilRow.holds Try.pinned (OpenSpec.ofChange avlNilSpec)

/-- ITS FALSE NEIGHBOUR: 'it returns false'. Refute it at one input. -/
def avlNilWrong : ChangeSpec := { name := "avlNil", fn := fun _ => fun
  | [d1, d2] => { results := [.lit (.bool false)], args := [d1, d2] }
  | _ => none }
def AvlNilWrongFalsely : Prop := avlNilRow.holds Try.pinned (OpenSpec.ofChange avlNilWrong)

/-- 'evergreenlaw13.AvlCertificates': WHATEVER THE INPUT: true; the input reads as it did. -/
def avlCertificatesSpec : ChangeSpec := { name := "avlCertificates", fn := fun _ => fun
  | [d1, d2] => { results := [.lit (.bool true)], args := [d1, d2] }
  | _ => none }
def avlCertificatesRow : OpenClaim := { program := "ytedmbgddmckegaa", sum := "bcda4841e6be9000f409251361989e1ef965b43334ed4a7026b54a4be74a1873", func := "evergreen/evergreenlaw13.AvlCertificates", spec := "avlCertificates", unfollowed := true, recurses := true, plainKeys := false, apart := false }
def AvlCertificatesSaid : Prop := avlCertificatesRow.holds Try.pinned (OpenSpec.ofChange avlCertificatesSpec)

/-- ITS FALSE NEIGHBOUR: 'it returns false'. Refute it at one input. -/
def avlCertificatesWrong : ChangeSpec := { name := "avlCertificates", fn := fun _ => fun
  | [d1, d2] => { results := [.lit (.bool false)], args := [d1, d2] }
  | _ => none }
def AvlCertificatesWrongFalsely : Prop := avlCertificatesRow.holds Try.pinned (OpenSpec.ofChange avlCertificatesWrong)

/- THE SECOND FORM. 'bulk': how many values and letters a reading holds, each counted each time it is reached (what is shared counts as often as it is met; a slice's spare places count too). A statement '..UptoSaid' is the law's where the arguments, and the package variables that the reading takes, are together of bulk at most 1048576: NARROWER than '..Said'. Prove '..Said' where nothing that the law and all that it calls make is longer than what came in: it says more and counts as full. Else prove '..UptoSaid'. A law counts once. -/
mutual
def uptoBulk {H : Type} : DataW H → Nat
  | .lit (.string bytes) => bytes.length + 1
  | .lit _ => 1
  | .nil => 1
  | .ptr d => uptoBulk d + 1
  | .slice elems spare => uptoBulkAll elems + uptoBulkAll spare + 1
  | .agg parts => uptoBulkAll parts + 1
  | .iface _ d => uptoBulk d + 1
  | .map entries => uptoBulkEntries entries + 1
  | .held _ => 1
def uptoBulkAll {H : Type} : List (DataW H) → Nat
  | [] => 0
  | d :: r => uptoBulk d + uptoBulkAll r
def uptoBulkEntries {H : Type} : List (Lit × DataW H) → Nat
  | [] => 0
  | x :: r => uptoBulkEntry x + uptoBulkEntries r
def uptoBulkEntry {H : Type} : Lit × DataW H → Nat
  | (.string bytes, d) => bytes.length + uptoBulk d + 1
  | (_, d) => uptoBulk d + 1
 end
def uptoSmall : (H : Type) → List (DataW H) → Bool := fun _ ds => decide (uptoBulkAll ds ≤ 1048576)
def OpenSpec.upto (s : _root_.Go.ChangeSpec) : _root_.Go.OpenSpec := { _root_.Go.OpenSpec.ofChange s with cond := some uptoSmall }

/-- 'evergreenlaw13.AvlLeasts', WHERE WHAT IT READS IS OF BULK AT MOST 1048576: true; the input reads as it did. -/
def avlLeastsUptoRow : OpenClaim := { program := "ytedmbgddmckegaa", sum := "bcda4841e6be9000f409251361989e1ef965b43334ed4a7026b54a4be74a1873", func := "evergreen/evergreenlaw13.AvlLeasts", spec := "avlLeasts", recurses := true, plainKeys := false, apart := false, narrowed := true }
def AvlLeastsUptoSaid : Prop := avlLeastsUptoRow.holds Try.pinned (OpenSpec.upto avlLeastsSpec)

/-- 'evergreenlaw13.AvlDeep', WHERE WHAT IT READS IS OF BULK AT MOST 1048576: true; the input reads as it did. -/
def avlDeepUptoRow : OpenClaim := { program := "ytedmbgddmckegaa", sum := "bcda4841e6be9000f409251361989e1ef965b43334ed4a7026b54a4be74a1873", func := "evergreen/evergreenlaw13.AvlDeep", spec := "avlDeep", recurses := true, plainKeys := false, apart := false, narrowed := true }
def AvlDeepUptoSaid : Prop := avlDeepUptoRow.holds Try.pinned (OpenSpec.upto avlDeepSpec)

/-- 'evergreenlaw13.AvlVerifies', WHERE WHAT IT READS IS OF BULK AT MOST 1048576: true; the input reads as it did. -/
def avlVerifiesUptoRow : OpenClaim := { program := "ytedmbgddmckegaa", sum := "bcda4841e6be9000f409251361989e1ef965b43334ed4a7026b54a4be74a1873", func := "evergreen/evergreenlaw13.AvlVerifies", spec := "avlVerifies", recurses := true, plainKeys := false, apart := false, narrowed := true }
def AvlVerifiesUptoSaid : Prop := avlVerifiesUptoRow.holds Try.pinned (OpenSpec.upto avlVerifiesSpec)

/-- 'evergreenlaw13.AvlAny', WHERE WHAT IT READS IS OF BULK AT MOST 1048576: true; the input reads as it did. -/
def avlAnyUptoRow : OpenClaim := { program := "ytedmbgddmckegaa", sum := "bcda4841e6be9000f409251361989e1ef965b43334ed4a7026b54a4be74a1873", func := "evergreen/evergreenlaw13.AvlAny", spec := "avlAny", recurses := true, plainKeys := false, apart := false, narrowed := true }
def AvlAnyUptoSaid : Prop := avlAnyUptoRow.holds Try.pinned (OpenSpec.upto avlAnySpec)

/-- 'evergreenlaw13.AvlJoins', WHERE WHAT IT READS IS OF BULK AT MOST 1048576: true; the input reads as it did. -/
def avlJoinsUptoRow : OpenClaim := { program := "ytedmbgddmckegaa", sum := "bcda4841e6be9000f409251361989e1ef965b43334ed4a7026b54a4be74a1873", func := "evergreen/evergreenlaw13.AvlJoins", spec := "avlJoins", recurses := true, plainKeys := false, apart := false, narrowed := true }
def AvlJoinsUptoSaid : Prop := avlJoinsUptoRow.holds Try.pinned (OpenSpec.upto avlJoinsSpec)

/-- 'evergreenlaw13.AvlNil', WHERE WHAT IT READS IS OF BULK AT MOST 1048576: true; the input reads as it did. -/
def avlNilUptoRow : OpenClaim := { program := "ytedmbgddmckegaa", sum := "bcda4841e6be9000f409251361989e1ef965b43334ed4a7026b54a4be74a1873", func := "evergreen/evergreenlaw13.AvlNil", spec := "avlNil", unfollowed := true, recurses := true, plainKeys := false, apart := false, narrowed := true }
def AvlNilUptoSaid : Prop := avlNilUptoRow.holds Try.pinned (OpenSpec.upto avlNilSpec)

/-- 'evergreenlaw13.AvlCertificates', WHERE WHAT IT READS IS OF BULK AT MOST 1048576: true; the input reads as it did. -/
def avlCertificatesUptoRow : OpenClaim := { program := "ytedmbgddmckegaa", sum := "bcda4841e6be9000f409251361989e1ef965b43334ed4a7026b54a4be74a1873", func := "evergreen/evergreenlaw13.AvlCertificates", spec := "avlCertificates", unfollowed := true, recurses := true, plainKeys := false, apart := false, narrowed := true }
def AvlCertificatesUptoSaid : Prop := avlCertificatesUptoRow.holds Try.pinned (OpenSpec.upto avlCertificatesSpec)

end Rows
end Go.Proofs.Ytedmbgddmckegaa
