/-
  No cell of these rows narrows 'for every input' (looked for: loops, veiled, ifaces, maps, wideKeys, modest, calm, conditions, laid).
  DERIVED. THE GIVEN ROWS OF THIS SEAT. 6 by the template 'for every input the law returns true; each argument reads behind the call as it read before'; 0 by the template 'total and deterministic' (their statements: YtdingjlefilafaaTotals.lean).
  GIVEN WITH THE SEED: the statements are not yours to turn. If you find one false, say at which input.
  Laid BY PROGRAM, IN A SANDBOX (cutbox-rows.mjs): the forced cells as the released guide's own fill.sh prints them over the translation 32c176b4ae25882a… (all of the seat's roots in one cut). By AI agents, Wed Nov 11 2026. No macro, syntax, notation, axiom, sorry.
-/
import Derived.Test.YtdingjlefilafaaChecked
import GoSem.Claim
import GoSem.ClaimJoined
import GoSem.ClaimMapViews
import Derived.JoinedTies
import Derived.KernelRfl
namespace Go.Proofs.Ytdingjlefilafaa
/- THE CELL 'sum', in the pinned program and in every row, IS THE sha256 OF THE DUMP (.gsa) THAT YtdingjlefilafaaProg.lean LOADS. Nothing in Lean hashes anything: it is a label: what it is worth is what the hold of that sum in a sandbox is worth. -/
noncomputable def Try.pinned : Pinned := { name := "ytdingjlefilafaa", sum := "32c176b4ae25882abc365f49af94502c95e5d63e6c4874a9d6fcac3ee297091d", checked := Try.checked }
namespace Rows
def none {H : Type} : Left H := { results := [], args := [] }

/-- 'laws.FnExactFactorizeRelation': WHATEVER THE INPUT: true; the input reads as it did. -/
def fnExactFactorizeRelationSpec : ChangeSpec := { name := "fnExactFactorizeRelation", fn := fun _ => fun
  | [d] => { results := [.lit (.bool true)], args := [d] }
  | _ => none }
def fnExactFactorizeRelationRow : OpenClaim := { program := "ytdingjlefilafaa", sum := "32c176b4ae25882abc365f49af94502c95e5d63e6c4874a9d6fcac3ee297091d", func := "loop.example/g01917/laws.FnExactFactorizeRelation", spec := "fnExactFactorizeRelation", recurses := true, apart := false }
def FnExactFactorizeRelationSaid : Prop := fnExactFactorizeRelationRow.holds Try.pinned (OpenSpec.ofChange fnExactFactorizeRelationSpec)

/-- ITS FALSE NEIGHBOUR: 'it returns false'. Refute it at one input. -/
def fnExactFactorizeRelationWrong : ChangeSpec := { name := "fnExactFactorizeRelation", fn := fun _ => fun
  | [d] => { results := [.lit (.bool false)], args := [d] }
  | _ => none }
def FnExactFactorizeRelationWrongFalsely : Prop := fnExactFactorizeRelationRow.holds Try.pinned (OpenSpec.ofChange fnExactFactorizeRelationWrong)

/-- 'laws.FnCanonicalFactorization': WHATEVER THE INPUT: true; the input reads as it did. -/
def fnCanonicalFactorizationSpec : ChangeSpec := { name := "fnCanonicalFactorization", fn := fun _ => fun
  | [d] => { results := [.lit (.bool true)], args := [d] }
  | _ => none }
def fnCanonicalFactorizationRow : OpenClaim := { program := "ytdingjlefilafaa", sum := "32c176b4ae25882abc365f49af94502c95e5d63e6c4874a9d6fcac3ee297091d", func := "loop.example/g01917/laws.FnCanonicalFactorization", spec := "fnCanonicalFactorization", recurses := true, apart := false }
def FnCanonicalFactorizationSaid : Prop := fnCanonicalFactorizationRow.holds Try.pinned (OpenSpec.ofChange fnCanonicalFactorizationSpec)

/-- ITS FALSE NEIGHBOUR: 'it returns false'. Refute it at one input. -/
def fnCanonicalFactorizationWrong : ChangeSpec := { name := "fnCanonicalFactorization", fn := fun _ => fun
  | [d] => { results := [.lit (.bool false)], args := [d] }
  | _ => none }
def FnCanonicalFactorizationWrongFalsely : Prop := fnCanonicalFactorizationRow.holds Try.pinned (OpenSpec.ofChange fnCanonicalFactorizationWrong)

/-- 'laws.FnExactExpandFactorization': WHATEVER THE INPUT: true; the input reads as it did. -/
def fnExactExpandFactorizationSpec : ChangeSpec := { name := "fnExactExpandFactorization", fn := fun _ => fun
  | [d] => { results := [.lit (.bool true)], args := [d] }
  | _ => none }
def fnExactExpandFactorizationRow : OpenClaim := { program := "ytdingjlefilafaa", sum := "32c176b4ae25882abc365f49af94502c95e5d63e6c4874a9d6fcac3ee297091d", func := "loop.example/g01917/laws.FnExactExpandFactorization", spec := "fnExactExpandFactorization", recurses := true, apart := false }
def FnExactExpandFactorizationSaid : Prop := fnExactExpandFactorizationRow.holds Try.pinned (OpenSpec.ofChange fnExactExpandFactorizationSpec)

/-- ITS FALSE NEIGHBOUR: 'it returns false'. Refute it at one input. -/
def fnExactExpandFactorizationWrong : ChangeSpec := { name := "fnExactExpandFactorization", fn := fun _ => fun
  | [d] => { results := [.lit (.bool false)], args := [d] }
  | _ => none }
def FnExactExpandFactorizationWrongFalsely : Prop := fnExactExpandFactorizationRow.holds Try.pinned (OpenSpec.ofChange fnExactExpandFactorizationWrong)

/-- 'laws.FnExactAggregateFactorization': WHATEVER THE INPUT: true; the input reads as it did. -/
def fnExactAggregateFactorizationSpec : ChangeSpec := { name := "fnExactAggregateFactorization", fn := fun _ => fun
  | [d1, d2] => { results := [.lit (.bool true)], args := [d1, d2] }
  | _ => none }
def fnExactAggregateFactorizationRow : OpenClaim := { program := "ytdingjlefilafaa", sum := "32c176b4ae25882abc365f49af94502c95e5d63e6c4874a9d6fcac3ee297091d", func := "loop.example/g01917/laws.FnExactAggregateFactorization", spec := "fnExactAggregateFactorization", recurses := true, apart := false }
def FnExactAggregateFactorizationSaid : Prop := fnExactAggregateFactorizationRow.holds Try.pinned (OpenSpec.ofChange fnExactAggregateFactorizationSpec)

/-- ITS FALSE NEIGHBOUR: 'it returns false'. Refute it at one input. -/
def fnExactAggregateFactorizationWrong : ChangeSpec := { name := "fnExactAggregateFactorization", fn := fun _ => fun
  | [d1, d2] => { results := [.lit (.bool false)], args := [d1, d2] }
  | _ => none }
def FnExactAggregateFactorizationWrongFalsely : Prop := fnExactAggregateFactorizationRow.holds Try.pinned (OpenSpec.ofChange fnExactAggregateFactorizationWrong)

/-- 'laws.FnExactAggregateGroups': WHATEVER THE INPUT: true; the input reads as it did. -/
def fnExactAggregateGroupsSpec : ChangeSpec := { name := "fnExactAggregateGroups", fn := fun _ => fun
  | [d1, d2] => { results := [.lit (.bool true)], args := [d1, d2] }
  | _ => none }
def fnExactAggregateGroupsRow : OpenClaim := { program := "ytdingjlefilafaa", sum := "32c176b4ae25882abc365f49af94502c95e5d63e6c4874a9d6fcac3ee297091d", func := "loop.example/g01917/laws.FnExactAggregateGroups", spec := "fnExactAggregateGroups", recurses := true, apart := false }
def FnExactAggregateGroupsSaid : Prop := fnExactAggregateGroupsRow.holds Try.pinned (OpenSpec.ofChange fnExactAggregateGroupsSpec)

/-- ITS FALSE NEIGHBOUR: 'it returns false'. Refute it at one input. -/
def fnExactAggregateGroupsWrong : ChangeSpec := { name := "fnExactAggregateGroups", fn := fun _ => fun
  | [d1, d2] => { results := [.lit (.bool false)], args := [d1, d2] }
  | _ => none }
def FnExactAggregateGroupsWrongFalsely : Prop := fnExactAggregateGroupsRow.holds Try.pinned (OpenSpec.ofChange fnExactAggregateGroupsWrong)

/-- 'laws.FnAggregates': WHATEVER THE INPUT: true; the input reads as it did. -/
def fnAggregatesSpec : ChangeSpec := { name := "fnAggregates", fn := fun _ => fun
  | [d] => { results := [.lit (.bool true)], args := [d] }
  | _ => none }
def fnAggregatesRow : OpenClaim := { program := "ytdingjlefilafaa", sum := "32c176b4ae25882abc365f49af94502c95e5d63e6c4874a9d6fcac3ee297091d", func := "loop.example/g01917/laws.FnAggregates", spec := "fnAggregates", recurses := true, apart := false }
def FnAggregatesSaid : Prop := fnAggregatesRow.holds Try.pinned (OpenSpec.ofChange fnAggregatesSpec)

/-- ITS FALSE NEIGHBOUR: 'it returns false'. Refute it at one input. -/
def fnAggregatesWrong : ChangeSpec := { name := "fnAggregates", fn := fun _ => fun
  | [d] => { results := [.lit (.bool false)], args := [d] }
  | _ => none }
def FnAggregatesWrongFalsely : Prop := fnAggregatesRow.holds Try.pinned (OpenSpec.ofChange fnAggregatesWrong)

/- THE SECOND FORM. 'bulk': how many values and letters a reading holds, each counted each time it is reached (what is shared counts as often as it is met; a slice's spare places count too). A statement '..UptoSaid' is the law's where the arguments, and the package variables that the reading takes, are together of bulk at most 1048576: NARROWER than '..Said'. Prove '..Said' where nothing that the law and all that it calls make is longer than what came in: it says more and counts as full. Else prove '..UptoSaid'. A law counts once. -/
mutual
def uptoBulk {H : Type} : DataW H → Nat
  | .lit (.string bytes) => bytes.length + 1
  | .lit _ => 1
  | .nil => 1
  | .ptr d => uptoBulk d + 1
  | .slice elems spare => uptoBulkAll elems + uptoBulkAll spare + 1
  | .agg parts => uptoBulkAll parts + 1
  | .iface _ d => uptoBulk d + 1
  | .map entries => uptoBulkEntries entries + 1
  | .held _ => 1
def uptoBulkAll {H : Type} : List (DataW H) → Nat
  | [] => 0
  | d :: r => uptoBulk d + uptoBulkAll r
def uptoBulkEntries {H : Type} : List (Lit × DataW H) → Nat
  | [] => 0
  | x :: r => uptoBulkEntry x + uptoBulkEntries r
def uptoBulkEntry {H : Type} : Lit × DataW H → Nat
  | (.string bytes, d) => bytes.length + uptoBulk d + 1
  | (_, d) => uptoBulk d + 1
 end
def uptoSmall : (H : Type) → List (DataW H) → Bool := fun _ ds => decide (uptoBulkAll ds ≤ 1048576)
def OpenSpec.upto (s : _root_.Go.ChangeSpec) : _root_.Go.OpenSpec := { _root_.Go.OpenSpec.ofChange s with cond := some uptoSmall }

/-- 'laws.FnExactFactorizeRelation', WHERE WHAT IT READS IS OF BULK AT MOST 1048576: true; the input reads as it did. -/
def fnExactFactorizeRelationUptoRow : OpenClaim := { program := "ytdingjlefilafaa", sum := "32c176b4ae25882abc365f49af94502c95e5d63e6c4874a9d6fcac3ee297091d", func := "loop.example/g01917/laws.FnExactFactorizeRelation", spec := "fnExactFactorizeRelation", recurses := true, apart := false, narrowed := true }
def FnExactFactorizeRelationUptoSaid : Prop := fnExactFactorizeRelationUptoRow.holds Try.pinned (OpenSpec.upto fnExactFactorizeRelationSpec)

/-- 'laws.FnCanonicalFactorization', WHERE WHAT IT READS IS OF BULK AT MOST 1048576: true; the input reads as it did. -/
def fnCanonicalFactorizationUptoRow : OpenClaim := { program := "ytdingjlefilafaa", sum := "32c176b4ae25882abc365f49af94502c95e5d63e6c4874a9d6fcac3ee297091d", func := "loop.example/g01917/laws.FnCanonicalFactorization", spec := "fnCanonicalFactorization", recurses := true, apart := false, narrowed := true }
def FnCanonicalFactorizationUptoSaid : Prop := fnCanonicalFactorizationUptoRow.holds Try.pinned (OpenSpec.upto fnCanonicalFactorizationSpec)

/-- 'laws.FnExactExpandFactorization', WHERE WHAT IT READS IS OF BULK AT MOST 1048576: true; the input reads as it did. -/
def fnExactExpandFactorizationUptoRow : OpenClaim := { program := "ytdingjlefilafaa", sum := "32c176b4ae25882abc365f49af94502c95e5d63e6c4874a9d6fcac3ee297091d", func := "loop.example/g01917/laws.FnExactExpandFactorization", spec := "fnExactExpandFactorization", recurses := true, apart := false, narrowed := true }
def FnExactExpandFactorizationUptoSaid : Prop := fnExactExpandFactorizationUptoRow.holds Try.pinned (OpenSpec.upto fnExactExpandFactorizationSpec)

/-- 'laws.FnExactAggregateFactorization', WHERE WHAT IT READS IS OF BULK AT MOST 1048576: true; the input reads as it did. -/
def fnExactAggregateFactorizationUptoRow : OpenClaim := { program := "ytdingjlefilafaa", sum := "32c176b4ae25882abc365f49af94502c95e5d63e6c4874a9d6fcac3ee297091d", func := "loop.example/g01917/laws.FnExactAggregateFactorization", spec := "fnExactAggregateFactorization", recurses := true, apart := false, narrowed := true }
def FnExactAggregateFactorizationUptoSaid : Prop := fnExactAggregateFactorizationUptoRow.holds Try.pinned (OpenSpec.upto fnExactAggregateFactorizationSpec)

/-- 'laws.FnExactAggregateGroups', WHERE WHAT IT READS IS OF BULK AT MOST 1048576: true; the input reads as it did. -/
def fnExactAggregateGroupsUptoRow : OpenClaim := { program := "ytdingjlefilafaa", sum := "32c176b4ae25882abc365f49af94502c95e5d63e6c4874a9d6fcac3ee297091d", func := "loop.example/g01917/laws.FnExactAggregateGroups", spec := "fnExactAggregateGroups", recurses := true, apart := false, narrowed := true }
def FnExactAggregateGroupsUptoSaid : Prop := fnExactAggregateGroupsUptoRow.holds Try.pinned (OpenSpec.upto fnExactAggregateGroupsSpec)

/-- 'laws.FnAggregates', WHERE WHAT IT READS IS OF BULK AT MOST 1048576: true; the input reads as it did. -/
def fnAggregatesUptoRow : OpenClaim := { program := "ytdingjlefilafaa", sum := "32c176b4ae25882abc365f49af94502c95e5d63e6c4874a9d6fcac3ee297091d", func := "loop.example/g01917/laws.FnAggregates", spec := "fnAggregates", recurses := true, apart := false, narrowed := true }
def FnAggregatesUptoSaid : Prop := fnAggregatesUptoRow.holds Try.pinned (OpenSpec.upto fnAggregatesSpec)

end Rows
end Go.Proofs.Ytdingjlefilafaa
