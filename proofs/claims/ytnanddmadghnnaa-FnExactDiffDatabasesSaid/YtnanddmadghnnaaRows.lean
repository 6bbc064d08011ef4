/-
  No cell of these rows narrows 'for every input' (looked for: loops, veiled, ifaces, maps, wideKeys, modest, calm, conditions, laid).
  DERIVED. THE GIVEN ROWS OF THIS SEAT. 3 by the template 'for every input the law returns true; each argument reads behind the call as it read before'; 0 by the template 'total and deterministic' (their statements: YtnanddmadghnnaaTotals.lean).
  GIVEN WITH THE SEED: the statements are not yours to turn. If you find one false, say at which input.
  Laid BY PROGRAM, IN A SANDBOX (cutbox-rows.mjs): the forced cells as the released guide's own fill.sh prints them over the translation 0e8fb0eb9812d68e… (all of the seat's roots in one cut). By AI agents, Wed Nov 11 2026. No macro, syntax, notation, axiom, sorry.
-/
import Derived.Test.YtnanddmadghnnaaChecked
import GoSem.Claim
import GoSem.ClaimJoined
import GoSem.ClaimMapViews
import Derived.JoinedTies
import Derived.KernelRfl
namespace Go.Proofs.Ytnanddmadghnnaa
/- THE CELL 'sum', in the pinned program and in every row, IS THE sha256 OF THE DUMP (.gsa) THAT YtnanddmadghnnaaProg.lean LOADS. Nothing in Lean hashes anything: it is a label: what it is worth is what the hold of that sum in a sandbox is worth. -/
noncomputable def Try.pinned : Pinned := { name := "ytnanddmadghnnaa", sum := "0e8fb0eb9812d68ea9d6d250a1bc9ebb5a929a4e7d02750f4b74238c695bb37b", checked := Try.checked }
namespace Rows
def none {H : Type} : Left H := { results := [], args := [] }

/-- 'laws.FnExactIntersectByLookup': WHATEVER THE INPUT: true; the input reads as it did. -/
def fnExactIntersectByLookupSpec : ChangeSpec := { name := "fnExactIntersectByLookup", fn := fun _ => fun
  | [d] => { results := [.lit (.bool true)], args := [d] }
  | _ => none }
def fnExactIntersectByLookupRow : OpenClaim := { program := "ytnanddmadghnnaa", sum := "0e8fb0eb9812d68ea9d6d250a1bc9ebb5a929a4e7d02750f4b74238c695bb37b", func := "loop.example/g01917/laws.FnExactIntersectByLookup", spec := "fnExactIntersectByLookup", apart := false }
def FnExactIntersectByLookupSaid : Prop := fnExactIntersectByLookupRow.holds Try.pinned (OpenSpec.ofChange fnExactIntersectByLookupSpec)

/-- ITS FALSE NEIGHBOUR: 'it returns false'. Refute it at one input. -/
def fnExactIntersectByLookupWrong : ChangeSpec := { name := "fnExactIntersectByLookup", fn := fun _ => fun
  | [d] => { results := [.lit (.bool false)], args := [d] }
  | _ => none }
def FnExactIntersectByLookupWrongFalsely : Prop := fnExactIntersectByLookupRow.holds Try.pinned (OpenSpec.ofChange fnExactIntersectByLookupWrong)

/-- 'laws.FnExactIsValidDelta': WHATEVER THE INPUT: true; the input reads as it did. -/
def fnExactIsValidDeltaSpec : ChangeSpec := { name := "fnExactIsValidDelta", fn := fun _ => fun
  | [d1, d2] => { results := [.lit (.bool true)], args := [d1, d2] }
  | _ => none }
def fnExactIsValidDeltaRow : OpenClaim := { program := "ytnanddmadghnnaa", sum := "0e8fb0eb9812d68ea9d6d250a1bc9ebb5a929a4e7d02750f4b74238c695bb37b", func := "loop.example/g01917/laws.FnExactIsValidDelta", spec := "fnExactIsValidDelta", apart := false }
def FnExactIsValidDeltaSaid : Prop := fnExactIsValidDeltaRow.holds Try.pinned (OpenSpec.ofChange fnExactIsValidDeltaSpec)

/-- ITS FALSE NEIGHBOUR: 'it returns false'. Refute it at one input. -/
def fnExactIsValidDeltaWrong : ChangeSpec := { name := "fnExactIsValidDelta", fn := fun _ => fun
  | [d1, d2] => { results := [.lit (.bool false)], args := [d1, d2] }
  | _ => none }
def FnExactIsValidDeltaWrongFalsely : Prop := fnExactIsValidDeltaRow.holds Try.pinned (OpenSpec.ofChange fnExactIsValidDeltaWrong)

/-- 'laws.FnExactDiffDatabases': WHATEVER THE INPUT: true; the input reads as it did. -/
def fnExactDiffDatabasesSpec : ChangeSpec := { name := "fnExactDiffDatabases", fn := fun _ => fun
  | [d1, d2, d3] => { results := [.lit (.bool true)], args := [d1, d2, d3] }
  | _ => none }
def fnExactDiffDatabasesRow : OpenClaim := { program := "ytnanddmadghnnaa", sum := "0e8fb0eb9812d68ea9d6d250a1bc9ebb5a929a4e7d02750f4b74238c695bb37b", func := "loop.example/g01917/laws.FnExactDiffDatabases", spec := "fnExactDiffDatabases", apart := false }
def FnExactDiffDatabasesSaid : Prop := fnExactDiffDatabasesRow.holds Try.pinned (OpenSpec.ofChange fnExactDiffDatabasesSpec)

/-- ITS FALSE NEIGHBOUR: 'it returns false'. Refute it at one input. -/
def fnExactDiffDatabasesWrong : ChangeSpec := { name := "fnExactDiffDatabases", fn := fun _ => fun
  | [d1, d2, d3] => { results := [.lit (.bool false)], args := [d1, d2, d3] }
  | _ => none }
def FnExactDiffDatabasesWrongFalsely : Prop := fnExactDiffDatabasesRow.holds Try.pinned (OpenSpec.ofChange fnExactDiffDatabasesWrong)

/- THE SECOND FORM. 'bulk': how many values and letters a reading holds, each counted each time it is reached (what is shared counts as often as it is met; a slice's spare places count too). A statement '..UptoSaid' is the law's where the arguments, and the package variables that the reading takes, are together of bulk at most 1048576: NARROWER than '..Said'. Prove '..Said' where nothing that the law and all that it calls make is longer than what came in: it says more and counts as full. Else prove '..UptoSaid'. A law counts once. -/
mutual
def uptoBulk {H : Type} : DataW H → Nat
  | .lit (.string bytes) => bytes.length + 1
  | .lit _ => 1
  | .nil => 1
  | .ptr d => uptoBulk d + 1
  | .slice elems spare => uptoBulkAll elems + uptoBulkAll spare + 1
  | .agg parts => uptoBulkAll parts + 1
  | .iface _ d => uptoBulk d + 1
  | .map entries => uptoBulkEntries entries + 1
  | .held _ => 1
def uptoBulkAll {H : Type} : List (DataW H) → Nat
  | [] => 0
  | d :: r => uptoBulk d + uptoBulkAll r
def uptoBulkEntries {H : Type} : List (Lit × DataW H) → Nat
  | [] => 0
  | x :: r => uptoBulkEntry x + uptoBulkEntries r
def uptoBulkEntry {H : Type} : Lit × DataW H → Nat
  | (.string bytes, d) => bytes.length + uptoBulk d + 1
  | (_, d) => uptoBulk d + 1
 end
def uptoSmall : (H : Type) → List (DataW H) → Bool := fun _ ds => decide (uptoBulkAll ds ≤ 1048576)
def OpenSpec.upto (s : _root_.Go.ChangeSpec) : _root_.Go.OpenSpec := { _root_.Go.OpenSpec.ofChange s with cond := some uptoSmall }

/-- 'laws.FnExactIntersectByLookup', WHERE WHAT IT READS IS OF BULK AT MOST 1048576: true; the input reads as it did. -/
def fnExactIntersectByLookupUptoRow : OpenClaim := { program := "ytnanddmadghnnaa", sum := "0e8fb0eb9812d68ea9d6d250a1bc9ebb5a929a4e7d02750f4b74238c695bb37b", func := "loop.example/g01917/laws.FnExactIntersectByLookup", spec := "fnExactIntersectByLookup", apart := false, narrowed := true }
def FnExactIntersectByLookupUptoSaid : Prop := fnExactIntersectByLookupUptoRow.holds Try.pinned (OpenSpec.upto fnExactIntersectByLookupSpec)

/-- 'laws.FnExactIsValidDelta', WHERE WHAT IT READS IS OF BULK AT MOST 1048576: true; the input reads as it did. -/
def fnExactIsValidDeltaUptoRow : OpenClaim := { program := "ytnanddmadghnnaa", sum := "0e8fb0eb9812d68ea9d6d250a1bc9ebb5a929a4e7d02750f4b74238c695bb37b", func := "loop.example/g01917/laws.FnExactIsValidDelta", spec := "fnExactIsValidDelta", apart := false, narrowed := true }
def FnExactIsValidDeltaUptoSaid : Prop := fnExactIsValidDeltaUptoRow.holds Try.pinned (OpenSpec.upto fnExactIsValidDeltaSpec)

/-- 'laws.FnExactDiffDatabases', WHERE WHAT IT READS IS OF BULK AT MOST 1048576: true; the input reads as it did. -/
def fnExactDiffDatabasesUptoRow : OpenClaim := { program := "ytnanddmadghnnaa", sum := "0e8fb0eb9812d68ea9d6d250a1bc9ebb5a929a4e7d02750f4b74238c695bb37b", func := "loop.example/g01917/laws.FnExactDiffDatabases", spec := "fnExactDiffDatabases", apart := false, narrowed := true }
def FnExactDiffDatabasesUptoSaid : Prop := fnExactDiffDatabasesUptoRow.holds Try.pinned (OpenSpec.upto fnExactDiffDatabasesSpec)

end Rows
end Go.Proofs.Ytnanddmadghnnaa
