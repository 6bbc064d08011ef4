/-
  No cell of these rows narrows 'for every input' (looked for: loops, veiled, ifaces, maps, wideKeys, modest, calm, conditions, laid).
  DERIVED. THE GIVEN ROWS OF THIS SEAT. 6 by the template 'for every input the law returns true; each argument reads behind the call as it read before'; 0 by the template 'total and deterministic' (their statements: YtbjfbfjacchjiaaTotals.lean).
  GIVEN WITH THE SEED: the statements are not yours to turn. If you find one false, say at which input.
  Laid BY PROGRAM, IN A SANDBOX (cutbox-rows.mjs): the forced cells as the released guide's own fill.sh prints them over the translation 1cd1a20057177b36… (all of the seat's roots in one cut). By AI agents, Wed Nov 11 2026. No macro, syntax, notation, axiom, sorry.
-/
import Derived.Test.YtbjfbfjacchjiaaChecked
import GoSem.Claim
import GoSem.ClaimJoined
import GoSem.ClaimMapViews
import Derived.JoinedTies
import Derived.KernelRfl
namespace Go.Proofs.Ytbjfbfjacchjiaa
/- THE CELL 'sum', in the pinned program and in every row, IS THE sha256 OF THE DUMP (.gsa) THAT YtbjfbfjacchjiaaProg.lean LOADS. Nothing in Lean hashes anything: it is a label: what it is worth is what the hold of that sum in a sandbox is worth. -/
noncomputable def Try.pinned : Pinned := { name := "ytbjfbfjacchjiaa", sum := "1cd1a20057177b368aafd0d0e9169dbfc7e70fac01be7b338e1a74eb47b572b9", checked := Try.checked }
namespace Rows
def none {H : Type} : Left H := { results := [], args := [] }

/-- 'laws.FnExactFactorizedRowCount': WHATEVER THE INPUT: true; the input reads as it did. -/
def fnExactFactorizedRowCountSpec : ChangeSpec := { name := "fnExactFactorizedRowCount", fn := fun _ => fun
  | [d] => { results := [.lit (.bool true)], args := [d] }
  | _ => none }
def fnExactFactorizedRowCountRow : OpenClaim := { program := "ytbjfbfjacchjiaa", sum := "1cd1a20057177b368aafd0d0e9169dbfc7e70fac01be7b338e1a74eb47b572b9", func := "loop.example/g01917/laws.FnExactFactorizedRowCount", spec := "fnExactFactorizedRowCount", apart := false }
def FnExactFactorizedRowCountSaid : Prop := fnExactFactorizedRowCountRow.holds Try.pinned (OpenSpec.ofChange fnExactFactorizedRowCountSpec)

/-- ITS FALSE NEIGHBOUR: 'it returns false'. Refute it at one input. -/
def fnExactFactorizedRowCountWrong : ChangeSpec := { name := "fnExactFactorizedRowCount", fn := fun _ => fun
  | [d] => { results := [.lit (.bool false)], args := [d] }
  | _ => none }
def FnExactFactorizedRowCountWrongFalsely : Prop := fnExactFactorizedRowCountRow.holds Try.pinned (OpenSpec.ofChange fnExactFactorizedRowCountWrong)

/-- 'laws.FnExactFactorizedPrefixCount': WHATEVER THE INPUT: true; the input reads as it did. -/
def fnExactFactorizedPrefixCountSpec : ChangeSpec := { name := "fnExactFactorizedPrefixCount", fn := fun _ => fun
  | [d1, d2] => { results := [.lit (.bool true)], args := [d1, d2] }
  | _ => none }
def fnExactFactorizedPrefixCountRow : OpenClaim := { program := "ytbjfbfjacchjiaa", sum := "1cd1a20057177b368aafd0d0e9169dbfc7e70fac01be7b338e1a74eb47b572b9", func := "loop.example/g01917/laws.FnExactFactorizedPrefixCount", spec := "fnExactFactorizedPrefixCount", apart := false }
def FnExactFactorizedPrefixCountSaid : Prop := fnExactFactorizedPrefixCountRow.holds Try.pinned (OpenSpec.ofChange fnExactFactorizedPrefixCountSpec)

/-- ITS FALSE NEIGHBOUR: 'it returns false'. Refute it at one input. -/
def fnExactFactorizedPrefixCountWrong : ChangeSpec := { name := "fnExactFactorizedPrefixCount", fn := fun _ => fun
  | [d1, d2] => { results := [.lit (.bool false)], args := [d1, d2] }
  | _ => none }
def FnExactFactorizedPrefixCountWrongFalsely : Prop := fnExactFactorizedPrefixCountRow.holds Try.pinned (OpenSpec.ofChange fnExactFactorizedPrefixCountWrong)

/-- 'laws.FnExactFactorizedRank': WHATEVER THE INPUT: true; the input reads as it did. -/
def fnExactFactorizedRankSpec : ChangeSpec := { name := "fnExactFactorizedRank", fn := fun _ => fun
  | [d1, d2] => { results := [.lit (.bool true)], args := [d1, d2] }
  | _ => none }
def fnExactFactorizedRankRow : OpenClaim := { program := "ytbjfbfjacchjiaa", sum := "1cd1a20057177b368aafd0d0e9169dbfc7e70fac01be7b338e1a74eb47b572b9", func := "loop.example/g01917/laws.FnExactFactorizedRank", spec := "fnExactFactorizedRank", recurses := true, apart := false }
def FnExactFactorizedRankSaid : Prop := fnExactFactorizedRankRow.holds Try.pinned (OpenSpec.ofChange fnExactFactorizedRankSpec)

/-- ITS FALSE NEIGHBOUR: 'it returns false'. Refute it at one input. -/
def fnExactFactorizedRankWrong : ChangeSpec := { name := "fnExactFactorizedRank", fn := fun _ => fun
  | [d1, d2] => { results := [.lit (.bool false)], args := [d1, d2] }
  | _ => none }
def FnExactFactorizedRankWrongFalsely : Prop := fnExactFactorizedRankRow.holds Try.pinned (OpenSpec.ofChange fnExactFactorizedRankWrong)

/-- 'laws.FnExactFactorizationContains': WHATEVER THE INPUT: true; the input reads as it did. -/
def fnExactFactorizationContainsSpec : ChangeSpec := { name := "fnExactFactorizationContains", fn := fun _ => fun
  | [d1, d2] => { results := [.lit (.bool true)], args := [d1, d2] }
  | _ => none }
def fnExactFactorizationContainsRow : OpenClaim := { program := "ytbjfbfjacchjiaa", sum := "1cd1a20057177b368aafd0d0e9169dbfc7e70fac01be7b338e1a74eb47b572b9", func := "loop.example/g01917/laws.FnExactFactorizationContains", spec := "fnExactFactorizationContains", recurses := true, apart := false }
def FnExactFactorizationContainsSaid : Prop := fnExactFactorizationContainsRow.holds Try.pinned (OpenSpec.ofChange fnExactFactorizationContainsSpec)

/-- ITS FALSE NEIGHBOUR: 'it returns false'. Refute it at one input. -/
def fnExactFactorizationContainsWrong : ChangeSpec := { name := "fnExactFactorizationContains", fn := fun _ => fun
  | [d1, d2] => { results := [.lit (.bool false)], args := [d1, d2] }
  | _ => none }
def FnExactFactorizationContainsWrongFalsely : Prop := fnExactFactorizationContainsRow.holds Try.pinned (OpenSpec.ofChange fnExactFactorizationContainsWrong)

/-- 'laws.FnExactFactorizedRowAt': WHATEVER THE INPUT: true; the input reads as it did. -/
def fnExactFactorizedRowAtSpec : ChangeSpec := { name := "fnExactFactorizedRowAt", fn := fun _ => fun
  | [d1, d2] => { results := [.lit (.bool true)], args := [d1, d2] }
  | _ => none }
def fnExactFactorizedRowAtRow : OpenClaim := { program := "ytbjfbfjacchjiaa", sum := "1cd1a20057177b368aafd0d0e9169dbfc7e70fac01be7b338e1a74eb47b572b9", func := "loop.example/g01917/laws.FnExactFactorizedRowAt", spec := "fnExactFactorizedRowAt", apart := false }
def FnExactFactorizedRowAtSaid : Prop := fnExactFactorizedRowAtRow.holds Try.pinned (OpenSpec.ofChange fnExactFactorizedRowAtSpec)

/-- ITS FALSE NEIGHBOUR: 'it returns false'. Refute it at one input. -/
def fnExactFactorizedRowAtWrong : ChangeSpec := { name := "fnExactFactorizedRowAt", fn := fun _ => fun
  | [d1, d2] => { results := [.lit (.bool false)], args := [d1, d2] }
  | _ => none }
def FnExactFactorizedRowAtWrongFalsely : Prop := fnExactFactorizedRowAtRow.holds Try.pinned (OpenSpec.ofChange fnExactFactorizedRowAtWrong)

/-- 'laws.FnExactFactorizedRowsFrom': WHATEVER THE INPUT: true; the input reads as it did. -/
def fnExactFactorizedRowsFromSpec : ChangeSpec := { name := "fnExactFactorizedRowsFrom", fn := fun _ => fun
  | [d1, d2, d3] => { results := [.lit (.bool true)], args := [d1, d2, d3] }
  | _ => none }
def fnExactFactorizedRowsFromRow : OpenClaim := { program := "ytbjfbfjacchjiaa", sum := "1cd1a20057177b368aafd0d0e9169dbfc7e70fac01be7b338e1a74eb47b572b9", func := "loop.example/g01917/laws.FnExactFactorizedRowsFrom", spec := "fnExactFactorizedRowsFrom", recurses := true, apart := false }
def FnExactFactorizedRowsFromSaid : Prop := fnExactFactorizedRowsFromRow.holds Try.pinned (OpenSpec.ofChange fnExactFactorizedRowsFromSpec)

/-- ITS FALSE NEIGHBOUR: 'it returns false'. Refute it at one input. -/
def fnExactFactorizedRowsFromWrong : ChangeSpec := { name := "fnExactFactorizedRowsFrom", fn := fun _ => fun
  | [d1, d2, d3] => { results := [.lit (.bool false)], args := [d1, d2, d3] }
  | _ => none }
def FnExactFactorizedRowsFromWrongFalsely : Prop := fnExactFactorizedRowsFromRow.holds Try.pinned (OpenSpec.ofChange fnExactFactorizedRowsFromWrong)

/- THE SECOND FORM. 'bulk': how many values and letters a reading holds, each counted each time it is reached (what is shared counts as often as it is met; a slice's spare places count too). A statement '..UptoSaid' is the law's where the arguments, and the package variables that the reading takes, are together of bulk at most 1048576: NARROWER than '..Said'. Prove '..Said' where nothing that the law and all that it calls make is longer than what came in: it says more and counts as full. Else prove '..UptoSaid'. A law counts once. -/
mutual
def uptoBulk {H : Type} : DataW H → Nat
  | .lit (.string bytes) => bytes.length + 1
  | .lit _ => 1
  | .nil => 1
  | .ptr d => uptoBulk d + 1
  | .slice elems spare => uptoBulkAll elems + uptoBulkAll spare + 1
  | .agg parts => uptoBulkAll parts + 1
  | .iface _ d => uptoBulk d + 1
  | .map entries => uptoBulkEntries entries + 1
  | .held _ => 1
def uptoBulkAll {H : Type} : List (DataW H) → Nat
  | [] => 0
  | d :: r => uptoBulk d + uptoBulkAll r
def uptoBulkEntries {H : Type} : List (Lit × DataW H) → Nat
  | [] => 0
  | x :: r => uptoBulkEntry x + uptoBulkEntries r
def uptoBulkEntry {H : Type} : Lit × DataW H → Nat
  | (.string bytes, d) => bytes.length + uptoBulk d + 1
  | (_, d) => uptoBulk d + 1
 end
def uptoSmall : (H : Type) → List (DataW H) → Bool := fun _ ds => decide (uptoBulkAll ds ≤ 1048576)
def OpenSpec.upto (s : _root_.Go.ChangeSpec) : _root_.Go.OpenSpec := { _root_.Go.OpenSpec.ofChange s with cond := some uptoSmall }

/-- 'laws.FnExactFactorizedRowCount', WHERE WHAT IT READS IS OF BULK AT MOST 1048576: true; the input reads as it did. -/
def fnExactFactorizedRowCountUptoRow : OpenClaim := { program := "ytbjfbfjacchjiaa", sum := "1cd1a20057177b368aafd0d0e9169dbfc7e70fac01be7b338e1a74eb47b572b9", func := "loop.example/g01917/laws.FnExactFactorizedRowCount", spec := "fnExactFactorizedRowCount", apart := false, narrowed := true }
def FnExactFactorizedRowCountUptoSaid : Prop := fnExactFactorizedRowCountUptoRow.holds Try.pinned (OpenSpec.upto fnExactFactorizedRowCountSpec)

/-- 'laws.FnExactFactorizedPrefixCount', WHERE WHAT IT READS IS OF BULK AT MOST 1048576: true; the input reads as it did. -/
def fnExactFactorizedPrefixCountUptoRow : OpenClaim := { program := "ytbjfbfjacchjiaa", sum := "1cd1a20057177b368aafd0d0e9169dbfc7e70fac01be7b338e1a74eb47b572b9", func := "loop.example/g01917/laws.FnExactFactorizedPrefixCount", spec := "fnExactFactorizedPrefixCount", apart := false, narrowed := true }
def FnExactFactorizedPrefixCountUptoSaid : Prop := fnExactFactorizedPrefixCountUptoRow.holds Try.pinned (OpenSpec.upto fnExactFactorizedPrefixCountSpec)

/-- 'laws.FnExactFactorizedRank', WHERE WHAT IT READS IS OF BULK AT MOST 1048576: true; the input reads as it did. -/
def fnExactFactorizedRankUptoRow : OpenClaim := { program := "ytbjfbfjacchjiaa", sum := "1cd1a20057177b368aafd0d0e9169dbfc7e70fac01be7b338e1a74eb47b572b9", func := "loop.example/g01917/laws.FnExactFactorizedRank", spec := "fnExactFactorizedRank", recurses := true, apart := false, narrowed := true }
def FnExactFactorizedRankUptoSaid : Prop := fnExactFactorizedRankUptoRow.holds Try.pinned (OpenSpec.upto fnExactFactorizedRankSpec)

/-- 'laws.FnExactFactorizationContains', WHERE WHAT IT READS IS OF BULK AT MOST 1048576: true; the input reads as it did. -/
def fnExactFactorizationContainsUptoRow : OpenClaim := { program := "ytbjfbfjacchjiaa", sum := "1cd1a20057177b368aafd0d0e9169dbfc7e70fac01be7b338e1a74eb47b572b9", func := "loop.example/g01917/laws.FnExactFactorizationContains", spec := "fnExactFactorizationContains", recurses := true, apart := false, narrowed := true }
def FnExactFactorizationContainsUptoSaid : Prop := fnExactFactorizationContainsUptoRow.holds Try.pinned (OpenSpec.upto fnExactFactorizationContainsSpec)

/-- 'laws.FnExactFactorizedRowAt', WHERE WHAT IT READS IS OF BULK AT MOST 1048576: true; the input reads as it did. -/
def fnExactFactorizedRowAtUptoRow : OpenClaim := { program := "ytbjfbfjacchjiaa", sum := "1cd1a20057177b368aafd0d0e9169dbfc7e70fac01be7b338e1a74eb47b572b9", func := "loop.example/g01917/laws.FnExactFactorizedRowAt", spec := "fnExactFactorizedRowAt", apart := false, narrowed := true }
def FnExactFactorizedRowAtUptoSaid : Prop := fnExactFactorizedRowAtUptoRow.holds Try.pinned (OpenSpec.upto fnExactFactorizedRowAtSpec)

/-- 'laws.FnExactFactorizedRowsFrom', WHERE WHAT IT READS IS OF BULK AT MOST 1048576: true; the input reads as it did. -/
def fnExactFactorizedRowsFromUptoRow : OpenClaim := { program := "ytbjfbfjacchjiaa", sum := "1cd1a20057177b368aafd0d0e9169dbfc7e70fac01be7b338e1a74eb47b572b9", func := "loop.example/g01917/laws.FnExactFactorizedRowsFrom", spec := "fnExactFactorizedRowsFrom", recurses := true, apart := false, narrowed := true }
def FnExactFactorizedRowsFromUptoSaid : Prop := fnExactFactorizedRowsFromUptoRow.holds Try.pinned (OpenSpec.upto fnExactFactorizedRowsFromSpec)

end Rows
end Go.Proofs.Ytbjfbfjacchjiaa
