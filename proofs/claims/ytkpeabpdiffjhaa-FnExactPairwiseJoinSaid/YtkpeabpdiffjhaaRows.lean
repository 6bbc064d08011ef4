/-
  No cell of these rows narrows 'for every input' (looked for: loops, veiled, ifaces, maps, wideKeys, modest, calm, conditions, laid).
  DERIVED. THE GIVEN ROWS OF THIS SEAT. 4 by the template 'for every input the law returns true; each argument reads behind the call as it read before'; 0 by the template 'total and deterministic' (their statements: YtkpeabpdiffjhaaTotals.lean).
  GIVEN WITH THE SEED: the statements are not yours to turn. If you find one false, say at which input.
  Laid BY PROGRAM, IN A SANDBOX (cutbox-rows.mjs): the forced cells as the released guide's own fill.sh prints them over the translation fa7c1ad2495fce98… (all of the seat's roots in one cut). By AI agents, Wed Nov 11 2026. No macro, syntax, notation, axiom, sorry.
-/
import Derived.Test.YtkpeabpdiffjhaaChecked
import GoSem.Claim
import GoSem.ClaimJoined
import GoSem.ClaimMapViews
import Derived.JoinedTies
import Derived.KernelRfl
namespace Go.Proofs.Ytkpeabpdiffjhaa
/- THE CELL 'sum', in the pinned program and in every row, IS THE sha256 OF THE DUMP (.gsa) THAT YtkpeabpdiffjhaaProg.lean LOADS. Nothing in Lean hashes anything: it is a label: what it is worth is what the hold of that sum in a sandbox is worth. -/
noncomputable def Try.pinned : Pinned := { name := "ytkpeabpdiffjhaa", sum := "fa7c1ad2495fce9889aa25fbae6bc5203a96794bb5e0e2197ee768bc44f923ca", checked := Try.checked }
namespace Rows
def none {H : Type} : Left H := { results := [], args := [] }

/-- 'laws.FnExactSeekBound': WHATEVER THE INPUT: true; the input reads as it did. -/
def fnExactSeekBoundSpec : ChangeSpec := { name := "fnExactSeekBound", fn := fun _ => fun
  | [d1, d2] => { results := [.lit (.bool true)], args := [d1, d2] }
  | _ => none }
def fnExactSeekBoundRow : OpenClaim := { program := "ytkpeabpdiffjhaa", sum := "fa7c1ad2495fce9889aa25fbae6bc5203a96794bb5e0e2197ee768bc44f923ca", func := "loop.example/g01917/laws.FnExactSeekBound", spec := "fnExactSeekBound", apart := false }
def FnExactSeekBoundSaid : Prop := fnExactSeekBoundRow.holds Try.pinned (OpenSpec.ofChange fnExactSeekBoundSpec)

/-- ITS FALSE NEIGHBOUR: 'it returns false'. Refute it at one input. -/
def fnExactSeekBoundWrong : ChangeSpec := { name := "fnExactSeekBound", fn := fun _ => fun
  | [d1, d2] => { results := [.lit (.bool false)], args := [d1, d2] }
  | _ => none }
def FnExactSeekBoundWrongFalsely : Prop := fnExactSeekBoundRow.holds Try.pinned (OpenSpec.ofChange fnExactSeekBoundWrong)

/-- 'laws.FnExactIsWithinSeekBound': WHATEVER THE INPUT: true; the input reads as it did. -/
def fnExactIsWithinSeekBoundSpec : ChangeSpec := { name := "fnExactIsWithinSeekBound", fn := fun _ => fun
  | [d1, d2, d3, d4] => { results := [.lit (.bool true)], args := [d1, d2, d3, d4] }
  | _ => none }
def fnExactIsWithinSeekBoundRow : OpenClaim := { program := "ytkpeabpdiffjhaa", sum := "fa7c1ad2495fce9889aa25fbae6bc5203a96794bb5e0e2197ee768bc44f923ca", func := "loop.example/g01917/laws.FnExactIsWithinSeekBound", spec := "fnExactIsWithinSeekBound", apart := false }
def FnExactIsWithinSeekBoundSaid : Prop := fnExactIsWithinSeekBoundRow.holds Try.pinned (OpenSpec.ofChange fnExactIsWithinSeekBoundSpec)

/-- ITS FALSE NEIGHBOUR: 'it returns false'. Refute it at one input. -/
def fnExactIsWithinSeekBoundWrong : ChangeSpec := { name := "fnExactIsWithinSeekBound", fn := fun _ => fun
  | [d1, d2, d3, d4] => { results := [.lit (.bool false)], args := [d1, d2, d3, d4] }
  | _ => none }
def FnExactIsWithinSeekBoundWrongFalsely : Prop := fnExactIsWithinSeekBoundRow.holds Try.pinned (OpenSpec.ofChange fnExactIsWithinSeekBoundWrong)

/-- 'laws.FnExactBuildTries': WHATEVER THE INPUT: true; the input reads as it did. -/
def fnExactBuildTriesSpec : ChangeSpec := { name := "fnExactBuildTries", fn := fun _ => fun
  | [d1, d2, d3] => { results := [.lit (.bool true)], args := [d1, d2, d3] }
  | _ => none }
def fnExactBuildTriesRow : OpenClaim := { program := "ytkpeabpdiffjhaa", sum := "fa7c1ad2495fce9889aa25fbae6bc5203a96794bb5e0e2197ee768bc44f923ca", func := "loop.example/g01917/laws.FnExactBuildTries", spec := "fnExactBuildTries", recurses := true, apart := false }
def FnExactBuildTriesSaid : Prop := fnExactBuildTriesRow.holds Try.pinned (OpenSpec.ofChange fnExactBuildTriesSpec)

/-- ITS FALSE NEIGHBOUR: 'it returns false'. Refute it at one input. -/
def fnExactBuildTriesWrong : ChangeSpec := { name := "fnExactBuildTries", fn := fun _ => fun
  | [d1, d2, d3] => { results := [.lit (.bool false)], args := [d1, d2, d3] }
  | _ => none }
def FnExactBuildTriesWrongFalsely : Prop := fnExactBuildTriesRow.holds Try.pinned (OpenSpec.ofChange fnExactBuildTriesWrong)

/-- 'laws.FnExactPairwiseJoin': WHATEVER THE INPUT: true; the input reads as it did. -/
def fnExactPairwiseJoinSpec : ChangeSpec := { name := "fnExactPairwiseJoin", fn := fun _ => fun
  | [d1, d2] => { results := [.lit (.bool true)], args := [d1, d2] }
  | _ => none }
def fnExactPairwiseJoinRow : OpenClaim := { program := "ytkpeabpdiffjhaa", sum := "fa7c1ad2495fce9889aa25fbae6bc5203a96794bb5e0e2197ee768bc44f923ca", func := "loop.example/g01917/laws.FnExactPairwiseJoin", spec := "fnExactPairwiseJoin", recurses := true, apart := false }
def FnExactPairwiseJoinSaid : Prop := fnExactPairwiseJoinRow.holds Try.pinned (OpenSpec.ofChange fnExactPairwiseJoinSpec)

/-- ITS FALSE NEIGHBOUR: 'it returns false'. Refute it at one input. -/
def fnExactPairwiseJoinWrong : ChangeSpec := { name := "fnExactPairwiseJoin", fn := fun _ => fun
  | [d1, d2] => { results := [.lit (.bool false)], args := [d1, d2] }
  | _ => none }
def FnExactPairwiseJoinWrongFalsely : Prop := fnExactPairwiseJoinRow.holds Try.pinned (OpenSpec.ofChange fnExactPairwiseJoinWrong)

/- THE SECOND FORM. 'bulk': how many values and letters a reading holds, each counted each time it is reached (what is shared counts as often as it is met; a slice's spare places count too). A statement '..UptoSaid' is the law's where the arguments, and the package variables that the reading takes, are together of bulk at most 1048576: NARROWER than '..Said'. Prove '..Said' where nothing that the law and all that it calls make is longer than what came in: it says more and counts as full. Else prove '..UptoSaid'. A law counts once. -/
mutual
def uptoBulk {H : Type} : DataW H → Nat
  | .lit (.string bytes) => bytes.length + 1
  | .lit _ => 1
  | .nil => 1
  | .ptr d => uptoBulk d + 1
  | .slice elems spare => uptoBulkAll elems + uptoBulkAll spare + 1
  | .agg parts => uptoBulkAll parts + 1
  | .iface _ d => uptoBulk d + 1
  | .map entries => uptoBulkEntries entries + 1
  | .held _ => 1
def uptoBulkAll {H : Type} : List (DataW H) → Nat
  | [] => 0
  | d :: r => uptoBulk d + uptoBulkAll r
def uptoBulkEntries {H : Type} : List (Lit × DataW H) → Nat
  | [] => 0
  | x :: r => uptoBulkEntry x + uptoBulkEntries r
def uptoBulkEntry {H : Type} : Lit × DataW H → Nat
  | (.string bytes, d) => bytes.length + uptoBulk d + 1
  | (_, d) => uptoBulk d + 1
 end
def uptoSmall : (H : Type) → List (DataW H) → Bool := fun _ ds => decide (uptoBulkAll ds ≤ 1048576)
def OpenSpec.upto (s : _root_.Go.ChangeSpec) : _root_.Go.OpenSpec := { _root_.Go.OpenSpec.ofChange s with cond := some uptoSmall }

/-- 'laws.FnExactSeekBound', WHERE WHAT IT READS IS OF BULK AT MOST 1048576: true; the input reads as it did. -/
def fnExactSeekBoundUptoRow : OpenClaim := { program := "ytkpeabpdiffjhaa", sum := "fa7c1ad2495fce9889aa25fbae6bc5203a96794bb5e0e2197ee768bc44f923ca", func := "loop.example/g01917/laws.FnExactSeekBound", spec := "fnExactSeekBound", apart := false, narrowed := true }
def FnExactSeekBoundUptoSaid : Prop := fnExactSeekBoundUptoRow.holds Try.pinned (OpenSpec.upto fnExactSeekBoundSpec)

/-- 'laws.FnExactIsWithinSeekBound', WHERE WHAT IT READS IS OF BULK AT MOST 1048576: true; the input reads as it did. -/
def fnExactIsWithinSeekBoundUptoRow : OpenClaim := { program := "ytkpeabpdiffjhaa", sum := "fa7c1ad2495fce9889aa25fbae6bc5203a96794bb5e0e2197ee768bc44f923ca", func := "loop.example/g01917/laws.FnExactIsWithinSeekBound", spec := "fnExactIsWithinSeekBound", apart := false, narrowed := true }
def FnExactIsWithinSeekBoundUptoSaid : Prop := fnExactIsWithinSeekBoundUptoRow.holds Try.pinned (OpenSpec.upto fnExactIsWithinSeekBoundSpec)

/-- 'laws.FnExactBuildTries', WHERE WHAT IT READS IS OF BULK AT MOST 1048576: true; the input reads as it did. -/
def fnExactBuildTriesUptoRow : OpenClaim := { program := "ytkpeabpdiffjhaa", sum := "fa7c1ad2495fce9889aa25fbae6bc5203a96794bb5e0e2197ee768bc44f923ca", func := "loop.example/g01917/laws.FnExactBuildTries", spec := "fnExactBuildTries", recurses := true, apart := false, narrowed := true }
def FnExactBuildTriesUptoSaid : Prop := fnExactBuildTriesUptoRow.holds Try.pinned (OpenSpec.upto fnExactBuildTriesSpec)

/-- 'laws.FnExactPairwiseJoin', WHERE WHAT IT READS IS OF BULK AT MOST 1048576: true; the input reads as it did. -/
def fnExactPairwiseJoinUptoRow : OpenClaim := { program := "ytkpeabpdiffjhaa", sum := "fa7c1ad2495fce9889aa25fbae6bc5203a96794bb5e0e2197ee768bc44f923ca", func := "loop.example/g01917/laws.FnExactPairwiseJoin", spec := "fnExactPairwiseJoin", recurses := true, apart := false, narrowed := true }
def FnExactPairwiseJoinUptoSaid : Prop := fnExactPairwiseJoinUptoRow.holds Try.pinned (OpenSpec.upto fnExactPairwiseJoinSpec)

end Rows
end Go.Proofs.Ytkpeabpdiffjhaa
