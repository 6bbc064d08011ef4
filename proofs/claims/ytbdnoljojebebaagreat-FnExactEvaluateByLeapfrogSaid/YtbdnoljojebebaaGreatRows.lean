/-
  No cell of these rows narrows 'for every input' (looked for: loops, veiled, ifaces, maps, wideKeys, modest, calm, conditions, laid).
  DERIVED. THE GIVEN ROWS OF THIS SEAT. 6 by the template 'for every input the law returns true; each argument reads behind the call as it read before'; 0 by the template 'total and deterministic' (their statements: YtbdnoljojebebaaGreatTotals.lean).
  GIVEN WITH THE SEED: the statements are not yours to turn. If you find one false, say at which input.
  Laid BY PROGRAM, IN A SANDBOX (cutbox-rows.mjs): the forced cells as the released guide's own fill.sh prints them over the translation cc3a001af495cb8e… (all of the seat's roots in one cut). By AI agents, Wed Nov 11 2026. No macro, syntax, notation, axiom, sorry.
-/
import Derived.Test.YtbdnoljojebebaaGreatChecked
import GoSem.Claim
import GoSem.ClaimJoined
import GoSem.ClaimMapViews
import Derived.JoinedTies
import Derived.KernelRfl
namespace Go.Proofs.YtbdnoljojebebaaGreat
/- THE CELL 'sum', in the pinned program and in every row, IS THE sha256 OF THE DUMP (.gsa) THAT YtbdnoljojebebaaGreatProg.lean LOADS. Nothing in Lean hashes anything: it is a label: what it is worth is what the hold of that sum in a sandbox is worth. -/
noncomputable def Tryz.pinned : Pinned := { name := "ytbdnoljojebebaagreat", sum := "cc3a001af495cb8ed1625ef2f5b1c0a7466ebe6f05f79eb282744ed4f7147bf5", checked := Tryz.checked }
namespace Rows
def none {H : Type} : Left H := { results := [], args := [] }

/-- 'laws.FnExactGenericJoin': WHATEVER THE INPUT: true; the input reads as it did. -/
def fnExactGenericJoinSpec : ChangeSpec := { name := "fnExactGenericJoin", fn := fun _ => fun
  | [d1, d2, d3] => { results := [.lit (.bool true)], args := [d1, d2, d3] }
  | _ => none }
def fnExactGenericJoinRow : OpenClaim := { program := "ytbdnoljojebebaagreat", sum := "cc3a001af495cb8ed1625ef2f5b1c0a7466ebe6f05f79eb282744ed4f7147bf5", func := "loop.example/g01917/laws.FnExactGenericJoin", spec := "fnExactGenericJoin", unfollowed := true, recurses := true, apart := false }
def FnExactGenericJoinSaid : Prop := fnExactGenericJoinRow.holds Tryz.pinned (OpenSpec.ofChange fnExactGenericJoinSpec)

/-- ITS FALSE NEIGHBOUR: 'it returns false'. Refute it at one input. -/
def fnExactGenericJoinWrong : ChangeSpec := { name := "fnExactGenericJoin", fn := fun _ => fun
  | [d1, d2, d3] => { results := [.lit (.bool false)], args := [d1, d2, d3] }
  | _ => none }
def FnExactGenericJoinWrongFalsely : Prop := fnExactGenericJoinRow.holds Tryz.pinned (OpenSpec.ofChange fnExactGenericJoinWrong)

/-- 'laws.FnExactExtendPrefix': WHATEVER THE INPUT: true; the input reads as it did. -/
def fnExactExtendPrefixSpec : ChangeSpec := { name := "fnExactExtendPrefix", fn := fun _ => fun
  | [d1, d2, d3, d4] => { results := [.lit (.bool true)], args := [d1, d2, d3, d4] }
  | _ => none }
def fnExactExtendPrefixRow : OpenClaim := { program := "ytbdnoljojebebaagreat", sum := "cc3a001af495cb8ed1625ef2f5b1c0a7466ebe6f05f79eb282744ed4f7147bf5", func := "loop.example/g01917/laws.FnExactExtendPrefix", spec := "fnExactExtendPrefix", recurses := true, apart := false }
def FnExactExtendPrefixSaid : Prop := fnExactExtendPrefixRow.holds Tryz.pinned (OpenSpec.ofChange fnExactExtendPrefixSpec)

/-- ITS FALSE NEIGHBOUR: 'it returns false'. Refute it at one input. -/
def fnExactExtendPrefixWrong : ChangeSpec := { name := "fnExactExtendPrefix", fn := fun _ => fun
  | [d1, d2, d3, d4] => { results := [.lit (.bool false)], args := [d1, d2, d3, d4] }
  | _ => none }
def FnExactExtendPrefixWrongFalsely : Prop := fnExactExtendPrefixRow.holds Tryz.pinned (OpenSpec.ofChange fnExactExtendPrefixWrong)

/-- 'laws.FnExactEvaluateByGenericJoin': WHATEVER THE INPUT: true; the input reads as it did. -/
def fnExactEvaluateByGenericJoinSpec : ChangeSpec := { name := "fnExactEvaluateByGenericJoin", fn := fun _ => fun
  | [d1, d2, d3] => { results := [.lit (.bool true)], args := [d1, d2, d3] }
  | _ => none }
def fnExactEvaluateByGenericJoinRow : OpenClaim := { program := "ytbdnoljojebebaagreat", sum := "cc3a001af495cb8ed1625ef2f5b1c0a7466ebe6f05f79eb282744ed4f7147bf5", func := "loop.example/g01917/laws.FnExactEvaluateByGenericJoin", spec := "fnExactEvaluateByGenericJoin", unfollowed := true, recurses := true, apart := false }
def FnExactEvaluateByGenericJoinSaid : Prop := fnExactEvaluateByGenericJoinRow.holds Tryz.pinned (OpenSpec.ofChange fnExactEvaluateByGenericJoinSpec)

/-- ITS FALSE NEIGHBOUR: 'it returns false'. Refute it at one input. -/
def fnExactEvaluateByGenericJoinWrong : ChangeSpec := { name := "fnExactEvaluateByGenericJoin", fn := fun _ => fun
  | [d1, d2, d3] => { results := [.lit (.bool false)], args := [d1, d2, d3] }
  | _ => none }
def FnExactEvaluateByGenericJoinWrongFalsely : Prop := fnExactEvaluateByGenericJoinRow.holds Tryz.pinned (OpenSpec.ofChange fnExactEvaluateByGenericJoinWrong)

/-- 'laws.FnExactJoinPrefixes': WHATEVER THE INPUT: true; the input reads as it did. -/
def fnExactJoinPrefixesSpec : ChangeSpec := { name := "fnExactJoinPrefixes", fn := fun _ => fun
  | [d1, d2, d3, d4] => { results := [.lit (.bool true)], args := [d1, d2, d3, d4] }
  | _ => none }
def fnExactJoinPrefixesRow : OpenClaim := { program := "ytbdnoljojebebaagreat", sum := "cc3a001af495cb8ed1625ef2f5b1c0a7466ebe6f05f79eb282744ed4f7147bf5", func := "loop.example/g01917/laws.FnExactJoinPrefixes", spec := "fnExactJoinPrefixes", unfollowed := true, recurses := true, apart := false }
def FnExactJoinPrefixesSaid : Prop := fnExactJoinPrefixesRow.holds Tryz.pinned (OpenSpec.ofChange fnExactJoinPrefixesSpec)

/-- ITS FALSE NEIGHBOUR: 'it returns false'. Refute it at one input. -/
def fnExactJoinPrefixesWrong : ChangeSpec := { name := "fnExactJoinPrefixes", fn := fun _ => fun
  | [d1, d2, d3, d4] => { results := [.lit (.bool false)], args := [d1, d2, d3, d4] }
  | _ => none }
def FnExactJoinPrefixesWrongFalsely : Prop := fnExactJoinPrefixesRow.holds Tryz.pinned (OpenSpec.ofChange fnExactJoinPrefixesWrong)

/-- 'laws.FnExactLeapfrogJoin': WHATEVER THE INPUT: true; the input reads as it did. -/
def fnExactLeapfrogJoinSpec : ChangeSpec := { name := "fnExactLeapfrogJoin", fn := fun _ => fun
  | [d1, d2, d3] => { results := [.lit (.bool true)], args := [d1, d2, d3] }
  | _ => none }
def fnExactLeapfrogJoinRow : OpenClaim := { program := "ytbdnoljojebebaagreat", sum := "cc3a001af495cb8ed1625ef2f5b1c0a7466ebe6f05f79eb282744ed4f7147bf5", func := "loop.example/g01917/laws.FnExactLeapfrogJoin", spec := "fnExactLeapfrogJoin", unfollowed := true, recurses := true, apart := false }
def FnExactLeapfrogJoinSaid : Prop := fnExactLeapfrogJoinRow.holds Tryz.pinned (OpenSpec.ofChange fnExactLeapfrogJoinSpec)

/-- ITS FALSE NEIGHBOUR: 'it returns false'. Refute it at one input. -/
def fnExactLeapfrogJoinWrong : ChangeSpec := { name := "fnExactLeapfrogJoin", fn := fun _ => fun
  | [d1, d2, d3] => { results := [.lit (.bool false)], args := [d1, d2, d3] }
  | _ => none }
def FnExactLeapfrogJoinWrongFalsely : Prop := fnExactLeapfrogJoinRow.holds Tryz.pinned (OpenSpec.ofChange fnExactLeapfrogJoinWrong)

/-- 'laws.FnExactEvaluateByLeapfrog': WHATEVER THE INPUT: true; the input reads as it did. -/
def fnExactEvaluateByLeapfrogSpec : ChangeSpec := { name := "fnExactEvaluateByLeapfrog", fn := fun _ => fun
  | [d1, d2, d3] => { results := [.lit (.bool true)], args := [d1, d2, d3] }
  | _ => none }
def fnExactEvaluateByLeapfrogRow : OpenClaim := { program := "ytbdnoljojebebaagreat", sum := "cc3a001af495cb8ed1625ef2f5b1c0a7466ebe6f05f79eb282744ed4f7147bf5", func := "loop.example/g01917/laws.FnExactEvaluateByLeapfrog", spec := "fnExactEvaluateByLeapfrog", unfollowed := true, recurses := true, apart := false }
def FnExactEvaluateByLeapfrogSaid : Prop := fnExactEvaluateByLeapfrogRow.holds Tryz.pinned (OpenSpec.ofChange fnExactEvaluateByLeapfrogSpec)

/-- ITS FALSE NEIGHBOUR: 'it returns false'. Refute it at one input. -/
def fnExactEvaluateByLeapfrogWrong : ChangeSpec := { name := "fnExactEvaluateByLeapfrog", fn := fun _ => fun
  | [d1, d2, d3] => { results := [.lit (.bool false)], args := [d1, d2, d3] }
  | _ => none }
def FnExactEvaluateByLeapfrogWrongFalsely : Prop := fnExactEvaluateByLeapfrogRow.holds Tryz.pinned (OpenSpec.ofChange fnExactEvaluateByLeapfrogWrong)

/- THE SECOND FORM. 'bulk': how many values and letters a reading holds, each counted each time it is reached (what is shared counts as often as it is met; a slice's spare places count too). A statement '..UptoSaid' is the law's where the arguments, and the package variables that the reading takes, are together of bulk at most 1048576: NARROWER than '..Said'. Prove '..Said' where nothing that the law and all that it calls make is longer than what came in: it says more and counts as full. Else prove '..UptoSaid'. A law counts once. -/
mutual
def uptoBulk {H : Type} : DataW H → Nat
  | .lit (.string bytes) => bytes.length + 1
  | .lit _ => 1
  | .nil => 1
  | .ptr d => uptoBulk d + 1
  | .slice elems spare => uptoBulkAll elems + uptoBulkAll spare + 1
  | .agg parts => uptoBulkAll parts + 1
  | .iface _ d => uptoBulk d + 1
  | .map entries => uptoBulkEntries entries + 1
  | .held _ => 1
def uptoBulkAll {H : Type} : List (DataW H) → Nat
  | [] => 0
  | d :: r => uptoBulk d + uptoBulkAll r
def uptoBulkEntries {H : Type} : List (Lit × DataW H) → Nat
  | [] => 0
  | x :: r => uptoBulkEntry x + uptoBulkEntries r
def uptoBulkEntry {H : Type} : Lit × DataW H → Nat
  | (.string bytes, d) => bytes.length + uptoBulk d + 1
  | (_, d) => uptoBulk d + 1
 end
def uptoSmall : (H : Type) → List (DataW H) → Bool := fun _ ds => decide (uptoBulkAll ds ≤ 1048576)
def OpenSpec.upto (s : _root_.Go.ChangeSpec) : _root_.Go.OpenSpec := { _root_.Go.OpenSpec.ofChange s with cond := some uptoSmall }

/-- 'laws.FnExactGenericJoin', WHERE WHAT IT READS IS OF BULK AT MOST 1048576: true; the input reads as it did. -/
def fnExactGenericJoinUptoRow : OpenClaim := { program := "ytbdnoljojebebaagreat", sum := "cc3a001af495cb8ed1625ef2f5b1c0a7466ebe6f05f79eb282744ed4f7147bf5", func := "loop.example/g01917/laws.FnExactGenericJoin", spec := "fnExactGenericJoin", unfollowed := true, recurses := true, apart := false, narrowed := true }
def FnExactGenericJoinUptoSaid : Prop := fnExactGenericJoinUptoRow.holds Tryz.pinned (OpenSpec.upto fnExactGenericJoinSpec)

/-- 'laws.FnExactExtendPrefix', WHERE WHAT IT READS IS OF BULK AT MOST 1048576: true; the input reads as it did. -/
def fnExactExtendPrefixUptoRow : OpenClaim := { program := "ytbdnoljojebebaagreat", sum := "cc3a001af495cb8ed1625ef2f5b1c0a7466ebe6f05f79eb282744ed4f7147bf5", func := "loop.example/g01917/laws.FnExactExtendPrefix", spec := "fnExactExtendPrefix", recurses := true, apart := false, narrowed := true }
def FnExactExtendPrefixUptoSaid : Prop := fnExactExtendPrefixUptoRow.holds Tryz.pinned (OpenSpec.upto fnExactExtendPrefixSpec)

/-- 'laws.FnExactEvaluateByGenericJoin', WHERE WHAT IT READS IS OF BULK AT MOST 1048576: true; the input reads as it did. -/
def fnExactEvaluateByGenericJoinUptoRow : OpenClaim := { program := "ytbdnoljojebebaagreat", sum := "cc3a001af495cb8ed1625ef2f5b1c0a7466ebe6f05f79eb282744ed4f7147bf5", func := "loop.example/g01917/laws.FnExactEvaluateByGenericJoin", spec := "fnExactEvaluateByGenericJoin", unfollowed := true, recurses := true, apart := false, narrowed := true }
def FnExactEvaluateByGenericJoinUptoSaid : Prop := fnExactEvaluateByGenericJoinUptoRow.holds Tryz.pinned (OpenSpec.upto fnExactEvaluateByGenericJoinSpec)

/-- 'laws.FnExactJoinPrefixes', WHERE WHAT IT READS IS OF BULK AT MOST 1048576: true; the input reads as it did. -/
def fnExactJoinPrefixesUptoRow : OpenClaim := { program := "ytbdnoljojebebaagreat", sum := "cc3a001af495cb8ed1625ef2f5b1c0a7466ebe6f05f79eb282744ed4f7147bf5", func := "loop.example/g01917/laws.FnExactJoinPrefixes", spec := "fnExactJoinPrefixes", unfollowed := true, recurses := true, apart := false, narrowed := true }
def FnExactJoinPrefixesUptoSaid : Prop := fnExactJoinPrefixesUptoRow.holds Tryz.pinned (OpenSpec.upto fnExactJoinPrefixesSpec)

/-- 'laws.FnExactLeapfrogJoin', WHERE WHAT IT READS IS OF BULK AT MOST 1048576: true; the input reads as it did. -/
def fnExactLeapfrogJoinUptoRow : OpenClaim := { program := "ytbdnoljojebebaagreat", sum := "cc3a001af495cb8ed1625ef2f5b1c0a7466ebe6f05f79eb282744ed4f7147bf5", func := "loop.example/g01917/laws.FnExactLeapfrogJoin", spec := "fnExactLeapfrogJoin", unfollowed := true, recurses := true, apart := false, narrowed := true }
def FnExactLeapfrogJoinUptoSaid : Prop := fnExactLeapfrogJoinUptoRow.holds Tryz.pinned (OpenSpec.upto fnExactLeapfrogJoinSpec)

/-- 'laws.FnExactEvaluateByLeapfrog', WHERE WHAT IT READS IS OF BULK AT MOST 1048576: true; the input reads as it did. -/
def fnExactEvaluateByLeapfrogUptoRow : OpenClaim := { program := "ytbdnoljojebebaagreat", sum := "cc3a001af495cb8ed1625ef2f5b1c0a7466ebe6f05f79eb282744ed4f7147bf5", func := "loop.example/g01917/laws.FnExactEvaluateByLeapfrog", spec := "fnExactEvaluateByLeapfrog", unfollowed := true, recurses := true, apart := false, narrowed := true }
def FnExactEvaluateByLeapfrogUptoSaid : Prop := fnExactEvaluateByLeapfrogUptoRow.holds Tryz.pinned (OpenSpec.upto fnExactEvaluateByLeapfrogSpec)

end Rows
end Go.Proofs.YtbdnoljojebebaaGreat
