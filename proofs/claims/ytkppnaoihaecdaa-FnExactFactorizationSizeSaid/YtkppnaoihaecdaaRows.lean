/-
  No cell of these rows narrows 'for every input' (looked for: loops, veiled, ifaces, maps, wideKeys, modest, calm, conditions, laid).
  DERIVED. THE GIVEN ROWS OF THIS SEAT. 7 by the template 'for every input the law returns true; each argument reads behind the call as it read before'; 0 by the template 'total and deterministic' (their statements: YtkppnaoihaecdaaTotals.lean).
  GIVEN WITH THE SEED: the statements are not yours to turn. If you find one false, say at which input.
  Laid BY PROGRAM, IN A SANDBOX (cutbox-rows.mjs): the forced cells as the released guide's own fill.sh prints them over the translation d44e191bab9c7913… (all of the seat's roots in one cut). By AI agents, Wed Nov 11 2026. No macro, syntax, notation, axiom, sorry.
-/
import Derived.Test.YtkppnaoihaecdaaChecked
import GoSem.Claim
import GoSem.ClaimJoined
import GoSem.ClaimMapViews
import Derived.JoinedTies
import Derived.KernelRfl
namespace Go.Proofs.Ytkppnaoihaecdaa
/- THE CELL 'sum', in the pinned program and in every row, IS THE sha256 OF THE DUMP (.gsa) THAT YtkppnaoihaecdaaProg.lean LOADS. Nothing in Lean hashes anything: it is a label: what it is worth is what the hold of that sum in a sandbox is worth. -/
noncomputable def Try.pinned : Pinned := { name := "ytkppnaoihaecdaa", sum := "d44e191bab9c7913d5875c35bdb6411444b53428764f4eb9292e4d3320aa4477", checked := Try.checked }
namespace Rows
def none {H : Type} : Left H := { results := [], args := [] }

/-- 'laws.FnExactIsValidSemiring': WHATEVER THE INPUT: true; the input reads as it did. -/
def fnExactIsValidSemiringSpec : ChangeSpec := { name := "fnExactIsValidSemiring", fn := fun _ => fun
  | [d] => { results := [.lit (.bool true)], args := [d] }
  | _ => none }
def fnExactIsValidSemiringRow : OpenClaim := { program := "ytkppnaoihaecdaa", sum := "d44e191bab9c7913d5875c35bdb6411444b53428764f4eb9292e4d3320aa4477", func := "loop.example/g01917/laws.FnExactIsValidSemiring", spec := "fnExactIsValidSemiring", apart := false }
def FnExactIsValidSemiringSaid : Prop := fnExactIsValidSemiringRow.holds Try.pinned (OpenSpec.ofChange fnExactIsValidSemiringSpec)

/-- ITS FALSE NEIGHBOUR: 'it returns false'. Refute it at one input. -/
def fnExactIsValidSemiringWrong : ChangeSpec := { name := "fnExactIsValidSemiring", fn := fun _ => fun
  | [d] => { results := [.lit (.bool false)], args := [d] }
  | _ => none }
def FnExactIsValidSemiringWrongFalsely : Prop := fnExactIsValidSemiringRow.holds Try.pinned (OpenSpec.ofChange fnExactIsValidSemiringWrong)

/-- 'laws.FnExactSemiringZero': WHATEVER THE INPUT: true; the input reads as it did. -/
def fnExactSemiringZeroSpec : ChangeSpec := { name := "fnExactSemiringZero", fn := fun _ => fun
  | [d] => { results := [.lit (.bool true)], args := [d] }
  | _ => none }
def fnExactSemiringZeroRow : OpenClaim := { program := "ytkppnaoihaecdaa", sum := "d44e191bab9c7913d5875c35bdb6411444b53428764f4eb9292e4d3320aa4477", func := "loop.example/g01917/laws.FnExactSemiringZero", spec := "fnExactSemiringZero", apart := false }
def FnExactSemiringZeroSaid : Prop := fnExactSemiringZeroRow.holds Try.pinned (OpenSpec.ofChange fnExactSemiringZeroSpec)

/-- ITS FALSE NEIGHBOUR: 'it returns false'. Refute it at one input. -/
def fnExactSemiringZeroWrong : ChangeSpec := { name := "fnExactSemiringZero", fn := fun _ => fun
  | [d] => { results := [.lit (.bool false)], args := [d] }
  | _ => none }
def FnExactSemiringZeroWrongFalsely : Prop := fnExactSemiringZeroRow.holds Try.pinned (OpenSpec.ofChange fnExactSemiringZeroWrong)

/-- 'laws.FnExactSemiringOne': WHATEVER THE INPUT: true; the input reads as it did. -/
def fnExactSemiringOneSpec : ChangeSpec := { name := "fnExactSemiringOne", fn := fun _ => fun
  | [d] => { results := [.lit (.bool true)], args := [d] }
  | _ => none }
def fnExactSemiringOneRow : OpenClaim := { program := "ytkppnaoihaecdaa", sum := "d44e191bab9c7913d5875c35bdb6411444b53428764f4eb9292e4d3320aa4477", func := "loop.example/g01917/laws.FnExactSemiringOne", spec := "fnExactSemiringOne", apart := false }
def FnExactSemiringOneSaid : Prop := fnExactSemiringOneRow.holds Try.pinned (OpenSpec.ofChange fnExactSemiringOneSpec)

/-- ITS FALSE NEIGHBOUR: 'it returns false'. Refute it at one input. -/
def fnExactSemiringOneWrong : ChangeSpec := { name := "fnExactSemiringOne", fn := fun _ => fun
  | [d] => { results := [.lit (.bool false)], args := [d] }
  | _ => none }
def FnExactSemiringOneWrongFalsely : Prop := fnExactSemiringOneRow.holds Try.pinned (OpenSpec.ofChange fnExactSemiringOneWrong)

/-- 'laws.FnExactValueWeight': WHATEVER THE INPUT: true; the input reads as it did. -/
def fnExactValueWeightSpec : ChangeSpec := { name := "fnExactValueWeight", fn := fun _ => fun
  | [d1, d2, d3] => { results := [.lit (.bool true)], args := [d1, d2, d3] }
  | _ => none }
def fnExactValueWeightRow : OpenClaim := { program := "ytkppnaoihaecdaa", sum := "d44e191bab9c7913d5875c35bdb6411444b53428764f4eb9292e4d3320aa4477", func := "loop.example/g01917/laws.FnExactValueWeight", spec := "fnExactValueWeight", apart := false }
def FnExactValueWeightSaid : Prop := fnExactValueWeightRow.holds Try.pinned (OpenSpec.ofChange fnExactValueWeightSpec)

/-- ITS FALSE NEIGHBOUR: 'it returns false'. Refute it at one input. -/
def fnExactValueWeightWrong : ChangeSpec := { name := "fnExactValueWeight", fn := fun _ => fun
  | [d1, d2, d3] => { results := [.lit (.bool false)], args := [d1, d2, d3] }
  | _ => none }
def FnExactValueWeightWrongFalsely : Prop := fnExactValueWeightRow.holds Try.pinned (OpenSpec.ofChange fnExactValueWeightWrong)

/-- 'laws.FnExactSemiringMul': WHATEVER THE INPUT: true; the input reads as it did. -/
def fnExactSemiringMulSpec : ChangeSpec := { name := "fnExactSemiringMul", fn := fun _ => fun
  | [d1, d2, d3] => { results := [.lit (.bool true)], args := [d1, d2, d3] }
  | _ => none }
def fnExactSemiringMulRow : OpenClaim := { program := "ytkppnaoihaecdaa", sum := "d44e191bab9c7913d5875c35bdb6411444b53428764f4eb9292e4d3320aa4477", func := "loop.example/g01917/laws.FnExactSemiringMul", spec := "fnExactSemiringMul", apart := false }
def FnExactSemiringMulSaid : Prop := fnExactSemiringMulRow.holds Try.pinned (OpenSpec.ofChange fnExactSemiringMulSpec)

/-- ITS FALSE NEIGHBOUR: 'it returns false'. Refute it at one input. -/
def fnExactSemiringMulWrong : ChangeSpec := { name := "fnExactSemiringMul", fn := fun _ => fun
  | [d1, d2, d3] => { results := [.lit (.bool false)], args := [d1, d2, d3] }
  | _ => none }
def FnExactSemiringMulWrongFalsely : Prop := fnExactSemiringMulRow.holds Try.pinned (OpenSpec.ofChange fnExactSemiringMulWrong)

/-- 'laws.FnExactSemiringAdd': WHATEVER THE INPUT: true; the input reads as it did. -/
def fnExactSemiringAddSpec : ChangeSpec := { name := "fnExactSemiringAdd", fn := fun _ => fun
  | [d1, d2, d3] => { results := [.lit (.bool true)], args := [d1, d2, d3] }
  | _ => none }
def fnExactSemiringAddRow : OpenClaim := { program := "ytkppnaoihaecdaa", sum := "d44e191bab9c7913d5875c35bdb6411444b53428764f4eb9292e4d3320aa4477", func := "loop.example/g01917/laws.FnExactSemiringAdd", spec := "fnExactSemiringAdd", apart := false }
def FnExactSemiringAddSaid : Prop := fnExactSemiringAddRow.holds Try.pinned (OpenSpec.ofChange fnExactSemiringAddSpec)

/-- ITS FALSE NEIGHBOUR: 'it returns false'. Refute it at one input. -/
def fnExactSemiringAddWrong : ChangeSpec := { name := "fnExactSemiringAdd", fn := fun _ => fun
  | [d1, d2, d3] => { results := [.lit (.bool false)], args := [d1, d2, d3] }
  | _ => none }
def FnExactSemiringAddWrongFalsely : Prop := fnExactSemiringAddRow.holds Try.pinned (OpenSpec.ofChange fnExactSemiringAddWrong)

/-- 'laws.FnExactFactorizationSize': WHATEVER THE INPUT: true; the input reads as it did. -/
def fnExactFactorizationSizeSpec : ChangeSpec := { name := "fnExactFactorizationSize", fn := fun _ => fun
  | [d] => { results := [.lit (.bool true)], args := [d] }
  | _ => none }
def fnExactFactorizationSizeRow : OpenClaim := { program := "ytkppnaoihaecdaa", sum := "d44e191bab9c7913d5875c35bdb6411444b53428764f4eb9292e4d3320aa4477", func := "loop.example/g01917/laws.FnExactFactorizationSize", spec := "fnExactFactorizationSize", apart := false }
def FnExactFactorizationSizeSaid : Prop := fnExactFactorizationSizeRow.holds Try.pinned (OpenSpec.ofChange fnExactFactorizationSizeSpec)

/-- ITS FALSE NEIGHBOUR: 'it returns false'. Refute it at one input. -/
def fnExactFactorizationSizeWrong : ChangeSpec := { name := "fnExactFactorizationSize", fn := fun _ => fun
  | [d] => { results := [.lit (.bool false)], args := [d] }
  | _ => none }
def FnExactFactorizationSizeWrongFalsely : Prop := fnExactFactorizationSizeRow.holds Try.pinned (OpenSpec.ofChange fnExactFactorizationSizeWrong)

/- THE SECOND FORM. 'bulk': how many values and letters a reading holds, each counted each time it is reached (what is shared counts as often as it is met; a slice's spare places count too). A statement '..UptoSaid' is the law's where the arguments, and the package variables that the reading takes, are together of bulk at most 1048576: NARROWER than '..Said'. Prove '..Said' where nothing that the law and all that it calls make is longer than what came in: it says more and counts as full. Else prove '..UptoSaid'. A law counts once. -/
mutual
def uptoBulk {H : Type} : DataW H → Nat
  | .lit (.string bytes) => bytes.length + 1
  | .lit _ => 1
  | .nil => 1
  | .ptr d => uptoBulk d + 1
  | .slice elems spare => uptoBulkAll elems + uptoBulkAll spare + 1
  | .agg parts => uptoBulkAll parts + 1
  | .iface _ d => uptoBulk d + 1
  | .map entries => uptoBulkEntries entries + 1
  | .held _ => 1
def uptoBulkAll {H : Type} : List (DataW H) → Nat
  | [] => 0
  | d :: r => uptoBulk d + uptoBulkAll r
def uptoBulkEntries {H : Type} : List (Lit × DataW H) → Nat
  | [] => 0
  | x :: r => uptoBulkEntry x + uptoBulkEntries r
def uptoBulkEntry {H : Type} : Lit × DataW H → Nat
  | (.string bytes, d) => bytes.length + uptoBulk d + 1
  | (_, d) => uptoBulk d + 1
 end
def uptoSmall : (H : Type) → List (DataW H) → Bool := fun _ ds => decide (uptoBulkAll ds ≤ 1048576)
def OpenSpec.upto (s : _root_.Go.ChangeSpec) : _root_.Go.OpenSpec := { _root_.Go.OpenSpec.ofChange s with cond := some uptoSmall }

/-- 'laws.FnExactIsValidSemiring', WHERE WHAT IT READS IS OF BULK AT MOST 1048576: true; the input reads as it did. -/
def fnExactIsValidSemiringUptoRow : OpenClaim := { program := "ytkppnaoihaecdaa", sum := "d44e191bab9c7913d5875c35bdb6411444b53428764f4eb9292e4d3320aa4477", func := "loop.example/g01917/laws.FnExactIsValidSemiring", spec := "fnExactIsValidSemiring", apart := false, narrowed := true }
def FnExactIsValidSemiringUptoSaid : Prop := fnExactIsValidSemiringUptoRow.holds Try.pinned (OpenSpec.upto fnExactIsValidSemiringSpec)

/-- 'laws.FnExactSemiringZero', WHERE WHAT IT READS IS OF BULK AT MOST 1048576: true; the input reads as it did. -/
def fnExactSemiringZeroUptoRow : OpenClaim := { program := "ytkppnaoihaecdaa", sum := "d44e191bab9c7913d5875c35bdb6411444b53428764f4eb9292e4d3320aa4477", func := "loop.example/g01917/laws.FnExactSemiringZero", spec := "fnExactSemiringZero", apart := false, narrowed := true }
def FnExactSemiringZeroUptoSaid : Prop := fnExactSemiringZeroUptoRow.holds Try.pinned (OpenSpec.upto fnExactSemiringZeroSpec)

/-- 'laws.FnExactSemiringOne', WHERE WHAT IT READS IS OF BULK AT MOST 1048576: true; the input reads as it did. -/
def fnExactSemiringOneUptoRow : OpenClaim := { program := "ytkppnaoihaecdaa", sum := "d44e191bab9c7913d5875c35bdb6411444b53428764f4eb9292e4d3320aa4477", func := "loop.example/g01917/laws.FnExactSemiringOne", spec := "fnExactSemiringOne", apart := false, narrowed := true }
def FnExactSemiringOneUptoSaid : Prop := fnExactSemiringOneUptoRow.holds Try.pinned (OpenSpec.upto fnExactSemiringOneSpec)

/-- 'laws.FnExactValueWeight', WHERE WHAT IT READS IS OF BULK AT MOST 1048576: true; the input reads as it did. -/
def fnExactValueWeightUptoRow : OpenClaim := { program := "ytkppnaoihaecdaa", sum := "d44e191bab9c7913d5875c35bdb6411444b53428764f4eb9292e4d3320aa4477", func := "loop.example/g01917/laws.FnExactValueWeight", spec := "fnExactValueWeight", apart := false, narrowed := true }
def FnExactValueWeightUptoSaid : Prop := fnExactValueWeightUptoRow.holds Try.pinned (OpenSpec.upto fnExactValueWeightSpec)

/-- 'laws.FnExactSemiringMul', WHERE WHAT IT READS IS OF BULK AT MOST 1048576: true; the input reads as it did. -/
def fnExactSemiringMulUptoRow : OpenClaim := { program := "ytkppnaoihaecdaa", sum := "d44e191bab9c7913d5875c35bdb6411444b53428764f4eb9292e4d3320aa4477", func := "loop.example/g01917/laws.FnExactSemiringMul", spec := "fnExactSemiringMul", apart := false, narrowed := true }
def FnExactSemiringMulUptoSaid : Prop := fnExactSemiringMulUptoRow.holds Try.pinned (OpenSpec.upto fnExactSemiringMulSpec)

/-- 'laws.FnExactSemiringAdd', WHERE WHAT IT READS IS OF BULK AT MOST 1048576: true; the input reads as it did. -/
def fnExactSemiringAddUptoRow : OpenClaim := { program := "ytkppnaoihaecdaa", sum := "d44e191bab9c7913d5875c35bdb6411444b53428764f4eb9292e4d3320aa4477", func := "loop.example/g01917/laws.FnExactSemiringAdd", spec := "fnExactSemiringAdd", apart := false, narrowed := true }
def FnExactSemiringAddUptoSaid : Prop := fnExactSemiringAddUptoRow.holds Try.pinned (OpenSpec.upto fnExactSemiringAddSpec)

/-- 'laws.FnExactFactorizationSize', WHERE WHAT IT READS IS OF BULK AT MOST 1048576: true; the input reads as it did. -/
def fnExactFactorizationSizeUptoRow : OpenClaim := { program := "ytkppnaoihaecdaa", sum := "d44e191bab9c7913d5875c35bdb6411444b53428764f4eb9292e4d3320aa4477", func := "loop.example/g01917/laws.FnExactFactorizationSize", spec := "fnExactFactorizationSize", apart := false, narrowed := true }
def FnExactFactorizationSizeUptoSaid : Prop := fnExactFactorizationSizeUptoRow.holds Try.pinned (OpenSpec.upto fnExactFactorizationSizeSpec)

end Rows
end Go.Proofs.Ytkppnaoihaecdaa
