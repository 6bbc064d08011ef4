/-
  No cell of these rows narrows 'for every input' (looked for: loops, veiled, ifaces, maps, wideKeys, modest, calm, conditions, laid).
  DERIVED. THE GIVEN ROWS OF THIS SEAT. 6 by the template 'for every input the law returns true; each argument reads behind the call as it read before'; 0 by the template 'total and deterministic' (their statements: YtobjjdfgnaanjaaTotals.lean).
  GIVEN WITH THE SEED: the statements are not yours to turn. If you find one false, say at which input.
  Laid BY PROGRAM, IN A SANDBOX (cutbox-rows.mjs): the forced cells as the released guide's own fill.sh prints them over the translation d6c928b541149934… (all of the seat's roots in one cut). By AI agents, Wed Nov 11 2026. No macro, syntax, notation, axiom, sorry.
-/
import Derived.Test.YtobjjdfgnaanjaaChecked
import GoSem.Claim
import GoSem.ClaimJoined
import GoSem.ClaimMapViews
import Derived.JoinedTies
import Derived.KernelRfl
namespace Go.Proofs.Ytobjjdfgnaanjaa
/- THE CELL 'sum', in the pinned program and in every row, IS THE sha256 OF THE DUMP (.gsa) THAT YtobjjdfgnaanjaaProg.lean LOADS. Nothing in Lean hashes anything: it is a label: what it is worth is what the hold of that sum in a sandbox is worth. -/
noncomputable def Try.pinned : Pinned := { name := "ytobjjdfgnaanjaa", sum := "d6c928b54114993451b96ce65fffa36d3b6317631da327d49197b38290f722e5", checked := Try.checked }
namespace Rows
def none {H : Type} : Left H := { results := [], args := [] }

/-- 'laws.FnExactEqualFactorizations': WHATEVER THE INPUT: true; the input reads as it did. -/
def fnExactEqualFactorizationsSpec : ChangeSpec := { name := "fnExactEqualFactorizations", fn := fun _ => fun
  | [d1, d2] => { results := [.lit (.bool true)], args := [d1, d2] }
  | _ => none }
def fnExactEqualFactorizationsRow : OpenClaim := { program := "ytobjjdfgnaanjaa", sum := "d6c928b54114993451b96ce65fffa36d3b6317631da327d49197b38290f722e5", func := "loop.example/g01917/laws.FnExactEqualFactorizations", spec := "fnExactEqualFactorizations", apart := false }
def FnExactEqualFactorizationsSaid : Prop := fnExactEqualFactorizationsRow.holds Try.pinned (OpenSpec.ofChange fnExactEqualFactorizationsSpec)

/-- ITS FALSE NEIGHBOUR: 'it returns false'. Refute it at one input. -/
def fnExactEqualFactorizationsWrong : ChangeSpec := { name := "fnExactEqualFactorizations", fn := fun _ => fun
  | [d1, d2] => { results := [.lit (.bool false)], args := [d1, d2] }
  | _ => none }
def FnExactEqualFactorizationsWrongFalsely : Prop := fnExactEqualFactorizationsRow.holds Try.pinned (OpenSpec.ofChange fnExactEqualFactorizationsWrong)

/-- 'laws.FnExactEqualDeltas': WHATEVER THE INPUT: true; the input reads as it did. -/
def fnExactEqualDeltasSpec : ChangeSpec := { name := "fnExactEqualDeltas", fn := fun _ => fun
  | [d1, d2] => { results := [.lit (.bool true)], args := [d1, d2] }
  | _ => none }
def fnExactEqualDeltasRow : OpenClaim := { program := "ytobjjdfgnaanjaa", sum := "d6c928b54114993451b96ce65fffa36d3b6317631da327d49197b38290f722e5", func := "loop.example/g01917/laws.FnExactEqualDeltas", spec := "fnExactEqualDeltas", apart := false }
def FnExactEqualDeltasSaid : Prop := fnExactEqualDeltasRow.holds Try.pinned (OpenSpec.ofChange fnExactEqualDeltasSpec)

/-- ITS FALSE NEIGHBOUR: 'it returns false'. Refute it at one input. -/
def fnExactEqualDeltasWrong : ChangeSpec := { name := "fnExactEqualDeltas", fn := fun _ => fun
  | [d1, d2] => { results := [.lit (.bool false)], args := [d1, d2] }
  | _ => none }
def FnExactEqualDeltasWrongFalsely : Prop := fnExactEqualDeltasRow.holds Try.pinned (OpenSpec.ofChange fnExactEqualDeltasWrong)

/-- 'laws.FnExactInvertDelta': WHATEVER THE INPUT: true; the input reads as it did. -/
def fnExactInvertDeltaSpec : ChangeSpec := { name := "fnExactInvertDelta", fn := fun _ => fun
  | [d] => { results := [.lit (.bool true)], args := [d] }
  | _ => none }
def fnExactInvertDeltaRow : OpenClaim := { program := "ytobjjdfgnaanjaa", sum := "d6c928b54114993451b96ce65fffa36d3b6317631da327d49197b38290f722e5", func := "loop.example/g01917/laws.FnExactInvertDelta", spec := "fnExactInvertDelta", apart := false }
def FnExactInvertDeltaSaid : Prop := fnExactInvertDeltaRow.holds Try.pinned (OpenSpec.ofChange fnExactInvertDeltaSpec)

/-- ITS FALSE NEIGHBOUR: 'it returns false'. Refute it at one input. -/
def fnExactInvertDeltaWrong : ChangeSpec := { name := "fnExactInvertDelta", fn := fun _ => fun
  | [d] => { results := [.lit (.bool false)], args := [d] }
  | _ => none }
def FnExactInvertDeltaWrongFalsely : Prop := fnExactInvertDeltaRow.holds Try.pinned (OpenSpec.ofChange fnExactInvertDeltaWrong)

/-- 'laws.FnExactIsValidFactorization': WHATEVER THE INPUT: true; the input reads as it did. -/
def fnExactIsValidFactorizationSpec : ChangeSpec := { name := "fnExactIsValidFactorization", fn := fun _ => fun
  | [d] => { results := [.lit (.bool true)], args := [d] }
  | _ => none }
def fnExactIsValidFactorizationRow : OpenClaim := { program := "ytobjjdfgnaanjaa", sum := "d6c928b54114993451b96ce65fffa36d3b6317631da327d49197b38290f722e5", func := "loop.example/g01917/laws.FnExactIsValidFactorization", spec := "fnExactIsValidFactorization", apart := false }
def FnExactIsValidFactorizationSaid : Prop := fnExactIsValidFactorizationRow.holds Try.pinned (OpenSpec.ofChange fnExactIsValidFactorizationSpec)

/-- ITS FALSE NEIGHBOUR: 'it returns false'. Refute it at one input. -/
def fnExactIsValidFactorizationWrong : ChangeSpec := { name := "fnExactIsValidFactorization", fn := fun _ => fun
  | [d] => { results := [.lit (.bool false)], args := [d] }
  | _ => none }
def FnExactIsValidFactorizationWrongFalsely : Prop := fnExactIsValidFactorizationRow.holds Try.pinned (OpenSpec.ofChange fnExactIsValidFactorizationWrong)

/-- 'laws.FnExactAggregateRelation': WHATEVER THE INPUT: true; the input reads as it did. -/
def fnExactAggregateRelationSpec : ChangeSpec := { name := "fnExactAggregateRelation", fn := fun _ => fun
  | [d1, d2] => { results := [.lit (.bool true)], args := [d1, d2] }
  | _ => none }
def fnExactAggregateRelationRow : OpenClaim := { program := "ytobjjdfgnaanjaa", sum := "d6c928b54114993451b96ce65fffa36d3b6317631da327d49197b38290f722e5", func := "loop.example/g01917/laws.FnExactAggregateRelation", spec := "fnExactAggregateRelation", apart := false }
def FnExactAggregateRelationSaid : Prop := fnExactAggregateRelationRow.holds Try.pinned (OpenSpec.ofChange fnExactAggregateRelationSpec)

/-- ITS FALSE NEIGHBOUR: 'it returns false'. Refute it at one input. -/
def fnExactAggregateRelationWrong : ChangeSpec := { name := "fnExactAggregateRelation", fn := fun _ => fun
  | [d1, d2] => { results := [.lit (.bool false)], args := [d1, d2] }
  | _ => none }
def FnExactAggregateRelationWrongFalsely : Prop := fnExactAggregateRelationRow.holds Try.pinned (OpenSpec.ofChange fnExactAggregateRelationWrong)

/-- 'laws.FnSemiringAxioms': WHATEVER THE INPUT: true; the input reads as it did. -/
def fnSemiringAxiomsSpec : ChangeSpec := { name := "fnSemiringAxioms", fn := fun _ => fun
  | [d] => { results := [.lit (.bool true)], args := [d] }
  | _ => none }
def fnSemiringAxiomsRow : OpenClaim := { program := "ytobjjdfgnaanjaa", sum := "d6c928b54114993451b96ce65fffa36d3b6317631da327d49197b38290f722e5", func := "loop.example/g01917/laws.FnSemiringAxioms", spec := "fnSemiringAxioms", apart := false }
def FnSemiringAxiomsSaid : Prop := fnSemiringAxiomsRow.holds Try.pinned (OpenSpec.ofChange fnSemiringAxiomsSpec)

/-- ITS FALSE NEIGHBOUR: 'it returns false'. Refute it at one input. -/
def fnSemiringAxiomsWrong : ChangeSpec := { name := "fnSemiringAxioms", fn := fun _ => fun
  | [d] => { results := [.lit (.bool false)], args := [d] }
  | _ => none }
def FnSemiringAxiomsWrongFalsely : Prop := fnSemiringAxiomsRow.holds Try.pinned (OpenSpec.ofChange fnSemiringAxiomsWrong)

/- THE SECOND FORM. 'bulk': how many values and letters a reading holds, each counted each time it is reached (what is shared counts as often as it is met; a slice's spare places count too). A statement '..UptoSaid' is the law's where the arguments, and the package variables that the reading takes, are together of bulk at most 1048576: NARROWER than '..Said'. Prove '..Said' where nothing that the law and all that it calls make is longer than what came in: it says more and counts as full. Else prove '..UptoSaid'. A law counts once. -/
mutual
def uptoBulk {H : Type} : DataW H → Nat
  | .lit (.string bytes) => bytes.length + 1
  | .lit _ => 1
  | .nil => 1
  | .ptr d => uptoBulk d + 1
  | .slice elems spare => uptoBulkAll elems + uptoBulkAll spare + 1
  | .agg parts => uptoBulkAll parts + 1
  | .iface _ d => uptoBulk d + 1
  | .map entries => uptoBulkEntries entries + 1
  | .held _ => 1
def uptoBulkAll {H : Type} : List (DataW H) → Nat
  | [] => 0
  | d :: r => uptoBulk d + uptoBulkAll r
def uptoBulkEntries {H : Type} : List (Lit × DataW H) → Nat
  | [] => 0
  | x :: r => uptoBulkEntry x + uptoBulkEntries r
def uptoBulkEntry {H : Type} : Lit × DataW H → Nat
  | (.string bytes, d) => bytes.length + uptoBulk d + 1
  | (_, d) => uptoBulk d + 1
 end
def uptoSmall : (H : Type) → List (DataW H) → Bool := fun _ ds => decide (uptoBulkAll ds ≤ 1048576)
def OpenSpec.upto (s : _root_.Go.ChangeSpec) : _root_.Go.OpenSpec := { _root_.Go.OpenSpec.ofChange s with cond := some uptoSmall }

/-- 'laws.FnExactEqualFactorizations', WHERE WHAT IT READS IS OF BULK AT MOST 1048576: true; the input reads as it did. -/
def fnExactEqualFactorizationsUptoRow : OpenClaim := { program := "ytobjjdfgnaanjaa", sum := "d6c928b54114993451b96ce65fffa36d3b6317631da327d49197b38290f722e5", func := "loop.example/g01917/laws.FnExactEqualFactorizations", spec := "fnExactEqualFactorizations", apart := false, narrowed := true }
def FnExactEqualFactorizationsUptoSaid : Prop := fnExactEqualFactorizationsUptoRow.holds Try.pinned (OpenSpec.upto fnExactEqualFactorizationsSpec)

/-- 'laws.FnExactEqualDeltas', WHERE WHAT IT READS IS OF BULK AT MOST 1048576: true; the input reads as it did. -/
def fnExactEqualDeltasUptoRow : OpenClaim := { program := "ytobjjdfgnaanjaa", sum := "d6c928b54114993451b96ce65fffa36d3b6317631da327d49197b38290f722e5", func := "loop.example/g01917/laws.FnExactEqualDeltas", spec := "fnExactEqualDeltas", apart := false, narrowed := true }
def FnExactEqualDeltasUptoSaid : Prop := fnExactEqualDeltasUptoRow.holds Try.pinned (OpenSpec.upto fnExactEqualDeltasSpec)

/-- 'laws.FnExactInvertDelta', WHERE WHAT IT READS IS OF BULK AT MOST 1048576: true; the input reads as it did. -/
def fnExactInvertDeltaUptoRow : OpenClaim := { program := "ytobjjdfgnaanjaa", sum := "d6c928b54114993451b96ce65fffa36d3b6317631da327d49197b38290f722e5", func := "loop.example/g01917/laws.FnExactInvertDelta", spec := "fnExactInvertDelta", apart := false, narrowed := true }
def FnExactInvertDeltaUptoSaid : Prop := fnExactInvertDeltaUptoRow.holds Try.pinned (OpenSpec.upto fnExactInvertDeltaSpec)

/-- 'laws.FnExactIsValidFactorization', WHERE WHAT IT READS IS OF BULK AT MOST 1048576: true; the input reads as it did. -/
def fnExactIsValidFactorizationUptoRow : OpenClaim := { program := "ytobjjdfgnaanjaa", sum := "d6c928b54114993451b96ce65fffa36d3b6317631da327d49197b38290f722e5", func := "loop.example/g01917/laws.FnExactIsValidFactorization", spec := "fnExactIsValidFactorization", apart := false, narrowed := true }
def FnExactIsValidFactorizationUptoSaid : Prop := fnExactIsValidFactorizationUptoRow.holds Try.pinned (OpenSpec.upto fnExactIsValidFactorizationSpec)

/-- 'laws.FnExactAggregateRelation', WHERE WHAT IT READS IS OF BULK AT MOST 1048576: true; the input reads as it did. -/
def fnExactAggregateRelationUptoRow : OpenClaim := { program := "ytobjjdfgnaanjaa", sum := "d6c928b54114993451b96ce65fffa36d3b6317631da327d49197b38290f722e5", func := "loop.example/g01917/laws.FnExactAggregateRelation", spec := "fnExactAggregateRelation", apart := false, narrowed := true }
def FnExactAggregateRelationUptoSaid : Prop := fnExactAggregateRelationUptoRow.holds Try.pinned (OpenSpec.upto fnExactAggregateRelationSpec)

/-- 'laws.FnSemiringAxioms', WHERE WHAT IT READS IS OF BULK AT MOST 1048576: true; the input reads as it did. -/
def fnSemiringAxiomsUptoRow : OpenClaim := { program := "ytobjjdfgnaanjaa", sum := "d6c928b54114993451b96ce65fffa36d3b6317631da327d49197b38290f722e5", func := "loop.example/g01917/laws.FnSemiringAxioms", spec := "fnSemiringAxioms", apart := false, narrowed := true }
def FnSemiringAxiomsUptoSaid : Prop := fnSemiringAxiomsUptoRow.holds Try.pinned (OpenSpec.upto fnSemiringAxiomsSpec)

end Rows
end Go.Proofs.Ytobjjdfgnaanjaa
