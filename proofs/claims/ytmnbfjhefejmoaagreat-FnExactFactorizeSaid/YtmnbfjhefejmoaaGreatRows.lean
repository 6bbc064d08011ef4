/-
  No cell of these rows narrows 'for every input' (looked for: loops, veiled, ifaces, maps, wideKeys, modest, calm, conditions, laid).
  DERIVED. THE GIVEN ROWS OF THIS SEAT. 3 by the template 'for every input the law returns true; each argument reads behind the call as it read before'; 0 by the template 'total and deterministic' (their statements: YtmnbfjhefejmoaaGreatTotals.lean).
  GIVEN WITH THE SEED: the statements are not yours to turn. If you find one false, say at which input.
  Laid BY PROGRAM, IN A SANDBOX (cutbox-rows.mjs): the forced cells as the released guide's own fill.sh prints them over the translation f26723926172414a… (all of the seat's roots in one cut). By AI agents, Wed Nov 11 2026. No macro, syntax, notation, axiom, sorry.
-/
import Derived.Test.YtmnbfjhefejmoaaGreatChecked
import GoSem.Claim
import GoSem.ClaimJoined
import GoSem.ClaimMapViews
import Derived.JoinedTies
import Derived.KernelRfl
namespace Go.Proofs.YtmnbfjhefejmoaaGreat
/- THE CELL 'sum', in the pinned program and in every row, IS THE sha256 OF THE DUMP (.gsa) THAT YtmnbfjhefejmoaaGreatProg.lean LOADS. Nothing in Lean hashes anything: it is a label: what it is worth is what the hold of that sum in a sandbox is worth. -/
noncomputable def Tryz.pinned : Pinned := { name := "ytmnbfjhefejmoaagreat", sum := "f26723926172414a048dece57ed265de74ee3f6cc43e282d8e987b89777ac194", checked := Tryz.checked }
namespace Rows
def none {H : Type} : Left H := { results := [], args := [] }

/-- 'laws.FnExactNextJoinRow': WHATEVER THE INPUT: true; the input reads as it did. -/
def fnExactNextJoinRowSpec : ChangeSpec := { name := "fnExactNextJoinRow", fn := fun _ => fun
  | [d1, d2, d3, d4] => { results := [.lit (.bool true)], args := [d1, d2, d3, d4] }
  | _ => none }
def fnExactNextJoinRowRow : OpenClaim := { program := "ytmnbfjhefejmoaagreat", sum := "f26723926172414a048dece57ed265de74ee3f6cc43e282d8e987b89777ac194", func := "loop.example/g01917/laws.FnExactNextJoinRow", spec := "fnExactNextJoinRow", unfollowed := true, recurses := true, apart := false }
def FnExactNextJoinRowSaid : Prop := fnExactNextJoinRowRow.holds Tryz.pinned (OpenSpec.ofChange fnExactNextJoinRowSpec)

/-- ITS FALSE NEIGHBOUR: 'it returns false'. Refute it at one input. -/
def fnExactNextJoinRowWrong : ChangeSpec := { name := "fnExactNextJoinRow", fn := fun _ => fun
  | [d1, d2, d3, d4] => { results := [.lit (.bool false)], args := [d1, d2, d3, d4] }
  | _ => none }
def FnExactNextJoinRowWrongFalsely : Prop := fnExactNextJoinRowRow.holds Tryz.pinned (OpenSpec.ofChange fnExactNextJoinRowWrong)

/-- 'laws.FnExactNextJoinRows': WHATEVER THE INPUT: true; the input reads as it did. -/
def fnExactNextJoinRowsSpec : ChangeSpec := { name := "fnExactNextJoinRows", fn := fun _ => fun
  | [d1, d2, d3, d4, d5] => { results := [.lit (.bool true)], args := [d1, d2, d3, d4, d5] }
  | _ => none }
def fnExactNextJoinRowsRow : OpenClaim := { program := "ytmnbfjhefejmoaagreat", sum := "f26723926172414a048dece57ed265de74ee3f6cc43e282d8e987b89777ac194", func := "loop.example/g01917/laws.FnExactNextJoinRows", spec := "fnExactNextJoinRows", unfollowed := true, recurses := true, apart := false }
def FnExactNextJoinRowsSaid : Prop := fnExactNextJoinRowsRow.holds Tryz.pinned (OpenSpec.ofChange fnExactNextJoinRowsSpec)

/-- ITS FALSE NEIGHBOUR: 'it returns false'. Refute it at one input. -/
def fnExactNextJoinRowsWrong : ChangeSpec := { name := "fnExactNextJoinRows", fn := fun _ => fun
  | [d1, d2, d3, d4, d5] => { results := [.lit (.bool false)], args := [d1, d2, d3, d4, d5] }
  | _ => none }
def FnExactNextJoinRowsWrongFalsely : Prop := fnExactNextJoinRowsRow.holds Tryz.pinned (OpenSpec.ofChange fnExactNextJoinRowsWrong)

/-- 'laws.FnExactFactorize': WHATEVER THE INPUT: true; the input reads as it did. -/
def fnExactFactorizeSpec : ChangeSpec := { name := "fnExactFactorize", fn := fun _ => fun
  | [d1, d2, d3] => { results := [.lit (.bool true)], args := [d1, d2, d3] }
  | _ => none }
def fnExactFactorizeRow : OpenClaim := { program := "ytmnbfjhefejmoaagreat", sum := "f26723926172414a048dece57ed265de74ee3f6cc43e282d8e987b89777ac194", func := "loop.example/g01917/laws.FnExactFactorize", spec := "fnExactFactorize", unfollowed := true, recurses := true, apart := false }
def FnExactFactorizeSaid : Prop := fnExactFactorizeRow.holds Tryz.pinned (OpenSpec.ofChange fnExactFactorizeSpec)

/-- ITS FALSE NEIGHBOUR: 'it returns false'. Refute it at one input. -/
def fnExactFactorizeWrong : ChangeSpec := { name := "fnExactFactorize", fn := fun _ => fun
  | [d1, d2, d3] => { results := [.lit (.bool false)], args := [d1, d2, d3] }
  | _ => none }
def FnExactFactorizeWrongFalsely : Prop := fnExactFactorizeRow.holds Tryz.pinned (OpenSpec.ofChange fnExactFactorizeWrong)

/- THE SECOND FORM. 'bulk': how many values and letters a reading holds, each counted each time it is reached (what is shared counts as often as it is met; a slice's spare places count too). A statement '..UptoSaid' is the law's where the arguments, and the package variables that the reading takes, are together of bulk at most 1048576: NARROWER than '..Said'. Prove '..Said' where nothing that the law and all that it calls make is longer than what came in: it says more and counts as full. Else prove '..UptoSaid'. A law counts once. -/
mutual
def uptoBulk {H : Type} : DataW H → Nat
  | .lit (.string bytes) => bytes.length + 1
  | .lit _ => 1
  | .nil => 1
  | .ptr d => uptoBulk d + 1
  | .slice elems spare => uptoBulkAll elems + uptoBulkAll spare + 1
  | .agg parts => uptoBulkAll parts + 1
  | .iface _ d => uptoBulk d + 1
  | .map entries => uptoBulkEntries entries + 1
  | .held _ => 1
def uptoBulkAll {H : Type} : List (DataW H) → Nat
  | [] => 0
  | d :: r => uptoBulk d + uptoBulkAll r
def uptoBulkEntries {H : Type} : List (Lit × DataW H) → Nat
  | [] => 0
  | x :: r => uptoBulkEntry x + uptoBulkEntries r
def uptoBulkEntry {H : Type} : Lit × DataW H → Nat
  | (.string bytes, d) => bytes.length + uptoBulk d + 1
  | (_, d) => uptoBulk d + 1
 end
def uptoSmall : (H : Type) → List (DataW H) → Bool := fun _ ds => decide (uptoBulkAll ds ≤ 1048576)
def OpenSpec.upto (s : _root_.Go.ChangeSpec) : _root_.Go.OpenSpec := { _root_.Go.OpenSpec.ofChange s with cond := some uptoSmall }

/-- 'laws.FnExactNextJoinRow', WHERE WHAT IT READS IS OF BULK AT MOST 1048576: true; the input reads as it did. -/
def fnExactNextJoinRowUptoRow : OpenClaim := { program := "ytmnbfjhefejmoaagreat", sum := "f26723926172414a048dece57ed265de74ee3f6cc43e282d8e987b89777ac194", func := "loop.example/g01917/laws.FnExactNextJoinRow", spec := "fnExactNextJoinRow", unfollowed := true, recurses := true, apart := false, narrowed := true }
def FnExactNextJoinRowUptoSaid : Prop := fnExactNextJoinRowUptoRow.holds Tryz.pinned (OpenSpec.upto fnExactNextJoinRowSpec)

/-- 'laws.FnExactNextJoinRows', WHERE WHAT IT READS IS OF BULK AT MOST 1048576: true; the input reads as it did. -/
def fnExactNextJoinRowsUptoRow : OpenClaim := { program := "ytmnbfjhefejmoaagreat", sum := "f26723926172414a048dece57ed265de74ee3f6cc43e282d8e987b89777ac194", func := "loop.example/g01917/laws.FnExactNextJoinRows", spec := "fnExactNextJoinRows", unfollowed := true, recurses := true, apart := false, narrowed := true }
def FnExactNextJoinRowsUptoSaid : Prop := fnExactNextJoinRowsUptoRow.holds Tryz.pinned (OpenSpec.upto fnExactNextJoinRowsSpec)

/-- 'laws.FnExactFactorize', WHERE WHAT IT READS IS OF BULK AT MOST 1048576: true; the input reads as it did. -/
def fnExactFactorizeUptoRow : OpenClaim := { program := "ytmnbfjhefejmoaagreat", sum := "f26723926172414a048dece57ed265de74ee3f6cc43e282d8e987b89777ac194", func := "loop.example/g01917/laws.FnExactFactorize", spec := "fnExactFactorize", unfollowed := true, recurses := true, apart := false, narrowed := true }
def FnExactFactorizeUptoSaid : Prop := fnExactFactorizeUptoRow.holds Tryz.pinned (OpenSpec.upto fnExactFactorizeSpec)

end Rows
end Go.Proofs.YtmnbfjhefejmoaaGreat
