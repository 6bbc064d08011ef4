/-
  No cell of these rows narrows 'for every input' (looked for: loops, veiled, ifaces, maps, wideKeys, modest, calm, conditions, laid).
  DERIVED. THE GIVEN ROWS OF THIS SEAT. 2 by the template 'for every input the law returns true; each argument reads behind the call as it read before'; 0 by the template 'total and deterministic' (their statements: YtnipkopfefkojaaGreatTotals.lean).
  GIVEN WITH THE SEED: the statements are not yours to turn. If you find one false, say at which input.
  Laid BY PROGRAM, IN A SANDBOX (cutbox-rows.mjs): the forced cells as the released guide's own fill.sh prints them over the translation 9ee55fdc2076c4cc… (all of the seat's roots in one cut). By AI agents, Wed Nov 11 2026. No macro, syntax, notation, axiom, sorry.
-/
import Derived.Test.YtnipkopfefkojaaGreatChecked
import GoSem.Claim
import GoSem.ClaimJoined
import GoSem.ClaimMapViews
import Derived.JoinedTies
import Derived.KernelRfl
namespace Go.Proofs.YtnipkopfefkojaaGreat
/- THE CELL 'sum', in the pinned program and in every row, IS THE sha256 OF THE DUMP (.gsa) THAT YtnipkopfefkojaaGreatProg.lean LOADS. Nothing in Lean hashes anything: it is a label: what it is worth is what the hold of that sum in a sandbox is worth. -/
noncomputable def Tryz.pinned : Pinned := { name := "ytnipkopfefkojaagreat", sum := "9ee55fdc2076c4cc8c16ea8ef5d7b0fa5f4508bf6401e7343ca62ccabdeaa3f2", checked := Tryz.checked }
namespace Rows
def none {H : Type} : Left H := { results := [], args := [] }

/-- 'laws.FnResumableJoin': WHATEVER THE INPUT: true; the input reads as it did. -/
def fnResumableJoinSpec : ChangeSpec := { name := "fnResumableJoin", fn := fun _ => fun
  | [d] => { results := [.lit (.bool true)], args := [d] }
  | _ => none }
def fnResumableJoinRow : OpenClaim := { program := "ytnipkopfefkojaagreat", sum := "9ee55fdc2076c4cc8c16ea8ef5d7b0fa5f4508bf6401e7343ca62ccabdeaa3f2", func := "loop.example/g01917/laws.FnResumableJoin", spec := "fnResumableJoin", unfollowed := true, recurses := true, apart := false }
def FnResumableJoinSaid : Prop := fnResumableJoinRow.holds Tryz.pinned (OpenSpec.ofChange fnResumableJoinSpec)

/-- ITS FALSE NEIGHBOUR: 'it returns false'. Refute it at one input. -/
def fnResumableJoinWrong : ChangeSpec := { name := "fnResumableJoin", fn := fun _ => fun
  | [d] => { results := [.lit (.bool false)], args := [d] }
  | _ => none }
def FnResumableJoinWrongFalsely : Prop := fnResumableJoinRow.holds Tryz.pinned (OpenSpec.ofChange fnResumableJoinWrong)

/-- 'laws.FnFactorization': WHATEVER THE INPUT: true; the input reads as it did. -/
def fnFactorizationSpec : ChangeSpec := { name := "fnFactorization", fn := fun _ => fun
  | [d] => { results := [.lit (.bool true)], args := [d] }
  | _ => none }
def fnFactorizationRow : OpenClaim := { program := "ytnipkopfefkojaagreat", sum := "9ee55fdc2076c4cc8c16ea8ef5d7b0fa5f4508bf6401e7343ca62ccabdeaa3f2", func := "loop.example/g01917/laws.FnFactorization", spec := "fnFactorization", unfollowed := true, recurses := true, apart := false }
def FnFactorizationSaid : Prop := fnFactorizationRow.holds Tryz.pinned (OpenSpec.ofChange fnFactorizationSpec)

/-- ITS FALSE NEIGHBOUR: 'it returns false'. Refute it at one input. -/
def fnFactorizationWrong : ChangeSpec := { name := "fnFactorization", fn := fun _ => fun
  | [d] => { results := [.lit (.bool false)], args := [d] }
  | _ => none }
def FnFactorizationWrongFalsely : Prop := fnFactorizationRow.holds Tryz.pinned (OpenSpec.ofChange fnFactorizationWrong)

/- THE SECOND FORM. 'bulk': how many values and letters a reading holds, each counted each time it is reached (what is shared counts as often as it is met; a slice's spare places count too). A statement '..UptoSaid' is the law's where the arguments, and the package variables that the reading takes, are together of bulk at most 1048576: NARROWER than '..Said'. Prove '..Said' where nothing that the law and all that it calls make is longer than what came in: it says more and counts as full. Else prove '..UptoSaid'. A law counts once. -/
mutual
def uptoBulk {H : Type} : DataW H → Nat
  | .lit (.string bytes) => bytes.length + 1
  | .lit _ => 1
  | .nil => 1
  | .ptr d => uptoBulk d + 1
  | .slice elems spare => uptoBulkAll elems + uptoBulkAll spare + 1
  | .agg parts => uptoBulkAll parts + 1
  | .iface _ d => uptoBulk d + 1
  | .map entries => uptoBulkEntries entries + 1
  | .held _ => 1
def uptoBulkAll {H : Type} : List (DataW H) → Nat
  | [] => 0
  | d :: r => uptoBulk d + uptoBulkAll r
def uptoBulkEntries {H : Type} : List (Lit × DataW H) → Nat
  | [] => 0
  | x :: r => uptoBulkEntry x + uptoBulkEntries r
def uptoBulkEntry {H : Type} : Lit × DataW H → Nat
  | (.string bytes, d) => bytes.length + uptoBulk d + 1
  | (_, d) => uptoBulk d + 1
 end
def uptoSmall : (H : Type) → List (DataW H) → Bool := fun _ ds => decide (uptoBulkAll ds ≤ 1048576)
def OpenSpec.upto (s : _root_.Go.ChangeSpec) : _root_.Go.OpenSpec := { _root_.Go.OpenSpec.ofChange s with cond := some uptoSmall }

/-- 'laws.FnResumableJoin', WHERE WHAT IT READS IS OF BULK AT MOST 1048576: true; the input reads as it did. -/
def fnResumableJoinUptoRow : OpenClaim := { program := "ytnipkopfefkojaagreat", sum := "9ee55fdc2076c4cc8c16ea8ef5d7b0fa5f4508bf6401e7343ca62ccabdeaa3f2", func := "loop.example/g01917/laws.FnResumableJoin", spec := "fnResumableJoin", unfollowed := true, recurses := true, apart := false, narrowed := true }
def FnResumableJoinUptoSaid : Prop := fnResumableJoinUptoRow.holds Tryz.pinned (OpenSpec.upto fnResumableJoinSpec)

/-- 'laws.FnFactorization', WHERE WHAT IT READS IS OF BULK AT MOST 1048576: true; the input reads as it did. -/
def fnFactorizationUptoRow : OpenClaim := { program := "ytnipkopfefkojaagreat", sum := "9ee55fdc2076c4cc8c16ea8ef5d7b0fa5f4508bf6401e7343ca62ccabdeaa3f2", func := "loop.example/g01917/laws.FnFactorization", spec := "fnFactorization", unfollowed := true, recurses := true, apart := false, narrowed := true }
def FnFactorizationUptoSaid : Prop := fnFactorizationUptoRow.holds Tryz.pinned (OpenSpec.upto fnFactorizationSpec)

end Rows
end Go.Proofs.YtnipkopfefkojaaGreat
