/-
  NARROWER THAN 'FOR EVERY INPUT', by the rows' own cells (each row's printed sentence says how): FnExactBestCover: laid · FnBestCover: laid · FnAGMBound: laid.
  DERIVED. THE GIVEN ROWS OF THIS SEAT. 3 by the template 'for every input the law returns true; each argument reads behind the call as it read before'; 0 by the template 'total and deterministic' (their statements: YtijmbnbnojicjaaGreatDoorTotals.lean).
  GIVEN WITH THE SEED: the statements are not yours to turn. If you find one false, say at which input.
  Laid BY PROGRAM, IN A SANDBOX (cutbox-rows.mjs): the forced cells as the released guide's own fill.sh prints them over the translation fffacacf20d58340… (all of the seat's roots in one cut). By AI agents, Wed Nov 11 2026. No macro, syntax, notation, axiom, sorry.
-/
import Derived.Test.YtijmbnbnojicjaaGreatDoorChecked
import GoSem.Claim
import GoSem.ClaimJoined
import GoSem.ClaimMapViews
import Derived.JoinedTies
import Derived.KernelRfl
namespace Go.Proofs.YtijmbnbnojicjaaGreatDoor
/- THE CELL 'sum', in the pinned program and in every row, IS THE sha256 OF THE DUMP (.gsa) THAT YtijmbnbnojicjaaGreatDoorProg.lean LOADS. Nothing in Lean hashes anything: it is a label: what it is worth is what the hold of that sum in a sandbox is worth. -/
noncomputable def Tryz.pinned : Pinned := { name := "ytijmbnbnojicjaagreatdoor", sum := "fffacacf20d58340846a3d683923f78d94ae1330285e2d5e777a77582e67a931", checked := Tryz.checked }
namespace Rows
def none {H : Type} : Left H := { results := [], args := [] }

/- WHAT THE LISTED PACKAGE-LEVEL VARIABLES READ AS WHEN THE CALL BEGINS. Each datum BY PROGRAM (the guide's laid-datum.mjs) off the statement by which the dump's own 'gosem.cut.vars' lays the variable. In a bare row this is a premise. The card (YtijmbnbnojicjaaGreatDoorCards.lean) ties it to the program's text. -/
def laid_loop_example_g01917_impl_oneRational {H : Type} : DataW H := .agg [.lit (.int .i64 1), .lit (.int .i64 1)]

/-- 'laws.FnExactBestCover': WHATEVER THE INPUT: true; the input reads as it did. -/
def fnExactBestCoverSpec : ChangeSpec := { name := "fnExactBestCover", vars := ["loop.example/g01917/impl.oneRational"], fn := fun _ => fun
  | [d1, d2, g1] => { results := [.lit (.bool true)], args := [d1, d2], vars := [g1] }
  | _ => none }
def fnExactBestCoverRow : OpenClaim := { program := "ytijmbnbnojicjaagreatdoor", sum := "fffacacf20d58340846a3d683923f78d94ae1330285e2d5e777a77582e67a931", func := "loop.example/g01917/laws.FnExactBestCover", spec := "fnExactBestCover", unfollowed := true, recurses := true, named := ["loop.example/g01917/impl.oneRational"], apart := false, laid := [("loop.example/g01917/impl.oneRational", laid_loop_example_g01917_impl_oneRational)] }
def FnExactBestCoverSaid : Prop := fnExactBestCoverRow.holds Tryz.pinned (OpenSpec.ofChange fnExactBestCoverSpec)

/-- ITS FALSE NEIGHBOUR: 'it returns false'. Refute it at one input. -/
def fnExactBestCoverWrong : ChangeSpec := { name := "fnExactBestCover", vars := ["loop.example/g01917/impl.oneRational"], fn := fun _ => fun
  | [d1, d2, g1] => { results := [.lit (.bool false)], args := [d1, d2], vars := [g1] }
  | _ => none }
def FnExactBestCoverWrongFalsely : Prop := fnExactBestCoverRow.holds Tryz.pinned (OpenSpec.ofChange fnExactBestCoverWrong)

/-- 'laws.FnBestCover': WHATEVER THE INPUT: true; the input reads as it did. -/
def fnBestCoverSpec : ChangeSpec := { name := "fnBestCover", vars := ["loop.example/g01917/impl.oneRational"], fn := fun _ => fun
  | [d, g1] => { results := [.lit (.bool true)], args := [d], vars := [g1] }
  | _ => none }
def fnBestCoverRow : OpenClaim := { program := "ytijmbnbnojicjaagreatdoor", sum := "fffacacf20d58340846a3d683923f78d94ae1330285e2d5e777a77582e67a931", func := "loop.example/g01917/laws.FnBestCover", spec := "fnBestCover", unfollowed := true, recurses := true, named := ["loop.example/g01917/impl.oneRational"], apart := false, laid := [("loop.example/g01917/impl.oneRational", laid_loop_example_g01917_impl_oneRational)] }
def FnBestCoverSaid : Prop := fnBestCoverRow.holds Tryz.pinned (OpenSpec.ofChange fnBestCoverSpec)

/-- ITS FALSE NEIGHBOUR: 'it returns false'. Refute it at one input. -/
def fnBestCoverWrong : ChangeSpec := { name := "fnBestCover", vars := ["loop.example/g01917/impl.oneRational"], fn := fun _ => fun
  | [d, g1] => { results := [.lit (.bool false)], args := [d], vars := [g1] }
  | _ => none }
def FnBestCoverWrongFalsely : Prop := fnBestCoverRow.holds Tryz.pinned (OpenSpec.ofChange fnBestCoverWrong)

/-- 'laws.FnAGMBound': WHATEVER THE INPUT: true; the input reads as it did. -/
def fnAGMBoundSpec : ChangeSpec := { name := "fnAGMBound", vars := ["loop.example/g01917/impl.oneRational"], fn := fun _ => fun
  | [d, g1] => { results := [.lit (.bool true)], args := [d], vars := [g1] }
  | _ => none }
def fnAGMBoundRow : OpenClaim := { program := "ytijmbnbnojicjaagreatdoor", sum := "fffacacf20d58340846a3d683923f78d94ae1330285e2d5e777a77582e67a931", func := "loop.example/g01917/laws.FnAGMBound", spec := "fnAGMBound", unfollowed := true, recurses := true, named := ["loop.example/g01917/impl.oneRational"], apart := false, laid := [("loop.example/g01917/impl.oneRational", laid_loop_example_g01917_impl_oneRational)] }
def FnAGMBoundSaid : Prop := fnAGMBoundRow.holds Tryz.pinned (OpenSpec.ofChange fnAGMBoundSpec)

/-- ITS FALSE NEIGHBOUR: 'it returns false'. Refute it at one input. -/
def fnAGMBoundWrong : ChangeSpec := { name := "fnAGMBound", vars := ["loop.example/g01917/impl.oneRational"], fn := fun _ => fun
  | [d, g1] => { results := [.lit (.bool false)], args := [d], vars := [g1] }
  | _ => none }
def FnAGMBoundWrongFalsely : Prop := fnAGMBoundRow.holds Tryz.pinned (OpenSpec.ofChange fnAGMBoundWrong)

/- THE SECOND FORM. 'bulk': how many values and letters a reading holds, each counted each time it is reached (what is shared counts as often as it is met; a slice's spare places count too). A statement '..UptoSaid' is the law's where the arguments, and the package variables that the reading takes, are together of bulk at most 1048576: NARROWER than '..Said'. Prove '..Said' where nothing that the law and all that it calls make is longer than what came in: it says more and counts as full. Else prove '..UptoSaid'. A law counts once. -/
mutual
def uptoBulk {H : Type} : DataW H → Nat
  | .lit (.string bytes) => bytes.length + 1
  | .lit _ => 1
  | .nil => 1
  | .ptr d => uptoBulk d + 1
  | .slice elems spare => uptoBulkAll elems + uptoBulkAll spare + 1
  | .agg parts => uptoBulkAll parts + 1
  | .iface _ d => uptoBulk d + 1
  | .map entries => uptoBulkEntries entries + 1
  | .held _ => 1
def uptoBulkAll {H : Type} : List (DataW H) → Nat
  | [] => 0
  | d :: r => uptoBulk d + uptoBulkAll r
def uptoBulkEntries {H : Type} : List (Lit × DataW H) → Nat
  | [] => 0
  | x :: r => uptoBulkEntry x + uptoBulkEntries r
def uptoBulkEntry {H : Type} : Lit × DataW H → Nat
  | (.string bytes, d) => bytes.length + uptoBulk d + 1
  | (_, d) => uptoBulk d + 1
 end
def uptoSmall : (H : Type) → List (DataW H) → Bool := fun _ ds => decide (uptoBulkAll ds ≤ 1048576)
def OpenSpec.upto (s : _root_.Go.ChangeSpec) : _root_.Go.OpenSpec := { _root_.Go.OpenSpec.ofChange s with cond := some uptoSmall }

/-- 'laws.FnExactBestCover', WHERE WHAT IT READS IS OF BULK AT MOST 1048576: true; the input reads as it did. -/
def fnExactBestCoverUptoRow : OpenClaim := { program := "ytijmbnbnojicjaagreatdoor", sum := "fffacacf20d58340846a3d683923f78d94ae1330285e2d5e777a77582e67a931", func := "loop.example/g01917/laws.FnExactBestCover", spec := "fnExactBestCover", unfollowed := true, recurses := true, named := ["loop.example/g01917/impl.oneRational"], apart := false, laid := [("loop.example/g01917/impl.oneRational", laid_loop_example_g01917_impl_oneRational)], narrowed := true }
def FnExactBestCoverUptoSaid : Prop := fnExactBestCoverUptoRow.holds Tryz.pinned (OpenSpec.upto fnExactBestCoverSpec)

/-- 'laws.FnBestCover', WHERE WHAT IT READS IS OF BULK AT MOST 1048576: true; the input reads as it did. -/
def fnBestCoverUptoRow : OpenClaim := { program := "ytijmbnbnojicjaagreatdoor", sum := "fffacacf20d58340846a3d683923f78d94ae1330285e2d5e777a77582e67a931", func := "loop.example/g01917/laws.FnBestCover", spec := "fnBestCover", unfollowed := true, recurses := true, named := ["loop.example/g01917/impl.oneRational"], apart := false, laid := [("loop.example/g01917/impl.oneRational", laid_loop_example_g01917_impl_oneRational)], narrowed := true }
def FnBestCoverUptoSaid : Prop := fnBestCoverUptoRow.holds Tryz.pinned (OpenSpec.upto fnBestCoverSpec)

/-- 'laws.FnAGMBound', WHERE WHAT IT READS IS OF BULK AT MOST 1048576: true; the input reads as it did. -/
def fnAGMBoundUptoRow : OpenClaim := { program := "ytijmbnbnojicjaagreatdoor", sum := "fffacacf20d58340846a3d683923f78d94ae1330285e2d5e777a77582e67a931", func := "loop.example/g01917/laws.FnAGMBound", spec := "fnAGMBound", unfollowed := true, recurses := true, named := ["loop.example/g01917/impl.oneRational"], apart := false, laid := [("loop.example/g01917/impl.oneRational", laid_loop_example_g01917_impl_oneRational)], narrowed := true }
def FnAGMBoundUptoSaid : Prop := fnAGMBoundUptoRow.holds Tryz.pinned (OpenSpec.upto fnAGMBoundSpec)

end Rows
end Go.Proofs.YtijmbnbnojicjaaGreatDoor
