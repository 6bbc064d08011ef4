/-
  No cell of these rows narrows 'for every input' (looked for: loops, veiled, ifaces, maps, wideKeys, modest, calm, conditions, laid).
  DERIVED. THE GIVEN ROWS OF THIS SEAT. 3 by the template 'for every input the law returns true; each argument reads behind the call as it read before'; 0 by the template 'total and deterministic' (their statements: YtdapplkijobjoaaTotals.lean).
  GIVEN WITH THE SEED: the statements are not yours to turn. If you find one false, say at which input.
  Laid BY PROGRAM, IN A SANDBOX (cutbox-rows.mjs): the forced cells as the released guide's own fill.sh prints them over the translation 79e40e42d767693c… (all of the seat's roots in one cut). By AI agents, Wed Nov 11 2026. No macro, syntax, notation, axiom, sorry.
-/
import Derived.Test.YtdapplkijobjoaaChecked
import GoSem.Claim
import GoSem.ClaimJoined
import GoSem.ClaimMapViews
import Derived.JoinedTies
import Derived.KernelRfl
namespace Go.Proofs.Ytdapplkijobjoaa
/- THE CELL 'sum', in the pinned program and in every row, IS THE sha256 OF THE DUMP (.gsa) THAT YtdapplkijobjoaaProg.lean LOADS. Nothing in Lean hashes anything: it is a label: what it is worth is what the hold of that sum in a sandbox is worth. -/
noncomputable def Try.pinned : Pinned := { name := "ytdapplkijobjoaa", sum := "79e40e42d767693c98ef1d49980fd425c2d2dd3a68f2f95b8f93cfa4fad7691c", checked := Try.checked }
namespace Rows
def none {H : Type} : Left H := { results := [], args := [] }

/-- 'laws.FnAggregates': WHATEVER THE INPUT: true; the input reads as it did. -/
def fnAggregatesSpec : ChangeSpec := { name := "fnAggregates", fn := fun _ => fun
  | [d] => { results := [.lit (.bool true)], args := [d] }
  | _ => none }
def fnAggregatesRow : OpenClaim := { program := "ytdapplkijobjoaa", sum := "79e40e42d767693c98ef1d49980fd425c2d2dd3a68f2f95b8f93cfa4fad7691c", func := "loop.example/g01917/laws.FnAggregates", spec := "fnAggregates", recurses := true, apart := false }
def FnAggregatesSaid : Prop := fnAggregatesRow.holds Try.pinned (OpenSpec.ofChange fnAggregatesSpec)

/-- ITS FALSE NEIGHBOUR: 'it returns false'. Refute it at one input. -/
def fnAggregatesWrong : ChangeSpec := { name := "fnAggregates", fn := fun _ => fun
  | [d] => { results := [.lit (.bool false)], args := [d] }
  | _ => none }
def FnAggregatesWrongFalsely : Prop := fnAggregatesRow.holds Try.pinned (OpenSpec.ofChange fnAggregatesWrong)

/-- 'laws.FnSeekBoundMonotonicity': WHATEVER THE INPUT: true; the input reads as it did. -/
def fnSeekBoundMonotonicitySpec : ChangeSpec := { name := "fnSeekBoundMonotonicity", fn := fun _ => fun
  | [d] => { results := [.lit (.bool true)], args := [d] }
  | _ => none }
def fnSeekBoundMonotonicityRow : OpenClaim := { program := "ytdapplkijobjoaa", sum := "79e40e42d767693c98ef1d49980fd425c2d2dd3a68f2f95b8f93cfa4fad7691c", func := "loop.example/g01917/laws.FnSeekBoundMonotonicity", spec := "fnSeekBoundMonotonicity", apart := false }
def FnSeekBoundMonotonicitySaid : Prop := fnSeekBoundMonotonicityRow.holds Try.pinned (OpenSpec.ofChange fnSeekBoundMonotonicitySpec)

/-- ITS FALSE NEIGHBOUR: 'it returns false'. Refute it at one input. -/
def fnSeekBoundMonotonicityWrong : ChangeSpec := { name := "fnSeekBoundMonotonicity", fn := fun _ => fun
  | [d] => { results := [.lit (.bool false)], args := [d] }
  | _ => none }
def FnSeekBoundMonotonicityWrongFalsely : Prop := fnSeekBoundMonotonicityRow.holds Try.pinned (OpenSpec.ofChange fnSeekBoundMonotonicityWrong)

/-- 'laws.FnRanking': WHATEVER THE INPUT: true; the input reads as it did. -/
def fnRankingSpec : ChangeSpec := { name := "fnRanking", fn := fun _ => fun
  | [d] => { results := [.lit (.bool true)], args := [d] }
  | _ => none }
def fnRankingRow : OpenClaim := { program := "ytdapplkijobjoaa", sum := "79e40e42d767693c98ef1d49980fd425c2d2dd3a68f2f95b8f93cfa4fad7691c", func := "loop.example/g01917/laws.FnRanking", spec := "fnRanking", recurses := true, apart := false }
def FnRankingSaid : Prop := fnRankingRow.holds Try.pinned (OpenSpec.ofChange fnRankingSpec)

/-- ITS FALSE NEIGHBOUR: 'it returns false'. Refute it at one input. -/
def fnRankingWrong : ChangeSpec := { name := "fnRanking", fn := fun _ => fun
  | [d] => { results := [.lit (.bool false)], args := [d] }
  | _ => none }
def FnRankingWrongFalsely : Prop := fnRankingRow.holds Try.pinned (OpenSpec.ofChange fnRankingWrong)

/- THE SECOND FORM. 'bulk': how many values and letters a reading holds, each counted each time it is reached (what is shared counts as often as it is met; a slice's spare places count too). A statement '..UptoSaid' is the law's where the arguments, and the package variables that the reading takes, are together of bulk at most 1048576: NARROWER than '..Said'. Prove '..Said' where nothing that the law and all that it calls make is longer than what came in: it says more and counts as full. Else prove '..UptoSaid'. A law counts once. -/
mutual
def uptoBulk {H : Type} : DataW H → Nat
  | .lit (.string bytes) => bytes.length + 1
  | .lit _ => 1
  | .nil => 1
  | .ptr d => uptoBulk d + 1
  | .slice elems spare => uptoBulkAll elems + uptoBulkAll spare + 1
  | .agg parts => uptoBulkAll parts + 1
  | .iface _ d => uptoBulk d + 1
  | .map entries => uptoBulkEntries entries + 1
  | .held _ => 1
def uptoBulkAll {H : Type} : List (DataW H) → Nat
  | [] => 0
  | d :: r => uptoBulk d + uptoBulkAll r
def uptoBulkEntries {H : Type} : List (Lit × DataW H) → Nat
  | [] => 0
  | x :: r => uptoBulkEntry x + uptoBulkEntries r
def uptoBulkEntry {H : Type} : Lit × DataW H → Nat
  | (.string bytes, d) => bytes.length + uptoBulk d + 1
  | (_, d) => uptoBulk d + 1
 end
def uptoSmall : (H : Type) → List (DataW H) → Bool := fun _ ds => decide (uptoBulkAll ds ≤ 1048576)
def OpenSpec.upto (s : _root_.Go.ChangeSpec) : _root_.Go.OpenSpec := { _root_.Go.OpenSpec.ofChange s with cond := some uptoSmall }

/-- 'laws.FnAggregates', WHERE WHAT IT READS IS OF BULK AT MOST 1048576: true; the input reads as it did. -/
def fnAggregatesUptoRow : OpenClaim := { program := "ytdapplkijobjoaa", sum := "79e40e42d767693c98ef1d49980fd425c2d2dd3a68f2f95b8f93cfa4fad7691c", func := "loop.example/g01917/laws.FnAggregates", spec := "fnAggregates", recurses := true, apart := false, narrowed := true }
def FnAggregatesUptoSaid : Prop := fnAggregatesUptoRow.holds Try.pinned (OpenSpec.upto fnAggregatesSpec)

/-- 'laws.FnSeekBoundMonotonicity', WHERE WHAT IT READS IS OF BULK AT MOST 1048576: true; the input reads as it did. -/
def fnSeekBoundMonotonicityUptoRow : OpenClaim := { program := "ytdapplkijobjoaa", sum := "79e40e42d767693c98ef1d49980fd425c2d2dd3a68f2f95b8f93cfa4fad7691c", func := "loop.example/g01917/laws.FnSeekBoundMonotonicity", spec := "fnSeekBoundMonotonicity", apart := false, narrowed := true }
def FnSeekBoundMonotonicityUptoSaid : Prop := fnSeekBoundMonotonicityUptoRow.holds Try.pinned (OpenSpec.upto fnSeekBoundMonotonicitySpec)

/-- 'laws.FnRanking', WHERE WHAT IT READS IS OF BULK AT MOST 1048576: true; the input reads as it did. -/
def fnRankingUptoRow : OpenClaim := { program := "ytdapplkijobjoaa", sum := "79e40e42d767693c98ef1d49980fd425c2d2dd3a68f2f95b8f93cfa4fad7691c", func := "loop.example/g01917/laws.FnRanking", spec := "fnRanking", recurses := true, apart := false, narrowed := true }
def FnRankingUptoSaid : Prop := fnRankingUptoRow.holds Try.pinned (OpenSpec.upto fnRankingSpec)

end Rows
end Go.Proofs.Ytdapplkijobjoaa
