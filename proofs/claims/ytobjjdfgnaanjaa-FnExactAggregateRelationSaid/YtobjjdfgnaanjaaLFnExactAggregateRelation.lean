/- The Go law FnExactAggregateRelation comes to true. -/
import Derived.Test.YtobjjdfgnaanjaapC
namespace Go.Proofs.Ytobjjdfgnaanjaa
open Go.RowKit
theorem law_FnExactAggregateRelation {N : Nat} (hN : 1073741824 ≤ N) {x0 : Int} {x1 : Int × List (List Int)} (hb1 : (fun x => (AllL (AllL (fun _ => True) 9223372036854775807) 9223372036854775807) x.2) x1) : laws_FnExactAggregateRelation N x0 x1.1 x1.2 = some true := by
  unfold laws_FnExactAggregateRelation
  obtain ⟨r1, e1, k1⟩ := sz_Relation hN hb1 (l := 1048576) (by omega) (by omega)
  rw [e1, bs]
  by_cases hr1 : r1 < 0
  · rw [decide_eq_true hr1]; rfl
  rw [decide_eq_false hr1, cond_false]
  obtain ⟨o1, m1⟩ := k1 (by omega)
  have hspec := AggregateRelation_spec_eq hN (k := x0) (n := x1.1) o1
  have himpl := AggregateRelation_impl_eq hN (k := x0) (n := x1.1) o1
  simp only [to_Relation hN o1, eq_Relation hN o1 o1, bs, hspec, himpl, bne_self_eq_false, cond_false, cond_true, decide_true, eqS_dec]
end Go.Proofs.Ytobjjdfgnaanjaa
