/- The Go law FnExactFactorizeRelation comes to true. -/
import Derived.Test.YtdingjlefilafaapQ
namespace Go.Proofs.Ytdingjlefilafaa
open Go.RowKit
theorem law_FnExactFactorizeRelation {N : Nat} (hM : 1073742848 ≤ N) {x0 : Int × List (List Int)} (hb0 : (fun x => (AllL (AllL (fun _ => True) 9223372036854775807) 9223372036854775807) x.2) x0) : laws_FnExactFactorizeRelation N x0.1 x0.2 = some true := by
  have hN : 1073741824 ≤ N := by omega
  unfold laws_FnExactFactorizeRelation
  obtain ⟨r0, e0, k0⟩ := sz_Relation hN hb0 (l := 1048576) (by omega) (by omega)
  rw [e0, bs]
  by_cases hr0 : r0 < 0
  · rw [decide_eq_true hr0]; rfl
  rw [decide_eq_false hr0, cond_false]
  obtain ⟨o0, m0⟩ := k0 (by omega)
  have hspec := FactorizeRelation_spec_eq (n := x0.1) hM o0
  have himpl := FactorizeRelation_impl_eq (n := x0.1) hM o0
  obtain ⟨m0, me0, ma0, mb0, _⟩ := mk_Relation hN o0 (k := 1) (by omega) (by omega)
  have hok0 := (factRel_ok (n := x0.1) (rows := x0.2))
  obtain ⟨q0, qe0, qa0, qb0, qd0⟩ := mk_Factorization (x := ((factRel x0.1 x0.2)).1) hN hok0 (k := 1) (by omega) (by omega)
  simp only [to_Relation hN o0, eq_Relation hN o0 o0, eq_Factorization (x := ((factRel x0.1 x0.2)).1) (y := ((factRel x0.1 x0.2)).1) hN hok0 hok0, me0, qe0, qd0, decide_eq_false (by omega : ¬ m0.1 < 0), decide_eq_false (by omega : ¬ q0.1 < 0), bs, hspec, himpl, bne_self_eq_false, cond_false, cond_true, decide_true, eqS_dec]
end Go.Proofs.Ytdingjlefilafaa
