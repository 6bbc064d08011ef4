/- The Go law FnExactExpandFactorization comes to true. -/
import Derived.Test.YtdingjlefilafaapP
namespace Go.Proofs.Ytdingjlefilafaa
open Go.RowKit
theorem law_FnExactExpandFactorization {N : Nat} (hN : 1073741824 ≤ N) {x0 : List Int × List (List Int × List Int)} (hb0 : (fun x => (AllL (fun _ => True) 9223372036854775807) x.1 ∧ (AllL (fun x => (AllL (fun _ => True) 9223372036854775807) x.1 ∧ (AllL (fun _ => True) 9223372036854775807) x.2) 9223372036854775807) x.2) x0) : laws_FnExactExpandFactorization N x0.1 x0.2 = some true := by
  unfold laws_FnExactExpandFactorization
  obtain ⟨r0, e0, k0⟩ := sz_Factorization hN hb0 (l := 1048576) (by omega) (by omega)
  rw [e0, bs]
  by_cases hr0 : r0 < 0
  · rw [decide_eq_true hr0]; rfl
  rw [decide_eq_false hr0, cond_false]
  obtain ⟨o0, m0⟩ := k0 (by omega)
  have hspec := ExpandFactorization_spec_eq hN o0.1 o0.2
  have himpl := ExpandFactorization_impl_eq hN o0.1 o0.2
  obtain ⟨m0, me0, ma0, mb0, _⟩ := mk_Factorization hN o0 (k := 1) (by omega) (by omega)
  have hok0 := expandV_ok (order := x0.1) o0.2
  obtain ⟨q0, qe0, qa0, qb0, qd0⟩ := mk_Relation (x := ((expandV x0.1 x0.2)).1) hN hok0 (k := 1) (by omega) (by omega)
  simp only [to_Factorization hN o0, eq_Factorization hN o0 o0, eq_Relation (x := ((expandV x0.1 x0.2)).1) (y := ((expandV x0.1 x0.2)).1) hN hok0 hok0, me0, qe0, qd0, decide_eq_false (by omega : ¬ m0.1 < 0), decide_eq_false (by omega : ¬ q0.1 < 0), bs, hspec, himpl, bne_self_eq_false, cond_false, cond_true, decide_true, eqS_dec]
end Go.Proofs.Ytdingjlefilafaa
