/- The Go law FnExactFactorizedRank comes to true. -/
import Derived.Test.YtbjfbfjacchjiaapJ
namespace Go.Proofs.Ytbjfbfjacchjiaa
open Go.RowKit
theorem law_FnExactFactorizedRank {N : Nat} (hN : 1073741824 ≤ N) {x0 : List Int × List (List Int × List Int)} (hb0 : (fun x => (AllL (fun _ => True) 9223372036854775807) x.1 ∧ (AllL (fun x => (AllL (fun _ => True) 9223372036854775807) x.1 ∧ (AllL (fun _ => True) 9223372036854775807) x.2) 9223372036854775807) x.2) x0) {x1 : List Int} (hb1 : (AllL (fun _ => True) 9223372036854775807) x1) : laws_FnExactFactorizedRank N x0.1 x0.2 x1 = some true := by
  unfold laws_FnExactFactorizedRank
  by_cases hc1 : (1048576 : Int) < (x1.length : Int)
  · rw [decide_eq_true hc1]; rfl
  rw [decide_eq_false hc1, cond_false]
  have o1 : AllL (fun _ => True) 1048576 x1 := ⟨by omega, fun _ _ => trivial⟩
  obtain ⟨r0, e0, k0⟩ := sz_Factorization hN hb0 (l := 1048576) (by omega) (by omega)
  rw [e0, bs]
  by_cases hr0 : r0 < 0
  · rw [decide_eq_true hr0]; rfl
  rw [decide_eq_false hr0, cond_false]
  obtain ⟨o0, m0⟩ := k0 (by omega)
  have hspec := FactorizedRank_spec_eq hN o0.1 o0.2 o1
  have himpl := FactorizedRank_impl_eq hN o0.1 o0.2 o1
  simp only [to_Factorization hN o0, eq_Factorization hN o0 o0, to_IntS hN o1, eq_IntS hN o1 o1, bs, hspec, himpl, bne_self_eq_false, cond_false, cond_true, decide_true, eqS_dec]
end Go.Proofs.Ytbjfbfjacchjiaa
