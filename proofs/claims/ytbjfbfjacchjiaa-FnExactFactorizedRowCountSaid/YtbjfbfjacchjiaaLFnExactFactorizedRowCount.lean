/- The Go law FnExactFactorizedRowCount comes to true. -/
import Derived.Test.YtbjfbfjacchjiaapG
namespace Go.Proofs.Ytbjfbfjacchjiaa
open Go.RowKit
theorem law_FnExactFactorizedRowCount {N : Nat} (hN : 1073741824 ≤ N) {x0 : List Int × List (List Int × List Int)} (hb0 : (fun x => (AllL (fun _ => True) 9223372036854775807) x.1 ∧ (AllL (fun x => (AllL (fun _ => True) 9223372036854775807) x.1 ∧ (AllL (fun _ => True) 9223372036854775807) x.2) 9223372036854775807) x.2) x0) : laws_FnExactFactorizedRowCount N x0.1 x0.2 = some true := by
  unfold laws_FnExactFactorizedRowCount
  obtain ⟨r0, e0, k0⟩ := sz_Factorization hN hb0 (l := 1048576) (by omega) (by omega)
  rw [e0, bs]
  by_cases hr0 : r0 < 0
  · rw [decide_eq_true hr0]; rfl
  rw [decide_eq_false hr0, cond_false]
  obtain ⟨o0, m0⟩ := k0 (by omega)
  have hspec := FactorizedRowCount_spec_eq hN o0.1 o0.2
  have himpl := FactorizedRowCount_impl_eq hN o0.1 o0.2
  simp only [to_Factorization hN o0, eq_Factorization hN o0 o0, bs, hspec, himpl, bne_self_eq_false, cond_false, cond_true, decide_true, eqS_dec]
end Go.Proofs.Ytbjfbfjacchjiaa
