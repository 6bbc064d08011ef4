/- The Go law FnExactFactorizedRowsFrom comes to true. -/
import Derived.Test.YtbjfbfjacchjiaapM
namespace Go.Proofs.Ytbjfbfjacchjiaa
open Go.RowKit
theorem law_FnExactFactorizedRowsFrom {N : Nat} (hN : 1073741824 ≤ N) {x0 : List Int × List (List Int × List Int)} (hb0 : (fun x => (AllL (fun _ => True) 9223372036854775807) x.1 ∧ (AllL (fun x => (AllL (fun _ => True) 9223372036854775807) x.1 ∧ (AllL (fun _ => True) 9223372036854775807) x.2) 9223372036854775807) x.2) x0) {x1 : List Int} (hb1 : (AllL (fun _ => True) 9223372036854775807) x1) {x2 : Int} : laws_FnExactFactorizedRowsFrom N x0.1 x0.2 x1 x2 = some true := by
  unfold laws_FnExactFactorizedRowsFrom
  by_cases hc1 : (1048576 : Int) < (x1.length : Int)
  · rw [decide_eq_true hc1]; rfl
  rw [decide_eq_false hc1, cond_false]
  have o1 : AllL (fun _ => True) 1048576 x1 := ⟨by omega, fun _ _ => trivial⟩
  obtain ⟨r0, e0, k0⟩ := sz_Factorization hN hb0 (l := 1048576) (by omega) (by omega)
  rw [e0, bs]
  by_cases hr0 : r0 < 0
  · rw [decide_eq_true hr0]; rfl
  rw [decide_eq_false hr0, cond_false]
  obtain ⟨o0, m0⟩ := k0 (by omega)
  have hspec := FactorizedRowsFrom_spec_eq (n := x2) hN o0.1 o0.2 o1
  have himpl := FactorizedRowsFrom_impl_eq (n := x2) hN o0.1 o0.2 o1
  obtain ⟨m0, me0, ma0, mb0⟩ := mk_Factorization hN o0 (k := 1) (by omega) (by omega)
  obtain ⟨m1, me1, ma1, mb1, _⟩ := mk_IntS hN o1 (k := m0.1) (by omega) (by omega)
  have hok0 := (rowsFromV_ok (order := x0.1) (vs := x1) (n := x2) o0.2)
  obtain ⟨q0, qe0, qa0, qb0, qd0⟩ := mkB_IntSS (x := ((rowsFromV x0.1 x0.2 x1 x2))) hN hok0 (k := 1) (by omega) (by omega)
  simp only [to_Factorization hN o0, eq_Factorization hN o0 o0, to_IntS hN o1, eq_IntS hN o1 o1, eqB_IntSS (x := ((rowsFromV x0.1 x0.2 x1 x2))) (y := ((rowsFromV x0.1 x0.2 x1 x2))) hN hok0 hok0, me0, me1, qe0, qd0, decide_eq_false (by omega : ¬ m0.1 < 0), decide_eq_false (by omega : ¬ m1.1 < 0), decide_eq_false (by omega : ¬ q0.1 < 0), bs, hspec, himpl, bne_self_eq_false, cond_false, cond_true, decide_true, eqS_dec]
end Go.Proofs.Ytbjfbfjacchjiaa
