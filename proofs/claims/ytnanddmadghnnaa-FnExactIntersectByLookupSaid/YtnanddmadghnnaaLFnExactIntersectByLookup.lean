/- The Go law FnExactIntersectByLookup comes to true. -/
import Derived.Test.YtnanddmadghnnaapL
namespace Go.Proofs.Ytnanddmadghnnaa
open Go.RowKit
theorem law_FnExactIntersectByLookup {N : Nat} (hN : 1073741824 ≤ N) {x0 : List (List Int)} (hb0 : (AllL (AllL (fun _ => True) 9223372036854775807) 9223372036854775807) x0) : laws_FnExactIntersectByLookup N x0 = some true := by
  unfold laws_FnExactIntersectByLookup
  obtain ⟨r0, e0, k0⟩ := sz_IntSS hN hb0 (l := 1048576) (by omega) (by omega)
  rw [e0, bs]
  by_cases hr0 : r0 < 0
  · rw [decide_eq_true hr0]; rfl
  rw [decide_eq_false hr0, cond_false]
  obtain ⟨o0, m0⟩ := k0 (by omega)
  have hspec := IntersectByLookup_spec_eq hN o0
  have himpl := IntersectByLookup_impl_eq hN o0
  obtain ⟨m0, me0, ma0, mb0, _⟩ := mk_IntSS hN o0 (k := 1) (by omega) (by omega)
  have hok0 := interV_ok o0
  obtain ⟨q0, qe0, qa0, qb0, qd0⟩ := mk_IntS (x := ((interV x0)).1) hN hok0 (k := 1) (by omega) (by omega)
  simp only [to_IntSS hN o0, eq_IntSS hN o0 o0, eq_IntS (x := ((interV x0)).1) (y := ((interV x0)).1) hN hok0 hok0, me0, qe0, qd0, decide_eq_false (by omega : ¬ m0.1 < 0), decide_eq_false (by omega : ¬ q0.1 < 0), bs, hspec, himpl, bne_self_eq_false, cond_false, cond_true, decide_true, eqS_dec]
end Go.Proofs.Ytnanddmadghnnaa
