/- The Go law FnExactIsWithinSeekBound comes to true. -/
import Derived.Test.YtkpeabpdiffjhaapT
namespace Go.Proofs.Ytkpeabpdiffjhaa
open Go.RowKit
theorem law_FnExactIsWithinSeekBound {N : Nat} (hM : 1073742848 ≤ N) {x0 : Int × List (ByteArray × List Int) × List Int} (hb0 : (fun x => (AllL (fun x => (fun s => s.size ≤ 9223372036854775807) x.1 ∧ (AllL (fun _ => True) 9223372036854775807) x.2) 9223372036854775807) x.2.1 ∧ (AllL (fun _ => True) 9223372036854775807) x.2.2) x0) {x1 : List Int} (hb1 : (AllL (fun _ => True) 9223372036854775807) x1) (g1 : ∀ v ∈ x1, -9223372036854775808 ≤ v ∧ v ≤ 9223372036854775807) {x2 : List (Int × Int)} (hb2 : (AllL (fun x => True) 9223372036854775807) x2) {x3 : Int} (g3 : -9223372036854775808 ≤ x3 ∧ x3 ≤ 9223372036854775807) : laws_FnExactIsWithinSeekBound N x0.1 x0.2.1 x0.2.2 x1 x2 x3 = some true := by
  have hN : 1073741824 ≤ N := by omega
  unfold laws_FnExactIsWithinSeekBound
  by_cases hc1 : (1048576 : Int) < (x1.length : Int)
  · rw [decide_eq_true hc1]; rfl
  rw [decide_eq_false hc1, cond_false]
  have o1 : AllL (fun _ => True) 1048576 x1 := ⟨by omega, fun _ _ => trivial⟩
  obtain ⟨r0, e0, k0⟩ := sz_Query hN hb0 (l := 1048576) (by omega) (by omega)
  rw [e0, bs]
  by_cases hr0 : r0 < 0
  · rw [decide_eq_true hr0]; rfl
  rw [decide_eq_false hr0, cond_false]
  obtain ⟨o0, m0⟩ := k0 (by omega)
  obtain ⟨r2, e2, k2⟩ := sz_RationalS hN hb2 (l := r0) (by omega) (by omega)
  rw [e2, bs]
  by_cases hr2 : r2 < 0
  · rw [decide_eq_true hr2]; rfl
  rw [decide_eq_false hr2, cond_false]
  obtain ⟨o2, m2⟩ := k2 (by omega)
  obtain ⟨vv, hspec, himpl⟩ := (IsWithinSeekBound_both (n := x0.1) (c := x3) hN o0.1 o0.2 o1.1 g1 o2.1 g3)
  simp only [to_Query hN o0, eq_Query hN o0 o0, to_IntS hN o1, eq_IntS hN o1 o1, to_RationalS hN o2, eq_RationalS hN o2 o2, bs, hspec, himpl, bne_self_eq_false, cond_false, cond_true, decide_true, eqS_dec]
end Go.Proofs.Ytkpeabpdiffjhaa
