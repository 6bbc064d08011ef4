/- The Go law FnExactIsValidDelta comes to true. -/
import Derived.Test.YtnanddmadghnnaapN
namespace Go.Proofs.Ytnanddmadghnnaa
open Go.RowKit
theorem law_FnExactIsValidDelta {N : Nat} (hN : 1073741824 ≤ N) {x0 : List (ByteArray × (Int × List (List Int)))} (hb0 : (fun x => (AllL (fun x => (fun s => s.size ≤ 9223372036854775807) x.1 ∧ (fun x => (AllL (AllL (fun _ => True) 9223372036854775807) 9223372036854775807) x.2) x.2) 9223372036854775807) x) x0) {x1 : ByteArray × (Int × List (List Int)) × (Int × List (List Int))} (hb1 : (fun x => (fun s => s.size ≤ 9223372036854775807) x.1 ∧ (fun x => (AllL (AllL (fun _ => True) 9223372036854775807) 9223372036854775807) x.2) x.2.1 ∧ (fun x => (AllL (AllL (fun _ => True) 9223372036854775807) 9223372036854775807) x.2) x.2.2) x1) : laws_FnExactIsValidDelta N x0 x1.1 x1.2.1.1 x1.2.1.2 x1.2.2.1 x1.2.2.2 = some true := by
  unfold laws_FnExactIsValidDelta
  obtain ⟨r0, e0, k0⟩ := sz_Database hN hb0 (l := 1048576) (by omega) (by omega)
  rw [e0, bs]
  by_cases hr0 : r0 < 0
  · rw [decide_eq_true hr0]; rfl
  rw [decide_eq_false hr0, cond_false]
  obtain ⟨o0, m0⟩ := k0 (by omega)
  obtain ⟨r1, e1, k1⟩ := sz_Delta hN hb1 (l := r0) (by omega) (by omega)
  rw [e1, bs]
  by_cases hr1 : r1 < 0
  · rw [decide_eq_true hr1]; rfl
  rw [decide_eq_false hr1, cond_false]
  obtain ⟨o1, m1⟩ := k1 (by omega)
  have hspec := IsValidDelta_spec_eq (s := x1.1) (a := x1.2.1.1) (b := x1.2.2.1) hN o0 o1.2.1 o1.2.2
  have himpl := IsValidDelta_impl_eq (s := x1.1) (a := x1.2.1.1) (b := x1.2.2.1) hN o0 o1.2.1 o1.2.2
  simp only [to_Database hN o0, eq_Database hN o0 o0, to_Delta hN o1, eq_Delta hN o1 o1, bs, hspec, himpl, bne_self_eq_false, cond_false, cond_true, decide_true, eqS_dec]
end Go.Proofs.Ytnanddmadghnnaa
