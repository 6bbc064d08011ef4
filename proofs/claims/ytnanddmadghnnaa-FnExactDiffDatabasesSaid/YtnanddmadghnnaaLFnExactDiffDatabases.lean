/- The Go law FnExactDiffDatabases comes to true. -/
import Derived.Test.YtnanddmadghnnaapN
namespace Go.Proofs.Ytnanddmadghnnaa
open Go.RowKit
theorem law_FnExactDiffDatabases {N : Nat} (hN : 1073741824 ≤ N) {x0 : List (ByteArray × (Int × List (List Int)))} (hb0 : (fun x => (AllL (fun x => (fun s => s.size ≤ 9223372036854775807) x.1 ∧ (fun x => (AllL (AllL (fun _ => True) 9223372036854775807) 9223372036854775807) x.2) x.2) 9223372036854775807) x) x0) {x1 : List (ByteArray × (Int × List (List Int)))} (hb1 : (fun x => (AllL (fun x => (fun s => s.size ≤ 9223372036854775807) x.1 ∧ (fun x => (AllL (AllL (fun _ => True) 9223372036854775807) 9223372036854775807) x.2) x.2) 9223372036854775807) x) x1) {x2 : ByteArray} (hb2 : x2.size ≤ 9223372036854775807) : laws_FnExactDiffDatabases N x0 x1 x2 = some true := by
  unfold laws_FnExactDiffDatabases
  by_cases hc2 : (1048576 : Int) < (x2.size : Int)
  · rw [decide_eq_true hc2]; rfl
  rw [decide_eq_false hc2, cond_false]
  have o2 : x2.size ≤ 1048576 := by omega
  obtain ⟨r0, e0, k0⟩ := sz_Database hN hb0 (l := 1048576) (by omega) (by omega)
  rw [e0, bs]
  by_cases hr0 : r0 < 0
  · rw [decide_eq_true hr0]; rfl
  rw [decide_eq_false hr0, cond_false]
  obtain ⟨o0, m0⟩ := k0 (by omega)
  obtain ⟨r1, e1, k1⟩ := sz_Database hN hb1 (l := r0) (by omega) (by omega)
  rw [e1, bs]
  by_cases hr1 : r1 < 0
  · rw [decide_eq_true hr1]; rfl
  rw [decide_eq_false hr1, cond_false]
  obtain ⟨o1, m1⟩ := k1 (by omega)
  have hspec := DiffDatabases_spec_eq (s := x2) hN o0 o1
  have himpl := DiffDatabases_impl_eq (s := x2) hN o0 o1
  obtain ⟨m0, me0, ma0, mb0⟩ := mk_Database hN o0 (k := 1) (by omega) (by omega)
  obtain ⟨m1, me1, ma1, mb1⟩ := mk_Database hN o1 (k := m0.1) (by omega) (by omega)
  have hok0 := (diffDb_ok o0 o1 o2)
  obtain ⟨q0, qe0, qa0, qb0, qd0⟩ := mk_Delta (x := ((diffDb x0 x1 x2)).1) hN hok0 (k := 1) (by omega) (by omega)
  simp only [to_Database hN o0, eq_Database hN o0 o0, to_Database hN o1, eq_Database hN o1 o1, eq_Delta (x := ((diffDb x0 x1 x2)).1) (y := ((diffDb x0 x1 x2)).1) hN hok0 hok0, me0, me1, qe0, qd0, decide_eq_false (by omega : ¬ m0.1 < 0), decide_eq_false (by omega : ¬ m1.1 < 0), decide_eq_false (by omega : ¬ q0.1 < 0), bs, hspec, himpl, bne_self_eq_false, cond_false, cond_true, decide_true, eqS_dec]
end Go.Proofs.Ytnanddmadghnnaa
