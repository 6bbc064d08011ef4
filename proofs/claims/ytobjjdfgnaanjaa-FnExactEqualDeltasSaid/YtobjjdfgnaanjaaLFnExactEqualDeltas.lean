/- The Go law FnExactEqualDeltas comes to true. -/
import Derived.Test.YtobjjdfgnaanjaapB
namespace Go.Proofs.Ytobjjdfgnaanjaa
open Go.RowKit
theorem law_FnExactEqualDeltas {N : Nat} (hN : 1073741824 ≤ N) {x0 : ByteArray × (Int × List (List Int)) × (Int × List (List Int))} (hb0 : (fun x => (fun s => s.size ≤ 9223372036854775807) x.1 ∧ (fun x => (AllL (AllL (fun _ => True) 9223372036854775807) 9223372036854775807) x.2) x.2.1 ∧ (fun x => (AllL (AllL (fun _ => True) 9223372036854775807) 9223372036854775807) x.2) x.2.2) x0) {x1 : ByteArray × (Int × List (List Int)) × (Int × List (List Int))} (hb1 : (fun x => (fun s => s.size ≤ 9223372036854775807) x.1 ∧ (fun x => (AllL (AllL (fun _ => True) 9223372036854775807) 9223372036854775807) x.2) x.2.1 ∧ (fun x => (AllL (AllL (fun _ => True) 9223372036854775807) 9223372036854775807) x.2) x.2.2) x1) : laws_FnExactEqualDeltas N x0.1 x0.2.1.1 x0.2.1.2 x0.2.2.1 x0.2.2.2 x1.1 x1.2.1.1 x1.2.1.2 x1.2.2.1 x1.2.2.2 = some true := by
  unfold laws_FnExactEqualDeltas
  obtain ⟨r0, e0, k0⟩ := sz_Delta hN hb0 (l := 1048576) (by omega) (by omega)
  rw [e0, bs]
  by_cases hr0 : r0 < 0
  · rw [decide_eq_true hr0]; rfl
  rw [decide_eq_false hr0, cond_false]
  obtain ⟨o0, m0⟩ := k0 (by omega)
  obtain ⟨r1, e1, k1⟩ := sz_Delta hN hb1 (l := r0) (by omega) (by omega)
  rw [e1, bs]
  by_cases hr1 : r1 < 0
  · rw [decide_eq_true hr1]; rfl
  rw [decide_eq_false hr1, cond_false]
  obtain ⟨o1, m1⟩ := k1 (by omega)
  have hspec := EqualDeltas_spec_eq hN (s := x0.1) (t := x1.1) (a := x0.2.1.1) (b := x0.2.2.1) (c := x1.2.1.1) (d := x1.2.2.1) o0.2.1 o0.2.2 o1.2.1 o1.2.2
  have himpl := EqualDeltas_impl_eq hN (s := x0.1) (t := x1.1) (a := x0.2.1.1) (b := x0.2.2.1) (c := x1.2.1.1) (d := x1.2.2.1) (z := x1.2.1.2) (u := x1.2.2.2) o0.2.1 o0.2.2
  simp only [to_Delta hN o0, eq_Delta hN o0 o0, to_Delta hN o1, eq_Delta hN o1 o1, bs, hspec, himpl, bne_self_eq_false, cond_false, cond_true, decide_true, eqS_dec]
end Go.Proofs.Ytobjjdfgnaanjaa
