/- The Go law FnExactInvertDelta comes to true. -/
import Derived.Test.YtobjjdfgnaanjaapK
namespace Go.Proofs.Ytobjjdfgnaanjaa
open Go.RowKit
theorem law_FnExactInvertDelta {N : Nat} (hN : 1073741824 ≤ N) {x0 : ByteArray × (Int × List (List Int)) × (Int × List (List Int))} (hb0 : (fun x => (fun s => s.size ≤ 9223372036854775807) x.1 ∧ (fun x => (AllL (AllL (fun _ => True) 9223372036854775807) 9223372036854775807) x.2) x.2.1 ∧ (fun x => (AllL (AllL (fun _ => True) 9223372036854775807) 9223372036854775807) x.2) x.2.2) x0) : laws_FnExactInvertDelta N x0.1 x0.2.1.1 x0.2.1.2 x0.2.2.1 x0.2.2.2 = some true := by
  unfold laws_FnExactInvertDelta
  obtain ⟨r0, e0, k0⟩ := sz_Delta hN hb0 (l := 1048576) (by omega) (by omega)
  rw [e0, bs]
  by_cases hr0 : r0 < 0
  · rw [decide_eq_true hr0]; rfl
  rw [decide_eq_false hr0, cond_false]
  obtain ⟨o0, m0⟩ := k0 (by omega)
  have hspec := InvertDelta_spec_eq (s := x0.1) (a := x0.2.1.1) (b := x0.2.2.1) hN o0.2.1 o0.2.2
  have himpl := InvertDelta_impl_eq (s := x0.1) (a := x0.2.1.1) (b := x0.2.2.1) hN o0.2.1 o0.2.2
  obtain ⟨m0, me0, ma0, mb0, _⟩ := mk_Delta hN o0 (k := 1) (by omega) (by omega)
  have hok0 := (⟨o0.1, o0.2.2, o0.2.1⟩ : _ ∧ _ ∧ _)
  obtain ⟨q0, qe0, qa0, qb0, qd0⟩ := mk_Delta (x := (((x0.1, (x0.2.2.1, x0.2.2.2), (x0.2.1.1, x0.2.1.2)) : ByteArray × (Int × List (List Int)) × (Int × List (List Int))))) hN hok0 (k := 1) (by omega) (by omega)
  simp only [to_Delta hN o0, eq_Delta hN o0 o0, eq_Delta (x := (((x0.1, (x0.2.2.1, x0.2.2.2), (x0.2.1.1, x0.2.1.2)) : ByteArray × (Int × List (List Int)) × (Int × List (List Int))))) (y := (((x0.1, (x0.2.2.1, x0.2.2.2), (x0.2.1.1, x0.2.1.2)) : ByteArray × (Int × List (List Int)) × (Int × List (List Int))))) hN hok0 hok0, me0, qe0, qd0, decide_eq_false (by omega : ¬ m0.1 < 0), decide_eq_false (by omega : ¬ q0.1 < 0), bs, hspec, himpl, bne_self_eq_false, cond_false, cond_true, decide_true, eqS_dec]
end Go.Proofs.Ytobjjdfgnaanjaa
