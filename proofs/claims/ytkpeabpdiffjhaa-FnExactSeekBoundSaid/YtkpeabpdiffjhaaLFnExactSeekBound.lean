/- The Go law FnExactSeekBound comes to true. -/
import Derived.Test.YtkpeabpdiffjhaapO
namespace Go.Proofs.Ytkpeabpdiffjhaa
open Go.RowKit
theorem law_FnExactSeekBound {N : Nat} (hN : 1073741824 ≤ N) {x0 : Int × List (ByteArray × List Int) × List Int} (hb0 : (fun x => (AllL (fun x => (fun s => s.size ≤ 9223372036854775807) x.1 ∧ (AllL (fun _ => True) 9223372036854775807) x.2) 9223372036854775807) x.2.1 ∧ (AllL (fun _ => True) 9223372036854775807) x.2.2) x0) {x1 : Int} : laws_FnExactSeekBound N x0.1 x0.2.1 x0.2.2 x1 = some true := by
  unfold laws_FnExactSeekBound
  obtain ⟨r0, e0, k0⟩ := sz_Query hN hb0 (l := 1048576) (by omega) (by omega)
  rw [e0, bs]
  by_cases hr0 : r0 < 0
  · rw [decide_eq_true hr0]; rfl
  rw [decide_eq_false hr0, cond_false]
  obtain ⟨o0, m0⟩ := k0 (by omega)
  have hspec := SeekBound_spec_eq (n := x0.1) (rows := x1) hN o0.1 o0.2
  have himpl := SeekBound_impl_eq (n := x0.1) (rows := x1) hN o0.1 o0.2
  simp only [to_Query hN o0, eq_Query hN o0 o0, bs, hspec, himpl, bne_self_eq_false, cond_false, cond_true, decide_true, eqS_dec]
end Go.Proofs.Ytkpeabpdiffjhaa
