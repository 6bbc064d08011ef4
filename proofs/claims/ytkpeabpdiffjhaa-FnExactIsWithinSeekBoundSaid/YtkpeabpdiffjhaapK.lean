/- Plain laws: copies of relations; inverses of deltas. -/
import Derived.Test.YtkpeabpdiffjhaapJ
namespace Go.Proofs.Ytkpeabpdiffjhaa
open Go.RowKit

section
variable {N : Nat}
theorem apd_nil {b : Nat} {α : Type} {xs : List α} (hb : b ≤ 64) (h : xs.length ≤ 1048576) : apd b [] xs = some xs := by
  rw [apd_ok' hb (by simp; omega)]; rfl
theorem apd_take {b : Nat} {α : Type} {xs : List α} {i : Nat} (hb : b ≤ 64) (h : i < xs.length) (hl : xs.length ≤ 1048576) : apd b (xs.take i) [xs[i]] = some (xs.take (i + 1)) := by
  rw [apd_ok' hb (by simp; omega), List.take_succ_eq_append_getElem h]
theorem okII_at {rows : List (List Int)} (h : okII rows) {i : Nat} (hi : i < rows.length) : rows[i].length ≤ 1048576 := (h.2 _ (List.getElem_mem hi)).1
theorem l5Copy_eq (hN : 1073741824 ≤ N) {a : Int} {rows : List (List Int)} (h : okII rows) : spec_l5Copy N a rows = some (a, rows) := by
  have hl := h.1
  unfold spec_l5Copy
  have hL := loopI (fun k (s : List (List Int)) i => spec_l5Copy_L1 N k a rows 0 [] a s i) rows.length (fun i => rows.take i) (rows, (rows.length : Int))
    (fun k i hi => by
      show spec_l5Copy_L1 N (k + 1) a rows 0 [] a (rows.take i) (i : Int) = _
      rw [spec_l5Copy_L1, dlt hi, cond_true, ix_nat hi, bs, apd_nil (by decide) (okII_at h hi), bs, apd_take (by decide) hi hl, bs, ad1 (by omega), bs])
    (fun k => by
      show spec_l5Copy_L1 N (k + 1) a rows 0 [] a (rows.take rows.length) (rows.length : Int) = _
      rw [spec_l5Copy_L1, dge (by omega), cond_false, List.take_length]) N 0 (by omega) (by omega)
  have hL' : spec_l5Copy_L1 N N a rows 0 [] a [] 0 = _ := hL
  rw [hL', bs, lpB]
theorem copyRows_eq (hN : 1073741824 ≤ N) {rows : List (List Int)} (h : okII rows) : impl_copyRows N rows = some rows := by
  have hl := h.1
  unfold impl_copyRows
  have hL := loopI (fun k (s : List (List Int)) i => impl_copyRows_L1 N k s rows (rows.length : Int) i) rows.length (fun i => rows.take i) (rows, (rows.length : Int))
    (fun k i hi => by
      show impl_copyRows_L1 N (k + 1) (rows.take i) rows (rows.length : Int) (i : Int) = _
      rw [impl_copyRows_L1, dlt hi, cond_true, ix_nat hi, bs, impl_copyInts, apd_nil (by decide) (okII_at h hi), bs, bs, apd_take (by decide) hi hl, bs, ad1 (by omega), bs])
    (fun k => by
      show impl_copyRows_L1 N (k + 1) (rows.take rows.length) rows (rows.length : Int) (rows.length : Int) = _
      rw [impl_copyRows_L1, dge (by omega), cond_false, List.take_length]) N 0 (by omega) (by omega)
  have hL' : impl_copyRows_L1 N N [] rows (rows.length : Int) 0 = _ := hL
  rw [hL', bs, lpB]
theorem copyRelation_eq (hN : 1073741824 ≤ N) {a : Int} {rows : List (List Int)} (h : okII rows) : impl_copyRelation N a rows = some (a, rows) := by
  unfold impl_copyRelation
  rw [copyRows_eq hN h, bs]
end
end Go.Proofs.Ytkpeabpdiffjhaa
