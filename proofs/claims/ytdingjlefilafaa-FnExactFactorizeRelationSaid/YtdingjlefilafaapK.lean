/- Plain laws: copies of relations; inverses of deltas. -/
import Derived.Test.YtdingjlefilafaapJ
namespace Go.Proofs.Ytdingjlefilafaa
open Go.RowKit

section
variable {N : Nat}
theorem apd_nil {b : Nat} {α : Type} {xs : List α} (hb : b ≤ 64) (h : xs.length ≤ 1048576) : apd b [] xs = some xs := by
  rw [apd_ok' hb (by simp; omega)]; rfl
theorem apd_take {b : Nat} {α : Type} {xs : List α} {i : Nat} (hb : b ≤ 64) (h : i < xs.length) (hl : xs.length ≤ 1048576) : apd b (xs.take i) [xs[i]] = some (xs.take (i + 1)) := by
  rw [apd_ok' hb (by simp; omega), List.take_succ_eq_append_getElem h]
theorem okII_at {rows : List (List Int)} (h : okII rows) {i : Nat} (hi : i < rows.length) : rows[i].length ≤ 1048576 := (h.2 _ (List.getElem_mem hi)).1
end
end Go.Proofs.Ytdingjlefilafaa
