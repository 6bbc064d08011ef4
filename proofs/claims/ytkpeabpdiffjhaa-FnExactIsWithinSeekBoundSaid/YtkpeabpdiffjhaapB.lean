/- Plain laws: equality of rows, relations, deltas, factorizations; validity of relations. -/
import Derived.Test.YtkpeabpdiffjhaapA
namespace Go.Proofs.Ytkpeabpdiffjhaa
open Go.RowKit

abbrev okI (xs : List Int) : Prop := AllL (fun _ => True) 1048576 xs
abbrev okII (xs : List (List Int)) : Prop := AllL (AllL (fun _ => True) 1048576) 1048576 xs
abbrev okN (xs : List (List Int × List Int)) : Prop := AllL (fun x => (AllL (fun _ => True) 1048576) x.1 ∧ (AllL (fun _ => True) 1048576) x.2) 1048576 xs
/-- a loop that compares two lists, place by place -/
theorem eqLoop {α : Type} [DecidableEq α] {L : Nat → Int → Option (Sum Bool Int)} {xs ys : List α} (hl : xs.length = ys.length) (hx : xs.length ≤ 1048576) {N : Nat} (hN : 1073741824 ≤ N)
    (hs : ∀ k i (h : i < xs.length) (h' : i < ys.length), L (k + 1) (i : Int) = bif decide (xs[i] = ys[i]) then L k ((i + 1 : Nat) : Int) else some (.inl false)) (he : ∀ k, L (k + 1) (xs.length : Int) = some (.inr (xs.length : Int))) :
    ((L N 0).bind fun s => lpS s (fun q => some q) fun _ => some true) = some (decide (xs = ys)) := by
  have := loopA L xs.length (by omega) false (fun i => if h : i < xs.length then decide (xs[i] = ys[i]'(by omega)) else true) (xs.length : Int)
    (fun k i h => by rw [hs k i h (by omega)]; simp only [dif_pos h]) he N 0 (by omega) (by omega)
  rw [show ((0 : Int)) = ((0 : Nat) : Int) from rfl, this, bs, Nat.sub_zero, range_eq hl _ (fun i hi => by rw [dif_pos hi])]
  cases decide (xs = ys) <;> rfl
theorem ne_len {α : Type} [DecidableEq α] {xs ys : List α} (h : ¬ xs.length = ys.length) : some false = some (decide (xs = ys)) := by
  congr 1; rw [eq_comm, decide_eq_false_iff_not]; rintro rfl; exact h rfl
theorem lenNe {α : Type} {xs ys : List α} (h : ¬ xs.length = ys.length) : ((xs.length : Int) != (ys.length : Int)) = true := by simp; omega
theorem lenEq {α : Type} {xs ys : List α} (h : xs.length = ys.length) : ((xs.length : Int) != (ys.length : Int)) = false := by simp [h]
section
variable {N : Nat}
theorem cmpR_bne (xs ys : List Int) : (cmpR xs ys != 0) = !decide (xs = ys) := by
  rw [bneD]; congr 1; rw [decide_eq_decide]; exact cmpR_zero
theorem cmpR_beq (xs ys : List Int) : (cmpR xs ys == 0) = decide (xs = ys) := by
  rw [beqD, decide_eq_decide]; exact cmpR_zero
end
end Go.Proofs.Ytkpeabpdiffjhaa
