/- Plain laws: how many rows a factorization has. -/
import Derived.Test.YtkpeabpdiffjhaapF
namespace Go.Proofs.Ytkpeabpdiffjhaa
open Go.RowKit

/-- a loop by an index whose state the index tells -/
theorem loopI {σ V : Type} (L : Nat → σ → Int → Option V) (n : Nat) (A : Nat → σ) (v : V)
    (hstep : ∀ k i, i < n → L (k + 1) (A i) (i : Int) = L k (A (i + 1)) ((i + 1 : Nat) : Int)) (hend : ∀ k, L (k + 1) (A n) (n : Int) = some v) :
    ∀ k i, i ≤ n → n - i < k → L k (A i) (i : Int) = some v := by
  intro k
  induction k with
  | zero => intro i hi hk; omega
  | succ k ih =>
    intro i hi hk
    by_cases h : i < n
    · rw [hstep k i h]; exact ih (i + 1) (by omega) (by omega)
    · obtain rfl : i = n := by omega
      exact hend k
section
variable {N : Nat}
theorem ix_app {c z : List Int} {s : Int} {i : Nat} (h : c.length = i) : ix (c ++ s :: z) (i : Int) = some s := by
  rw [ix_nat (by simp; omega)]; subst h; simp
theorem sto_app {c z : List Int} {s y : Int} {i : Nat} (h : c.length = i) : sto (c ++ s :: z) (i : Int) y = some (c ++ y :: z) := by
  rw [sto_nat (by simp; omega)]; subst h; simp
theorem ix_appl {c z : List Int} {j : Int} (h0 : 0 ≤ j) (h : j < c.length) : ix (c ++ z) j = some (c.getD j.toNat 0) := by
  rw [ix_int h0 (by simp; omega), List.getElem_append_left (by omega), getD_at (by omega)]
def rowCount (order : List Int) (nodes : List FNode) : Int := bif validF order nodes then (cnts nodes nodes.length).getD (nodes.length - 1) 0 else 0
end
end Go.Proofs.Ytkpeabpdiffjhaa
