/- Whether a number lies in a range. -/
import Derived.Test.YtobjjdfgnaanjaaBase
namespace Go.Proofs.Ytobjjdfgnaanjaa
open Go.RowKit

def inR (n lo hi : Int) : Bool := decide (lo ≤ n) && decide (n ≤ hi)
theorem within_any (n lo hi : Int) (w : World) : Calls Try.prog 64 #[.int .i64 n, .int .i64 lo, .int .i64 hi] w fun e w' => e = .returned (.bool (inR n lo hi)) ∧ w = w' := by
  unfold inR
  by_cases h1 : lo ≤ n <;> by_cases h2 : n ≤ hi
  all_goals
    go_enter Try.func64, Try.ntmps64
    go_wp2
    go_ret
    exact ⟨ret_bool (by simp [h1, h2]), rfl⟩
theorem l1In_any (n lo hi : Int) (w : World) : Calls Try.prog 62 #[.int .i64 n, .int .i64 lo, .int .i64 hi] w fun e w' => e = .returned (.bool (inR n lo hi)) ∧ w = w' := by
  unfold inR
  by_cases h1 : lo ≤ n <;> by_cases h2 : n ≤ hi
  all_goals
    go_enter Try.func62, Try.ntmps62
    go_wp2
    go_ret
    exact ⟨ret_bool (by simp [h1, h2]), rfl⟩
end Go.Proofs.Ytobjjdfgnaanjaa
