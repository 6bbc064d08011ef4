/- Plain laws: the row at a place. -/
import Derived.Test.YtdingjlefilafaapJ
namespace Go.Proofs.Ytdingjlefilafaa
open Go.RowKit

def sumC (c : List Int) : List Int → Int
  | [] => 0
  | ch :: l => c.getD ch.toNat 0 + sumC c l
def skipC (c : List Int) : List Int → Int → Nat → Int × Nat
  | [], k, j => (k, j)
  | ch :: l, k, j => if c.getD ch.toNat 0 ≤ k then skipC c l (k - c.getD ch.toNat 0) (j + 1) else (k, j)
def rowGo (nodes : List FNode) (c : List Int) : Nat → Int → List Int → Nat → List Int
  | 0, _, row, _ => row
  | f + 1, k, row, i => if 0 < i then
      rowGo nodes c f (skipC c (nodes.getD i ([], [])).2 k 0).1 (row ++ [(nodes.getD i ([], [])).1.getD (skipC c (nodes.getD i ([], [])).2 k 0).2 0]) ((nodes.getD i ([], [])).2.getD (skipC c (nodes.getD i ([], [])).2 k 0).2 0).toNat
    else row
theorem cfold_le (c : List Int) (l : List Int) : ∀ s : Int, l.foldl (cStep c) s ≤ s + sumC c l := by
  induction l with
  | nil => intro s; simp [sumC]
  | cons x l ih =>
    intro s
    have := ih (cStep c s x)
    rw [List.foldl_cons, sumC]
    have h2 : cStep c s x ≤ s + c.getD x.toNat 0 := by unfold cStep; rw [imn_eq]; split <;> omega
    omega
theorem sumC_congr {c c' : List Int} : ∀ (l : List Int), (∀ j, j < l.length → c.getD (l.getD j 0).toNat 0 = c'.getD (l.getD j 0).toNat 0) → sumC c l = sumC c' l
  | [], _ => rfl
  | x :: l, h => by
    unfold sumC
    rw [sumC_congr l fun j hj => by have := h (j + 1) (by simpa using hj); simpa using this]
    have := h 0 (by simp)
    rw [show c.getD x.toNat 0 = c'.getD x.toNat 0 by simpa using this]
theorem skipC_ok (c : List Int) : ∀ (l : List Int) (k : Int) (j : Nat), 0 ≤ k → k < sumC c l →
    j ≤ (skipC c l k j).2 ∧ (skipC c l k j).2 < j + l.length ∧ 0 ≤ (skipC c l k j).1 ∧ (skipC c l k j).1 < c.getD (l.getD ((skipC c l k j).2 - j) 0).toNat 0
  | [], k, j, h0, h1 => by simp [sumC] at h1; omega
  | x :: l, k, j, h0, h1 => by
    unfold sumC at h1
    unfold skipC
    by_cases h : c.getD x.toNat 0 ≤ k
    · rw [if_pos h]
      obtain ⟨g1, g2, g3, g4⟩ := skipC_ok c l (k - c.getD x.toNat 0) (j + 1) (by omega) (by omega)
      refine ⟨by omega, by rw [List.length_cons]; omega, g3, ?_⟩
      rw [show (skipC c l (k - c.getD x.toNat 0) (j + 1)).2 - j = ((skipC c l (k - c.getD x.toNat 0) (j + 1)).2 - (j + 1)) + 1 by omega, List.getD_cons_succ]
      exact g4
    · rw [if_neg h]
      simp only [Nat.le_refl, Nat.sub_self, List.length_cons, List.getD_cons_zero, true_and]
      omega
/-- below a node of a valid factorization there are no more rows than below its children -/
theorem cnt_sum {olen : Nat} {nodes : List FNode} {far : List Int} (V : VF olen nodes far) {i : Nat} (h1 : 1 ≤ i) (h2 : i < nodes.length) :
    (cnts nodes nodes.length).getD i 0 ≤ sumC (cnts nodes nodes.length) (nodes.getD i ([], [])).2 := by
  rw [cnts_get nodes nodes.length i h1 h2]
  have := cfold_le (cnts nodes i) (nodes.getD i ([], [])).2 0
  have e : sumC (cnts nodes i) (nodes.getD i ([], [])).2 = sumC (cnts nodes nodes.length) (nodes.getD i ([], [])).2 :=
    sumC_congr _ fun j hj => by
      have := V.ch h2 hj
      exact (cnts_pre nodes nodes.length i _ h1 (by omega) (by omega)).symm
  omega
def rowAtV (order : List Int) (nodes : List FNode) (k : Int) : List Int × Bool :=
  bif inR k 0 (rowCount order nodes - 1) then (rowGo nodes (cnts nodes nodes.length) nodes.length k [] (nodes.length - 1), true) else ([], false)
theorem rowGo_len (nodes : List FNode) (c : List Int) : ∀ (f : Nat) (k : Int) (row : List Int) (i : Nat), (rowGo nodes c f k row i).length ≤ row.length + f
  | 0, _, row, _ => by simp [rowGo]
  | f + 1, k, row, i => by
    unfold rowGo
    split
    · have := rowGo_len nodes c f (skipC c (nodes.getD i ([], [])).2 k 0).1 (row ++ [(nodes.getD i ([], [])).1.getD (skipC c (nodes.getD i ([], [])).2 k 0).2 0]) ((nodes.getD i ([], [])).2.getD (skipC c (nodes.getD i ([], [])).2 k 0).2 0).toNat
      rw [List.length_append, List.length_singleton] at this; omega
    · omega
theorem rowAtV_len {order : List Int} {nodes : List FNode} (hn : okN nodes) (k : Int) : okI (rowAtV order nodes k).1 := by
  refine ⟨?_, fun _ _ => trivial⟩
  have hl := hn.1
  unfold rowAtV
  cases inR k 0 (rowCount order nodes - 1)
  · simp
  · have := rowGo_len nodes (cnts nodes nodes.length) nodes.length k [] (nodes.length - 1)
    simp only [cond_true, List.length_nil] at this ⊢; omega
theorem rowCount_bd {order : List Int} {nodes : List FNode} : 0 ≤ rowCount order nodes ∧ rowCount order nodes ≤ 1000000000 := by
  unfold rowCount
  cases hv : validF order nodes
  · simp
  · obtain ⟨far, V⟩ := vf_of hv
    exact cnt_bd (cnts_ok nodes nodes.length V.pos).2 _
theorem ad_ok9 {a b : Int} (h : 0 ≤ a + b) (h2 : a + b ≤ 9000000000000000000) : ad a b = some (a + b) := by unfold ad; rw [if_pos]; unfold rng; simp only [Bool.and_eq_true, decide_eq_true_eq]; omega
section
variable {N : Nat}
/-! the rows from one on -/
def rowsFromGo (order : List Int) (nodes : List FNode) : Nat → Int → Int → List (List Int) → List (List Int)
  | 0, _, _, out => out
  | f + 1, n, k, out => bif decide ((out.length : Int) < n) && (rowAtV order nodes k).2 then rowsFromGo order nodes f n (k + 1) (out ++ [(rowAtV order nodes k).1]) else out
def rowsFromV (order : List Int) (nodes : List FNode) (vs : List Int) (n : Int) : List (List Int) :=
  bif validF order nodes && decide ((vs.length : Int) = order.length) then rowsFromGo order nodes 1000000001 n (rankV order nodes vs).1 [] else []
theorem rowAtV_some {order : List Int} {nodes : List FNode} {k : Int} (h : (rowAtV order nodes k).2 = true) : 0 ≤ k ∧ k < 1000000000 := by
  unfold rowAtV at h
  cases hr : inR k 0 (rowCount order nodes - 1) with
  | false => rw [hr] at h; cases h
  | true => have := inR_iff.1 hr; have := @rowCount_bd order nodes; omega
theorem rankV_bd {order : List Int} {nodes : List FNode} {vs : List Int} (hn : okN nodes) : 0 ≤ (rankV order nodes vs).1 ∧ (rankV order nodes vs).1 ≤ 4500000000000000000 := by
  unfold rankV
  cases hv : validF order nodes with
  | false => simp
  | true =>
    obtain ⟨far, V⟩ := vf_of hv
    have hp := V.pos
    have hle := V.le
    rw [cond_true]
    split
    · split
      · simp
      · have := rk_bd V hn (cnts_ok nodes nodes.length hp).2 vs ((nodes.length - 1 : Nat) : Int) ⟨by omega, by omega⟩
        omega
    · simp
theorem rowsFromGo_ok {order : List Int} {nodes : List FNode} {n : Int} (hn : okN nodes) : ∀ (f : Nat) (k : Int) (out : List (List Int)), (∀ r ∈ out, okI r) → (rowsFromGo order nodes f n k out).length ≤ out.length + f ∧ ∀ r ∈ rowsFromGo order nodes f n k out, okI r := by
  intro f
  induction f with
  | zero => intro k out h; exact ⟨by simp [rowsFromGo], h⟩
  | succ f ih =>
    intro k out h
    rw [rowsFromGo]
    cases decide ((out.length : Int) < n) && (rowAtV order nodes k).2
    · exact ⟨by rw [cond_false]; omega, h⟩
    · rw [cond_true]
      obtain ⟨h1, h2⟩ := ih (k + 1) (out ++ [(rowAtV order nodes k).1]) (fun r hr => by
        rcases List.mem_append.1 hr with h3 | h3
        · exact h r h3
        · simp at h3; subst h3; exact rowAtV_len hn k)
      exact ⟨by simp at h1; omega, h2⟩
theorem rowsFromV_ok {order vs : List Int} {nodes : List FNode} {n : Int} (hn : okN nodes) : AllL (AllL (fun _ => True) 1048576) 1073741823 (rowsFromV order nodes vs n) := by
  unfold rowsFromV
  cases validF order nodes && decide ((vs.length : Int) = (order.length : Int))
  · exact ⟨by simp, by simp⟩
  · rw [cond_true]
    obtain ⟨h1, h2⟩ := @rowsFromGo_ok order nodes n hn 1000000001 (rankV order nodes vs).1 [] (by simp)
    exact ⟨by simp at h1; omega, h2⟩
end
end Go.Proofs.Ytdingjlefilafaa
