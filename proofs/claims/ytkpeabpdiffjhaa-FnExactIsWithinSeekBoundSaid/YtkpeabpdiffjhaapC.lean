/- Plain laws: validity of relations; semirings; aggregates of relations. -/
import Derived.Test.YtkpeabpdiffjhaapB
namespace Go.Proofs.Ytkpeabpdiffjhaa
open Go.RowKit

def rowOk (n : Int) (rows : List (List Int)) (i : Nat) : Bool :=
  decide (((rows.getD i []).length : Int) = n) && validVals (rows.getD i []) && (Nat.beq i 0 || decide (cmpR (rows.getD (i - 1) []) (rows.getD i []) < 0))
def validRows (n : Int) (rows : List (List Int)) : Bool := inR n 0 5 && decide ((rows.length : Int) ≤ 4000) && (List.range' 0 rows.length).all (rowOk n rows)
theorem getL_at {rows : List (List Int)} {i : Nat} (h : i < rows.length) : rows.getD i [] = rows[i] := by simp [h]
section
variable {N : Nat}
theorem not_le_lt (a : Int) : decide (0 ≤ a) = !decide (a < 0) := by by_cases h : a < 0 <;> simp [h]; omega
theorem rowsValid_eq (hN : 1073741824 ≤ N) {n : Int} {rows : List (List Int)} (hx : okII rows) : impl_rowsValid N n rows = some (validRows n rows) := by
  have hl := hx.1
  have := loopA (L := fun k i => impl_rowsValid_L1 N k n rows rows (rows.length : Int) i) rows.length (by omega) false (rowOk n rows) (rows.length : Int)
    (fun k i h => by
      have h1 := (hx.2 _ (List.getElem_mem h)).1
      show impl_rowsValid_L1 N (k + 1) n rows rows _ (i : Int) = _
      rw [impl_rowsValid_L1, dlt h, cond_true, ix_nat h, bs, bneD, AreValidValues_impl_eq hN h1, bs]
      unfold rowOk
      rw [getL_at h]
      cases decide ((rows[i].length : Int) = n)
      · rfl
      cases validVals rows[i]
      · rfl
      cases i with
      | zero => rw [ad1 (by omega)]; rfl
      | succ j =>
        rw [show decide (0 < ((j + 1 : Nat) : Int)) = true from decide_eq_true (by omega), sb_ok (by omega) (by omega), bs, show (((j + 1 : Nat) : Int) - 1) = (j : Int) by omega, ix_nat (by omega), bs, CompareRows_impl_eq hN (hx.2 _ (List.getElem_mem (by omega))).1 (by omega), bs, ad1 (by omega), bs, not_le_lt, Nat.add_sub_cancel, getL_at (by omega)]
        cases decide (cmpR rows[j] rows[j + 1] < 0) <;> rfl)
    (fun k => by
      show impl_rowsValid_L1 N (k + 1) n rows rows _ (rows.length : Int) = _
      rw [impl_rowsValid_L1, dge (by omega), cond_false]) N 0 (by omega) (by omega)
  unfold impl_rowsValid validRows
  rw [within_eq, bs, show ((0 : Int)) = ((0 : Nat) : Int) from rfl, this, bs, Nat.sub_zero]
  by_cases h4 : (rows.length : Int) ≤ 4000
  · rw [decide_eq_true h4, decide_eq_false (by omega : ¬ (4000 : Int) < rows.length)]
    simp only [show ((0 : Nat) : Int) = 0 from rfl]
    cases inR n 0 5 <;> cases (List.range' 0 rows.length).all (rowOk n rows) <;> rfl
  · rw [decide_eq_false h4, decide_eq_true (by omega : (4000 : Int) < rows.length)]
    simp only [show ((0 : Nat) : Int) = 0 from rfl]
    cases inR n 0 5 <;> rfl
theorem IsValidRelation_impl_eq (hN : 1073741824 ≤ N) {n : Int} {rows : List (List Int)} (hx : okII rows) : impl_IsValidRelation N n rows = some (validRows n rows) := by
  unfold impl_IsValidRelation; rw [rowsValid_eq hN hx, bs]
theorem IsValidRelation_spec_eq (hN : 1073741824 ≤ N) {n : Int} {rows : List (List Int)} (hx : okII rows) : spec_IsValidRelation N n rows = some (validRows n rows) := by
  have hl := hx.1
  have := loopA (L := fun k i => spec_IsValidRelation_L1 N k n rows i) rows.length (by omega) false (rowOk n rows) (rows.length : Int)
    (fun k i h => by
      have h1 := (hx.2 _ (List.getElem_mem h)).1
      show spec_IsValidRelation_L1 N (k + 1) n rows (i : Int) = _
      rw [spec_IsValidRelation_L1, dlt h, cond_true, ix_nat h, bs, bneD, bs, AreValidValues_spec_eq hN h1, bs]
      unfold rowOk
      rw [getL_at h]
      cases decide ((rows[i].length : Int) = n)
      · rfl
      cases validVals rows[i]
      · rfl
      cases i with
      | zero => rw [ad1 (by omega)]; rfl
      | succ j =>
        rw [show decide (0 < ((j + 1 : Nat) : Int)) = true from decide_eq_true (by omega), sb_ok (by omega) (by omega), bs, show (((j + 1 : Nat) : Int) - 1) = (j : Int) by omega, ix_nat (by omega), bs, bs, CompareRows_spec_eq hN (hx.2 _ (List.getElem_mem (by omega))).1 (by omega), bs, ad1 (by omega), bs, not_le_lt, Nat.add_sub_cancel, getL_at (by omega)]
        cases decide (cmpR rows[j] rows[j + 1] < 0) <;> rfl)
    (fun k => by
      show spec_IsValidRelation_L1 N (k + 1) n rows (rows.length : Int) = _
      rw [spec_IsValidRelation_L1, dge (by omega), cond_false]) N 0 (by omega) (by omega)
  unfold spec_IsValidRelation validRows
  rw [l1In_eq, bs, show ((0 : Int)) = ((0 : Nat) : Int) from rfl, this, bs, Nat.sub_zero]
  by_cases h4 : (rows.length : Int) ≤ 4000
  · rw [decide_eq_true h4, decide_eq_false (by omega : ¬ (4000 : Int) < rows.length)]
    simp only [show ((0 : Nat) : Int) = 0 from rfl]
    cases inR n 0 5 <;> cases (List.range' 0 rows.length).all (rowOk n rows) <;> rfl
  · rw [decide_eq_false h4, decide_eq_true (by omega : (4000 : Int) < rows.length)]
    simp only [show ((0 : Nat) : Int) = 0 from rfl]
    cases inR n 0 5 <;> rfl
theorem validRows_spec {n : Int} {rows : List (List Int)} (h : validRows n rows = true) : 0 ≤ n ∧ n ≤ 5 ∧ rows.length ≤ 4000 ∧ ∀ i (hi : i < rows.length), (rows[i].length : Int) = n ∧ validVals rows[i] = true ∧ (∀ j (hj : j + 1 = i), cmpR (rows[j]'(by omega)) rows[i] < 0) := by
  unfold validRows at h
  simp only [Bool.and_eq_true, inR_iff, decide_eq_true_eq, List.all_eq_true] at h
  refine ⟨h.1.1.1, h.1.1.2, by omega, fun i hi => ?_⟩
  have := h.2 i (by simp; omega)
  unfold rowOk at this
  rw [getL_at hi] at this
  simp only [Bool.and_eq_true, decide_eq_true_eq, Bool.or_eq_true] at this
  refine ⟨this.1.1, this.1.2, ?_⟩
  rintro j rfl
  rcases this.2 with h2 | h2
  · exact absurd (Nat.eq_of_beq_eq_true h2) (by omega)
  · rw [Nat.add_sub_cancel, getL_at (by omega)] at h2; exact h2

/-! ### semirings -/
def clp (n : Int) : Int := imx 0 (imn n 1000000000)
theorem clp_bd (n : Int) : 0 ≤ clp n ∧ clp n ≤ 1000000000 := by unfold clp imx imn; (repeat' split) <;> omega
def sZero (k : Int) : Int := if k = 2 then 1000000000 else 0
def sOne (k : Int) : Int := if k = 1 ∨ k = 3 ∨ k = 4 then 1 else 0
def sAdd (k a b : Int) : Int :=
  if k = 1 then clp (clp a + clp b) else if k = 2 then imn (clp a) (clp b) else if k = 3 then (if 0 < clp a ∨ 0 < clp b then 1 else 0) else if k = 4 then imx (clp a) (clp b) else 0
def sMul (k a b : Int) : Int :=
  if k = 1 ∨ k = 4 then clp (clp a * clp b) else if k = 2 then clp (clp a + clp b) else if k = 3 then (if 0 < clp a ∧ 0 < clp b then 1 else 0) else 0
theorem mul_bd {a b : Int} (ha : 0 ≤ a ∧ a ≤ 1000000000) (hb : 0 ≤ b ∧ b ≤ 1000000000) : 0 ≤ a * b ∧ a * b ≤ 1000000000000000000 :=
  ⟨Int.mul_nonneg ha.1 hb.1, Int.le_trans (Int.mul_le_mul ha.2 hb.2 hb.1 (by omega)) (by omega)⟩
def vW (k v x : Int) : Int :=
  if inR k 1 4 && (inR v 0 4 && inR x 0 99) then (if k = 1 then 1 + (x + v).tmod 2 else if k = 3 then imn 1 ((x + v).tmod 4) else 1 + (3 * x + v).tmod 5) else 0
theorem rm_ok {a b : Int} (h : b ≠ 0) : rm a b = some (a.tmod b) := by unfold rm; rw [if_pos h]
theorem tmod_bd {a b : Int} (ha : 0 ≤ a) (hb : 0 < b) : 0 ≤ a.tmod b ∧ a.tmod b < b := ⟨Int.tmod_nonneg _ ha, Int.tmod_lt_of_pos _ hb⟩
/-- the weight of a row whose i-th value belongs to variable ord i -/
def rowW (k : Int) (row : List Int) : Int := (List.range' 0 row.length).foldl (fun s (i : Nat) => sMul k s (vW k (i : Int) (row.getD i 0))) (sOne k)
def aggRows (k : Int) (rows : List (List Int)) : Int := (List.range' 0 rows.length).foldl (fun s i => sAdd k s (rowW k (rows.getD i []))) (sZero k)
def aggRel (k n : Int) (rows : List (List Int)) : Int := if inR k 1 4 && validRows n rows then aggRows k rows else sZero k
theorem range_getD {n i : Nat} (h : i < n) : ((List.range' 0 n).map fun i : Nat => (i : Int)).getD i 0 = (i : Int) := by
  simp [h]
theorem orderLoop {L : Nat → List Int → Option (List Int)} {n : Nat} (hn : n ≤ 1048576)
    (hs : ∀ k (xs : List Int), xs.length < n → L (k + 1) xs = L k (xs ++ [(xs.length : Int)])) (he : ∀ k (xs : List Int), xs.length = n → L (k + 1) xs = some xs) :
    ∀ k i, i ≤ n → n - i < k → L k ((List.range' 0 i).map fun i : Nat => (i : Int)) = some ((List.range' 0 n).map fun i : Nat => (i : Int)) := by
  intro k
  induction k with
  | zero => intro i h1 h2; omega
  | succ k ih =>
    intro i h1 h2
    by_cases h : i < n
    · rw [hs k _ (by simpa using h)]
      have e : ((List.range' 0 i).map fun i : Nat => (i : Int)) ++ [(((List.range' 0 i).map fun i : Nat => (i : Int)).length : Int)] = (List.range' 0 (i + 1)).map fun i : Nat => (i : Int) := by
        rw [List.range'_concat]; simp
      rw [e]; exact ih (i + 1) (by omega) (by omega)
    · obtain rfl : i = n := by omega
      exact he k _ (by simp)
end
end Go.Proofs.Ytkpeabpdiffjhaa
