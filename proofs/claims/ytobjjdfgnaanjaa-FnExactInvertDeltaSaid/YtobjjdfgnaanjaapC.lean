/- Plain laws: validity of relations; semirings; aggregates of relations. -/
import Derived.Test.YtobjjdfgnaanjaapB
namespace Go.Proofs.Ytobjjdfgnaanjaa
open Go.RowKit

def rowOk (n : Int) (rows : List (List Int)) (i : Nat) : Bool :=
  decide (((rows.getD i []).length : Int) = n) && validVals (rows.getD i []) && (Nat.beq i 0 || decide (cmpR (rows.getD (i - 1) []) (rows.getD i []) < 0))
def validRows (n : Int) (rows : List (List Int)) : Bool := inR n 0 5 && decide ((rows.length : Int) ≤ 4000) && (List.range' 0 rows.length).all (rowOk n rows)
theorem getL_at {rows : List (List Int)} {i : Nat} (h : i < rows.length) : rows.getD i [] = rows[i] := by simp [h]
section
variable {N : Nat}
theorem not_le_lt (a : Int) : decide (0 ≤ a) = !decide (a < 0) := by by_cases h : a < 0 <;> simp [h]; omega
theorem rowsValid_eq (hN : 1073741824 ≤ N) {n : Int} {rows : List (List Int)} (hx : okII rows) : impl_rowsValid N n rows = some (validRows n rows) := by
  have hl := hx.1
  have := loopA (L := fun k i => impl_rowsValid_L1 N k n rows rows (rows.length : Int) i) rows.length (by omega) false (rowOk n rows) (rows.length : Int)
    (fun k i h => by
      have h1 := (hx.2 _ (List.getElem_mem h)).1
      show impl_rowsValid_L1 N (k + 1) n rows rows _ (i : Int) = _
      rw [impl_rowsValid_L1, dlt h, cond_true, ix_nat h, bs, bneD, AreValidValues_impl_eq hN h1, bs]
      unfold rowOk
      rw [getL_at h]
      cases decide ((rows[i].length : Int) = n)
      · rfl
      cases validVals rows[i]
      · rfl
      cases i with
      | zero => rw [ad1 (by omega)]; rfl
      | succ j =>
        rw [show decide (0 < ((j + 1 : Nat) : Int)) = true from decide_eq_true (by omega), sb_ok (by omega) (by omega), bs, show (((j + 1 : Nat) : Int) - 1) = (j : Int) by omega, ix_nat (by omega), bs, CompareRows_impl_eq hN (hx.2 _ (List.getElem_mem (by omega))).1 (by omega), bs, ad1 (by omega), bs, not_le_lt, Nat.add_sub_cancel, getL_at (by omega)]
        cases decide (cmpR rows[j] rows[j + 1] < 0) <;> rfl)
    (fun k => by
      show impl_rowsValid_L1 N (k + 1) n rows rows _ (rows.length : Int) = _
      rw [impl_rowsValid_L1, dge (by omega), cond_false]) N 0 (by omega) (by omega)
  unfold impl_rowsValid validRows
  rw [within_eq, bs, show ((0 : Int)) = ((0 : Nat) : Int) from rfl, this, bs, Nat.sub_zero]
  by_cases h4 : (rows.length : Int) ≤ 4000
  · rw [decide_eq_true h4, decide_eq_false (by omega : ¬ (4000 : Int) < rows.length)]
    simp only [show ((0 : Nat) : Int) = 0 from rfl]
    cases inR n 0 5 <;> cases (List.range' 0 rows.length).all (rowOk n rows) <;> rfl
  · rw [decide_eq_false h4, decide_eq_true (by omega : (4000 : Int) < rows.length)]
    simp only [show ((0 : Nat) : Int) = 0 from rfl]
    cases inR n 0 5 <;> rfl
theorem IsValidRelation_impl_eq (hN : 1073741824 ≤ N) {n : Int} {rows : List (List Int)} (hx : okII rows) : impl_IsValidRelation N n rows = some (validRows n rows) := by
  unfold impl_IsValidRelation; rw [rowsValid_eq hN hx, bs]
theorem IsValidRelation_spec_eq (hN : 1073741824 ≤ N) {n : Int} {rows : List (List Int)} (hx : okII rows) : spec_IsValidRelation N n rows = some (validRows n rows) := by
  have hl := hx.1
  have := loopA (L := fun k i => spec_IsValidRelation_L1 N k n rows i) rows.length (by omega) false (rowOk n rows) (rows.length : Int)
    (fun k i h => by
      have h1 := (hx.2 _ (List.getElem_mem h)).1
      show spec_IsValidRelation_L1 N (k + 1) n rows (i : Int) = _
      rw [spec_IsValidRelation_L1, dlt h, cond_true, ix_nat h, bs, bneD, bs, AreValidValues_spec_eq hN h1, bs]
      unfold rowOk
      rw [getL_at h]
      cases decide ((rows[i].length : Int) = n)
      · rfl
      cases validVals rows[i]
      · rfl
      cases i with
      | zero => rw [ad1 (by omega)]; rfl
      | succ j =>
        rw [show decide (0 < ((j + 1 : Nat) : Int)) = true from decide_eq_true (by omega), sb_ok (by omega) (by omega), bs, show (((j + 1 : Nat) : Int) - 1) = (j : Int) by omega, ix_nat (by omega), bs, bs, CompareRows_spec_eq hN (hx.2 _ (List.getElem_mem (by omega))).1 (by omega), bs, ad1 (by omega), bs, not_le_lt, Nat.add_sub_cancel, getL_at (by omega)]
        cases decide (cmpR rows[j] rows[j + 1] < 0) <;> rfl)
    (fun k => by
      show spec_IsValidRelation_L1 N (k + 1) n rows (rows.length : Int) = _
      rw [spec_IsValidRelation_L1, dge (by omega), cond_false]) N 0 (by omega) (by omega)
  unfold spec_IsValidRelation validRows
  rw [l1In_eq, bs, show ((0 : Int)) = ((0 : Nat) : Int) from rfl, this, bs, Nat.sub_zero]
  by_cases h4 : (rows.length : Int) ≤ 4000
  · rw [decide_eq_true h4, decide_eq_false (by omega : ¬ (4000 : Int) < rows.length)]
    simp only [show ((0 : Nat) : Int) = 0 from rfl]
    cases inR n 0 5 <;> cases (List.range' 0 rows.length).all (rowOk n rows) <;> rfl
  · rw [decide_eq_false h4, decide_eq_true (by omega : (4000 : Int) < rows.length)]
    simp only [show ((0 : Nat) : Int) = 0 from rfl]
    cases inR n 0 5 <;> rfl
theorem validRows_spec {n : Int} {rows : List (List Int)} (h : validRows n rows = true) : 0 ≤ n ∧ n ≤ 5 ∧ rows.length ≤ 4000 ∧ ∀ i (hi : i < rows.length), (rows[i].length : Int) = n ∧ validVals rows[i] = true ∧ (∀ j (hj : j + 1 = i), cmpR (rows[j]'(by omega)) rows[i] < 0) := by
  unfold validRows at h
  simp only [Bool.and_eq_true, inR_iff, decide_eq_true_eq, List.all_eq_true] at h
  refine ⟨h.1.1.1, h.1.1.2, by omega, fun i hi => ?_⟩
  have := h.2 i (by simp; omega)
  unfold rowOk at this
  rw [getL_at hi] at this
  simp only [Bool.and_eq_true, decide_eq_true_eq, Bool.or_eq_true] at this
  refine ⟨this.1.1, this.1.2, ?_⟩
  rintro j rfl
  rcases this.2 with h2 | h2
  · exact absurd (Nat.eq_of_beq_eq_true h2) (by omega)
  · rw [Nat.add_sub_cancel, getL_at (by omega)] at h2; exact h2

/-! ### semirings -/
def clp (n : Int) : Int := imx 0 (imn n 1000000000)
theorem clp_bd (n : Int) : 0 ≤ clp n ∧ clp n ≤ 1000000000 := by unfold clp imx imn; (repeat' split) <;> omega
theorem clip_impl_eq (n : Int) : impl_clip N n = some (clp n) := rfl
theorem clip_spec_eq (n : Int) : spec_l25Clip N n = some (clp n) := by unfold spec_l25Clip clp imx imn; congr 1; (repeat' split) <;> omega
def sZero (k : Int) : Int := if k = 2 then 1000000000 else 0
def sOne (k : Int) : Int := if k = 1 ∨ k = 3 ∨ k = 4 then 1 else 0
def sAdd (k a b : Int) : Int :=
  if k = 1 then clp (clp a + clp b) else if k = 2 then imn (clp a) (clp b) else if k = 3 then (if 0 < clp a ∨ 0 < clp b then 1 else 0) else if k = 4 then imx (clp a) (clp b) else 0
def sMul (k a b : Int) : Int :=
  if k = 1 ∨ k = 4 then clp (clp a * clp b) else if k = 2 then clp (clp a + clp b) else if k = 3 then (if 0 < clp a ∧ 0 < clp b then 1 else 0) else 0
theorem SemiringZero_impl_eq (k : Int) : impl_SemiringZero N k = some (sZero k) := by
  unfold impl_SemiringZero sZero; rw [beqD]; by_cases h : k = 2 <;> simp [h]
theorem SemiringZero_spec_eq (k : Int) : spec_SemiringZero N k = some (sZero k) := by
  unfold spec_SemiringZero sZero; rw [beqD]; by_cases h : k = 2 <;> simp [h]
theorem IsValidSemiring_impl_eq (k : Int) : impl_IsValidSemiring N k = some (inR k 1 4) := by unfold impl_IsValidSemiring; rw [within_eq, bs]
theorem IsValidSemiring_spec_eq (k : Int) : spec_IsValidSemiring N k = some (inR k 1 4) := by unfold spec_IsValidSemiring; rw [l1In_eq, bs]
theorem SemiringOne_impl_eq (k : Int) : impl_SemiringOne N k = some (sOne k) := by
  unfold impl_SemiringOne sOne; simp only [beqD]
  by_cases h1 : k = 1
  · simp [h1]
  by_cases h3 : k = 3
  · simp [h3]
  by_cases h4 : k = 4
  · simp [h4]
  simp [h1, h3, h4]
theorem SemiringOne_spec_eq (k : Int) : spec_SemiringOne N k = some (sOne k) := by
  unfold spec_SemiringOne sOne; simp only [beqD, IsValidSemiring_spec_eq, bs]
  by_cases h2 : k = 2
  · simp [h2]
  rw [decide_eq_false h2, cond_false]
  by_cases h : k = 1 ∨ k = 3 ∨ k = 4
  · rw [if_pos h, show inR k 1 4 = true from inR_iff.2 (by omega)]; rfl
  · rw [if_neg h, show inR k 1 4 = false from by rw [← Bool.not_eq_true, inR_iff]; omega]; rfl
theorem mul_bd {a b : Int} (ha : 0 ≤ a ∧ a ≤ 1000000000) (hb : 0 ≤ b ∧ b ≤ 1000000000) : 0 ≤ a * b ∧ a * b ≤ 1000000000000000000 :=
  ⟨Int.mul_nonneg ha.1 hb.1, Int.le_trans (Int.mul_le_mul ha.2 hb.2 hb.1 (by omega)) (by omega)⟩
theorem SemiringMul_impl_eq (k a b : Int) : impl_SemiringMul N k a b = some (sMul k a b) := by
  unfold impl_SemiringMul sMul
  have ha := clp_bd a; have hb := clp_bd b; have hm := mul_bd ha hb
  simp only [clip_impl_eq, bs, beqD, ml_ok (by omega : -4611686018427387904 ≤ clp a * clp b) (by omega), ad_ok (by omega : -4611686018427387904 ≤ clp a + clp b) (by omega)]
  by_cases h1 : k = 1
  · simp [h1]
  by_cases h4 : k = 4
  · simp [h4]
  by_cases h2 : k = 2
  · simp [h2]
  by_cases h3 : k = 3
  · subst h3
    unfold impl_bit
    by_cases p : 0 < clp a <;> by_cases q : 0 < clp b <;> simp [p, q]
  simp [h1, h2, h3, h4]
theorem SemiringMul_spec_eq (k a b : Int) : spec_SemiringMul N k a b = some (sMul k a b) := by
  unfold spec_SemiringMul sMul
  have ha := clp_bd a; have hb := clp_bd b; have hm := mul_bd ha hb
  simp only [clip_spec_eq, bs, beqD, ml_ok (by omega : -4611686018427387904 ≤ clp a * clp b) (by omega), ad_ok (by omega : -4611686018427387904 ≤ clp a + clp b) (by omega)]
  by_cases h1 : k = 1
  · simp [h1]
  by_cases h4 : k = 4
  · simp [h4]
  by_cases h2 : k = 2
  · simp [h2]
  by_cases h3 : k = 3
  · subst h3
    have e : ∀ x : Int, 0 ≤ x → imn 1 x = if 0 < x then 1 else 0 := fun x hx => by unfold imn; (repeat' split) <;> omega
    rw [e _ ha.1, e _ hb.1]
    by_cases p : 0 < clp a <;> by_cases q : 0 < clp b <;> simp [p, q, ml, rng]
  simp [h1, h2, h3, h4]
theorem SemiringAdd_impl_eq (k a b : Int) : impl_SemiringAdd N k a b = some (sAdd k a b) := by
  unfold impl_SemiringAdd sAdd
  have ha := clp_bd a; have hb := clp_bd b
  simp only [clip_impl_eq, bs, beqD, ad_ok (by omega : -4611686018427387904 ≤ clp a + clp b) (by omega)]
  by_cases h1 : k = 1
  · simp [h1]
  by_cases h4 : k = 4
  · simp [h4]
  by_cases h2 : k = 2
  · simp [h2]
  by_cases h3 : k = 3
  · subst h3
    unfold impl_bit
    by_cases p : 0 < clp a <;> by_cases q : 0 < clp b <;> simp [p, q]
  simp [h1, h2, h3, h4]
theorem SemiringAdd_spec_eq (k a b : Int) : spec_SemiringAdd N k a b = some (sAdd k a b) := by
  unfold spec_SemiringAdd sAdd
  have ha := clp_bd a; have hb := clp_bd b
  simp only [clip_spec_eq, bs, beqD, ad_ok (by omega : -4611686018427387904 ≤ clp a + clp b) (by omega)]
  by_cases h1 : k = 1
  · simp [h1]
  by_cases h4 : k = 4
  · simp [h4]
  by_cases h2 : k = 2
  · simp [h2]
  by_cases h3 : k = 3
  · subst h3
    have e : imn 1 (clp a + clp b) = if 0 < clp a ∨ 0 < clp b then 1 else 0 := by unfold imn; (repeat' split) <;> omega
    simp [e]
  simp [h1, h2, h3, h4]
def vW (k v x : Int) : Int :=
  if inR k 1 4 && (inR v 0 4 && inR x 0 99) then (if k = 1 then 1 + (x + v).tmod 2 else if k = 3 then imn 1 ((x + v).tmod 4) else 1 + (3 * x + v).tmod 5) else 0
theorem rm_ok {a b : Int} (h : b ≠ 0) : rm a b = some (a.tmod b) := by unfold rm; rw [if_pos h]
theorem tmod_bd {a b : Int} (ha : 0 ≤ a) (hb : 0 < b) : 0 ≤ a.tmod b ∧ a.tmod b < b := ⟨Int.tmod_nonneg _ ha, Int.tmod_lt_of_pos _ hb⟩
theorem ValueWeight_impl_eq (k v x : Int) : impl_ValueWeight N k v x = some (vW k v x) := by
  unfold impl_ValueWeight vW
  simp only [IsValidSemiring_impl_eq, within_eq, bs, beqD]
  cases hk : inR k 1 4
  · rfl
  cases hv : inR v 0 4
  · rfl
  cases hx : inR x 0 99
  · rfl
  have h1 := inR_iff.1 hv; have h2 := inR_iff.1 hx
  have b2 := tmod_bd (by omega : 0 ≤ x + v) (by omega : (0 : Int) < 2)
  have b5 := tmod_bd (by omega : 0 ≤ 3 * x + v) (by omega : (0 : Int) < 5)
  simp only [cond_true, Bool.and_self, if_true, ml_ok (by omega : -4611686018427387904 ≤ 3 * x) (by omega), ad_ok (by omega : -4611686018427387904 ≤ x + v) (by omega), ad_ok (by omega : -4611686018427387904 ≤ 3 * x + v) (by omega), bs, rm_ok (by decide : (2 : Int) ≠ 0), rm_ok (by decide : (4 : Int) ≠ 0), rm_ok (by decide : (5 : Int) ≠ 0), ad_ok (by omega : -4611686018427387904 ≤ 1 + (x + v).tmod 2) (by omega), ad_ok (by omega : -4611686018427387904 ≤ 1 + (3 * x + v).tmod 5) (by omega)]
  by_cases e1 : k = 1
  · simp [e1]
  by_cases e3 : k = 3
  · simp [e3]
  simp [e1, e3]
theorem ValueWeight_spec_eq (k v x : Int) : spec_ValueWeight N k v x = some (vW k v x) := by
  unfold spec_ValueWeight vW
  simp only [IsValidSemiring_spec_eq, l1In_eq, bs, beqD]
  cases hk : inR k 1 4
  · rfl
  cases hv : inR v 0 4
  · rfl
  cases hx : inR x 0 99
  · rfl
  have h1 := inR_iff.1 hv; have h2 := inR_iff.1 hx
  have b2 := tmod_bd (by omega : 0 ≤ x + v) (by omega : (0 : Int) < 2)
  have b5 := tmod_bd (by omega : 0 ≤ 3 * x + v) (by omega : (0 : Int) < 5)
  simp only [cond_true, Bool.and_self, if_true, ml_ok (by omega : -4611686018427387904 ≤ x * 3) (by omega), Int.mul_comm x 3, ad_ok (by omega : -4611686018427387904 ≤ x + v) (by omega), ad_ok (by omega : -4611686018427387904 ≤ 3 * x + v) (by omega), bs, rm_ok (by decide : (2 : Int) ≠ 0), rm_ok (by decide : (4 : Int) ≠ 0), rm_ok (by decide : (5 : Int) ≠ 0), ad_ok (by omega : -4611686018427387904 ≤ 1 + (x + v).tmod 2) (by omega), ad_ok (by omega : -4611686018427387904 ≤ 1 + (3 * x + v).tmod 5) (by omega)]
  by_cases e1 : k = 1
  · simp [e1]
  by_cases e3 : k = 3
  · simp [e3]
  simp [e1, e3]
/-- the weight of a row whose i-th value belongs to variable ord i -/
def rowW (k : Int) (row : List Int) : Int := (List.range' 0 row.length).foldl (fun s (i : Nat) => sMul k s (vW k (i : Int) (row.getD i 0))) (sOne k)
def aggRows (k : Int) (rows : List (List Int)) : Int := (List.range' 0 rows.length).foldl (fun s i => sAdd k s (rowW k (rows.getD i []))) (sZero k)
def aggRel (k n : Int) (rows : List (List Int)) : Int := if inR k 1 4 && validRows n rows then aggRows k rows else sZero k
theorem AggregateRelation_impl_eq (hN : 1073741824 ≤ N) {k n : Int} {rows : List (List Int)} (hx : okII rows) : impl_AggregateRelation N k n rows = some (aggRel k n rows) := by
  have hl := hx.1
  unfold impl_AggregateRelation aggRel
  rw [SemiringZero_impl_eq, bs, IsValidSemiring_impl_eq, bs]
  cases hk : inR k 1 4
  · rfl
  rw [IsValidRelation_impl_eq hN hx, bs]
  cases hv : validRows n rows
  · rfl
  simp only [cond_true, Bool.and_self, if_true]
  have := loopF (L := fun f s i => impl_AggregateRelation_L1 N f k s rows (rows.length : Int) i) rows.length (by omega) (fun i s => sAdd k s (rowW k (rows.getD i []))) (fun s => (s, (rows.length : Int))) (fun _ _ => True)
    (fun f i s h _ => by
      refine ⟨?_, trivial⟩
      have h1 := (hx.2 _ (List.getElem_mem h)).1
      have hr := loopF (L := fun f t j => impl_AggregateRelation_L2 N f k s t rows (rows.length : Int) (i : Int) rows[i] (rows[i].length : Int) j) rows[i].length (by omega) (fun j t => sMul k t (vW k (j : Int) (rows[i].getD j 0))) (fun t => (t, (rows[i].length : Int))) (fun _ _ => True)
        (fun f j t hj _ => by
          refine ⟨?_, trivial⟩
          show impl_AggregateRelation_L2 N (f + 1) k s t rows _ _ rows[i] _ (j : Int) = _
          rw [impl_AggregateRelation_L2, dlt hj, cond_true, ix_nat hj, bs, ValueWeight_impl_eq, bs, SemiringMul_impl_eq, bs, ad1 (by omega), bs, getD_at hj])
        (fun f t _ => by
          show impl_AggregateRelation_L2 N (f + 1) k s t rows _ _ rows[i] _ (rows[i].length : Int) = _
          rw [impl_AggregateRelation_L2, dge (by omega), cond_false]) N 0 (sOne k) (by omega) (by omega) trivial
      show impl_AggregateRelation_L1 N (f + 1) k s rows _ (i : Int) = _
      rw [impl_AggregateRelation_L1, dlt h, cond_true, ix_nat h, bs, SemiringOne_impl_eq, bs, show ((0 : Int)) = ((0 : Nat) : Int) from rfl, hr, bs, Nat.sub_zero, getL_at h]
      show (impl_SemiringAdd N k s _).bind _ = _
      rw [SemiringAdd_impl_eq, bs, ad1 (by omega), bs]
      rfl)
    (fun f s _ => by
      show impl_AggregateRelation_L1 N (f + 1) k s rows _ (rows.length : Int) = _
      rw [impl_AggregateRelation_L1, dge (by omega), cond_false]) N 0 (sZero k) (by omega) (by omega) trivial
  rw [show ((0 : Int)) = ((0 : Nat) : Int) from rfl, this, bs, Nat.sub_zero]
  rfl
theorem range_getD {n i : Nat} (h : i < n) : ((List.range' 0 n).map fun i : Nat => (i : Int)).getD i 0 = (i : Int) := by
  simp [h]
theorem orderLoop {L : Nat → List Int → Option (List Int)} {n : Nat} (hn : n ≤ 1048576)
    (hs : ∀ k (xs : List Int), xs.length < n → L (k + 1) xs = L k (xs ++ [(xs.length : Int)])) (he : ∀ k (xs : List Int), xs.length = n → L (k + 1) xs = some xs) :
    ∀ k i, i ≤ n → n - i < k → L k ((List.range' 0 i).map fun i : Nat => (i : Int)) = some ((List.range' 0 n).map fun i : Nat => (i : Int)) := by
  intro k
  induction k with
  | zero => intro i h1 h2; omega
  | succ k ih =>
    intro i h1 h2
    by_cases h : i < n
    · rw [hs k _ (by simpa using h)]
      have e : ((List.range' 0 i).map fun i : Nat => (i : Int)) ++ [(((List.range' 0 i).map fun i : Nat => (i : Int)).length : Int)] = (List.range' 0 (i + 1)).map fun i : Nat => (i : Int) := by
        rw [List.range'_concat]; simp
      rw [e]; exact ih (i + 1) (by omega) (by omega)
    · obtain rfl : i = n := by omega
      exact he k _ (by simp)
theorem l25Row_eq (hN : 1073741824 ≤ N) {k : Int} {row : List Int} {n : Nat} (hr : row.length ≤ n) (hn : n ≤ 1048576) : spec_l25Row N k ((List.range' 0 n).map fun i : Nat => (i : Int)) row = some (rowW k row) := by
  have hr' := loopF (L := fun f t j => spec_l25Row_L1 N f k ((List.range' 0 n).map fun i : Nat => (i : Int)) row t j) row.length (by omega) (fun j t => sMul k t (vW k (j : Int) (row.getD j 0))) (fun t => (t, (row.length : Int))) (fun _ _ => True)
    (fun f j t hj _ => by
      refine ⟨?_, trivial⟩
      have h2 : j < ((List.range' 0 n).map fun i : Nat => (i : Int)).length := by simp; omega
      show spec_l25Row_L1 N (f + 1) k _ row t (j : Int) = _
      rw [spec_l25Row_L1, dlt hj, cond_true, ix_nat h2, bs, ix_nat hj, bs, ValueWeight_spec_eq, bs, SemiringMul_spec_eq, bs, ad1 (by omega), bs, getD_at hj]
      have e : ((List.range' 0 n).map fun i : Nat => (i : Int))[j] = (j : Int) := by simp
      rw [e])
    (fun f t _ => by
      show spec_l25Row_L1 N (f + 1) k _ row t (row.length : Int) = _
      rw [spec_l25Row_L1, dge (by omega), cond_false]) N 0 (sOne k) (by omega) (by omega) trivial
  unfold spec_l25Row
  rw [SemiringOne_spec_eq, bs, show ((0 : Int)) = ((0 : Nat) : Int) from rfl, hr', bs, Nat.sub_zero]
  rfl
theorem AggregateRelation_spec_eq (hN : 1073741824 ≤ N) {k n : Int} {rows : List (List Int)} (hx : okII rows) : spec_AggregateRelation N k n rows = some (aggRel k n rows) := by
  have hl := hx.1
  unfold spec_AggregateRelation aggRel
  rw [SemiringZero_spec_eq, bs, IsValidSemiring_spec_eq, bs]
  cases hk : inR k 1 4
  · rfl
  rw [IsValidRelation_spec_eq hN hx, bs]
  cases hv : validRows n rows
  · rfl
  simp only [cond_true, Bool.and_self, if_true]
  obtain ⟨h0, h5, _, hrow⟩ := validRows_spec hv
  obtain ⟨m, rfl⟩ := Int.eq_ofNat_of_zero_le h0
  have ho := orderLoop (L := fun f xs => spec_AggregateRelation_L1 N f k (m : Int) rows (sZero k) xs) (n := m) (by omega)
    (fun f xs h => by
      show spec_AggregateRelation_L1 N (f + 1) k (m : Int) rows _ xs = _
      rw [spec_AggregateRelation_L1, dlt h, cond_true, apd_ok' (by decide) (by simp; omega), bs])
    (fun f xs h => by
      show spec_AggregateRelation_L1 N (f + 1) k (m : Int) rows _ xs = _
      rw [spec_AggregateRelation_L1, dge (by omega), cond_false]) N 0 (by omega) (by omega)
  have ho' : spec_AggregateRelation_L1 N N k (m : Int) rows (sZero k) [] = some ((List.range' 0 m).map fun i : Nat => (i : Int)) := ho
  rw [ho', bs, lpB]
  have := loopF (L := fun f s i => spec_AggregateRelation_L2 N f k (m : Int) rows s ((List.range' 0 m).map fun i : Nat => (i : Int)) i) rows.length (by omega) (fun i s => sAdd k s (rowW k (rows.getD i []))) (fun s => (s, (rows.length : Int))) (fun _ _ => True)
    (fun f i s h _ => by
      refine ⟨?_, trivial⟩
      show spec_AggregateRelation_L2 N (f + 1) k (m : Int) rows s _ (i : Int) = _
      rw [spec_AggregateRelation_L2, dlt h, cond_true, ix_nat h, bs, l25Row_eq hN (by have := (hrow i h).1; omega) (by omega), bs, SemiringAdd_spec_eq, bs, ad1 (by omega), bs, getL_at h])
    (fun f s _ => by
      show spec_AggregateRelation_L2 N (f + 1) k (m : Int) rows s _ (rows.length : Int) = _
      rw [spec_AggregateRelation_L2, dge (by omega), cond_false]) N 0 (sZero k) (by omega) (by omega) trivial
  rw [show ((0 : Int)) = ((0 : Nat) : Int) from rfl, this, bs, Nat.sub_zero]
  rfl
end
end Go.Proofs.Ytobjjdfgnaanjaa
