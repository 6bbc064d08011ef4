/- The contracts of the semiring functions: what each returns, for all integer arguments. No condition. -/
import Derived.Test.YtkppnaoihaecdaaRows
import Derived.WalkKit
import Derived.ProofKit
import Derived.WalkLawsBesides
import Derived.Outline
import Derived.Lib.Hide
namespace Go.Proofs.Ytkppnaoihaecdaa
open Go.RowKit

def inR (n lo hi : Int) : Bool := decide (lo ≤ n) && decide (n ≤ hi)
def clipI (n : Int) : Int := max 0 (min n 1000000000)
theorem ret_int {k : IntKind} {a b : Int} (h : a = b) : Ending.returned (.int k a) = .returned (.int k b) := by rw [h]
theorem ret_bool {a b : Bool} (h : a = b) : Ending.returned (.bool a) = .returned (.bool b) := by rw [h]

theorem within_any (n lo hi : Int) (w : World) : Calls Try.prog 28 #[.int .i64 n, .int .i64 lo, .int .i64 hi] w fun e w' => e = .returned (.bool (inR n lo hi)) ∧ w = w' := by
  unfold inR
  by_cases h1 : lo ≤ n <;> by_cases h2 : n ≤ hi
  all_goals
    go_enter Try.func28, Try.ntmps28
    go_wp2
    go_ret
    exact ⟨ret_bool (by simp [h1, h2]), rfl⟩
theorem l1In_any (n lo hi : Int) (w : World) : Calls Try.prog 27 #[.int .i64 n, .int .i64 lo, .int .i64 hi] w fun e w' => e = .returned (.bool (inR n lo hi)) ∧ w = w' := by
  unfold inR
  by_cases h1 : lo ≤ n <;> by_cases h2 : n ≤ hi
  all_goals
    go_enter Try.func27, Try.ntmps27
    go_wp2
    go_ret
    exact ⟨ret_bool (by simp [h1, h2]), rfl⟩
theorem clip_any (n : Int) (w : World) : Calls Try.prog 30 #[.int .i64 n] w fun e w' => e = .returned (.int .i64 (clipI n)) ∧ w = w' := by
  unfold clipI
  go_enter Try.func30, Try.ntmps30
  go_wp2
  all_goals
    go_ret
    exact ⟨ret_int (by omega), rfl⟩
theorem l25Clip_any (n : Int) (w : World) : Calls Try.prog 29 #[.int .i64 n] w fun e w' => e = .returned (.int .i64 (clipI n)) ∧ w = w' := by
  unfold clipI
  go_enter Try.func29, Try.ntmps29
  go_wp2
  all_goals
    go_ret
    exact ⟨ret_int (by omega), rfl⟩
theorem bit_any (b : Bool) (w : World) : Calls Try.prog 31 #[.bool b] w fun e w' => e = .returned (.int .i64 (if b then 1 else 0)) ∧ w = w' := by
  cases b
  all_goals
    go_enter Try.func31, Try.ntmps31
    go_wp2
    go_ret
    exact ⟨ret_int (by simp), rfl⟩
theorem clipI_bd (n : Int) : 0 ≤ clipI n ∧ clipI n ≤ 1000000000 := by unfold clipI; omega

def validS (k : Int) : Bool := inR k 1 4
theorem IsValidSemiring_impl (k : Int) (w : World) : Calls Try.prog 11 #[.int .i64 k] w fun e w' => e = .returned (.bool (validS k)) ∧ w = w' := by
  go_enter Try.func11, Try.ntmps11
  go_wp2_with (go_at_call 28; refine (within_any _ _ _ _).mono ?_; rintro e w' ⟨rfl, rfl⟩)
  go_ret
  exact ⟨rfl, rfl⟩
theorem IsValidSemiring_spec (k : Int) (w : World) : Calls Try.prog 10 #[.int .i64 k] w fun e w' => e = .returned (.bool (validS k)) ∧ w = w' := by
  go_enter Try.func10, Try.ntmps10
  go_wp2_with (go_at_call 27; refine (l1In_any _ _ _ _).mono ?_; rintro e w' ⟨rfl, rfl⟩)
  go_ret
  exact ⟨rfl, rfl⟩

def zeroS (k : Int) : Int := if k = 2 then 1000000000 else 0
def oneS (k : Int) : Int := if k = 1 ∨ k = 3 ∨ k = 4 then 1 else 0
theorem SemiringZero_impl (k : Int) (w : World) : Calls Try.prog 13 #[.int .i64 k] w fun e w' => e = .returned (.int .i64 (zeroS k)) ∧ w = w' := by
  by_cases h : k = 2
  all_goals
    have hb : (k == 2) = decide (k = 2) := by rw [Bool.eq_iff_iff]; simp
    simp only [h, decide_true, decide_false] at hb
    go_enter Try.func13, Try.ntmps13
    go_wp2
    go_ret
    exact ⟨ret_int (by simp [zeroS, h]), rfl⟩
theorem SemiringZero_spec (k : Int) (w : World) : Calls Try.prog 12 #[.int .i64 k] w fun e w' => e = .returned (.int .i64 (zeroS k)) ∧ w = w' := by
  by_cases h : k = 2
  all_goals
    have hb : (k == 2) = decide (k = 2) := by rw [Bool.eq_iff_iff]; simp
    simp only [h, decide_true, decide_false] at hb
    go_enter Try.func12, Try.ntmps12
    go_wp2
    go_ret
    exact ⟨ret_int (by simp [zeroS, h]), rfl⟩
theorem SemiringOne_impl (k : Int) (w : World) : Calls Try.prog 15 #[.int .i64 k] w fun e w' => e = .returned (.int .i64 (oneS k)) ∧ w = w' := by
  by_cases h1 : (k == 1) = true <;> by_cases h3 : (k == 3) = true <;> by_cases h4 : (k == 4) = true
  all_goals
    (try simp only [Bool.not_eq_true] at h1 h3 h4)
    go_enter Try.func15, Try.ntmps15
    go_wp2
    all_goals
      go_ret
      exact ⟨ret_int (by simp only [beq_iff_eq, beq_eq_false_iff_ne] at *; unfold oneS; split <;> omega), rfl⟩
theorem SemiringOne_spec (k : Int) (w : World) : Calls Try.prog 14 #[.int .i64 k] w fun e w' => e = .returned (.int .i64 (oneS k)) ∧ w = w' := by
  by_cases h1 : k = 2
  · have hb : (k == 2) = true := by simp [h1]
    go_enter Try.func14, Try.ntmps14
    go_wp2
    go_ret
    exact ⟨ret_int (by simp [oneS, h1]), rfl⟩
  · have hb : (k == 2) = false := by simp [h1]
    have hv : validS k = true ∨ validS k = false := by cases validS k <;> simp
    rcases hv with hv | hv
    all_goals
      go_enter Try.func14, Try.ntmps14
      go_wp2_with (go_at_call 10; refine (IsValidSemiring_spec _ _).mono ?_; rintro e w' ⟨rfl, rfl⟩)
      go_ret
      simp only [validS, inR, Bool.and_eq_true, Bool.and_eq_false_iff, decide_eq_true_eq, decide_eq_false_iff_not] at hv
      exact ⟨ret_int (by unfold oneS; split <;> omega), rfl⟩

def addI (k a b : Int) : Int :=
  if k = 1 then clipI (clipI a + clipI b) else if k = 2 then min (clipI a) (clipI b) else if k = 3 then min 1 (clipI a + clipI b) else if k = 4 then max (clipI a) (clipI b) else 0
def mulI (k a b : Int) : Int :=
  if k = 1 ∨ k = 4 then clipI (clipI a * clipI b) else if k = 2 then clipI (clipI a + clipI b) else if k = 3 then (if 0 < clipI a ∧ 0 < clipI b then 1 else 0) else 0

theorem clipI_pos (a : Int) : clipI a = 0 ∨ 1 ≤ clipI a := by have := clipI_bd a; omega
theorem SemiringAdd_impl (k a b : Int) (w : World) : Calls Try.prog 21 #[.int .i64 k, .int .i64 a, .int .i64 b] w fun e w' => e = .returned (.int .i64 (addI k a b)) ∧ w = w' := by
  have ha := clipI_bd a
  have hb := clipI_bd b
  by_cases pa : 0 < clipI a <;> by_cases pb : 0 < clipI b
  all_goals
    go_enter Try.func21, Try.ntmps21
    go_wp2_with (first | (go_at_call 30; refine (clip_any _ _).mono ?_; rintro e w' ⟨rfl, rfl⟩) | (go_at_call 31; refine (bit_any _ _).mono ?_; rintro e w' ⟨rfl, rfl⟩))
    all_goals
      go_ret
      exact ⟨ret_int (by simp only [beq_iff_eq, beq_eq_false_iff_ne] at *; unfold addI; (repeat' split) <;> first | omega | rfl | (simp at *; omega)), rfl⟩
theorem SemiringAdd_spec (k a b : Int) (w : World) : Calls Try.prog 20 #[.int .i64 k, .int .i64 a, .int .i64 b] w fun e w' => e = .returned (.int .i64 (addI k a b)) ∧ w = w' := by
  have ha := clipI_bd a
  have hb := clipI_bd b
  go_enter Try.func20, Try.ntmps20
  go_wp2_with (first | (go_at_call 29; refine (l25Clip_any _ _).mono ?_; rintro e w' ⟨rfl, rfl⟩))
  all_goals
    go_ret
    exact ⟨ret_int (by simp only [beq_iff_eq, beq_eq_false_iff_ne] at *; unfold addI; (repeat' split) <;> first | omega | rfl | (simp at *; omega)), rfl⟩
theorem mul_bd (a b : Int) (ha : 0 ≤ a ∧ a ≤ 1000000000) (hb : 0 ≤ b ∧ b ≤ 1000000000) : 0 ≤ a * b ∧ a * b ≤ 1000000000000000000 := by
  refine ⟨Int.mul_nonneg ha.1 hb.1, ?_⟩
  have h := Int.mul_le_mul ha.2 hb.2 hb.1 (by omega : (0 : Int) ≤ 1000000000)
  omega
theorem m01 (x y : Int) (hx : 0 ≤ x ∧ x ≤ 1) (hy : 0 ≤ y ∧ y ≤ 1) : x * y = if 0 < x ∧ 0 < y then 1 else 0 := by
  rcases (show x = 0 ∨ x = 1 by omega) with rfl | rfl <;> rcases (show y = 0 ∨ y = 1 by omega) with rfl | rfl <;> simp
theorem SemiringMul_impl (k a b : Int) (w : World) : Calls Try.prog 19 #[.int .i64 k, .int .i64 a, .int .i64 b] w fun e w' => e = .returned (.int .i64 (mulI k a b)) ∧ w = w' := by
  have ha := clipI_bd a
  have hb := clipI_bd b
  obtain ⟨hm1, hm2⟩ := mul_bd _ _ ha hb
  by_cases pa : 0 < clipI a <;> by_cases pb : 0 < clipI b
  all_goals
    go_enter Try.func19, Try.ntmps19
    go_wp2_with (first | (go_at_call 30; refine (clip_any _ _).mono ?_; rintro e w' ⟨rfl, rfl⟩) | (go_at_call 31; refine (bit_any _ _).mono ?_; rintro e w' ⟨rfl, rfl⟩))
    all_goals
      go_ret
      exact ⟨ret_int (by simp only [beq_iff_eq, beq_eq_false_iff_ne] at *; unfold mulI; (repeat' split) <;> first | omega | rfl | (simp at *; omega)), rfl⟩
theorem SemiringMul_spec (k a b : Int) (w : World) : Calls Try.prog 18 #[.int .i64 k, .int .i64 a, .int .i64 b] w fun e w' => e = .returned (.int .i64 (mulI k a b)) ∧ w = w' := by
  have ha := clipI_bd a
  have hb := clipI_bd b
  obtain ⟨hm1, hm2⟩ := mul_bd _ _ ha hb
  go_enter Try.func18, Try.ntmps18
  go_wp2_with (first | (go_at_call 29; refine (l25Clip_any _ _).mono ?_; rintro e w' ⟨rfl, rfl⟩))
  all_goals
    go_ret
    exact ⟨ret_int (by simp only [beq_iff_eq, beq_eq_false_iff_ne] at *; unfold mulI; (repeat' split) <;> first | omega | rfl | (simp only [wrap64]; omega) | (rw [m01 _ _ (by omega) (by omega)]; (repeat' split) <;> (simp only [wrap64]; omega))), rfl⟩

def weightI (k v x : Int) : Int :=
  if validS k && inR v 0 4 && inR x 0 99 then (if k = 1 then 1 + (x + v) % 2 else if k = 3 then min 1 ((x + v) % 4) else 1 + (x * 3 + v) % 5) else 0
theorem ValueWeight_impl (k v x : Int) (w : World) : Calls Try.prog 17 #[.int .i64 k, .int .i64 v, .int .i64 x] w fun e w' => e = .returned (.int .i64 (weightI k v x)) ∧ w = w' := by
  cases hv : validS k <;> cases h1 : inR v 0 4 <;> cases h2 : inR x 0 99
  all_goals
    have Hv := Lib.hid hv; have H1 := Lib.hid h1; have H2 := Lib.hid h2
    have B1 : inR v 0 4 = true → 0 ≤ v ∧ v ≤ 4 := fun h => by simpa [inR] using h
    have B2 : inR x 0 99 = true → 0 ≤ x ∧ x ≤ 99 := fun h => by simpa [inR] using h
    simp only [h1, h2, forall_const, Bool.false_eq_true, false_implies] at B1 B2
    clear hv h1 h2
    go_enter Try.func17, Try.ntmps17
    go_wp2_with (first | (go_at_call 11; refine (IsValidSemiring_impl _ _).mono ?_; rintro e w' ⟨rfl, rfl⟩; rw [Hv.out]) | (go_at_call 28; refine (within_any _ _ _ _).mono ?_; rintro e w' ⟨rfl, rfl⟩; first | rw [H1.out] | rw [H2.out]))
    all_goals
      go_ret
      exact ⟨ret_int (by (try simp only [beq_iff_eq, beq_eq_false_iff_ne] at *); simp only [weightI, Hv.out, H1.out, H2.out, Bool.and_true, Bool.and_false, Bool.true_and, Bool.false_and, if_true, Bool.false_eq_true, if_false] <;> (repeat' split) <;> first | omega | rfl), rfl⟩
theorem ValueWeight_spec (k v x : Int) (w : World) : Calls Try.prog 16 #[.int .i64 k, .int .i64 v, .int .i64 x] w fun e w' => e = .returned (.int .i64 (weightI k v x)) ∧ w = w' := by
  cases hv : validS k <;> cases h1 : inR v 0 4 <;> cases h2 : inR x 0 99
  all_goals
    have Hv := Lib.hid hv; have H1 := Lib.hid h1; have H2 := Lib.hid h2
    have B1 : inR v 0 4 = true → 0 ≤ v ∧ v ≤ 4 := fun h => by simpa [inR] using h
    have B2 : inR x 0 99 = true → 0 ≤ x ∧ x ≤ 99 := fun h => by simpa [inR] using h
    simp only [h1, h2, forall_const, Bool.false_eq_true, false_implies] at B1 B2
    clear hv h1 h2
    go_enter Try.func16, Try.ntmps16
    go_wp2_with (first | (go_at_call 10; refine (IsValidSemiring_spec _ _).mono ?_; rintro e w' ⟨rfl, rfl⟩; rw [Hv.out]) | (go_at_call 27; refine (l1In_any _ _ _ _).mono ?_; rintro e w' ⟨rfl, rfl⟩; first | rw [H1.out] | rw [H2.out]))
    all_goals
      go_ret
      exact ⟨ret_int (by (try simp only [beq_iff_eq, beq_eq_false_iff_ne] at *); simp only [weightI, Hv.out, H1.out, H2.out, Bool.and_true, Bool.and_false, Bool.true_and, Bool.false_and, if_true, Bool.false_eq_true, if_false] <;> (repeat' split) <;> first | omega | rfl), rfl⟩
end Go.Proofs.Ytkppnaoihaecdaa
