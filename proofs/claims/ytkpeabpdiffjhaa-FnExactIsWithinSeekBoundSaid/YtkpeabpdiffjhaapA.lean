/- Plain laws: numbers, lists of numbers, rows: what the program's and the reference's functions over them come to. -/
import Derived.Test.YtkpeabpdiffjhaaH
namespace Go.Proofs.Ytkpeabpdiffjhaa
open Go.RowKit

def inR (n lo hi : Int) : Bool := decide (lo ≤ n) && decide (n ≤ hi)
theorem within_eq (N : Nat) (n lo hi : Int) : impl_within N n lo hi = some (inR n lo hi) := by
  unfold impl_within inR; cases decide (lo ≤ n) <;> rfl
theorem l1In_eq (N : Nat) (n lo hi : Int) : spec_l1In N n lo hi = some (inR n lo hi) := by
  unfold spec_l1In inR; cases decide (lo ≤ n) <;> rfl
theorem inR_iff {n lo hi : Int} : inR n lo hi = true ↔ lo ≤ n ∧ n ≤ hi := by unfold inR; simp
def cmpI (a b : Int) : Int := if a < b then -1 else if b < a then 1 else 0
def cmpR : List Int → List Int → Int
  | [], [] => 0
  | [], _ :: _ => -1
  | _ :: _, [] => 1
  | a :: xs, b :: ys => if a < b then -1 else if b < a then 1 else cmpR xs ys
theorem cmpR_zero : ∀ {xs ys : List Int}, cmpR xs ys = 0 ↔ xs = ys
  | [], [] => by simp [cmpR]
  | [], _ :: _ => by simp [cmpR]
  | _ :: _, [] => by simp [cmpR]
  | a :: xs, b :: ys => by
    unfold cmpR
    by_cases h1 : a < b
    · rw [if_pos h1]; simp; omega
    · rw [if_neg h1]
      by_cases h2 : b < a
      · rw [if_pos h2]; simp; omega
      · rw [if_neg h2, cmpR_zero, List.cons.injEq]
        constructor
        · rintro rfl; exact ⟨by omega, rfl⟩
        · exact fun h => h.2
theorem cmpR_nil (xs : List Int) : cmpR xs [] = if xs.length = 0 then 0 else 1 := by cases xs <;> simp [cmpR]
theorem nil_cmpR (xs : List Int) : cmpR [] xs = if xs.length = 0 then 0 else -1 := by cases xs <;> simp [cmpR]
theorem compareInts_eq (N : Nat) (a b : Int) : impl_compareInts N a b = some (cmpI a b) := by
  unfold impl_compareInts cmpI
  by_cases h1 : a < b
  · rw [decide_eq_true h1, if_pos h1]; rfl
  · rw [decide_eq_false h1, if_neg h1]
    by_cases h2 : b < a
    · rw [decide_eq_true h2, if_pos h2]; rfl
    · rw [decide_eq_false h2, if_neg h2]; rfl
theorem drop_cons {α : Type} {xs : List α} {i : Nat} (h : i < xs.length) : xs.drop i = xs[i] :: xs.drop (i + 1) := List.drop_eq_getElem_cons h
section
variable {N : Nat} {xs ys : List Int}
theorem cmpImplL (hx : xs.length ≤ 1048576) (hy : ys.length ≤ 9223372036854775807) : ∀ k i, i ≤ xs.length → i ≤ ys.length → xs.length - i < k →
    ∃ s, impl_CompareRows_L1 N k xs ys (i : Int) = some s ∧ (match s with | .inl r => cmpR (xs.drop i) (ys.drop i) = r | .inr _ => cmpR (xs.drop i) (ys.drop i) = cmpI xs.length ys.length) := by
  intro k
  induction k with
  | zero => intro i h1 h2 h3; omega
  | succ k ih =>
    intro i h1 h2 h3
    rw [impl_CompareRows_L1]
    by_cases h : i < xs.length
    · by_cases h' : i < ys.length
      · rw [dlt h, cond_true, dlt h', cond_true, ix_nat h, bs, ix_nat h', bs, drop_cons h, drop_cons h', cmpR]
        by_cases he : xs[i] = ys[i]
        · rw [show (xs[i] != ys[i]) = false by simpa using he, cond_false, ad1 (by omega), bs, if_neg (by omega), if_neg (by omega)]
          exact ih (i + 1) (by omega) (by omega) (by omega)
        · rw [show (xs[i] != ys[i]) = true by simpa using he, cond_true, bs, bs, compareInts_eq, bs]
          refine ⟨_, rfl, ?_⟩
          show _ = cmpI xs[i] ys[i]
          unfold cmpI
          by_cases h1 : xs[i] < ys[i]
          · rw [if_pos h1, if_pos h1]
          · rw [if_neg h1, if_neg h1, if_pos (by omega), if_pos (by omega)]
      · rw [dlt h, cond_true, dge h', cond_false]
        refine ⟨_, rfl, ?_⟩
        show _ = cmpI _ _
        rw [List.drop_of_length_le (l := ys) (by omega), cmpR_nil, if_neg (by simp; omega)]
        unfold cmpI; rw [if_neg (by omega), if_pos (by omega)]
    · rw [dge h, cond_false]
      refine ⟨_, rfl, ?_⟩
      show _ = cmpI _ _
      rw [List.drop_of_length_le (l := xs) (by omega), nil_cmpR]
      unfold cmpI
      by_cases h' : i < ys.length
      · rw [if_neg (by simp; omega), if_pos (by omega)]
      · rw [if_pos (by simp; omega), if_neg (by omega), if_neg (by omega)]
theorem CompareRows_impl_eq (hN : 1073741824 ≤ N) (hx : xs.length ≤ 1048576) (hy : ys.length ≤ 9223372036854775807) : impl_CompareRows N xs ys = some (cmpR xs ys) := by
  obtain ⟨s, h1, h2⟩ := cmpImplL (N := N) hx hy N 0 (by omega) (by omega) (by omega)
  unfold impl_CompareRows
  rw [show ((0 : Int)) = ((0 : Nat) : Int) from rfl, h1, bs]
  simp only [List.drop_zero] at h2
  cases s with
  | inl r => rw [h2]; rfl
  | inr v => show (impl_compareInts N _ _).bind _ = _; rw [compareInts_eq, bs, h2]
theorem cmpSpecL (hx : xs.length ≤ 1048576) (hy : ys.length ≤ 9223372036854775807) : ∀ k i, i ≤ xs.length → i ≤ ys.length → xs.length - i < k →
    ∃ s, spec_CompareRows_L1 N k xs ys (i : Int) = some s ∧ (match s with | .inl r => cmpR (xs.drop i) (ys.drop i) = r | .inr _ => cmpR (xs.drop i) (ys.drop i) = cmpI xs.length ys.length) := by
  intro k
  induction k with
  | zero => intro i h1 h2 h3; omega
  | succ k ih =>
    intro i h1 h2 h3
    rw [spec_CompareRows_L1]
    by_cases h : i < xs.length
    · by_cases h' : i < ys.length
      · rw [dlt h, cond_true, dlt h', cond_true, ix_nat h, bs, ix_nat h', bs, drop_cons h, drop_cons h', cmpR]
        by_cases he : xs[i] < ys[i]
        · rw [decide_eq_true he, cond_true, if_pos he]; exact ⟨_, rfl, rfl⟩
        · rw [decide_eq_false he, cond_false, if_neg he, bs, bs]
          by_cases he2 : ys[i] < xs[i]
          · rw [decide_eq_true he2, cond_true, if_pos he2]; exact ⟨_, rfl, rfl⟩
          · rw [decide_eq_false he2, cond_false, if_neg he2, ad1 (by omega), bs]
            exact ih (i + 1) (by omega) (by omega) (by omega)
      · rw [dlt h, cond_true, dge h', cond_false]
        refine ⟨_, rfl, ?_⟩
        show _ = cmpI _ _
        rw [List.drop_of_length_le (l := ys) (by omega), cmpR_nil, if_neg (by simp; omega)]
        unfold cmpI; rw [if_neg (by omega), if_pos (by omega)]
    · rw [dge h, cond_false]
      refine ⟨_, rfl, ?_⟩
      show _ = cmpI _ _
      rw [List.drop_of_length_le (l := xs) (by omega), nil_cmpR]
      unfold cmpI
      by_cases h' : i < ys.length
      · rw [if_neg (by simp; omega), if_pos (by omega)]
      · rw [if_pos (by simp; omega), if_neg (by omega), if_neg (by omega)]
theorem CompareRows_spec_eq (hN : 1073741824 ≤ N) (hx : xs.length ≤ 1048576) (hy : ys.length ≤ 9223372036854775807) : spec_CompareRows N xs ys = some (cmpR xs ys) := by
  obtain ⟨s, h1, h2⟩ := cmpSpecL (N := N) hx hy N 0 (by omega) (by omega) (by omega)
  unfold spec_CompareRows
  rw [show ((0 : Int)) = ((0 : Nat) : Int) from rfl, h1, bs]
  simp only [List.drop_zero] at h2
  cases s with
  | inl r => rw [h2]; rfl
  | inr v =>
    rw [h2]
    show (bif decide ((xs.length : Int) < (ys.length : Int)) then _ else _) = _
    unfold cmpI
    by_cases h1 : (xs.length : Int) < ys.length
    · rw [decide_eq_true h1, if_pos h1]; rfl
    · rw [decide_eq_false h1, if_neg h1, cond_false]
      by_cases h2 : (ys.length : Int) < xs.length
      · rw [decide_eq_true h2, if_pos h2]; rfl
      · rw [decide_eq_false h2, if_neg h2]; rfl
/-- the place of a number in a list, -1 if it is not there -/
def fnd (v : Int) : List Int → Int → Int
  | [], _ => -1
  | x :: xs, i => if x = v then i else fnd v xs (i + 1)
def findI (xs : List Int) (v : Int) : Int := fnd v xs 0
theorem fnd_spec (v : Int) : ∀ (xs : List Int) (i : Nat), (v ∉ xs ∧ fnd v xs i = -1) ∨ ∃ j, ∃ h : j < xs.length, xs[j] = v ∧ fnd v xs i = ((i + j : Nat) : Int) ∧ v ∉ xs.take j
  | [], i => .inl ⟨by simp, rfl⟩
  | x :: xs, i => by
    unfold fnd
    by_cases h : x = v
    · rw [if_pos h]; exact .inr ⟨0, by simp, by simpa using h, by simp, by simp⟩
    · rw [if_neg h]
      rcases fnd_spec v xs (i + 1) with ⟨h1, h2⟩ | ⟨j, hj, h1, h2, h3⟩
      · exact .inl ⟨by simp [h1, Ne.symm h], by simpa using h2⟩
      · exact .inr ⟨j + 1, by simpa using hj, by simpa using h1, by rw [show ((i : Int) + 1) = ((i + 1 : Nat) : Int) by simp, h2]; congr 1; omega, by simp [h3, Ne.symm h]⟩
theorem findI_spec (xs : List Int) (v : Int) : (v ∉ xs ∧ findI xs v = -1) ∨ ∃ j, ∃ h : j < xs.length, xs[j] = v ∧ findI xs v = (j : Int) ∧ v ∉ xs.take j := by
  have := fnd_spec v xs 0
  simpa [findI] using this
theorem findI_nonneg (xs : List Int) (v : Int) : decide (0 ≤ findI xs v) = decide (v ∈ xs) := by
  rcases findI_spec xs v with ⟨h1, h2⟩ | ⟨j, hj, h1, h2, _⟩
  · rw [h2, decide_eq_false (by omega), decide_eq_false h1]
  · rw [h2, decide_eq_true (by omega), decide_eq_true (h1 ▸ List.getElem_mem hj)]
theorem indexOf_eq (hN : 1073741824 ≤ N) (hx : xs.length ≤ 1048576) (v : Int) : impl_indexOf N xs v = some (findI xs v) := by
  have key : ∀ k i, i ≤ xs.length → xs.length - i < k → ∃ s, impl_indexOf_L1 N k v xs (xs.length : Int) (i : Int) = some s ∧ (match s with | .inl r => fnd v (xs.drop i) i = r | .inr _ => fnd v (xs.drop i) i = -1) := by
    intro k
    induction k with
    | zero => intro i h1 h2; omega
    | succ k ih =>
      intro i h1 h2
      rw [impl_indexOf_L1]
      by_cases h : i < xs.length
      · rw [dlt h, cond_true, ix_nat h, bs, drop_cons h, fnd]
        by_cases he : xs[i] = v
        · rw [show (xs[i] == v) = true by simpa using he, cond_true, if_pos he]; exact ⟨_, rfl, rfl⟩
        · rw [show (xs[i] == v) = false by simpa using he, cond_false, if_neg he, ad1 (by omega), bs]
          have := ih (i + 1) (by omega) (by omega)
          simpa using this
      · rw [dge h, cond_false, List.drop_of_length_le (by omega)]; exact ⟨_, rfl, rfl⟩
  obtain ⟨s, h1, h2⟩ := key N 0 (by omega) (by omega)
  unfold impl_indexOf findI
  rw [show ((0 : Int)) = ((0 : Nat) : Int) from rfl, h1, bs]
  simp only [List.drop_zero] at h2
  cases s with
  | inl r => rw [h2]; rfl
  | inr r => rw [h2]; rfl
theorem l7Find_eq (hN : 1073741824 ≤ N) (hx : xs.length ≤ 1048576) (v : Int) : spec_l7Find N xs v = some (findI xs v) := by
  have key : ∀ k i, i ≤ xs.length → xs.length - i < k → ∃ s, spec_l7Find_L1 N k xs v (i : Int) = some s ∧ (match s with | .inl r => fnd v (xs.drop i) i = r | .inr _ => fnd v (xs.drop i) i = -1) := by
    intro k
    induction k with
    | zero => intro i h1 h2; omega
    | succ k ih =>
      intro i h1 h2
      rw [spec_l7Find_L1]
      by_cases h : i < xs.length
      · rw [dlt h, cond_true, ix_nat h, bs, drop_cons h, fnd]
        by_cases he : xs[i] = v
        · rw [show (xs[i] == v) = true by simpa using he, cond_true, if_pos he]; exact ⟨_, rfl, rfl⟩
        · rw [show (xs[i] == v) = false by simpa using he, cond_false, if_neg he, ad1 (by omega), bs]
          have := ih (i + 1) (by omega) (by omega)
          simpa using this
      · rw [dge h, cond_false, List.drop_of_length_le (by omega)]; exact ⟨_, rfl, rfl⟩
  obtain ⟨s, h1, h2⟩ := key N 0 (by omega) (by omega)
  unfold spec_l7Find findI
  rw [show ((0 : Int)) = ((0 : Nat) : Int) from rfl, h1, bs]
  simp only [List.drop_zero] at h2
  cases s with
  | inl r => rw [h2]; rfl
  | inr r => rw [h2]; rfl
theorem hasInt_eq (hN : 1073741824 ≤ N) (hx : xs.length ≤ 1048576) (v : Int) : impl_hasInt N xs v = some (decide (v ∈ xs)) := by
  unfold impl_hasInt; rw [indexOf_eq hN hx, bs, findI_nonneg]
def validVals (xs : List Int) : Bool := xs.all fun x => inR x 0 99
theorem AreValidValues_impl_eq (hN : 1073741824 ≤ N) (hx : xs.length ≤ 1048576) : impl_AreValidValues N xs = some (validVals xs) := by
  have := loopA (L := fun k i => impl_AreValidValues_L1 N k xs (xs.length : Int) i) xs.length (by omega) false (fun i => if h : i < xs.length then inR xs[i] 0 99 else true) (xs.length : Int)
    (fun k i h => by
      show impl_AreValidValues_L1 N (k + 1) xs _ (i : Int) = _
      rw [impl_AreValidValues_L1, dlt h, cond_true, ix_nat h, bs, within_eq, bs, ad1 (by omega), bs]
      simp only [dif_pos h])
    (fun k => by
      show impl_AreValidValues_L1 N (k + 1) xs _ (xs.length : Int) = _
      rw [impl_AreValidValues_L1, dge (by omega), cond_false]) N 0 (by omega) (by omega)
  unfold impl_AreValidValues validVals
  rw [show ((0 : Int)) = ((0 : Nat) : Int) from rfl, this, bs, Nat.sub_zero, range_all xs (fun x => inR x 0 99) _ (fun i hi => by rw [dif_pos hi])]
  cases xs.all fun x => inR x 0 99 <;> rfl
theorem AreValidValues_spec_eq (hN : 1073741824 ≤ N) (hx : xs.length ≤ 1048576) : spec_AreValidValues N xs = some (validVals xs) := by
  have := loopA (L := fun k i => spec_AreValidValues_L1 N k xs i) xs.length (by omega) false (fun i => if h : i < xs.length then inR xs[i] 0 99 else true) (xs.length : Int)
    (fun k i h => by
      show spec_AreValidValues_L1 N (k + 1) xs (i : Int) = _
      rw [spec_AreValidValues_L1, dlt h, cond_true, ix_nat h, bs, l1In_eq, bs, ad1 (by omega), bs]
      simp only [dif_pos h])
    (fun k => by
      show spec_AreValidValues_L1 N (k + 1) xs (xs.length : Int) = _
      rw [spec_AreValidValues_L1, dge (by omega), cond_false]) N 0 (by omega) (by omega)
  unfold spec_AreValidValues validVals
  rw [show ((0 : Int)) = ((0 : Nat) : Int) from rfl, this, bs, Nat.sub_zero, range_all xs (fun x => inR x 0 99) _ (fun i hi => by rw [dif_pos hi])]
  cases xs.all fun x => inR x 0 99 <;> rfl
/-- ascending, strictly -/
def asc : List Int → Bool
  | [] => true
  | [_] => true
  | x :: y :: t => decide (x < y) && asc (y :: t)
theorem ascL {L : Nat → Int → Option (Sum Bool Int)} (hx : xs.length ≤ 1048576)
    (hs : ∀ k i (h : i + 1 < xs.length), L (k + 1) ((i + 1 : Nat) : Int) = bif decide (xs[i + 1] ≤ xs[i]) then some (.inl false) else L k ((i + 2 : Nat) : Int)) (he : ∀ k i, xs.length ≤ i → L (k + 1) (i : Int) = some (.inr (i : Int))) :
    ∀ k i, xs.length - i < k → L k ((i + 1 : Nat) : Int) = some (if asc (xs.drop i) then .inr ((max xs.length (i + 1) : Nat) : Int) else .inl false) := by
  intro k
  induction k with
  | zero => intro i hk; omega
  | succ k ih =>
    intro i hk
    by_cases h : i + 1 < xs.length
    · rw [hs k i h, drop_cons (by omega : i < xs.length), drop_cons h, asc]
      by_cases hle : xs[i + 1] ≤ xs[i]
      · rw [decide_eq_true hle, cond_true, decide_eq_false (by omega)]; rfl
      · rw [decide_eq_false hle, cond_false, decide_eq_true (by omega : xs[i] < xs[i + 1]), Bool.true_and, ← drop_cons h]
        have := ih (i + 1) (by omega)
        rw [this]
        congr 2
        rw [Nat.max_eq_left (by omega), Nat.max_eq_left (by omega)]
    · rw [he k (i + 1) (by omega)]
      have ha : asc (xs.drop i) = true := by
        by_cases h2 : i < xs.length
        · rw [drop_cons h2, List.drop_of_length_le (by omega)]; rfl
        · rw [List.drop_of_length_le (by omega)]; rfl
      rw [ha, if_pos rfl, Nat.max_eq_right (by omega)]
/-- each number below n, none twice -/
def isSetB (xs : List Int) (n : Int) : Bool := (List.range' 0 xs.length).all fun i => inR (xs.getD i 0) 0 (n - 1) && !decide (xs.getD i 0 ∈ xs.take i)
theorem getD_at {xs : List Int} {i : Nat} (h : i < xs.length) : xs.getD i 0 = xs[i] := by simp [h]
theorem isSetOf_eq (hN : 1073741824 ≤ N) (hx : xs.length ≤ 1048576) {n : Int} (hn : -1099511627776 ≤ n ∧ n ≤ 1099511627776) : impl_isSetOf N xs n = some (isSetB xs n) := by
  have := loopA (L := fun k i => impl_isSetOf_L1 N k xs n xs (xs.length : Int) i) xs.length (by omega) false (fun i => inR (xs.getD i 0) 0 (n - 1) && !decide (xs.getD i 0 ∈ xs.take i)) (xs.length : Int)
    (fun k i h => by
      show impl_isSetOf_L1 N (k + 1) xs n xs _ (i : Int) = _
      rw [impl_isSetOf_L1, dlt h, cond_true, ix_nat h, bs, sb_ok (by omega) (by omega), bs, within_eq, bs, show ((0 : Int)) = ((0 : Nat) : Int) from rfl, slc_ok (Nat.zero_le _) (by omega), bs, List.drop_zero, hasInt_eq hN (by simp; omega), bs, ad1 (by omega), bs]
      simp only [show ((0 : Nat) : Int) = 0 from rfl, getD_at h]
      cases inR xs[i] 0 (n - 1)
      · rfl
      · cases decide (xs[i] ∈ xs.take i) <;> rfl)
    (fun k => by
      show impl_isSetOf_L1 N (k + 1) xs n xs _ (xs.length : Int) = _
      rw [impl_isSetOf_L1, dge (by omega), cond_false]) N 0 (by omega) (by omega)
  unfold impl_isSetOf isSetB
  rw [show ((0 : Int)) = ((0 : Nat) : Int) from rfl, this, bs, Nat.sub_zero]
  simp only [show ((0 : Nat) : Int) = 0 from rfl]
  cases (List.range' 0 xs.length).all fun i => inR (xs.getD i 0) 0 (n - 1) && !decide (xs.getD i 0 ∈ xs.take i) <;> rfl
def isPermB (xs : List Int) : Bool := decide ((xs.length : Int) ≤ 5) && isSetB xs xs.length
theorem IsPermutation_impl_eq (hN : 1073741824 ≤ N) (hx : xs.length ≤ 1048576) : impl_IsPermutation N xs = some (isPermB xs) := by
  unfold impl_IsPermutation isPermB
  rw [isSetOf_eq hN hx (by omega), bs]
  cases decide ((xs.length : Int) ≤ 5) <;> rfl
theorem IsPermutation_spec_eq (hN : 1073741824 ≤ N) (hx : xs.length ≤ 1048576) : spec_IsPermutation N xs = some (isPermB xs) := by
  have := loopA (L := fun k i => spec_IsPermutation_L1 N k xs i) xs.length (by omega) false (fun i => inR (xs.getD i 0) 0 ((xs.length : Int) - 1) && !decide (xs.getD i 0 ∈ xs.take i)) (xs.length : Int)
    (fun k i h => by
      show spec_IsPermutation_L1 N (k + 1) xs (i : Int) = _
      rw [spec_IsPermutation_L1, dlt h, cond_true, ix_nat h, bs, sb_ok (by omega) (by omega), bs, l1In_eq, bs, show ((0 : Int)) = ((0 : Nat) : Int) from rfl, slc_ok (Nat.zero_le _) (by omega), bs, bs, List.drop_zero, l7Find_eq hN (by simp; omega), bs, ad1 (by omega), bs]
      simp only [getD_at h, findI_nonneg, show ((0 : Nat) : Int) = 0 from rfl]
      cases inR xs[i] 0 ((xs.length : Int) - 1)
      · rfl
      · cases decide (xs[i] ∈ xs.take i) <;> rfl)
    (fun k => by
      show spec_IsPermutation_L1 N (k + 1) xs (xs.length : Int) = _
      rw [spec_IsPermutation_L1, dge (by omega), cond_false]) N 0 (by omega) (by omega)
  unfold spec_IsPermutation isPermB isSetB
  rw [show ((0 : Int)) = ((0 : Nat) : Int) from rfl, this, bs, Nat.sub_zero]
  simp only [show ((0 : Nat) : Int) = 0 from rfl]
  cases (List.range' 0 xs.length).all fun i => inR (xs.getD i 0) 0 ((xs.length : Int) - 1) && !decide (xs.getD i 0 ∈ xs.take i)
  · cases decide ((xs.length : Int) ≤ 5) <;> rfl
  · cases decide ((xs.length : Int) ≤ 5) <;> rfl
end
end Go.Proofs.Ytkpeabpdiffjhaa
