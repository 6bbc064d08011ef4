/- Plain laws: big numbers: both sides come to the same. -/
import Derived.Test.YtkpeabpdiffjhaapR
namespace Go.Proofs.Ytkpeabpdiffjhaa
open Go.RowKit

/-- two loops in step: both come to the same -/
theorem loop2 {σ V : Type} (L1 L2 : Nat → σ → Int → Option V) (n : Nat) (I : Nat → σ → Prop) (P : V → Prop)
    (hstep : ∀ k i s, i < n → I i s → (∃ s', L1 (k + 1) s (i : Int) = L1 k s' ((i + 1 : Nat) : Int) ∧ L2 (k + 1) s (i : Int) = L2 k s' ((i + 1 : Nat) : Int) ∧ I (i + 1) s') ∨ ∃ v, L1 (k + 1) s (i : Int) = some v ∧ L2 (k + 1) s (i : Int) = some v ∧ P v)
    (hend : ∀ k s, I n s → ∃ v, L1 (k + 1) s (n : Int) = some v ∧ L2 (k + 1) s (n : Int) = some v ∧ P v) :
    ∀ k i s, i ≤ n → n - i < k → I i s → ∃ v, L1 k s (i : Int) = some v ∧ L2 k s (i : Int) = some v ∧ P v := by
  intro k
  induction k with
  | zero => intro i s hi hk; omega
  | succ k ih =>
    intro i s hi hk hI
    by_cases h : i < n
    · rcases hstep k i s h hI with ⟨s', e1, e2, hI'⟩ | ⟨v, e1, e2, hP⟩
      · rw [e1, e2]; exact ih (i + 1) s' (by omega) (by omega) hI'
      · exact ⟨v, e1, e2, hP⟩
    · obtain rfl : i = n := by omega
      exact hend k s hI
section
variable {N : Nat}
theorem bfiS (N : Nat) : ∀ (k : Nat) (x : Int) (a b : List Int), spec_BigIntFromInt_L1 N k x a b = impl_BigIntFromInt_L1 N k x a b := by
  intro k
  induction k with
  | zero => intro x a b; rw [spec_BigIntFromInt_L1, impl_BigIntFromInt_L1]
  | succ k ih => intro x a b; rw [spec_BigIntFromInt_L1, impl_BigIntFromInt_L1]; simp only [ih]
theorem bfi_same (N : Nat) (n : Int) : spec_BigIntFromInt N n = impl_BigIntFromInt N n := by unfold spec_BigIntFromInt impl_BigIntFromInt; rw [bfiS]
theorem qt10 {x : Int} (h0 : 0 ≤ x) (h1 : x ≤ 9223372036854775807) : qt x 10 = some (x / 10) := by
  have e : x.tdiv 10 = x / 10 := Int.tdiv_eq_ediv_of_nonneg h0
  unfold qt
  rw [if_pos ⟨by decide, by rw [e]; unfold rng; simp only [Bool.and_eq_true, decide_eq_true_eq]; omega⟩, e]
theorem rm10 (x : Int) : rm x 10 = some (x.tmod 10) := rm_ok (by decide)
theorem bfiL : ∀ (m k : Nat) (x : Int) (a b : List Int), 0 ≤ x → x ≤ 9223372036854775807 → x < 10 ^ m → m < k → b.length + m ≤ 1048576 → ∃ y b', impl_BigIntFromInt_L1 N k x a b = some (y, b') ∧ b'.length ≤ b.length + m := by
  intro m
  induction m with
  | zero =>
    intro k x a b h0 hm h1 hk hb
    obtain ⟨k, rfl⟩ : ∃ k', k = k' + 1 := ⟨k - 1, by omega⟩
    rw [impl_BigIntFromInt_L1, decide_eq_false (by simp at h1; omega), cond_false]
    exact ⟨x, b, rfl, by omega⟩
  | succ m ih =>
    intro k x a b h0 hm h1 hk hb
    obtain ⟨k, rfl⟩ : ∃ k', k = k' + 1 := ⟨k - 1, by omega⟩
    rw [impl_BigIntFromInt_L1]
    by_cases hx : 0 < x
    · have hd : x / 10 < 10 ^ m := by rw [Int.pow_succ] at h1; omega
      rw [decide_eq_true hx, cond_true, rm10, bs, apd_ok' (by decide) (by simp; omega), bs, qt10 h0 hm, bs]
      obtain ⟨y, b', e, hl⟩ := ih k (x / 10) a (b ++ [x.tmod 10]) (by omega) (by omega) hd (by omega) (by rw [List.length_append, List.length_singleton]; omega)
      rw [List.length_append, List.length_singleton] at hl
      exact ⟨y, b', e, by omega⟩
    · rw [decide_eq_false hx, cond_false]
      exact ⟨x, b, rfl, by omega⟩
theorem bfi_some (hN : 1073741824 ≤ N) {n : Int} (h0 : 0 ≤ n) (h1 : n ≤ 9223372036854775807) : ∃ b, impl_BigIntFromInt N n = some b ∧ b.length ≤ 19 := by
  have hp : (10 : Int) ^ 19 = 10000000000000000000 := by decide
  obtain ⟨y, b, e, hl⟩ := bfiL (N := N) 19 N n [] [] h0 h1 (by rw [hp]; omega) (by omega) (by rw [List.length_nil]; omega)
  refine ⟨b, ?_, by rw [List.length_nil] at hl; omega⟩
  unfold impl_BigIntFromInt; rw [e, bs, lpB]
def vF (xs : List Int) : Option Bool :=
  bif xs.all (fun v => inR v 0 9) then
    (bif decide ((xs.length : Int) ≤ 60) then (bif ((xs.length : Int) == 0) then some true else (sb (xs.length : Int) 1).bind fun x => (ix xs x).bind fun y => some (y != 0)) else some false)
  else some false
theorem validS (hN : 1073741824 ≤ N) {xs : List Int} (hx : xs.length ≤ 1048576) : spec_IsValidBigInt N xs = vF xs := by
  have h := allL (fun k i => spec_IsValidBigInt_L1 N k xs i) xs (fun v => inR v 0 9) hN hx
    (fun k i h => by
      show spec_IsValidBigInt_L1 N (k + 1) xs (i : Int) = _
      rw [spec_IsValidBigInt_L1, dlt h, cond_true, ix_nat h, bs, l1In_eq, bs, ad1 (by omega), bs])
    (fun k => by
      show spec_IsValidBigInt_L1 N (k + 1) xs (xs.length : Int) = _
      rw [spec_IsValidBigInt_L1, dge (by omega), cond_false])
  unfold spec_IsValidBigInt vF
  rw [h, bs]
  cases xs.all fun v => inR v 0 9 <;> rfl
theorem validI (hN : 1073741824 ≤ N) {xs : List Int} (hx : xs.length ≤ 1048576) : impl_IsValidBigInt N xs = vF xs := by
  have h := allL (fun k i => impl_IsValidBigInt_L1 N k xs (xs.length : Int) xs (xs.length : Int) i) xs (fun v => inR v 0 9) hN hx
    (fun k i h => by
      show impl_IsValidBigInt_L1 N (k + 1) xs (xs.length : Int) xs (xs.length : Int) (i : Int) = _
      rw [impl_IsValidBigInt_L1, dlt h, cond_true, ix_nat h, bs, within_eq, bs, ad1 (by omega), bs])
    (fun k => by
      show impl_IsValidBigInt_L1 N (k + 1) xs (xs.length : Int) xs (xs.length : Int) (xs.length : Int) = _
      rw [impl_IsValidBigInt_L1, dge (by omega), cond_false])
  unfold impl_IsValidBigInt vF
  rw [h, bs]
  cases xs.all fun v => inR v 0 9 <;> rfl
theorem vF_some {xs : List Int} (hx : xs.length ≤ 1048576) : ∃ b, vF xs = some b ∧ (b = true → xs.length ≤ 60 ∧ ∀ v ∈ xs, 0 ≤ v ∧ v ≤ 9) := by
  unfold vF
  cases ha : xs.all fun v => inR v 0 9 with
  | false => exact ⟨false, rfl, fun h => by cases h⟩
  | true =>
    rw [cond_true]
    have hd : ∀ v ∈ xs, 0 ≤ v ∧ v ≤ 9 := fun v hv => inR_iff.1 ((List.all_eq_true.1 ha) v hv)
    by_cases h60 : (xs.length : Int) ≤ 60
    · rw [decide_eq_true h60, cond_true]
      by_cases h0 : xs.length = 0
      · rw [show ((xs.length : Int) == 0) = true by simp [h0], cond_true]
        exact ⟨true, rfl, fun _ => ⟨by omega, hd⟩⟩
      · rw [show ((xs.length : Int) == 0) = false by simp; simpa using h0, cond_false, sb_ok (by omega) (by omega), bs, show (xs.length : Int) - 1 = ((xs.length - 1 : Nat) : Int) by omega, ix_nat (by omega), bs]
        exact ⟨_, rfl, fun _ => ⟨by omega, hd⟩⟩
    · rw [decide_eq_false h60, cond_false]
      exact ⟨false, rfl, fun h => by cases h⟩
/-! ### carrying -/
theorem carS (N : Nat) : ∀ (k : Nat) (a b c : List Int) (d i : Int), spec_l3Carry_L1 N k a b c d i = impl_carried_L1 N k a b c d i := by
  intro k
  induction k with
  | zero => intro a b c d i; rw [spec_l3Carry_L1, impl_carried_L1]
  | succ k ih => intro a b c d i; rw [spec_l3Carry_L1, impl_carried_L1]; simp only [ih]
theorem car2 {a b : List Int} : ∀ (m k : Nat) (c : Int) (out : List Int) (i : Nat), a.length ≤ i → 0 ≤ c → c ≤ 1000000000 → c < 10 ^ m → m < k → out.length + m ≤ 1048576 → i + m ≤ 1048576 → ∃ o y z, impl_carried_L1 N k a b out c (i : Int) = some (o, y, z) ∧ o.length ≤ out.length + m := by
  intro m
  induction m with
  | zero =>
    intro k c out i hi h0 hm h1 hk hb hi2
    obtain ⟨k, rfl⟩ : ∃ k', k = k' + 1 := ⟨k - 1, by omega⟩
    rw [impl_carried_L1, dge (by omega), cond_false, decide_eq_false (by simp at h1; omega), cond_false]
    exact ⟨out, c, _, rfl, by omega⟩
  | succ m ih =>
    intro k c out i hi h0 hm h1 hk hb hi2
    obtain ⟨k, rfl⟩ : ∃ k', k = k' + 1 := ⟨k - 1, by omega⟩
    rw [impl_carried_L1, dge (by omega), cond_false]
    by_cases hx : 0 < c
    · have hd : c / 10 < 10 ^ m := by rw [Int.pow_succ] at h1; omega
      rw [decide_eq_true hx, cond_true, rm10, bs, apd_ok' (by decide) (by simp; omega), bs, qt10 h0 (by omega), bs, ad1 (by omega), bs]
      obtain ⟨o, y, z, e, hl⟩ := ih k (c / 10) (out ++ [c.tmod 10]) (i + 1) (by omega) (by omega) (by omega) hd (by omega) (by rw [List.length_append, List.length_singleton]; omega) (by omega)
      rw [List.length_append, List.length_singleton] at hl
      exact ⟨o, y, z, e, by omega⟩
    · rw [decide_eq_false hx, cond_false]
      exact ⟨out, c, _, rfl, by omega⟩
theorem car1 {a b : List Int} (ha : a.length ≤ 1000) (hv : ∀ v ∈ a, 0 ≤ v ∧ v ≤ 1000000) : ∀ (m k : Nat) (c : Int) (out : List Int) (i : Nat), i + m = a.length → 0 ≤ c → c ≤ 1000000 → m + 20 < k → out.length ≤ i → ∃ o y z, impl_carried_L1 N k a b out c (i : Int) = some (o, y, z) ∧ o.length ≤ 2000 := by
  intro m
  induction m with
  | zero =>
    intro k c out i hi h0 h1 hk hb
    have hp : (10 : Int) ^ 7 = 10000000 := by decide
    obtain ⟨o, y, z, e, hl⟩ := car2 (N := N) (a := a) (b := b) 7 k c out i (by omega) h0 (by omega) (by rw [hp]; omega) (by omega) (by omega) (by omega)
    exact ⟨o, y, z, e, by omega⟩
  | succ m ih =>
    intro k c out i hi h0 h1 hk hb
    obtain ⟨k, rfl⟩ : ∃ k', k = k' + 1 := ⟨k - 1, by omega⟩
    have h : i < a.length := by omega
    have hx := hv _ (List.getElem_mem h)
    rw [impl_carried_L1, dlt h, cond_true, ix_nat h, bs, ad_ok (by omega) (by omega), bs, rm10, bs, apd_ok' (by decide) (by simp; omega), bs, qt10 (by omega) (by omega), bs, ad1 (by omega), bs]
    exact ih k _ _ (i + 1) (by omega) (by omega) (by omega) (by omega) (by rw [List.length_append, List.length_singleton]; omega)
def stripN (xs : List Int) : Nat → Nat
  | 0 => 0
  | m + 1 => if xs.getD m 0 = 0 then stripN xs m else m + 1
theorem stripN_le (xs : List Int) : ∀ m, stripN xs m ≤ m
  | 0 => Nat.le_refl _
  | m + 1 => by
    have := stripN_le xs m
    unfold stripN; split <;> omega
theorem stripI {b xs : List Int} (hx : xs.length ≤ 1048576) : ∀ m k, m ≤ xs.length → m < k → impl_carried_L2 N k b xs (m : Int) = some ((stripN xs m : Nat) : Int) := by
  intro m
  induction m with
  | zero =>
    intro k hm hk
    obtain ⟨k, rfl⟩ : ∃ k', k = k' + 1 := ⟨k - 1, by omega⟩
    rw [impl_carried_L2, decide_eq_false (by omega), cond_false]; rfl
  | succ m ih =>
    intro k hm hk
    obtain ⟨k, rfl⟩ : ∃ k', k = k' + 1 := ⟨k - 1, by omega⟩
    have h : m < xs.length := by omega
    rw [impl_carried_L2, decide_eq_true (by omega), cond_true, sb_ok (by omega) (by omega), bs, show ((m + 1 : Nat) : Int) - 1 = (m : Int) by omega, ix_nat h, bs, stripN, getD_at h]
    by_cases e : xs[m] = 0
    · rw [show (xs[m] == 0) = true by simpa using e, cond_true, if_pos e, bs, ih k (by omega) (by omega)]
    · rw [show (xs[m] == 0) = false by simpa using e, cond_false, if_neg e]
theorem stripS {b xs : List Int} (hx : xs.length ≤ 1048576) : ∀ m k, m ≤ xs.length → m < k → spec_l3Carry_L2 N k b (xs.take m) = some (xs.take (stripN xs m)) := by
  intro m
  induction m with
  | zero =>
    intro k hm hk
    obtain ⟨k, rfl⟩ : ∃ k', k = k' + 1 := ⟨k - 1, by omega⟩
    rw [spec_l3Carry_L2, decide_eq_false (by simp), cond_false]; rfl
  | succ m ih =>
    intro k hm hk
    obtain ⟨k, rfl⟩ : ∃ k', k = k' + 1 := ⟨k - 1, by omega⟩
    have h : m < xs.length := by omega
    have hl : (xs.take (m + 1)).length = m + 1 := by rw [List.length_take]; omega
    have hg : (xs.take (m + 1))[m]'(by omega) = xs[m] := List.getElem_take
    rw [spec_l3Carry_L2, hl, decide_eq_true (by omega), cond_true, sb_ok (by omega) (by omega), bs, show ((m + 1 : Nat) : Int) - 1 = (m : Int) by omega, ix_nat (by omega), bs, stripN, getD_at h, hg]
    by_cases e : xs[m] = 0
    · rw [show (xs[m] == 0) = true by simpa using e, cond_true, if_pos e, bs, show (0 : Int) = ((0 : Nat) : Int) from rfl, slc_ok (Nat.zero_le _) (by omega), bs, List.drop_zero, List.take_take, Nat.min_eq_left (by omega), ih k (by omega) (by omega)]
    · rw [show (xs[m] == 0) = false by simpa using e, cond_false, if_neg e]
theorem carry_both (hN : 1073741824 ≤ N) {a : List Int} (ha : a.length ≤ 1000) (hv : ∀ v ∈ a, 0 ≤ v ∧ v ≤ 1000000) : ∃ r : List Int × Bool, spec_l3Carry N a = some r ∧ impl_carried N a = some r ∧ r.1.length ≤ 60 := by
  obtain ⟨o, y, z, e, hl⟩ := car1 (N := N) (b := []) ha hv a.length N 0 [] 0 (by omega) (by omega) (by omega) (by omega) (by simp)
  have e' : impl_carried_L1 N N a [] [] 0 0 = _ := e
  have es : spec_l3Carry_L1 N N a [] [] 0 0 = _ := (carS N N a [] [] 0 0).trans e'
  have s1 := stripI (N := N) (b := []) (xs := o) (by omega) o.length N (Nat.le_refl _) (by omega)
  have s2 := stripS (N := N) (b := []) (xs := o) (by omega) o.length N (Nat.le_refl _) (by omega)
  rw [List.take_length] at s2
  have hle := stripN_le o o.length
  have hlen : (o.take (stripN o o.length)).length = stripN o o.length := by rw [List.length_take]; omega
  have hS : spec_l3Carry N a = bif decide (60 < ((stripN o o.length : Nat) : Int)) then some ([], false) else some (o.take (stripN o o.length), true) := by
    unfold spec_l3Carry
    rw [es, bs, lpB]
    simp only []
    rw [s2, bs, lpB, hlen]
  have hI : impl_carried N a = bif decide (60 < ((stripN o o.length : Nat) : Int)) then some ([], false) else some (o.take (stripN o o.length), true) := by
    unfold impl_carried
    rw [e', bs, lpB]
    simp only []
    rw [s1, bs, lpB, show (0 : Int) = ((0 : Nat) : Int) from rfl, slc_ok (Nat.zero_le _) (by omega), bs, List.drop_zero]
  rw [hS, hI]
  by_cases h : 60 < ((stripN o o.length : Nat) : Int)
  · rw [decide_eq_true h, cond_true]; exact ⟨_, rfl, rfl, Nat.zero_le _⟩
  · rw [decide_eq_false h, cond_false]; exact ⟨_, rfl, rfl, by show (o.take (stripN o o.length)).length ≤ 60; omega⟩
/-! ### the product -/
theorem adN {i j : Nat} (h : i + j ≤ 1000000) : ad (i : Int) (j : Int) = some ((i + j : Nat) : Int) := by rw [ad_ok (by omega) (by omega)]; congr 1
theorem dig_mul {x y : Int} (hx : 0 ≤ x ∧ x ≤ 9) (hy : 0 ≤ y ∧ y ≤ 9) : 0 ≤ x * y ∧ x * y ≤ 81 := ⟨Int.mul_nonneg hx.1 hy.1, Int.mul_le_mul hx.2 hy.2 hy.1 (by omega)⟩
theorem mul_in (hN : 1073741824 ≤ N) {a b : List Int} (ha : a.length ≤ 60) (hb : b.length ≤ 60) (da : ∀ v ∈ a, 0 ≤ v ∧ v ≤ 9) (db : ∀ v ∈ b, 0 ≤ v ∧ v ≤ 9) {i : Nat} (hi : i < a.length) {C : Int} (hC : C ≤ 500000) {l : List Int} (hl : l.length = a.length + b.length) (hv : ∀ v ∈ l, 0 ≤ v ∧ v ≤ C) :
    ∃ v : List Int × Int, spec_MulBigInt_L2 N N a b [] l (i : Int) 0 = some v ∧ impl_MulBigInt_L2 N N b [] l (i : Int) a[i] a (a.length : Int) (i : Int) b (b.length : Int) 0 = some v ∧ (v.1.length = a.length + b.length ∧ ∀ x ∈ v.1, 0 ≤ x ∧ x ≤ C + 4860) := by
  have hai := da _ (List.getElem_mem hi)
  exact loop2 (fun k (s : List Int) j => spec_MulBigInt_L2 N k a b [] s (i : Int) j) (fun k (s : List Int) j => impl_MulBigInt_L2 N k b [] s (i : Int) a[i] a (a.length : Int) (i : Int) b (b.length : Int) j) b.length
    (fun j s => s.length = a.length + b.length ∧ ∀ x ∈ s, 0 ≤ x ∧ x ≤ C + 81 * (j : Int)) (fun v => v.1.length = a.length + b.length ∧ ∀ x ∈ v.1, 0 ≤ x ∧ x ≤ C + 4860)
    (fun k j s hj hI => by
      obtain ⟨h1, h2⟩ := hI
      have hbj := db _ (List.getElem_mem hj)
      obtain ⟨m1, m2⟩ := dig_mul hai hbj
      have hij : i + j < s.length := by omega
      have hs := h2 _ (List.getElem_mem hij)
      refine .inl ⟨s.set (i + j) (s[i + j] + a[i] * b[j]), ?_, ?_, by simpa using h1, fun x hx => ?_⟩
      · show spec_MulBigInt_L2 N (k + 1) a b [] s (i : Int) (j : Int) = _
        rw [spec_MulBigInt_L2, dlt hj, cond_true, adN (by omega), bs, bs, ix_nat hij, bs, ix_nat hi, bs, ix_nat hj, bs, ml_ok (by omega) (by omega), bs, ad_ok (by omega) (by omega), bs, bs, sto_nat hij, bs, ad1 (by omega), bs]
      · show impl_MulBigInt_L2 N (k + 1) b [] s (i : Int) a[i] a (a.length : Int) (i : Int) b (b.length : Int) (j : Int) = _
        rw [impl_MulBigInt_L2, dlt hj, cond_true, ix_nat hj, bs, adN (by omega), bs, ix_nat hij, bs, ml_ok (by omega) (by omega), bs, ad_ok (by omega) (by omega), bs, bs, sto_nat hij, bs, ad1 (by omega), bs]
      · rcases List.mem_or_eq_of_mem_set hx with hx | rfl
        · have := h2 x hx; omega
        · omega)
    (fun k s hI => by
      obtain ⟨h1, h2⟩ := hI
      refine ⟨(s, (b.length : Int)), ?_, ?_, h1, fun x hx => by have := h2 x hx; omega⟩
      · show spec_MulBigInt_L2 N (k + 1) a b [] s (i : Int) (b.length : Int) = _
        rw [spec_MulBigInt_L2, dge (by omega), cond_false]
      · show impl_MulBigInt_L2 N (k + 1) b [] s (i : Int) a[i] a (a.length : Int) (i : Int) b (b.length : Int) (b.length : Int) = _
        rw [impl_MulBigInt_L2, dge (by omega), cond_false]) N 0 l (by omega) (by omega) ⟨hl, fun x hx => by have := hv x hx; omega⟩
theorem mul_raw (hN : 1073741824 ≤ N) {a b : List Int} (ha : a.length ≤ 60) (hb : b.length ≤ 60) (da : ∀ v ∈ a, 0 ≤ v ∧ v ≤ 9) (db : ∀ v ∈ b, 0 ≤ v ∧ v ≤ 9) {l : List Int} (hl : l.length = a.length + b.length) (hv : ∀ v ∈ l, 0 ≤ v ∧ v ≤ 0) :
    ∃ v : List Int × Int, spec_MulBigInt_L1 N N a b [] l 0 = some v ∧ impl_MulBigInt_L1 N N b [] l a (a.length : Int) 0 = some v ∧ (v.1.length = a.length + b.length ∧ ∀ x ∈ v.1, 0 ≤ x ∧ x ≤ 500000) :=
  loop2 (fun k (s : List Int) i => spec_MulBigInt_L1 N k a b [] s i) (fun k (s : List Int) i => impl_MulBigInt_L1 N k b [] s a (a.length : Int) i) a.length
    (fun i s => s.length = a.length + b.length ∧ ∀ x ∈ s, 0 ≤ x ∧ x ≤ 4860 * (i : Int)) (fun v => v.1.length = a.length + b.length ∧ ∀ x ∈ v.1, 0 ≤ x ∧ x ≤ 500000)
    (fun k i s hi hI => by
      obtain ⟨h1, h2⟩ := hI
      obtain ⟨⟨v, z⟩, e1, e2, h3, h4⟩ := mul_in (N := N) hN ha hb da db hi (C := 4860 * (i : Int)) (by omega) h1 h2
      refine .inl ⟨v, ?_, ?_, h3, fun x hx => by have := h4 x hx; omega⟩
      · show spec_MulBigInt_L1 N (k + 1) a b [] s (i : Int) = _
        rw [spec_MulBigInt_L1, dlt hi, cond_true, e1, bs, lpB, ad1 (by omega)]; rfl
      · show impl_MulBigInt_L1 N (k + 1) b [] s a (a.length : Int) (i : Int) = _
        rw [impl_MulBigInt_L1, dlt hi, cond_true, ix_nat hi, bs, e2, bs, lpB, ad1 (by omega)]; rfl)
    (fun k s hI => by
      obtain ⟨h1, h2⟩ := hI
      refine ⟨(s, (a.length : Int)), ?_, ?_, h1, fun x hx => by have := h2 x hx; omega⟩
      · show spec_MulBigInt_L1 N (k + 1) a b [] s (a.length : Int) = _
        rw [spec_MulBigInt_L1, dge (by omega), cond_false]
      · show impl_MulBigInt_L1 N (k + 1) b [] s a (a.length : Int) (a.length : Int) = _
        rw [impl_MulBigInt_L1, dge (by omega), cond_false]) N 0 l (by omega) (by omega) ⟨hl, fun x hx => by have := hv x hx; omega⟩
theorem mul_both (hN : 1073741824 ≤ N) {a b : List Int} (ha : a.length ≤ 1048576) (hb : b.length ≤ 1048576) : ∃ r : List Int × Bool, spec_MulBigInt N a b = some r ∧ impl_MulBigInt N a b = some r ∧ r.1.length ≤ 60 := by
  unfold spec_MulBigInt impl_MulBigInt
  rw [validS hN ha, validI hN ha, validS hN hb, validI hN hb]
  obtain ⟨x, ex, hx⟩ := vF_some ha
  obtain ⟨y, ey, hy⟩ := vF_some hb
  rw [ex, ey]
  cases x with
  | false => exact ⟨([], false), rfl, rfl, Nat.zero_le _⟩
  | true =>
    cases y with
    | false => exact ⟨([], false), rfl, rfl, Nat.zero_le _⟩
    | true =>
      obtain ⟨a1, a2⟩ := hx rfl
      obtain ⟨b1, b2⟩ := hy rfl
      obtain ⟨⟨v, z⟩, e1, e2, h3, h4⟩ := mul_raw (N := N) hN a1 b1 a2 b2 (l := List.replicate (a.length + b.length) 0) (by simp) (fun v hv => by rw [List.eq_of_mem_replicate hv]; omega)
      obtain ⟨r, f1, f2, f3⟩ := carry_both (N := N) hN (a := v) (by have h3' : v.length = _ := h3; omega) (fun z hz => by have := h4 z hz; omega)
      refine ⟨r, ?_, ?_, f3⟩
      · show (ad (a.length : Int) (b.length : Int)).bind _ = _
        rw [adN (by omega), bs, mk_ok (by decide) (by omega), bs, e1, bs, lpB]
        show (spec_l3Carry N v).bind _ = _
        rw [f1, bs]
      · show (ad (a.length : Int) (b.length : Int)).bind _ = _
        rw [adN (by omega), bs, mk_ok (by decide) (by omega), bs, e2, bs, lpB]
        show (impl_carried N v).bind _ = _
        rw [f2, bs]
end
end Go.Proofs.Ytkpeabpdiffjhaa
