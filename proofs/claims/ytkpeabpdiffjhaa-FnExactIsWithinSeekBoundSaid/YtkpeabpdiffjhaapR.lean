/- Plain laws: the greatest common divisor, rationals, weights over one denominator. -/
import Derived.Test.YtkpeabpdiffjhaapO
namespace Go.Proofs.Ytkpeabpdiffjhaa
open Go.RowKit

section
variable {N : Nat}
theorem gcdS (N : Nat) : ∀ (k : Nat) (x y : Int), spec_l2Gcd_L1 N k x y = impl_gcd_L1 N k x y := by
  intro k
  induction k with
  | zero => intro x y; rw [spec_l2Gcd_L1, impl_gcd_L1]
  | succ k ih => intro x y; rw [spec_l2Gcd_L1, impl_gcd_L1]; simp only [ih]
theorem gcd_same (N : Nat) (x y : Int) : spec_l2Gcd N x y = impl_gcd N x y := by unfold spec_l2Gcd impl_gcd; rw [gcdS]
theorem qt_ok {a b : Int} (ha : 0 ≤ a) (hb : 0 < b) (h : a ≤ 4611686018427387904) : qt a b = some (a.tdiv b) := by
  have h1 : 0 ≤ a.tdiv b := Int.tdiv_nonneg ha (by omega)
  have h2 : a.tdiv b ≤ a := Int.tdiv_le_self b ha
  unfold qt; rw [if_pos ⟨by omega, rng_of (by omega) (by omega)⟩]
theorem tdiv_bd {a b : Int} (ha : 0 ≤ a) (hb : 0 < b) : 0 ≤ a.tdiv b ∧ a.tdiv b ≤ a := ⟨Int.tdiv_nonneg ha (by omega), Int.tdiv_le_self b ha⟩
theorem gcdL_some : ∀ (m k : Nat) (x y : Int), 0 ≤ x → 0 ≤ y → y ≤ m → m < k → (0 < x ∨ 0 < y) → ∃ g z, impl_gcd_L1 N k x y = some (g, z) ∧ 0 < g := by
  intro m
  induction m with
  | zero =>
    intro k x y hx hy hm hk h
    obtain ⟨k, rfl⟩ : ∃ k', k = k' + 1 := ⟨k - 1, by omega⟩
    obtain rfl : y = 0 := by omega
    rw [impl_gcd_L1, show ((0 : Int) != 0) = false from rfl, cond_false]
    exact ⟨x, 0, rfl, by omega⟩
  | succ m ih =>
    intro k x y hx hy hm hk h
    obtain ⟨k, rfl⟩ : ∃ k', k = k' + 1 := ⟨k - 1, by omega⟩
    rw [impl_gcd_L1]
    by_cases h0 : y = 0
    · subst h0
      rw [show ((0 : Int) != 0) = false from rfl, cond_false]
      exact ⟨x, 0, rfl, by omega⟩
    · rw [show (y != 0) = true by simpa using h0, cond_true, rm_ok h0, bs]
      obtain ⟨t1, t2⟩ := tmod_bd (b := y) hx (by omega)
      exact ih k y (x.tmod y) hy t1 (by omega) (by omega) (.inl (by omega))
theorem gcd_some (hN : 1073741824 ≤ N) {x y : Int} (hx : 0 ≤ x) (hy : 0 ≤ y) (h1 : y ≤ 1000000000) (h : 0 < x ∨ 0 < y) : ∃ g, impl_gcd N x y = some g ∧ 0 < g := by
  obtain ⟨g, z, e, hg⟩ := gcdL_some (N := N) 1000000000 N x y hx hy (by omega) (by omega) h
  refine ⟨g, ?_, hg⟩
  unfold impl_gcd; rw [e, bs, lpB]
abbrev Rat2 := Int × Int
theorem rat_same (N : Nat) (n d : Int) : spec_IsValidRational N n d = impl_IsValidRational N n d := by
  unfold spec_IsValidRational impl_IsValidRational
  rw [l1In_eq, within_eq, bs, bs, l1In_eq, within_eq, bs, bs]
  unfold impl_abs
  cases inR d 1 1000000000
  · rfl
  cases inR n (-1000000000) 1000000000
  · rfl
  rw [cond_true, cond_true, cond_true, cond_true]
  cases sb 0 n with
  | none => rfl
  | some z => rw [bs, bs, bs, gcd_same]
theorem rat_some (hN : 1073741824 ≤ N) (n d : Int) : ∃ b, impl_IsValidRational N n d = some b ∧ (b = true → 1 ≤ d ∧ d ≤ 1000000000 ∧ -1000000000 ≤ n ∧ n ≤ 1000000000) := by
  unfold impl_IsValidRational
  rw [within_eq, bs, within_eq, bs]
  cases h1 : inR d 1 1000000000
  · exact ⟨false, rfl, fun h => by cases h⟩
  cases h2 : inR n (-1000000000) 1000000000
  · exact ⟨false, rfl, fun h => by cases h⟩
  have h1' := inR_iff.1 h1
  have h2' := inR_iff.1 h2
  have hab : 0 ≤ imx n (0 - n) := by unfold imx; split <;> omega
  obtain ⟨g, e, _⟩ := gcd_some (N := N) hN hab (by omega : 0 ≤ d) (by omega) (.inr (by omega))
  unfold impl_abs
  rw [cond_true, cond_true, sb_ok (by omega) (by omega), bs, bs, e, bs]
  exact ⟨_, rfl, fun _ => ⟨h1'.1, h1'.2, h2'.1, h2'.2⟩⟩
/-- a rational that counts as a weight -/
def wOk (N : Nat) (r : Rat2) : Bool := (impl_IsValidRational N r.1 r.2).getD false && decide (0 ≤ r.1)
theorem wOk_spec (hN : 1073741824 ≤ N) {r : Rat2} (h : wOk N r = true) : impl_IsValidRational N r.1 r.2 = some true ∧ 0 ≤ r.1 ∧ r.1 ≤ 1000000000 ∧ 1 ≤ r.2 ∧ r.2 ≤ 1000000000 := by
  obtain ⟨b, e, hb⟩ := rat_some hN r.1 r.2
  unfold wOk at h
  rw [e, Option.getD_some, Bool.and_eq_true, decide_eq_true_eq] at h
  obtain ⟨rfl, h2⟩ := h
  have := hb rfl
  exact ⟨e, h2, this.2.2.2, this.1, this.2.1⟩
theorem wOk_cases (hN : 1073741824 ≤ N) (r : Rat2) : wOk N r = true ∨ (wOk N r = false ∧ (impl_IsValidRational N r.1 r.2 = some false ∨ impl_IsValidRational N r.1 r.2 = some true ∧ r.1 < 0)) := by
  obtain ⟨b, e, hb⟩ := rat_some hN r.1 r.2
  unfold wOk
  rw [e, Option.getD_some]
  cases b with
  | false => exact .inr ⟨rfl, .inl rfl⟩
  | true =>
    by_cases h : 0 ≤ r.1
    · exact .inl (by rw [decide_eq_true h]; rfl)
    · exact .inr ⟨by rw [decide_eq_false h]; rfl, .inr ⟨rfl, by omega⟩⟩
def stepD (N : Nat) (d : Int) (r : Rat2) : Int := (d.tdiv ((impl_gcd N d r.2).getD 1)) * r.2
theorem stepD_bd (hN : 1073741824 ≤ N) {d : Int} {r : Rat2} (h : wOk N r = true) (h0 : 0 ≤ d) (h1 : d ≤ 1000) : ∃ g, impl_gcd N d r.2 = some g ∧ qt d g = some (d.tdiv g) ∧ ml (d.tdiv g) r.2 = some (stepD N d r) ∧ 0 ≤ stepD N d r := by
  obtain ⟨_, _, _, k1, k2⟩ := wOk_spec hN h
  obtain ⟨g, e, hg⟩ := gcd_some (N := N) hN h0 (by omega : 0 ≤ r.2) k2 (.inr (by omega))
  obtain ⟨t1, t2⟩ := tdiv_bd h0 hg
  have hm : 0 ≤ d.tdiv g * r.2 := Int.mul_nonneg t1 (by omega)
  have hm2 : d.tdiv g * r.2 ≤ 1000 * 1000000000 := Int.mul_le_mul (by omega) k2 (by omega) (by omega)
  have es : stepD N d r = d.tdiv g * r.2 := by unfold stepD; rw [e]; rfl
  refine ⟨g, e, qt_ok h0 hg (by omega), ?_, ?_⟩
  · rw [es, ml_ok (by omega) (by omega)]
  · rw [es]; exact hm
def sD (N : Nat) (rs : List Rat2) : Nat → Nat → Int → Option Int
  | 0, _, d => some d
  | m + 1, i, d => if 1000 < stepD N d (rs.getD i (0, 0)) then none else sD N rs m (i + 1) (stepD N d (rs.getD i (0, 0)))
theorem sD_bd (hN : 1073741824 ≤ N) {rs : List Rat2} (ha : ∀ i, i < rs.length → wOk N (rs.getD i (0, 0)) = true) : ∀ m i d d', i + m = rs.length → 0 ≤ d → d ≤ 1000 → sD N rs m i d = some d' → 0 ≤ d' ∧ d' ≤ 1000 := by
  intro m
  induction m with
  | zero => intro i d d' _ h0 h1 h; unfold sD at h; cases h; exact ⟨h0, h1⟩
  | succ m ih =>
    intro i d d' hi h0 h1 h
    unfold sD at h
    obtain ⟨g, _, _, _, g4⟩ := stepD_bd hN (ha i (by omega)) h0 h1
    by_cases hc : 1000 < stepD N d (rs.getD i (0, 0))
    · rw [if_pos hc] at h; cases h
    · rw [if_neg hc] at h; exact ih (i + 1) _ d' (by omega) g4 (by omega) h
theorem getR_at {rs : List Rat2} {i : Nat} (h : i < rs.length) : rs[i] = rs.getD i (0, 0) := by simp [h]
def sumD (rs : List Rat2) (o : Option Int) : Sum (List Int × Int) (Int × Int) := match o with | none => .inl ([], 0) | some d => .inr (d, (rs.length : Int))
theorem scaleS_L1 (hN : 1073741824 ≤ N) {rs : List Rat2} (hl : rs.length ≤ 1048576) : ∀ m i k d, i + m = rs.length → m < k → 0 ≤ d → d ≤ 1000 →
    spec_ScaleToIntegers_L1 N k rs d (i : Int) = some (bif (List.range' i m).all (fun j => wOk N (rs.getD j (0, 0))) then sumD rs (sD N rs m i d) else .inl ([], 0)) := by
  intro m
  induction m with
  | zero =>
    intro i k d hi hk h0 h1
    obtain ⟨k, rfl⟩ : ∃ k', k = k' + 1 := ⟨k - 1, by omega⟩
    obtain rfl : i = rs.length := by omega
    rw [spec_ScaleToIntegers_L1, dge (by omega), cond_false]; rfl
  | succ m ih =>
    intro i k d hi hk h0 h1
    obtain ⟨k, rfl⟩ : ∃ k', k = k' + 1 := ⟨k - 1, by omega⟩
    have h : i < rs.length := by omega
    rw [spec_ScaleToIntegers_L1, dlt h, cond_true, ix_nat h, bs, getR_at h, rat_same, List.range'_succ, List.all_cons]
    rcases wOk_cases hN (rs.getD i (0, 0)) with hw | ⟨hw, hw2 | ⟨hw2, hw3⟩⟩
    · obtain ⟨k1, k2, k3, k4, k5⟩ := wOk_spec hN hw
      obtain ⟨g, g1, g2, g3, g4⟩ := stepD_bd hN hw h0 h1
      rw [hw, k1, bs, cond_true, bs, decide_eq_false (by omega), cond_false, bs, gcd_same, g1, bs, g2, bs, bs, g3, bs, Bool.true_and, sD]
      by_cases hc : 1000 < stepD N d (rs.getD i (0, 0))
      · rw [decide_eq_true hc, cond_true, if_pos hc]
        cases (List.range' (i + 1) m).all (fun j => wOk N (rs.getD j (0, 0))) <;> rfl
      · rw [decide_eq_false hc, cond_false, if_neg hc, ad1 (by omega), bs, ih (i + 1) k _ (by omega) (by omega) g4 (by omega)]
    · rw [hw, hw2, bs, cond_false, Bool.false_and, cond_false]
    · rw [hw, hw2, bs, cond_true, bs, decide_eq_true hw3, cond_true, Bool.false_and, cond_false]
theorem scaleI_L1 (hN : 1073741824 ≤ N) {rs : List Rat2} (hl : rs.length ≤ 1048576) : ∀ m i k d, i + m = rs.length → m < k →
    impl_ScaleToIntegers_L1 N k rs d rs (rs.length : Int) (i : Int) = some (bif (List.range' i m).all (fun j => wOk N (rs.getD j (0, 0))) then .inr (rs.length : Int) else .inl ([], 0)) := by
  intro m
  induction m with
  | zero =>
    intro i k d hi hk
    obtain ⟨k, rfl⟩ : ∃ k', k = k' + 1 := ⟨k - 1, by omega⟩
    obtain rfl : i = rs.length := by omega
    rw [impl_ScaleToIntegers_L1, dge (by omega), cond_false]; rfl
  | succ m ih =>
    intro i k d hi hk
    obtain ⟨k, rfl⟩ : ∃ k', k = k' + 1 := ⟨k - 1, by omega⟩
    have h : i < rs.length := by omega
    rw [impl_ScaleToIntegers_L1, dlt h, cond_true, ix_nat h, bs, getR_at h, List.range'_succ, List.all_cons]
    rcases wOk_cases hN (rs.getD i (0, 0)) with hw | ⟨hw, hw2 | ⟨hw2, hw3⟩⟩
    · obtain ⟨k1, k2, k3, k4, k5⟩ := wOk_spec hN hw
      rw [hw, k1, bs, cond_true, decide_eq_false (by omega), cond_false, Bool.true_and, ad1 (by omega), bs, ih (i + 1) k d (by omega) (by omega)]
    · rw [hw, hw2, bs, cond_false, Bool.false_and, cond_false]
    · rw [hw, hw2, bs, cond_true, decide_eq_true hw3, cond_true, Bool.false_and, cond_false]
theorem scaleI_L2 (hN : 1073741824 ≤ N) {rs : List Rat2} (hl : rs.length ≤ 1048576) (ha : ∀ i, i < rs.length → wOk N (rs.getD i (0, 0)) = true) : ∀ m i k d, i + m = rs.length → m < k → 0 ≤ d → d ≤ 1000 →
    impl_ScaleToIntegers_L2 N k rs d rs (rs.length : Int) (i : Int) = some (sumD rs (sD N rs m i d)) := by
  intro m
  induction m with
  | zero =>
    intro i k d hi hk h0 h1
    obtain ⟨k, rfl⟩ : ∃ k', k = k' + 1 := ⟨k - 1, by omega⟩
    obtain rfl : i = rs.length := by omega
    rw [impl_ScaleToIntegers_L2, dge (by omega), cond_false]; rfl
  | succ m ih =>
    intro i k d hi hk h0 h1
    obtain ⟨k, rfl⟩ : ∃ k', k = k' + 1 := ⟨k - 1, by omega⟩
    have h : i < rs.length := by omega
    obtain ⟨g, g1, g2, g3, g4⟩ := stepD_bd hN (ha i h) h0 h1
    rw [impl_ScaleToIntegers_L2, dlt h, cond_true, ix_nat h, bs, getR_at h, g1, bs, g2, bs, g3, bs, sD]
    by_cases hc : 1000 < stepD N d (rs.getD i (0, 0))
    · rw [decide_eq_true hc, cond_true, if_pos hc]; rfl
    · rw [decide_eq_false hc, cond_false, if_neg hc, ad1 (by omega), bs, ih (i + 1) k _ (by omega) (by omega) g4 (by omega)]
def outD (rs : List Rat2) (d : Int) (i : Nat) : List Int := (rs.take i).map fun r => r.1 * d.tdiv r.2
theorem outD_succ {rs : List Rat2} {d : Int} {i : Nat} (h : i < rs.length) : outD rs d i ++ [(rs.getD i (0, 0)).1 * d.tdiv (rs.getD i (0, 0)).2] = outD rs d (i + 1) := by
  unfold outD; rw [List.take_succ_eq_append_getElem h, List.map_append, getR_at h]; rfl
theorem outD_len {rs : List Rat2} {d : Int} {i : Nat} : (outD rs d i).length ≤ rs.length := by unfold outD; simp; omega
theorem outD_op (hN : 1073741824 ≤ N) {d : Int} {r : Rat2} (h : wOk N r = true) (h0 : 0 ≤ d) (h1 : d ≤ 1000) : qt d r.2 = some (d.tdiv r.2) ∧ ml r.1 (d.tdiv r.2) = some (r.1 * d.tdiv r.2) := by
  obtain ⟨_, k0, k1, k2, k3⟩ := wOk_spec hN h
  obtain ⟨t1, t2⟩ := tdiv_bd h0 (by omega : 0 < r.2)
  have hm : 0 ≤ r.1 * d.tdiv r.2 := Int.mul_nonneg k0 t1
  have hm2 : r.1 * d.tdiv r.2 ≤ 1000000000 * 1000 := Int.mul_le_mul k1 (by omega) t1 (by omega)
  exact ⟨qt_ok h0 (by omega) (by omega), ml_ok (by omega) (by omega)⟩
theorem scaleS_L2 (hN : 1073741824 ≤ N) {rs : List Rat2} (hl : rs.length ≤ 1048576) (ha : ∀ i, i < rs.length → wOk N (rs.getD i (0, 0)) = true) {d : Int} (h0 : 0 ≤ d) (h1 : d ≤ 1000) :
    spec_ScaleToIntegers_L2 N N rs d [] 0 = some (outD rs d rs.length, (rs.length : Int)) :=
  loopI (fun k (s : List Int) i => spec_ScaleToIntegers_L2 N k rs d s i) rs.length (outD rs d) (outD rs d rs.length, (rs.length : Int))
    (fun k i h => by
      obtain ⟨q1, q2⟩ := outD_op hN (ha i h) h0 h1
      have ho := outD_len (rs := rs) (d := d) (i := i)
      show spec_ScaleToIntegers_L2 N (k + 1) rs d (outD rs d i) (i : Int) = _
      rw [spec_ScaleToIntegers_L2, dlt h, cond_true, ix_nat h, bs, bs, getR_at h, q1, bs, q2, bs, apd_ok' (by decide) (by simp; omega), bs, outD_succ h, ad1 (by omega), bs])
    (fun k => by
      show spec_ScaleToIntegers_L2 N (k + 1) rs d (outD rs d rs.length) (rs.length : Int) = _
      rw [spec_ScaleToIntegers_L2, dge (by omega), cond_false]) N 0 (by omega) (by omega)
theorem scaleI_L3 (hN : 1073741824 ≤ N) {rs : List Rat2} (hl : rs.length ≤ 1048576) (ha : ∀ i, i < rs.length → wOk N (rs.getD i (0, 0)) = true) {d : Int} (h0 : 0 ≤ d) (h1 : d ≤ 1000) :
    impl_ScaleToIntegers_L3 N N d [] rs (rs.length : Int) 0 = some (outD rs d rs.length, (rs.length : Int)) :=
  loopI (fun k (s : List Int) i => impl_ScaleToIntegers_L3 N k d s rs (rs.length : Int) i) rs.length (outD rs d) (outD rs d rs.length, (rs.length : Int))
    (fun k i h => by
      obtain ⟨q1, q2⟩ := outD_op hN (ha i h) h0 h1
      have ho := outD_len (rs := rs) (d := d) (i := i)
      show impl_ScaleToIntegers_L3 N (k + 1) d (outD rs d i) rs (rs.length : Int) (i : Int) = _
      rw [impl_ScaleToIntegers_L3, dlt h, cond_true, ix_nat h, bs, getR_at h, q1, bs, q2, bs, apd_ok' (by decide) (by simp; omega), bs, outD_succ h, ad1 (by omega), bs])
    (fun k => by
      show impl_ScaleToIntegers_L3 N (k + 1) d (outD rs d rs.length) rs (rs.length : Int) (rs.length : Int) = _
      rw [impl_ScaleToIntegers_L3, dge (by omega), cond_false]) N 0 (by omega) (by omega)
theorem scale_both (hN : 1073741824 ≤ N) {rs : List Rat2} (hl : rs.length ≤ 1048576) : ∃ v : List Int × Int, spec_ScaleToIntegers N rs = some v ∧ impl_ScaleToIntegers N rs = some v ∧ v.1.length ≤ 1048576 := by
  have s1 := scaleS_L1 hN hl rs.length 0 N 1 (by omega) (by omega) (by omega) (by omega)
  have i1 := scaleI_L1 hN hl rs.length 0 N 1 (by omega) (by omega)
  have s1' : spec_ScaleToIntegers_L1 N N rs 1 0 = _ := s1
  have i1' : impl_ScaleToIntegers_L1 N N rs 1 rs (rs.length : Int) 0 = _ := i1
  unfold spec_ScaleToIntegers impl_ScaleToIntegers
  rw [s1', i1', bs, bs]
  cases ha : (List.range' 0 rs.length).all (fun j => wOk N (rs.getD j (0, 0))) with
  | false => exact ⟨([], 0), by rw [cond_false, lpSl], by rw [cond_false, lpSl], Nat.zero_le _⟩
  | true =>
    have ha' : ∀ i, i < rs.length → wOk N (rs.getD i (0, 0)) = true := fun i h => (List.all_eq_true.1 ha) i (by simp; omega)
    have i2 := scaleI_L2 hN hl ha' rs.length 0 N 1 (by omega) (by omega) (by omega) (by omega)
    have i2' : impl_ScaleToIntegers_L2 N N rs 1 rs (rs.length : Int) 0 = _ := i2
    rw [cond_true, cond_true, lpSr, i2', bs]
    cases hd : sD N rs rs.length 0 1 with
    | none => exact ⟨([], 0), by unfold sumD; rw [lpSl], by unfold sumD; rw [lpSl], Nat.zero_le _⟩
    | some d =>
      obtain ⟨d0, d1⟩ := sD_bd hN ha' rs.length 0 1 d (by omega) (by omega) (by omega) hd
      unfold sumD
      rw [lpSr, lpSr]
      simp only []
      rw [scaleS_L2 hN hl ha' d0 d1, scaleI_L3 hN hl ha' d0 d1, bs, lpB]
      exact ⟨_, rfl, rfl, by have := outD_len (rs := rs) (d := d) (i := rs.length); show (outD rs d rs.length).length ≤ _; omega⟩
end
end Go.Proofs.Ytkpeabpdiffjhaa
