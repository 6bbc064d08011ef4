/- Plain laws: powers, products of powers, comparison; the bound of seeks as a power: both sides come to the same. -/
import Derived.Test.YtkpeabpdiffjhaapS
namespace Go.Proofs.Ytkpeabpdiffjhaa
open Go.RowKit

/-- a number of 64 bits -/
abbrev in64 (n : Int) : Prop := -9223372036854775808 ≤ n ∧ n ≤ 9223372036854775807
def lenS (s : Sum (List Int × Bool) (List Int × Int)) : Prop := match s with | .inl q => q.1.length ≤ 1048576 | .inr v => v.1.length ≤ 1048576
section
variable {N : Nat}
theorem pow_both (hN : 1073741824 ≤ N) {n k : Int} (h1 : n ≤ 9223372036854775807) : ∃ r : List Int × Bool, spec_PowBigInt N n k = some r ∧ impl_PowBigInt N n k = some r ∧ r.1.length ≤ 1048576 ∧ (n < 0 → r.2 = false) ∧ (100 < k → r.2 = false) := by
  unfold spec_PowBigInt impl_PowBigInt
  by_cases h0 : n < 0
  · rw [decide_eq_true h0, cond_true, cond_true]; exact ⟨_, rfl, rfl, Nat.zero_le _, fun _ => rfl, fun _ => rfl⟩
  rw [decide_eq_false h0, cond_false, cond_false, l1In_eq, within_eq]
  cases hk : inR k 0 100 with
  | false => exact ⟨([], false), rfl, rfl, Nat.zero_le _, fun _ => rfl, fun _ => rfl⟩
  | true =>
    have hk' := inR_iff.1 hk
    obtain ⟨m, rfl⟩ := Int.eq_ofNat_of_zero_le hk'.1
    obtain ⟨o, eo, ho⟩ := bfi_some (N := N) hN (n := 1) (by omega) (by omega)
    obtain ⟨c, ec, hc⟩ := bfi_some (N := N) hN (n := n) (by omega) h1
    obtain ⟨s, e1, e2, hs⟩ := loop2 (fun f (s : List Int) i => spec_PowBigInt_L1 N f n (m : Int) [] s i) (fun f (s : List Int) i => impl_PowBigInt_L1 N f n (m : Int) [] s i) m (fun _ s => s.length ≤ 1048576) lenS
      (fun f i s hi hI => by
        obtain ⟨r, m1, m2, hr⟩ := mul_both (N := N) hN hI (b := c) (by omega)
        cases hb : r.2 with
        | true =>
          refine .inl ⟨r.1, ?_, ?_, by omega⟩
          · show spec_PowBigInt_L1 N (f + 1) n (m : Int) [] s (i : Int) = _
            rw [spec_PowBigInt_L1, dlt hi, cond_true, bfi_same, ec, bs, m1, bs, hb, cond_true, ad1 (by omega), bs]
          · show impl_PowBigInt_L1 N (f + 1) n (m : Int) [] s (i : Int) = _
            rw [impl_PowBigInt_L1, dlt hi, cond_true, ec, bs, m2, bs, hb, cond_true, ad1 (by omega), bs]
        | false =>
          refine .inr ⟨.inl ([], false), ?_, ?_, Nat.zero_le _⟩
          · show spec_PowBigInt_L1 N (f + 1) n (m : Int) [] s (i : Int) = _
            rw [spec_PowBigInt_L1, dlt hi, cond_true, bfi_same, ec, bs, m1, bs, hb, cond_false]
          · show impl_PowBigInt_L1 N (f + 1) n (m : Int) [] s (i : Int) = _
            rw [impl_PowBigInt_L1, dlt hi, cond_true, ec, bs, m2, bs, hb, cond_false])
      (fun f s hI => by
        refine ⟨.inr (s, (m : Int)), ?_, ?_, hI⟩
        · show spec_PowBigInt_L1 N (f + 1) n (m : Int) [] s (m : Int) = _
          rw [spec_PowBigInt_L1, dge (by omega), cond_false]
        · show impl_PowBigInt_L1 N (f + 1) n (m : Int) [] s (m : Int) = _
          rw [impl_PowBigInt_L1, dge (by omega), cond_false]) N 0 o (by omega) (by omega) (by omega)
    have e1' : spec_PowBigInt_L1 N N n (m : Int) [] o 0 = _ := e1
    have e2' : impl_PowBigInt_L1 N N n (m : Int) [] o 0 = _ := e2
    rw [bs, bs, cond_true, cond_true, bfi_same, eo, bs, bs, e1', e2', bs]
    cases s with
    | inl q => exact ⟨q, rfl, rfl, hs, fun h => absurd h h0, fun h => by omega⟩
    | inr v => exact ⟨(v.1, true), rfl, rfl, hs, fun h => absurd h h0, fun h => by omega⟩
def lenP (xs : List Int) (s : Sum (List Int × Bool) (List Int × Int)) : Prop := match s with | .inl q => q.1.length ≤ 1048576 ∧ q.2 = false | .inr v => v.1.length ≤ 1048576 ∧ ∀ x ∈ xs, 0 ≤ x
theorem prod_both (hN : 1073741824 ≤ N) {xs ks : List Int} (hx : xs.length ≤ 1048576) (hr : ∀ v ∈ xs, v ≤ 9223372036854775807) : ∃ r : List Int × Bool, spec_ProductOfPowers N xs ks = some r ∧ impl_ProductOfPowers N xs ks = some r ∧ r.1.length ≤ 1048576 ∧ (r.2 = true → ∀ x ∈ xs, 0 ≤ x) := by
  unfold spec_ProductOfPowers impl_ProductOfPowers
  by_cases hl : xs.length = ks.length
  · obtain ⟨o, eo, ho⟩ := bfi_some (N := N) hN (n := 1) (by omega) (by omega)
    obtain ⟨s, e1, e2, hs⟩ := loop2 (fun f (s : List Int) i => spec_ProductOfPowers_L1 N f xs ks [] s i) (fun f (s : List Int) i => impl_ProductOfPowers_L1 N f xs ks [] s (xs.length : Int) i) xs.length (fun i s => s.length ≤ 1048576 ∧ ∀ x ∈ xs.take i, 0 ≤ x) (lenP xs)
      (fun f i s hi hI => by
        obtain ⟨hI1, hI2⟩ := hI
        have hi2 : i < ks.length := by omega
        obtain ⟨p, p1, p2, hp, hp2, _⟩ := pow_both (N := N) hN (n := xs[i]) (k := ks[i]) (hr _ (List.getElem_mem hi))
        obtain ⟨r, m1, m2, hr⟩ := mul_both (N := N) hN hI1 (b := p.1) hp
        cases hb : p.2 with
        | true =>
          cases hc : r.2 with
          | true =>
            refine .inl ⟨r.1, ?_, ?_, by omega, fun x hx => ?_⟩
            · show spec_ProductOfPowers_L1 N (f + 1) xs ks [] s (i : Int) = _
              rw [spec_ProductOfPowers_L1, dlt hi, cond_true, ix_nat hi, bs, ix_nat hi2, bs, p1, bs, m1, bs, hb, cond_true, hc, cond_true, ad1 (by omega), bs]
            · show impl_ProductOfPowers_L1 N (f + 1) xs ks [] s (xs.length : Int) (i : Int) = _
              rw [impl_ProductOfPowers_L1, dlt hi, cond_true, ix_nat hi, bs, ix_nat hi2, bs, p2, bs, m2, bs, hb, cond_true, hc, cond_true, ad1 (by omega), bs]
            · rw [List.take_succ_eq_append_getElem hi] at hx
              rcases List.mem_append.1 hx with hx | hx
              · exact hI2 x hx
              · simp only [List.mem_singleton] at hx
                subst hx
                by_cases hneg : xs[i] < 0
                · rw [hp2 hneg] at hb; cases hb
                · omega
          | false =>
            refine .inr ⟨.inl ([], false), ?_, ?_, Nat.zero_le _, rfl⟩
            · show spec_ProductOfPowers_L1 N (f + 1) xs ks [] s (i : Int) = _
              rw [spec_ProductOfPowers_L1, dlt hi, cond_true, ix_nat hi, bs, ix_nat hi2, bs, p1, bs, m1, bs, hb, cond_true, hc, cond_false]
            · show impl_ProductOfPowers_L1 N (f + 1) xs ks [] s (xs.length : Int) (i : Int) = _
              rw [impl_ProductOfPowers_L1, dlt hi, cond_true, ix_nat hi, bs, ix_nat hi2, bs, p2, bs, m2, bs, hb, cond_true, hc, cond_false]
        | false =>
          refine .inr ⟨.inl ([], false), ?_, ?_, Nat.zero_le _, rfl⟩
          · show spec_ProductOfPowers_L1 N (f + 1) xs ks [] s (i : Int) = _
            rw [spec_ProductOfPowers_L1, dlt hi, cond_true, ix_nat hi, bs, ix_nat hi2, bs, p1, bs, m1, bs, hb, cond_false]
          · show impl_ProductOfPowers_L1 N (f + 1) xs ks [] s (xs.length : Int) (i : Int) = _
            rw [impl_ProductOfPowers_L1, dlt hi, cond_true, ix_nat hi, bs, ix_nat hi2, bs, p2, bs, m2, bs, hb, cond_false])
      (fun f s hI => by
        obtain ⟨hI1, hI2⟩ := hI
        rw [List.take_length] at hI2
        refine ⟨.inr (s, (xs.length : Int)), ?_, ?_, hI1, hI2⟩
        · show spec_ProductOfPowers_L1 N (f + 1) xs ks [] s (xs.length : Int) = _
          rw [spec_ProductOfPowers_L1, dge (by omega), cond_false]
        · show impl_ProductOfPowers_L1 N (f + 1) xs ks [] s (xs.length : Int) (xs.length : Int) = _
          rw [impl_ProductOfPowers_L1, dge (by omega), cond_false]) N 0 o (by omega) (by omega) ⟨by omega, fun x hx => by simp at hx⟩
    have e1' : spec_ProductOfPowers_L1 N N xs ks [] o 0 = _ := e1
    have e2' : impl_ProductOfPowers_L1 N N xs ks [] o (xs.length : Int) 0 = _ := e2
    rw [show ((xs.length : Int) != (ks.length : Int)) = false by simp [hl], cond_false, cond_false, bfi_same, eo, bs, bs, e1', e2', bs]
    cases s with
    | inl q =>
      obtain ⟨h1, h2⟩ := hs
      exact ⟨q, rfl, rfl, h1, fun h => by rw [h2] at h; cases h⟩
    | inr v =>
      obtain ⟨h1, h2⟩ := hs
      exact ⟨(v.1, true), rfl, rfl, h1, fun _ => h2⟩
  · rw [show ((xs.length : Int) != (ks.length : Int)) = true by simp; omega, cond_true, cond_true]
    exact ⟨_, rfl, rfl, Nat.zero_le _, fun h => by cases h⟩
theorem cmpB_L {a b : List Int} (hl : a.length = b.length) (ha : a.length ≤ 1048576) : ∀ m k, m ≤ a.length → m < k → ∃ s : Sum Int Int, spec_CompareBigInts_L1 N k a b ((m : Int) - 1) = some s ∧ impl_CompareBigInts_L1 N k a b ((m : Int) - 1) = some s := by
  intro m
  induction m with
  | zero =>
    intro k hm hk
    obtain ⟨k, rfl⟩ : ∃ k', k = k' + 1 := ⟨k - 1, by omega⟩
    rw [spec_CompareBigInts_L1, impl_CompareBigInts_L1, decide_eq_false (by omega), cond_false, cond_false]
    exact ⟨_, rfl, rfl⟩
  | succ m ih =>
    intro k hm hk
    obtain ⟨k, rfl⟩ : ∃ k', k = k' + 1 := ⟨k - 1, by omega⟩
    have h1 : m < a.length := by omega
    have h2 : m < b.length := by omega
    have hm1 : ((m + 1 : Nat) : Int) - 1 = (m : Int) := by omega
    obtain ⟨s, e1, e2⟩ := ih k (by omega) (by omega)
    rw [hm1, spec_CompareBigInts_L1, impl_CompareBigInts_L1, decide_eq_true (by omega), cond_true, cond_true, ix_nat h1, ix_nat h2]
    simp only [bs]
    rw [sb_ok (by omega) (by omega)]
    simp only [bs, compareInts_eq]
    rcases Int.lt_trichotomy a[m] b[m] with h | h | h
    · rw [decide_eq_true h, cond_true, show (a[m] != b[m]) = true by simp; omega, cond_true, cmpI, if_pos h]
      exact ⟨_, rfl, rfl⟩
    · rw [decide_eq_false (by omega), cond_false, decide_eq_false (by omega), cond_false, show (a[m] != b[m]) = false by simp [h], cond_false]
      exact ⟨s, e1, e2⟩
    · rw [decide_eq_false (by omega), cond_false, decide_eq_true h, cond_true, show (a[m] != b[m]) = true by simp; omega, cond_true, cmpI, if_neg (by omega), if_pos h]
      exact ⟨_, rfl, rfl⟩
theorem cmp_both (hN : 1073741824 ≤ N) {a b : List Int} (ha : a.length ≤ 1048576) (hb : b.length ≤ 1048576) : ∃ c, spec_CompareBigInts N a b = some c ∧ impl_CompareBigInts N a b = some c := by
  unfold spec_CompareBigInts impl_CompareBigInts
  rw [validS hN ha, validI hN ha, validS hN hb, validI hN hb]
  obtain ⟨x, ex, _⟩ := vF_some ha
  obtain ⟨y, ey, _⟩ := vF_some hb
  rw [ex, ey]
  cases x with
  | false => exact ⟨0, rfl, rfl⟩
  | true =>
    cases y with
    | false => exact ⟨0, rfl, rfl⟩
    | true =>
      simp only [bs, cond_true, compareInts_eq]
      by_cases hl : a.length = b.length
      · obtain ⟨s, e1, e2⟩ := cmpB_L (N := N) hl ha a.length N (Nat.le_refl _) (by omega)
        rw [show ((a.length : Int) != (b.length : Int)) = false by simp [hl], cond_false, cond_false, sb_ok (by omega) (by omega)]
        simp only [bs]
        rw [e1, e2, bs]
        cases s with
        | inl q => exact ⟨q, rfl, rfl⟩
        | inr v => exact ⟨0, rfl, rfl⟩
      · rw [show ((a.length : Int) != (b.length : Int)) = true by simp; omega, cond_true, cond_true]
        unfold cmpI
        by_cases h : (a.length : Int) < (b.length : Int)
        · rw [decide_eq_true h, cond_true, if_pos h]; exact ⟨_, rfl, rfl⟩
        · rw [decide_eq_false h, cond_false, if_neg h, if_pos (by omega)]; exact ⟨_, rfl, rfl⟩
theorem wp_L1 (hN : 1073741824 ≤ N) {xs ns : List Int} {n f d : Int} (hx : xs.length ≤ 1048576) : impl_withinPowers_L1 N N xs n f ns d xs (xs.length : Int) 0 = some (bif xs.all (fun v => !decide (v < 0)) then .inr (xs.length : Int) else .inl false) :=
  allL (fun k i => impl_withinPowers_L1 N k xs n f ns d xs (xs.length : Int) i) xs (fun v => !decide (v < 0)) hN hx
    (fun k i h => by
      show impl_withinPowers_L1 N (k + 1) xs n f ns d xs (xs.length : Int) (i : Int) = _
      rw [impl_withinPowers_L1, dlt h, cond_true, ix_nat h, bs, ad1 (by omega), bs]
      cases decide (xs[i] < 0)
      · rw [cond_false, Bool.not_false, cond_true]
      · rw [cond_true, Bool.not_true, cond_false])
    (fun k => by
      show impl_withinPowers_L1 N (k + 1) xs n f ns d xs (xs.length : Int) (xs.length : Int) = _
      rw [impl_withinPowers_L1, dge (by omega), cond_false])
theorem seekB_bd {n : Int} {atoms : List QAtom} {out : List Int} : 0 ≤ seekB n atoms out 1 ∧ seekB n atoms out 1 ≤ 9223372036854775807 := by
  unfold seekB
  cases hq : queryOk n atoms out with
  | false => exact ⟨Int.le_refl _, by show (0 : Int) ≤ _; omega⟩
  | true =>
    obtain ⟨h1, h2, h3, h4⟩ := queryOk_n hq
    obtain ⟨b1, b2, b3, b4⟩ := seek_bd (r := 1) ⟨h1, h2⟩ ⟨h3, h4⟩ (by omega)
    rw [show (true && inR 1 0 1000000) = true from rfl, cond_true]
    exact ⟨b3, by omega⟩
theorem IsWithinSeekBound_both (hN : 1073741824 ≤ N) {n : Int} {atoms : List QAtom} {out xs : List Int} {rs : List Rat2} {c : Int} (ha : okAtoms atoms) (ho : okI out) (hx : xs.length ≤ 1048576) (hr : ∀ v ∈ xs, in64 v) (hrs : rs.length ≤ 1048576) (hc : in64 c) :
    ∃ b, spec_IsWithinSeekBound N n atoms out xs rs c = some b ∧ impl_IsWithinSeekBound N n atoms out xs rs c = some b := by
  obtain ⟨⟨ws, d⟩, s1, s2, s3⟩ := scale_both (N := N) hN hrs
  obtain ⟨⟨p, pb⟩, p1, p2, p3, p4⟩ := prod_both (N := N) hN (xs := xs) (ks := ws) hx (fun v hv => (hr v hv).2)
  obtain ⟨⟨y, yb⟩, y1, y2, y3, y4, y5⟩ := pow_both (N := N) hN (n := c) (k := d) hc.2
  obtain ⟨⟨f, fb⟩, f1, f2, f3, _, _⟩ := pow_both (N := N) hN (n := seekB n atoms out 1) (k := d) seekB_bd.2
  obtain ⟨⟨z, zb⟩, z1, z2, z3⟩ := mul_both (N := N) hN (a := p) (b := f) p3 f3
  obtain ⟨q, q1, q2⟩ := cmp_both (N := N) hN (a := y) (b := z) y3 (by have h : z.length ≤ 60 := z3; omega)
  unfold spec_IsWithinSeekBound impl_IsWithinSeekBound
  rw [IsValidQuery_impl_eq hN ha ho, IsValidQuery_spec_eq hN ha ho, SeekBound_spec_eq hN ha ho, SeekBound_impl_eq hN ha ho, s1]
  simp only [bs]
  rw [p1, y1, f1]
  simp only [bs]
  rw [z1]
  simp only [bs]
  rw [q1]
  simp only [bs]
  have hW : impl_withinPowers N xs rs c (seekB n atoms out 1) = some (decide (0 < d) && (pb && (yb && (fb && (zb && decide (q ≤ 0)))))) := by
    unfold impl_withinPowers
    rw [s2]
    simp only [bs]
    by_cases hcn : c < 0
    · rw [decide_eq_true hcn, cond_true]
      have : yb = false := y4 hcn
      subst this; simp
    rw [decide_eq_false hcn, cond_false]
    by_cases hd : d < 1
    · rw [decide_eq_true hd, cond_true, decide_eq_false (by omega : ¬ 0 < d)]; rfl
    rw [decide_eq_false hd, cond_false]
    by_cases hd2 : 100 < d
    · rw [decide_eq_true hd2, cond_true]
      have : yb = false := y5 hd2
      subst this; simp
    rw [decide_eq_false hd2, cond_false, wp_L1 hN hx, bs]
    cases hall : xs.all (fun v => !decide (v < 0)) with
    | false =>
      have : pb = false := by
        rw [← Bool.not_eq_true]
        intro hpb
        have h5 := p4 hpb
        rw [← Bool.not_eq_true, List.all_eq_true] at hall
        exact hall fun v hv => by have := h5 v hv; simp; omega
      subst this
      rw [cond_false, lpSl]; simp
    | true =>
      rw [cond_true, lpSr, y2, bs, p2, bs, f2, bs, z2, bs, decide_eq_true (by omega : 0 < d)]
      simp only [q2, bs]
      cases yb <;> cases pb <;> cases fb <;> cases zb <;> rfl
  rw [hW]
  cases queryOk n atoms out with
  | false =>
    refine ⟨false, ?_, rfl⟩
    cases decide (0 < d) <;> cases pb <;> cases yb <;> cases fb <;> cases zb <;> rfl
  | true =>
    refine ⟨_, ?_, rfl⟩
    cases decide (0 < d) <;> cases pb <;> cases yb <;> cases fb <;> cases zb <;> rfl
end
end Go.Proofs.Ytkpeabpdiffjhaa
