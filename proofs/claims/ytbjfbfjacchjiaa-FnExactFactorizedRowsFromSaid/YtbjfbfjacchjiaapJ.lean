/- Plain laws: a row's place among the rows of a factorization, both sides. -/
import Derived.Test.YtbjfbfjacchjiaapI
namespace Go.Proofs.Ytbjfbfjacchjiaa
open Go.RowKit

section
variable {N : Nat}
theorem rankIn_L1_eq {rec : (List Int) → (List (List Int × List Int)) → (List Int) → Int → (List Int) → Option (Int × Bool)} {order : List Int} {nodes : List FNode} {c : List Int} (hc : cntOk c) (hcl : c.length = nodes.length) {x : FNode} {v : Int} {vs : List Int} (hl : x.1.length = x.2.length) (hx1 : x.1.length ≤ 1048576) (ha : asc x.1 = true) (hch : ∀ j, j < x.2.length → 0 ≤ x.2.getD j 0 ∧ x.2.getD j 0 < nodes.length) :
    ∀ (n j k : Nat) (s : Int), j + n = x.1.length → n < k → 0 ≤ s → s ≤ j * 1000000000 →
      impl_rankIn_L1 rec N k c (v :: vs) order nodes x.1 x.2 s x.1 (x.1.length : Int) (j : Int) =
        if (scan c x v j n (s, -1)).2 < 0 then some (.inr ((scan c x v j n (s, -1)).1, (x.1.length : Int)))
        else (rec order nodes c (scan c x v j n (s, -1)).2 vs).bind fun r => (ad (scan c x v j n (s, -1)).1 r.1).bind fun z => some (.inl (z, r.2)) := by
  intro n
  induction n with
  | zero =>
    intro j k s hj hk h0 h1
    obtain ⟨k, rfl⟩ : ∃ k', k = k' + 1 := ⟨k - 1, by omega⟩
    obtain rfl : j = x.1.length := by omega
    rw [impl_rankIn_L1, dge (by omega), cond_false, show scan c x v x.1.length 0 (s, -1) = (s, -1) from rfl, if_pos (show (s, (-1 : Int)).2 < 0 from (by decide : (-1 : Int) < 0))]
  | succ n ih =>
    intro j k s hj hk h0 h1
    obtain ⟨k, rfl⟩ : ∃ k', k = k' + 1 := ⟨k - 1, by omega⟩
    have hlt : j < x.1.length := by omega
    obtain ⟨q1, q2⟩ := hch j (by omega)
    have hb := cnt_bd hc (x.2.getD j 0).toNat
    have e1 : ix x.1 (j : Int) = some (x.1.getD j 0) := by rw [ix_nat hlt, getD_at]
    have e3 : ix x.2 (j : Int) = some (x.2.getD j 0) := by rw [ix_nat (by omega), getD_at]
    have e4 : ix c (x.2.getD j 0) = some (c.getD (x.2.getD j 0).toNat 0) := by rw [ix_int q1 (by omega)]; exact congrArg some (getD_at (by omega)).symm
    have e5 : ix (v :: vs) 0 = some v := ix_nat (by simp)
    rw [impl_rankIn_L1, dlt hlt, cond_true, e1, bs, e5, bs, scan_succ]
    have past : ∀ t, v ≤ x.1.getD j 0 → scan c x v (j + 1) n t = t := fun t hv => scan_past n (j + 1) t (by omega) fun i h1 h2 => by
      have := asc_lt x.1 ha j i (by omega) h2
      omega
    by_cases hv : x.1.getD j 0 < v
    · have hst : scanSt c x v (s, -1) j = (s + c.getD (x.2.getD j 0).toNat 0, -1) := by
        unfold scanSt
        rw [if_pos hv, if_neg (show ¬ x.1.getD j 0 = v by omega)]
      rw [hst, decide_eq_true hv, cond_true, e3, bs, e4, bs, ad_ok (by omega) (by omega), bs, bs, beqD, decide_eq_false (by omega), cond_false, ad1 (by omega), bs, ih (j + 1) k _ (by omega) (by omega) (by omega) (by omega)]
    · rw [decide_eq_false hv, cond_false, bs, beqD]
      by_cases he : x.1.getD j 0 = v
      · have hs : slc (v :: vs) 1 ((v :: vs).length : Int) = some vs := by
          have := slc_ok (xs := v :: vs) (lo := 1) (hi := (v :: vs).length) (by simp) (by omega)
          rw [List.take_length] at this
          exact this
        have hst : scanSt c x v (s, -1) j = (s, x.2.getD j 0) := by
          unfold scanSt
          rw [if_neg hv, if_pos he]
        rw [decide_eq_true he, cond_true, e3, bs, hs, bs, past _ (by omega), hst, if_neg (show ¬ (s, x.2.getD j 0).2 < 0 from (by omega : ¬ x.2.getD j 0 < 0))]
      · have hst : scanSt c x v (s, -1) j = (s, -1) := by
          unfold scanSt
          rw [if_neg hv, if_neg he]
        rw [hst, decide_eq_false he, cond_false, ad1 (by omega), bs, ih (j + 1) k _ (by omega) (by omega) (by omega) (by omega)]
theorem rankIn_eq {order : List Int} {nodes : List FNode} {far c : List Int} (V : VF order.length nodes far) (hn : okN nodes) (hc : cntOk c) (hcl : c.length = nodes.length) : ∀ (vs : List Int) (nd : Int) (M : Nat), vs.length + 1048578 ≤ M → okD nodes nd → (vs.length : Int) = far.getD nd.toNat 0 →
    impl_rankIn M order nodes c nd vs = some (rk nodes c vs nd) := by
  intro vs
  induction vs with
  | nil =>
    intro nd M hM hnd hf
    obtain ⟨M, rfl⟩ : ∃ k', M = k' + 1 := ⟨M - 1, by omega⟩
    have h1 := hnd.1.1; have h2 := hnd.1.2
    have hz : nd = 0 := by
      rcases hnd.2 with h | h
      · exact h
      · by_cases hz : nd = 0
        · exact hz
        · exfalso
          have hne := h
          rcases (V.node (i := nd.toNat) (by omega) (by omega)).2.2 with ⟨g, _⟩ | ⟨_, g⟩
          · exact hne g
          · have hl := V.lens (i := nd.toNat) (by omega)
            have hpos := List.length_pos_iff.2 hne
            obtain ⟨g1, g2, g3⟩ := g 0 (by omega)
            have hfar : ∀ (m j : Nat), j < m → j < nodes.length → 0 ≤ far.getD j 0 := by
              intro m
              induction m with
              | zero => intro j h; omega
              | succ m ihm =>
                intro j h hjl
                by_cases hj0 : j = 0
                · subst hj0; rw [V.f0]; omega
                · rcases (V.node (i := j) (by omega) hjl).2.2 with ⟨_, _, q⟩ | ⟨q, q2⟩
                  · rw [q]; omega
                  · have hl2 := V.lens hjl
                    have := List.length_pos_iff.2 q
                    obtain ⟨r1, r2, r3⟩ := q2 0 (by omega)
                    have := ihm ((nodes.getD j ([], [])).2.getD 0 0).toNat (by omega) (by omega)
                    omega
            have := hfar nodes.length ((nodes.getD nd.toNat ([], [])).2.getD 0 0).toNat (by omega) (by omega)
            simp only [List.length_nil] at hf
            omega
    subst hz
    rw [impl_rankIn]; rfl
  | cons v vs ih =>
    intro nd M hM hnd hf
    obtain ⟨M, rfl⟩ : ∃ k', M = k' + 1 := ⟨M - 1, by omega⟩
    have h1 := hnd.1.1; have h2 := hnd.1.2
    have hle := V.le
    simp only [List.length_cons] at hM hf
    have hz : nd ≠ 0 := by
      rintro rfl
      have := V.f0
      simp only [Int.toNat_zero] at hf
      omega
    have hne := hnd.2.resolve_left hz
    have hni : nd.toNat < nodes.length := by omega
    have hl := V.lens hni
    have hkx := okN_at hn hni
    rw [← getN_at hni] at hkx
    have hch := fun j hj => V.ch hni (j := j) hj
    have hx1 := hkx.1.1
    have hasc := V.asc hni
    have hfar : ∀ j, j < (nodes.getD nd.toNat ([], [])).2.length → far.getD ((nodes.getD nd.toNat ([], [])).2.getD j 0).toNat 0 + 1 = far.getD nd.toNat 0 := by
      rcases (V.node (i := nd.toNat) (by omega) hni).2.2 with ⟨g, _⟩ | ⟨_, g⟩
      · exact absurd g hne
      · exact fun j hj => (g j hj).2.2
    rw [impl_rankIn, show (nd == 0) = false by simp [hz], cond_false, ixN hnd.1, bs]
    unfold rk
    simp only []
    generalize nodes.getD nd.toNat ([], []) = x at *
    have hL := rankIn_L1_eq (rec := impl_rankIn M) (N := M) (order := order) (v := v) (vs := vs) hc hcl hl hx1 hasc (fun j hj => by have := hch j hj; omega) x.1.length 0 M 0 (by omega) (by omega) (by omega) (by omega)
    have hL' : impl_rankIn_L1 (impl_rankIn M) M M c (v :: vs) order nodes x.1 x.2 0 x.1 (x.1.length : Int) 0 = _ := hL
    rw [hL']
    obtain ⟨g1, g2, g3⟩ := scan_bd hc (v := v) hch hl x.1.length 0 (0, -1) (by omega) (.inl rfl)
    -- where it leads
    have hto : ¬ (scan c x v 0 x.1.length (0, -1)).2 < 0 → far.getD (scan c x v 0 x.1.length (0, -1)).2.toNat 0 + 1 = far.getD nd.toNat 0 := by
      have : ∀ n i t, i + n = x.1.length → (¬ t.2 < 0 → far.getD t.2.toNat 0 + 1 = far.getD nd.toNat 0) → ¬ (scan c x v i n t).2 < 0 → far.getD (scan c x v i n t).2.toNat 0 + 1 = far.getD nd.toNat 0 := by
        intro n
        induction n with
        | zero => intro i t _ h; exact h
        | succ n ihn =>
          intro i t hi h
          rw [scan_succ]
          refine ihn (i + 1) _ (by omega) ?_
          unfold scanSt
          simp only []
          split
          · intro _; exact hfar i (by omega)
          · exact h
      exact this x.1.length 0 (0, -1) (by omega) (fun h => absurd (by decide) h)
    generalize scan c x v 0 x.1.length (0, -1) = t at *
    simp only [] at g1 g2
    by_cases ht : t.2 < 0
    · rw [if_pos ht, bs, if_pos ht]; rfl
    · rw [if_neg ht, if_neg ht]
      have hin : inN nodes t.2 := ⟨by omega, by omega⟩
      have hbd := rk_bd V hn hc vs t.2 hin
      rw [ih t.2 M (by omega) (okD_ch V hnd.1 (by omega) (by omega)) (by have := hto ht; omega), bs, ad_ok (by omega) (by omega), bs, bs]
      rfl
theorem FactorizedRank_spec_eq (hN : 1073741824 ≤ N) {order : List Int} {nodes : List FNode} {vs : List Int} (ho : okI order) (hn : okN nodes) (hv : okI vs) : spec_FactorizedRank N order nodes vs = some (rankV order nodes vs) := by
  unfold spec_FactorizedRank rankV
  rw [IsValidFactorization_spec_eq hN ho hn, bs]
  cases hval : validF order nodes
  · rfl
  obtain ⟨far, V⟩ := vf_of hval
  have hp := V.pos
  have hle := V.le
  have hl := hn.1
  have hvl := hv.1
  obtain ⟨hcl, hco⟩ := cnts_ok nodes nodes.length hp
  rw [cond_true, cond_true]
  by_cases hlen : vs.length = order.length
  case neg => rw [lenNe' hlen, cond_true, if_neg hlen]
  rw [show ((vs.length : Int) != (order.length : Int)) = false by simp [hlen], cond_false, if_pos hlen, l23Counts_eq hN hn V, bs, sb_ok (by omega) (by omega), bs, show ((nodes.length : Int) - 1) = ((nodes.length - 1 : Nat) : Int) by omega]
  have hin : inN nodes ((nodes.length - 1 : Nat) : Int) := ⟨by omega, by omega⟩
  obtain ⟨nd', hL⟩ := rank_L1_eq hN V hn hv hco hcl vs.length 0 N 0 ((nodes.length - 1 : Nat) : Int) (by omega) (by omega) hin (by omega) (by omega)
  have hL' : spec_FactorizedRank_L1 N N vs order nodes (cnts nodes nodes.length) 0 ((nodes.length - 1 : Nat) : Int) 0 = _ := hL
  rw [hL', bs]
  simp only [List.drop_zero, Int.zero_add]
  have hxl : nodes[nodes.length - 1]'(by omega) = nodes.getD (nodes.length - 1) ([], []) := (getN_at (by omega)).symm
  by_cases hlast : 1 < nodes.length ∧ (nodes.getD (nodes.length - 1) ([], [])).1 = []
  · rw [if_pos hlast]
    have hrk : rk nodes (cnts nodes nodes.length) vs ((nodes.length - 1 : Nat) : Int) = (0, decide (vs = [])) := by
      cases vs with
      | nil => rfl
      | cons v vs =>
        unfold rk
        simp only [Int.toNat_natCast]
        rw [hlast.2]; rfl
    rw [hrk]
    cases vs with
    | cons v vs => rfl
    | nil =>
      simp only [decide_true, if_true, lpS]
      rw [decide_eq_true (by omega : (1 : Int) < (nodes.length : Int)), cond_true, bs, ix_nat (by omega), bs, hxl, hlast.2]
      rw [show ((nodes.length : Int) == 1) = false by simp; omega]
      rfl
  · rw [if_neg hlast]
    generalize hr : rk nodes (cnts nodes nodes.length) vs ((nodes.length - 1 : Nat) : Int) = r
    obtain ⟨q, b⟩ := r
    cases b
    · simp only [Bool.false_eq_true, if_false, lpS]
    · simp only [if_true, lpS]
      by_cases h1 : 1 < nodes.length
      · have hne : (nodes.getD (nodes.length - 1) ([], [])).1 ≠ [] := fun e => hlast ⟨h1, e⟩
        have := List.length_pos_iff.2 hne
        rw [decide_eq_true (by omega : (1 : Int) < (nodes.length : Int)), cond_true, bs, ix_nat (by omega), bs, hxl, decide_eq_true (by omega), cond_true]
      · rw [decide_eq_false (by omega : ¬ (1 : Int) < (nodes.length : Int)), cond_false, show ((nodes.length : Int) == 1) = true by simp; omega]
theorem FactorizedRank_impl_eq (hN : 1073741824 ≤ N) {order : List Int} {nodes : List FNode} {vs : List Int} (ho : okI order) (hn : okN nodes) (hv : okI vs) : impl_FactorizedRank N order nodes vs = some (rankV order nodes vs) := by
  unfold impl_FactorizedRank rankV
  rw [IsValidFactorization_impl_eq hN ho hn, bs]
  cases hval : validF order nodes
  · rfl
  obtain ⟨far, V⟩ := vf_of hval
  have hp := V.pos
  have hle := V.le
  have hl := hn.1
  have hvl := hv.1
  obtain ⟨hcl, hco⟩ := cnts_ok nodes nodes.length hp
  rw [cond_true, cond_true]
  by_cases hlen : vs.length = order.length
  case neg => rw [lenNe' hlen, cond_true, if_neg hlen]
  rw [show ((vs.length : Int) != (order.length : Int)) = false by simp [hlen], cond_false, if_pos hlen, counts_eq hN hn V, bs, hcl, sb_ok (by omega) (by omega), bs, show ((nodes.length : Int) - 1) = ((nodes.length - 1 : Nat) : Int) by omega, ix_nat (by omega), bs]
  rw [show (cnts nodes nodes.length)[nodes.length - 1]'(by omega) = (cnts nodes nodes.length).getD (nodes.length - 1) 0 from (getD_at (by omega)).symm]
  by_cases hlast : 1 < nodes.length ∧ (nodes.getD (nodes.length - 1) ([], [])).1 = []
  · rw [if_pos hlast, cnts_get nodes _ _ (by omega) (by omega)]
    have h2 := V.lens (i := nodes.length - 1) (by omega)
    rw [hlast.2] at h2
    rw [List.length_eq_zero_iff.1 h2.symm]
    rfl
  · rw [if_neg hlast]
    have hok : nodes.length - 1 = 0 ∨ (nodes.getD (nodes.length - 1) ([], [])).1 ≠ [] := by
      by_cases h : nodes.length - 1 = 0
      · exact .inl h
      · exact .inr fun e => hlast ⟨by omega, e⟩
    have hpos := cnts_pos V (nodes.length - 1) (by omega) hok
    rw [show ((cnts nodes nodes.length).getD (nodes.length - 1) 0 == 0) = false by simp only [beq_eq_false_iff_ne]; omega, cond_false, bs]
    have hokd : okD nodes ((nodes.length - 1 : Nat) : Int) := by
      refine ⟨⟨by omega, by omega⟩, ?_⟩
      rcases hok with h | h
      · exact .inl (by omega)
      · exact .inr (by rw [Int.toNat_natCast]; exact h)
    rw [rankIn_eq V hn hco hcl vs ((nodes.length - 1 : Nat) : Int) N (by omega) hokd (by rw [Int.toNat_natCast, V.last, hlen]), bs]
theorem FactorizationContains_spec_eq (hN : 1073741824 ≤ N) {order : List Int} {nodes : List FNode} {vs : List Int} (ho : okI order) (hn : okN nodes) (hv : okI vs) : spec_FactorizationContains N order nodes vs = some (rankV order nodes vs).2 := by
  unfold spec_FactorizationContains
  rw [FactorizedRank_spec_eq hN ho hn hv, bs]
theorem FactorizationContains_impl_eq (hN : 1073741824 ≤ N) {order : List Int} {nodes : List FNode} {vs : List Int} (ho : okI order) (hn : okN nodes) (hv : okI vs) : impl_FactorizationContains N order nodes vs = some (rankV order nodes vs).2 := by
  unfold impl_FactorizationContains
  rw [FactorizedRank_impl_eq hN ho hn hv, bs]
end
end Go.Proofs.Ytbjfbfjacchjiaa
