/- Plain laws: the row at a place. -/
import Derived.Test.YtbjfbfjacchjiaapJ
namespace Go.Proofs.Ytbjfbfjacchjiaa
open Go.RowKit

def sumC (c : List Int) : List Int → Int
  | [] => 0
  | ch :: l => c.getD ch.toNat 0 + sumC c l
def skipC (c : List Int) : List Int → Int → Nat → Int × Nat
  | [], k, j => (k, j)
  | ch :: l, k, j => if c.getD ch.toNat 0 ≤ k then skipC c l (k - c.getD ch.toNat 0) (j + 1) else (k, j)
def rowGo (nodes : List FNode) (c : List Int) : Nat → Int → List Int → Nat → List Int
  | 0, _, row, _ => row
  | f + 1, k, row, i => if 0 < i then
      rowGo nodes c f (skipC c (nodes.getD i ([], [])).2 k 0).1 (row ++ [(nodes.getD i ([], [])).1.getD (skipC c (nodes.getD i ([], [])).2 k 0).2 0]) ((nodes.getD i ([], [])).2.getD (skipC c (nodes.getD i ([], [])).2 k 0).2 0).toNat
    else row
theorem cfold_le (c : List Int) (l : List Int) : ∀ s : Int, l.foldl (cStep c) s ≤ s + sumC c l := by
  induction l with
  | nil => intro s; simp [sumC]
  | cons x l ih =>
    intro s
    have := ih (cStep c s x)
    rw [List.foldl_cons, sumC]
    have h2 : cStep c s x ≤ s + c.getD x.toNat 0 := by unfold cStep; rw [imn_eq]; split <;> omega
    omega
theorem sumC_congr {c c' : List Int} : ∀ (l : List Int), (∀ j, j < l.length → c.getD (l.getD j 0).toNat 0 = c'.getD (l.getD j 0).toNat 0) → sumC c l = sumC c' l
  | [], _ => rfl
  | x :: l, h => by
    unfold sumC
    rw [sumC_congr l fun j hj => by have := h (j + 1) (by simpa using hj); simpa using this]
    have := h 0 (by simp)
    rw [show c.getD x.toNat 0 = c'.getD x.toNat 0 by simpa using this]
theorem skipC_ok (c : List Int) : ∀ (l : List Int) (k : Int) (j : Nat), 0 ≤ k → k < sumC c l →
    j ≤ (skipC c l k j).2 ∧ (skipC c l k j).2 < j + l.length ∧ 0 ≤ (skipC c l k j).1 ∧ (skipC c l k j).1 < c.getD (l.getD ((skipC c l k j).2 - j) 0).toNat 0
  | [], k, j, h0, h1 => by simp [sumC] at h1; omega
  | x :: l, k, j, h0, h1 => by
    unfold sumC at h1
    unfold skipC
    by_cases h : c.getD x.toNat 0 ≤ k
    · rw [if_pos h]
      obtain ⟨g1, g2, g3, g4⟩ := skipC_ok c l (k - c.getD x.toNat 0) (j + 1) (by omega) (by omega)
      refine ⟨by omega, by rw [List.length_cons]; omega, g3, ?_⟩
      rw [show (skipC c l (k - c.getD x.toNat 0) (j + 1)).2 - j = ((skipC c l (k - c.getD x.toNat 0) (j + 1)).2 - (j + 1)) + 1 by omega, List.getD_cons_succ]
      exact g4
    · rw [if_neg h]
      simp only [Nat.le_refl, Nat.sub_self, List.length_cons, List.getD_cons_zero, true_and]
      omega
/-- below a node of a valid factorization there are no more rows than below its children -/
theorem cnt_sum {olen : Nat} {nodes : List FNode} {far : List Int} (V : VF olen nodes far) {i : Nat} (h1 : 1 ≤ i) (h2 : i < nodes.length) :
    (cnts nodes nodes.length).getD i 0 ≤ sumC (cnts nodes nodes.length) (nodes.getD i ([], [])).2 := by
  rw [cnts_get nodes nodes.length i h1 h2]
  have := cfold_le (cnts nodes i) (nodes.getD i ([], [])).2 0
  have e : sumC (cnts nodes i) (nodes.getD i ([], [])).2 = sumC (cnts nodes nodes.length) (nodes.getD i ([], [])).2 :=
    sumC_congr _ fun j hj => by
      have := V.ch h2 hj
      exact (cnts_pre nodes nodes.length i _ h1 (by omega) (by omega)).symm
  omega
def rowAtV (order : List Int) (nodes : List FNode) (k : Int) : List Int × Bool :=
  bif inR k 0 (rowCount order nodes - 1) then (rowGo nodes (cnts nodes nodes.length) nodes.length k [] (nodes.length - 1), true) else ([], false)
theorem rowGo_len (nodes : List FNode) (c : List Int) : ∀ (f : Nat) (k : Int) (row : List Int) (i : Nat), (rowGo nodes c f k row i).length ≤ row.length + f
  | 0, _, row, _ => by simp [rowGo]
  | f + 1, k, row, i => by
    unfold rowGo
    split
    · have := rowGo_len nodes c f (skipC c (nodes.getD i ([], [])).2 k 0).1 (row ++ [(nodes.getD i ([], [])).1.getD (skipC c (nodes.getD i ([], [])).2 k 0).2 0]) ((nodes.getD i ([], [])).2.getD (skipC c (nodes.getD i ([], [])).2 k 0).2 0).toNat
      rw [List.length_append, List.length_singleton] at this; omega
    · omega
theorem rowAtV_len {order : List Int} {nodes : List FNode} (hn : okN nodes) (k : Int) : okI (rowAtV order nodes k).1 := by
  refine ⟨?_, fun _ _ => trivial⟩
  have hl := hn.1
  unfold rowAtV
  cases inR k 0 (rowCount order nodes - 1)
  · simp
  · have := rowGo_len nodes (cnts nodes nodes.length) nodes.length k [] (nodes.length - 1)
    simp only [cond_true, List.length_nil] at this ⊢; omega
theorem rowCount_bd {order : List Int} {nodes : List FNode} : 0 ≤ rowCount order nodes ∧ rowCount order nodes ≤ 1000000000 := by
  unfold rowCount
  cases hv : validF order nodes
  · simp
  · obtain ⟨far, V⟩ := vf_of hv
    exact cnt_bd (cnts_ok nodes nodes.length V.pos).2 _
theorem ad_ok9 {a b : Int} (h : 0 ≤ a + b) (h2 : a + b ≤ 9000000000000000000) : ad a b = some (a + b) := by unfold ad; rw [if_pos]; unfold rng; simp only [Bool.and_eq_true, decide_eq_true_eq]; omega
section
variable {N : Nat}
theorem skipImpl {order row vals : List Int} {nodes : List FNode} {c : List Int} (hc : cntOk c) {ch : List Int} (hl : ch.length ≤ 1048576) (hin : ∀ j, j < ch.length → 0 ≤ ch.getD j 0 ∧ ch.getD j 0 < c.length) : ∀ (m j fuel : Nat) (k : Int), j + m = ch.length → m < fuel → 0 ≤ k → k ≤ 1000000000 → k < sumC c (ch.drop j) →
    impl_FactorizedRowAt_L2 N fuel k order nodes c row vals ch (j : Int) = some ((skipC c (ch.drop j) k j).1, ((skipC c (ch.drop j) k j).2 : Int)) := by
  intro m
  induction m with
  | zero => intro j fuel k h1 h2 h3 h4 h5; rw [List.drop_of_length_le (by omega)] at h5; simp [sumC] at h5; omega
  | succ m ih =>
    intro j fuel k h1 h2 h3 h4 h5
    obtain ⟨fuel, rfl⟩ : ∃ f, fuel = f + 1 := ⟨fuel - 1, by omega⟩
    have hj : j < ch.length := by omega
    obtain ⟨q1, q2⟩ := hin j hj
    have hb := cnt_bd hc (ch.getD j 0).toNat
    rw [drop_cons hj] at h5 ⊢
    rw [← getD_at hj] at h5 ⊢
    unfold sumC at h5
    rw [impl_FactorizedRowAt_L2, ix_nat hj, bs, ← getD_at hj, ix_int q1 q2, bs, ← getD_at (by omega), skipC]
    by_cases h : c.getD (ch.getD j 0).toNat 0 ≤ k
    · rw [decide_eq_true h, cond_true, if_pos h, bs, ix_int q1 q2, bs, ← getD_at (by omega), sb_ok (by omega) (by omega), bs, ad1 (by omega), bs]
      exact ih (j + 1) fuel _ (by omega) (by omega) (by omega) (by omega) (by omega)
    · rw [decide_eq_false h, cond_false, if_neg h]
theorem skipSpec {order row : List Int} {nodes : List FNode} {c : List Int} (hc : cntOk c) {i : Nat} {x : FNode} (hi : i < nodes.length) (hx : nodes[i] = x) (hl : x.2.length ≤ 1048576) (hin : ∀ j, j < x.2.length → 0 ≤ x.2.getD j 0 ∧ x.2.getD j 0 < c.length) : ∀ (m j fuel : Nat) (k : Int), j + m = x.2.length → m < fuel → 0 ≤ k → k ≤ 1000000000 → k < sumC c (x.2.drop j) →
    spec_FactorizedRowAt_L2 N fuel k order nodes c row (i : Int) (j : Int) = some ((skipC c (x.2.drop j) k j).1, ((skipC c (x.2.drop j) k j).2 : Int)) := by
  intro m
  induction m with
  | zero => intro j fuel k h1 h2 h3 h4 h5; rw [List.drop_of_length_le (by omega)] at h5; simp [sumC] at h5; omega
  | succ m ih =>
    intro j fuel k h1 h2 h3 h4 h5
    obtain ⟨fuel, rfl⟩ : ∃ f, fuel = f + 1 := ⟨fuel - 1, by omega⟩
    have hj : j < x.2.length := by omega
    obtain ⟨q1, q2⟩ := hin j hj
    have hb := cnt_bd hc (x.2.getD j 0).toNat
    rw [drop_cons hj] at h5 ⊢
    rw [← getD_at hj] at h5 ⊢
    unfold sumC at h5
    rw [spec_FactorizedRowAt_L2, ix_nat hi, bs, hx, ix_nat hj, bs, ← getD_at hj, ix_int q1 q2, bs, ← getD_at (by omega), skipC]
    by_cases h : c.getD (x.2.getD j 0).toNat 0 ≤ k
    · rw [decide_eq_true h, cond_true, if_pos h, bs, ix_nat hj, bs, ← getD_at hj, ix_int q1 q2, bs, ← getD_at (by omega), sb_ok (by omega) (by omega), bs, ad1 (by omega), bs]
      exact ih (j + 1) fuel _ (by omega) (by omega) (by omega) (by omega) (by omega)
    · rw [decide_eq_false h, cond_false, if_neg h]
theorem rowL1Impl (hN : 1073741824 ≤ N) {order : List Int} {nodes : List FNode} {far : List Int} (V : VF order.length nodes far) (hn : okN nodes) : ∀ (b i : Nat), i < b → ∀ (k : Int) (row : List Int) (f fuel : Nat), i < nodes.length → i < f → i < fuel → row.length + i ≤ nodes.length → 0 ≤ k → k < (cnts nodes nodes.length).getD i 0 →
    ∃ kf, impl_FactorizedRowAt_L1 N fuel k order nodes (cnts nodes nodes.length) row (i : Int) = some (kf, rowGo nodes (cnts nodes nodes.length) f k row i, 0) := by
  have hc := (cnts_ok nodes nodes.length V.pos).2
  have hcl := (cnts_ok nodes nodes.length V.pos).1
  have hl := hn.1
  intro b
  induction b with
  | zero => intro i h; omega
  | succ b ih =>
    intro i hib k row f fuel hi hf hfu hrow h0 hk
    obtain ⟨f, rfl⟩ : ∃ f', f = f' + 1 := ⟨f - 1, by omega⟩
    obtain ⟨fuel, rfl⟩ : ∃ f', fuel = f' + 1 := ⟨fuel - 1, by omega⟩
    rw [impl_FactorizedRowAt_L1, rowGo]
    by_cases hz : 0 < i
    · have hkk := okN_at hn hi
      have hch := fun j hj => V.ch hi (j := j) hj
      have hln := V.lens hi
      have hs := cnt_sum V hz hi
      have hbk := cnt_bd hc i
      have ht := fun r h => ih r h
      rw [← getN_at hi] at hkk
      rw [decide_eq_true (by omega : (0 : Int) < (i : Int)), cond_true, if_pos hz, ix_nat hi, bs, ← getN_at hi]
      generalize nodes.getD i ([], []) = x at *
      have hxl := hkk.2.1
      have h2 := skipImpl (N := N) (order := order) (row := row) (vals := x.1) (nodes := nodes) hc hxl (fun j hj => by have := hch j hj; omega) x.2.length 0 N k (by omega) (by omega) h0 (by omega) (by simpa using (by omega : k < sumC (cnts nodes nodes.length) x.2))
      rw [List.drop_zero] at h2
      obtain ⟨g1, g2, g3, g4⟩ := skipC_ok (cnts nodes nodes.length) x.2 k 0 h0 (by omega)
      rw [show (0 : Int) = ((0 : Nat) : Int) from rfl, h2, bs, lpB]
      simp only []
      generalize skipC (cnts nodes nodes.length) x.2 k 0 = s at *
      rw [Nat.sub_zero] at g4
      have hs2 : s.2 < x.2.length := by omega
      obtain ⟨q1, q2⟩ := hch s.2 hs2
      rw [ix_nat (by omega), bs, apd_ok' (by decide) (by simp; omega), bs, ix_nat hs2, bs, ← getD_at hs2, ← getD_at (by omega : s.2 < x.1.length)]
      obtain ⟨kf, e⟩ := ht (x.2.getD s.2 0).toNat (by omega) s.1 (row ++ [x.1.getD s.2 0]) f fuel (by omega) (by omega) (by omega) (by rw [List.length_append, List.length_singleton]; omega) g3 g4
      rw [Int.toNat_of_nonneg q1] at e
      exact ⟨kf, e⟩
    · rw [decide_eq_false (by omega), cond_false, if_neg hz]
      exact ⟨k, by rw [show (i : Int) = 0 by omega]⟩
theorem rowL1Spec (hN : 1073741824 ≤ N) {order : List Int} {nodes : List FNode} {far : List Int} (V : VF order.length nodes far) (hn : okN nodes) : ∀ (b i : Nat), i < b → ∀ (k : Int) (row : List Int) (f fuel : Nat), i < nodes.length → i < f → i < fuel → row.length + i ≤ nodes.length → 0 ≤ k → k < (cnts nodes nodes.length).getD i 0 →
    ∃ kf, spec_FactorizedRowAt_L1 N fuel k order nodes (cnts nodes nodes.length) row (i : Int) = some (kf, rowGo nodes (cnts nodes nodes.length) f k row i, 0) := by
  have hc := (cnts_ok nodes nodes.length V.pos).2
  have hcl := (cnts_ok nodes nodes.length V.pos).1
  have hl := hn.1
  intro b
  induction b with
  | zero => intro i h; omega
  | succ b ih =>
    intro i hib k row f fuel hi hf hfu hrow h0 hk
    obtain ⟨f, rfl⟩ : ∃ f', f = f' + 1 := ⟨f - 1, by omega⟩
    obtain ⟨fuel, rfl⟩ : ∃ f', fuel = f' + 1 := ⟨fuel - 1, by omega⟩
    rw [spec_FactorizedRowAt_L1, rowGo]
    by_cases hz : 0 < i
    · have hkk := okN_at hn hi
      have hch := fun j hj => V.ch hi (j := j) hj
      have hln := V.lens hi
      have hs := cnt_sum V hz hi
      have hbk := cnt_bd hc i
      have ht := fun r h => ih r h
      have hxe : nodes[i] = nodes.getD i ([], []) := (getN_at hi).symm
      rw [← getN_at hi] at hkk
      rw [decide_eq_true (by omega : (0 : Int) < (i : Int)), cond_true, if_pos hz]
      generalize nodes.getD i ([], []) = x at *
      have hxl := hkk.2.1
      have h2 := skipSpec (N := N) (order := order) (row := row) hc hi hxe hxl (fun j hj => by have := hch j hj; omega) x.2.length 0 N k (by omega) (by omega) h0 (by omega) (by simpa using (by omega : k < sumC (cnts nodes nodes.length) x.2))
      rw [List.drop_zero] at h2
      obtain ⟨g1, g2, g3, g4⟩ := skipC_ok (cnts nodes nodes.length) x.2 k 0 h0 (by omega)
      rw [show (0 : Int) = ((0 : Nat) : Int) from rfl, h2, bs, lpB]
      simp only []
      generalize skipC (cnts nodes nodes.length) x.2 k 0 = s at *
      rw [Nat.sub_zero] at g4
      have hs2 : s.2 < x.2.length := by omega
      obtain ⟨q1, q2⟩ := hch s.2 hs2
      rw [ix_nat hi, bs, hxe, ix_nat (by omega), bs, apd_ok' (by decide) (by simp; omega), bs, bs, ix_nat hs2, bs, ← getD_at hs2, ← getD_at (by omega : s.2 < x.1.length)]
      obtain ⟨kf, e⟩ := ht (x.2.getD s.2 0).toNat (by omega) s.1 (row ++ [x.1.getD s.2 0]) f fuel (by omega) (by omega) (by omega) (by rw [List.length_append, List.length_singleton]; omega) g3 g4
      rw [Int.toNat_of_nonneg q1] at e
      exact ⟨kf, e⟩
    · rw [decide_eq_false (by omega), cond_false, if_neg hz]
      exact ⟨k, by rw [show (i : Int) = 0 by omega]⟩
theorem FactorizedRowAt_impl_eq (hN : 1073741824 ≤ N) {order : List Int} {nodes : List FNode} {k : Int} (ho : okI order) (hn : okN nodes) : impl_FactorizedRowAt N order nodes k = some (rowAtV order nodes k) := by
  unfold impl_FactorizedRowAt rowAtV
  have hb := @rowCount_bd order nodes
  rw [FactorizedRowCount_impl_eq hN ho hn, bs, sb_ok (by omega) (by omega), bs, within_eq, bs]
  cases hr : inR k 0 (rowCount order nodes - 1)
  · rfl
  have hk := inR_iff.1 hr
  rw [cond_true, cond_true]
  unfold rowCount at hk
  cases hv : validF order nodes with
  | false => rw [hv, cond_false] at hk; omega
  | true =>
  rw [hv, cond_true] at hk
  obtain ⟨far, V⟩ := vf_of hv
  have hp := V.pos
  have hl := hn.1
  have hcl := (cnts_ok nodes nodes.length hp).1
  rw [counts_eq hN hn V, bs, hcl, sb_ok (by omega) (by omega), bs, show ((nodes.length : Int) - 1) = ((nodes.length - 1 : Nat) : Int) by omega]
  obtain ⟨kf, e⟩ := rowL1Impl hN V hn nodes.length (nodes.length - 1) (by omega) k [] nodes.length N (by omega) (by omega) (by omega) (by simp) hk.1 (by omega)
  rw [e, bs, lpB]
theorem FactorizedRowAt_spec_eq (hN : 1073741824 ≤ N) {order : List Int} {nodes : List FNode} {k : Int} (ho : okI order) (hn : okN nodes) : spec_FactorizedRowAt N order nodes k = some (rowAtV order nodes k) := by
  unfold spec_FactorizedRowAt rowAtV
  have hb := @rowCount_bd order nodes
  rw [IsValidFactorization_spec_eq hN ho hn, bs]
  cases hv : validF order nodes with
  | false =>
    rw [cond_false, show inR k 0 (rowCount order nodes - 1) = false by
      rw [← Bool.not_eq_true, inR_iff]; unfold rowCount; rw [hv, cond_false]; omega]; rfl
  | true =>
  rw [cond_true, FactorizedRowCount_spec_eq hN ho hn, bs, sb_ok (by omega) (by omega), bs, l1In_eq, bs]
  cases hr : inR k 0 (rowCount order nodes - 1)
  · rfl
  have hk := inR_iff.1 hr
  rw [cond_true, cond_true]
  unfold rowCount at hk
  rw [hv, cond_true] at hk
  obtain ⟨far, V⟩ := vf_of hv
  have hp := V.pos
  have hl := hn.1
  have hcl := (cnts_ok nodes nodes.length hp).1
  rw [l23Counts_eq hN hn V, bs, sb_ok (by omega) (by omega), bs, show ((nodes.length : Int) - 1) = ((nodes.length - 1 : Nat) : Int) by omega]
  obtain ⟨kf, e⟩ := rowL1Spec hN V hn nodes.length (nodes.length - 1) (by omega) k [] nodes.length N (by omega) (by omega) (by omega) (by simp) hk.1 (by omega)
  rw [e, bs, lpB]
/-! the rows from one on -/
def rowsFromGo (order : List Int) (nodes : List FNode) : Nat → Int → Int → List (List Int) → List (List Int)
  | 0, _, _, out => out
  | f + 1, n, k, out => bif decide ((out.length : Int) < n) && (rowAtV order nodes k).2 then rowsFromGo order nodes f n (k + 1) (out ++ [(rowAtV order nodes k).1]) else out
def rowsFromV (order : List Int) (nodes : List FNode) (vs : List Int) (n : Int) : List (List Int) :=
  bif validF order nodes && decide ((vs.length : Int) = order.length) then rowsFromGo order nodes 1000000001 n (rankV order nodes vs).1 [] else []
theorem rowAtV_some {order : List Int} {nodes : List FNode} {k : Int} (h : (rowAtV order nodes k).2 = true) : 0 ≤ k ∧ k < 1000000000 := by
  unfold rowAtV at h
  cases hr : inR k 0 (rowCount order nodes - 1) with
  | false => rw [hr] at h; cases h
  | true => have := inR_iff.1 hr; have := @rowCount_bd order nodes; omega
theorem rankV_bd {order : List Int} {nodes : List FNode} {vs : List Int} (hn : okN nodes) : 0 ≤ (rankV order nodes vs).1 ∧ (rankV order nodes vs).1 ≤ 4500000000000000000 := by
  unfold rankV
  cases hv : validF order nodes with
  | false => simp
  | true =>
    obtain ⟨far, V⟩ := vf_of hv
    have hp := V.pos
    have hle := V.le
    rw [cond_true]
    split
    · split
      · simp
      · have := rk_bd V hn (cnts_ok nodes nodes.length hp).2 vs ((nodes.length - 1 : Nat) : Int) ⟨by omega, by omega⟩
        omega
    · simp
theorem rowsFrom_impl (hN : 1073741824 ≤ N) {order : List Int} {nodes : List FNode} {n R : Int} (ho : okI order) (hn : okN nodes) (hR : 0 ≤ R ∧ R ≤ 4500000000000000000) : ∀ (f fuel : Nat) (out : List (List Int)), f < fuel → (1000000000 : Int) - (R + out.length) < f → out.length ≤ 1000000000 →
    impl_FactorizedRowsFrom_L1 N fuel n order nodes R out = some (rowsFromGo order nodes f n (R + out.length) out) := by
  intro f
  induction f with
  | zero =>
    intro fuel out h1 h2 h3
    obtain ⟨fuel, rfl⟩ : ∃ f', fuel = f' + 1 := ⟨fuel - 1, by omega⟩
    rw [impl_FactorizedRowsFrom_L1, rowsFromGo]
    cases decide ((out.length : Int) < n)
    · rfl
    · rw [cond_true, ad_ok9 (by omega) (by omega), bs, FactorizedRowAt_impl_eq hN ho hn, bs]
      cases hs : (rowAtV order nodes (R + out.length)).2 with
      | false => rfl
      | true => have := rowAtV_some hs; omega
  | succ f ih =>
    intro fuel out h1 h2 h3
    obtain ⟨fuel, rfl⟩ : ∃ f', fuel = f' + 1 := ⟨fuel - 1, by omega⟩
    rw [impl_FactorizedRowsFrom_L1, rowsFromGo]
    cases decide ((out.length : Int) < n)
    · rfl
    · rw [cond_true, ad_ok9 (by omega) (by omega), bs, FactorizedRowAt_impl_eq hN ho hn, bs, Bool.true_and]
      cases hs : (rowAtV order nodes (R + out.length)).2 with
      | false => rfl
      | true =>
        have := rowAtV_some hs
        rw [cond_true, cond_true, apd_ok' (by decide) (by simp; omega), bs]
        have := ih fuel (out ++ [(rowAtV order nodes (R + out.length)).1]) (by omega) (by simp; omega) (by simp; omega)
        rw [this]; congr 2; simp; omega
theorem rowsFrom_spec (hN : 1073741824 ≤ N) {order vs : List Int} {nodes : List FNode} {n R : Int} (ho : okI order) (hn : okN nodes) (hv : validF order nodes = true) (hvl : vs.length = order.length) (hR : 0 ≤ R ∧ R ≤ 4500000000000000000) : ∀ (f fuel : Nat) (out : List (List Int)), f < fuel → (1000000000 : Int) - (R + out.length) < f → out.length ≤ 1000000000 →
    ∃ kf, spec_FactorizedRowsFrom_L1 N fuel vs n order nodes out (R + out.length) = some (rowsFromGo order nodes f n (R + out.length) out, kf) := by
  intro f
  induction f with
  | zero =>
    intro fuel out h1 h2 h3
    obtain ⟨fuel, rfl⟩ : ∃ f', fuel = f' + 1 := ⟨fuel - 1, by omega⟩
    rw [spec_FactorizedRowsFrom_L1, rowsFromGo, IsValidFactorization_spec_eq hN ho hn, bs, hv, cond_true, show ((vs.length : Int) == (order.length : Int)) = true by simp [hvl], cond_true]
    cases decide ((out.length : Int) < n)
    · exact ⟨_, rfl⟩
    · rw [cond_true, FactorizedRowAt_spec_eq hN ho hn, bs]
      cases hs : (rowAtV order nodes (R + out.length)).2 with
      | false => exact ⟨_, rfl⟩
      | true => have := rowAtV_some hs; omega
  | succ f ih =>
    intro fuel out h1 h2 h3
    obtain ⟨fuel, rfl⟩ : ∃ f', fuel = f' + 1 := ⟨fuel - 1, by omega⟩
    rw [spec_FactorizedRowsFrom_L1, rowsFromGo, IsValidFactorization_spec_eq hN ho hn, bs, hv, cond_true, show ((vs.length : Int) == (order.length : Int)) = true by simp [hvl], cond_true]
    cases decide ((out.length : Int) < n)
    · exact ⟨_, rfl⟩
    · rw [cond_true, FactorizedRowAt_spec_eq hN ho hn, bs, Bool.true_and]
      cases hs : (rowAtV order nodes (R + out.length)).2 with
      | false => exact ⟨_, rfl⟩
      | true =>
        have := rowAtV_some hs
        rw [cond_true, cond_true, apd_ok' (by decide) (by simp; omega), bs, ad_ok9 (by omega) (by omega), bs]
        have := ih fuel (out ++ [(rowAtV order nodes (R + out.length)).1]) (by omega) (by simp; omega) (by simp; omega)
        rw [show R + ((out ++ [(rowAtV order nodes (R + out.length)).1]).length : Int) = R + out.length + 1 by simp; omega] at this
        exact this
theorem FactorizedRowsFrom_impl_eq (hN : 1073741824 ≤ N) {order vs : List Int} {nodes : List FNode} {n : Int} (ho : okI order) (hn : okN nodes) (hv : okI vs) : impl_FactorizedRowsFrom N order nodes vs n = some (rowsFromV order nodes vs n) := by
  unfold impl_FactorizedRowsFrom rowsFromV
  rw [IsValidFactorization_impl_eq hN ho hn, bs]
  cases hval : validF order nodes
  · rfl
  rw [cond_true]
  by_cases hl : vs.length = order.length
  case neg => rw [lenNe' hl, cond_true, decide_eq_false (by omega)]; rfl
  rw [show ((vs.length : Int) != (order.length : Int)) = false by simp [hl], cond_false, FactorizedRank_impl_eq hN ho hn hv, bs, decide_eq_true (by omega)]
  have hR := @rankV_bd order nodes vs hn
  have := rowsFrom_impl hN (n := n) ho hn hR 1000000001 N [] (by omega) (by simp; omega) (by simp)
  rw [this, bs, lpB]
  simp
theorem FactorizedRowsFrom_spec_eq (hN : 1073741824 ≤ N) {order vs : List Int} {nodes : List FNode} {n : Int} (ho : okI order) (hn : okN nodes) (hv : okI vs) : spec_FactorizedRowsFrom N order nodes vs n = some (rowsFromV order nodes vs n) := by
  unfold spec_FactorizedRowsFrom rowsFromV
  have hR := @rankV_bd order nodes vs hn
  rw [FactorizedRank_spec_eq hN ho hn hv, bs]
  by_cases hc : validF order nodes = true ∧ vs.length = order.length
  · obtain ⟨h1, h2⟩ := hc
    obtain ⟨kf, e⟩ := rowsFrom_spec hN (n := n) ho hn h1 h2 hR 1000000001 N [] (by omega) (by simp; omega) (by simp)
    simp only [List.length_nil, Int.natCast_zero, Int.add_zero] at e
    rw [e, bs, lpB, h1, decide_eq_true (by omega)]; rfl
  · have e0 : (validF order nodes && decide ((vs.length : Int) = (order.length : Int))) = false := by
      rw [Bool.eq_false_iff]; intro h; simp only [Bool.and_eq_true, decide_eq_true_eq] at h; exact hc ⟨h.1, by omega⟩
    rw [e0, cond_false, show N = (N - 1) + 1 by omega, spec_FactorizedRowsFrom_L1, show (N - 1) + 1 = N by omega, IsValidFactorization_spec_eq hN ho hn, bs]
    cases decide ((([] : List (List Int)).length : Int) < n)
    · rfl
    rw [cond_true]
    cases h1 : validF order nodes
    · rfl
    rw [show ((vs.length : Int) == (order.length : Int)) = false by simp only [beq_eq_false_iff_ne]; intro e; exact hc ⟨h1, by omega⟩]; rfl
theorem rowsFromGo_ok {order : List Int} {nodes : List FNode} {n : Int} (hn : okN nodes) : ∀ (f : Nat) (k : Int) (out : List (List Int)), (∀ r ∈ out, okI r) → (rowsFromGo order nodes f n k out).length ≤ out.length + f ∧ ∀ r ∈ rowsFromGo order nodes f n k out, okI r := by
  intro f
  induction f with
  | zero => intro k out h; exact ⟨by simp [rowsFromGo], h⟩
  | succ f ih =>
    intro k out h
    rw [rowsFromGo]
    cases decide ((out.length : Int) < n) && (rowAtV order nodes k).2
    · exact ⟨by rw [cond_false]; omega, h⟩
    · rw [cond_true]
      obtain ⟨h1, h2⟩ := ih (k + 1) (out ++ [(rowAtV order nodes k).1]) (fun r hr => by
        rcases List.mem_append.1 hr with h3 | h3
        · exact h r h3
        · simp at h3; subst h3; exact rowAtV_len hn k)
      exact ⟨by simp at h1; omega, h2⟩
theorem rowsFromV_ok {order vs : List Int} {nodes : List FNode} {n : Int} (hn : okN nodes) : AllL (AllL (fun _ => True) 1048576) 1073741823 (rowsFromV order nodes vs n) := by
  unfold rowsFromV
  cases validF order nodes && decide ((vs.length : Int) = (order.length : Int))
  · exact ⟨by simp, by simp⟩
  · rw [cond_true]
    obtain ⟨h1, h2⟩ := @rowsFromGo_ok order nodes n hn 1000000001 (rankV order nodes vs).1 [] (by simp)
    exact ⟨by simp at h1; omega, h2⟩
end
end Go.Proofs.Ytbjfbfjacchjiaa
