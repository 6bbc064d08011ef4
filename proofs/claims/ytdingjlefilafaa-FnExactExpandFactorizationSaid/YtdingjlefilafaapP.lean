/- Plain laws: all rows of a factorization. -/
import Derived.Test.YtdingjlefilafaapM
import Derived.Test.YtdingjlefilafaapO
namespace Go.Proofs.Ytdingjlefilafaa
open Go.RowKit

def upTo (F : Nat → List (List Int)) : Nat → List (List Int)
  | 0 => []
  | j + 1 => upTo F j ++ F j
def rowsOf (nodes : List FNode) : Nat → Int → List Int → List (List Int)
  | 0, _, _ => []
  | f + 1, nd, pre => if nd = 0 then [pre] else
      upTo (fun j => rowsOf nodes f ((nodes.getD nd.toNat ([], [])).2.getD j 0) (pre ++ [(nodes.getD nd.toNat ([], [])).1.getD j 0])) (nodes.getD nd.toNat ([], [])).1.length
theorem upTo_mem {F : Nat → List (List Int)} {r : List Int} : ∀ n, r ∈ upTo F n → ∃ j, j < n ∧ r ∈ F j
  | 0, h => by simp [upTo] at h
  | n + 1, h => by
    unfold upTo at h
    rcases List.mem_append.1 h with h | h
    · obtain ⟨j, h1, h2⟩ := upTo_mem n h; exact ⟨j, by omega, h2⟩
    · exact ⟨n, by omega, h⟩
theorem sumC_take {c : List Int} : ∀ (l : List Int) (j : Nat), j < l.length → sumC c (l.take (j + 1)) = sumC c (l.take j) + c.getD (l.getD j 0).toNat 0
  | [], j, h => by simp at h
  | x :: l, 0, h => by simp [sumC]
  | x :: l, j + 1, h => by
    have := sumC_take (c := c) l j (by simpa using h)
    rw [List.take_succ_cons, List.take_succ_cons, sumC, sumC, this, List.getD_cons_succ]; omega
theorem sumC_nonneg {c : List Int} (hc : cntOk c) : ∀ (l : List Int), 0 ≤ sumC c l
  | [] => by simp [sumC]
  | x :: l => by
    have := sumC_nonneg hc l
    have := cnt_bd hc x.toNat
    unfold sumC; omega
theorem sumC_le {c : List Int} (hc : cntOk c) : ∀ (l : List Int) (j : Nat), sumC c (l.take j) ≤ sumC c l
  | [], j => by simp
  | x :: l, 0 => by have := sumC_nonneg hc (x :: l); simpa [sumC] using this
  | x :: l, j + 1 => by
    have := sumC_le hc l j
    rw [List.take_succ_cons, sumC, sumC]; omega
theorem cfold_sum {c : List Int} (hc : cntOk c) (l : List Int) : ∀ s : Int, 0 ≤ s ∧ s ≤ 1000000000 → l.foldl (cStep c) s < 1000000000 → l.foldl (cStep c) s = s + sumC c l := by
  induction l with
  | nil => intro s _ _; simp [sumC]
  | cons x l ih =>
    intro s hs h
    rw [List.foldl_cons] at h ⊢
    have hb := cStep_bd hc (ch := x) hs
    have hx := cnt_bd hc x.toNat
    have h1 := ih _ hb h
    have h0 := sumC_nonneg hc l
    have h2 : cStep c s x = s + c.getD x.toNat 0 := by
      have h3 : cStep c s x < 1000000000 := by omega
      unfold cStep at h3 ⊢; rw [imn_eq] at h3 ⊢
      by_cases h4 : s + c.getD x.toNat 0 < 1000000000
      · rw [if_pos h4]
      · rw [if_neg h4] at h3; omega
    rw [h1, h2, sumC]; omega
/-- the number of rows below a node -/
def wN (nodes : List FNode) (nd : Int) : Int := (cnts nodes nodes.length).getD nd.toNat 0
theorem wN_sum {olen : Nat} {nodes : List FNode} {far : List Int} (V : VF olen nodes far) {nd : Int} (h : inN nodes nd) (h0 : nd ≠ 0) (hw : wN nodes nd < 1000000000) :
    sumC (cnts nodes nodes.length) (nodes.getD nd.toNat ([], [])).2 = wN nodes nd := by
  have h1 := h.1; have h2 := h.2
  have hi : nd.toNat < nodes.length := by omega
  unfold wN at hw ⊢
  rw [cnts_get nodes nodes.length nd.toNat (by omega) hi] at hw ⊢
  rw [cfold_sum (cnts_ok nodes nd.toNat (by omega)).2 _ 0 (by omega) hw, Int.zero_add]
  exact (sumC_congr _ fun j hj => by
    have := V.ch hi hj
    exact (cnts_pre nodes nodes.length nd.toNat _ (by omega) (by omega) (by omega)).symm).symm
theorem wN_bd (nodes : List FNode) (hp : 1 ≤ nodes.length) (nd : Int) : 0 ≤ wN nodes nd ∧ wN nodes nd ≤ 1000000000 := cnt_bd (cnts_ok nodes nodes.length hp).2 nd.toNat
theorem wN_part {olen : Nat} {nodes : List FNode} {far : List Int} (V : VF olen nodes far) {nd : Int} (h : inN nodes nd) (h0 : nd ≠ 0) (hw : wN nodes nd < 1000000000) {j : Nat} (hj : j < (nodes.getD nd.toNat ([], [])).2.length) :
    sumC (cnts nodes nodes.length) ((nodes.getD nd.toNat ([], [])).2.take j) + wN nodes ((nodes.getD nd.toNat ([], [])).2.getD j 0) ≤ wN nodes nd := by
  have h1 := sumC_take (c := cnts nodes nodes.length) _ j hj
  have h2 := sumC_le (cnts_ok nodes nodes.length V.pos).2 (nodes.getD nd.toNat ([], [])).2 (j + 1)
  rw [wN_sum V h h0 hw] at h2
  unfold wN; unfold wN at h2; omega
theorem ch_in {olen : Nat} {nodes : List FNode} {far : List Int} (V : VF olen nodes far) {nd : Int} (h : inN nodes nd) {j : Nat} (hj : j < (nodes.getD nd.toNat ([], [])).2.length) :
    inN nodes ((nodes.getD nd.toNat ([], [])).2.getD j 0) ∧ (nodes.getD nd.toNat ([], [])).2.getD j 0 < nd := by
  have h1 := h.1; have h2 := h.2
  have := V.ch (i := nd.toNat) (by omega) hj
  exact ⟨⟨this.1, by omega⟩, by omega⟩
theorem rowsOf_len {olen : Nat} {nodes : List FNode} {far : List Int} (V : VF olen nodes far) : ∀ (f : Nat) (nd : Int) (pre : List Int), inN nodes nd → nd < f → wN nodes nd < 1000000000 → ((rowsOf nodes f nd pre).length : Int) ≤ wN nodes nd := by
  intro f
  induction f with
  | zero => intro nd pre h hf; have := h.1; omega
  | succ f ih =>
    intro nd pre h hf hw
    unfold rowsOf
    by_cases h0 : nd = 0
    · subst h0
      rw [if_pos rfl]; unfold wN; rw [show (0 : Int).toNat = 0 from rfl, cnts_0 nodes _ V.pos]; simp
    · rw [if_neg h0]
      have hl := V.lens (i := nd.toNat) (by have := h.1; have := h.2; omega)
      have key : ∀ m, m ≤ (nodes.getD nd.toNat ([], [])).1.length → ((upTo (fun j => rowsOf nodes f ((nodes.getD nd.toNat ([], [])).2.getD j 0) (pre ++ [(nodes.getD nd.toNat ([], [])).1.getD j 0])) m).length : Int) ≤ sumC (cnts nodes nodes.length) ((nodes.getD nd.toNat ([], [])).2.take m) := by
        intro m
        induction m with
        | zero => intro _; simp [upTo, sumC]
        | succ m ihm =>
          intro hm
          have h1 := ihm (by omega)
          have hj : m < (nodes.getD nd.toNat ([], [])).2.length := by omega
          obtain ⟨c1, c2⟩ := ch_in V h hj
          have h2 := wN_part V h h0 hw hj
          have h3 := sumC_nonneg (cnts_ok nodes nodes.length V.pos).2 ((nodes.getD nd.toNat ([], [])).2.take m)
          have h4 := ih _ (pre ++ [(nodes.getD nd.toNat ([], [])).1.getD m 0]) c1 (by omega) (by omega)
          rw [upTo, List.length_append, sumC_take _ m hj]
          unfold wN at h4
          omega
      have := key _ (Nat.le_refl _)
      rw [hl, List.take_length, wN_sum V h h0 hw] at this
      rw [hl]; exact this
theorem upTo_len {olen : Nat} {nodes : List FNode} {far : List Int} (V : VF olen nodes far) {nd : Int} (h : inN nodes nd) (h0 : nd ≠ 0) (hw : wN nodes nd < 1000000000) {f : Nat} (hf : nd ≤ f) (pre : List Int) :
    ∀ m, m ≤ (nodes.getD nd.toNat ([], [])).1.length → ((upTo (fun j => rowsOf nodes f ((nodes.getD nd.toNat ([], [])).2.getD j 0) (pre ++ [(nodes.getD nd.toNat ([], [])).1.getD j 0])) m).length : Int) ≤ sumC (cnts nodes nodes.length) ((nodes.getD nd.toNat ([], [])).2.take m) := by
  have hl := V.lens (i := nd.toNat) (by have := h.1; have := h.2; omega)
  intro m
  induction m with
  | zero => intro _; simp [upTo, sumC]
  | succ m ihm =>
    intro hm
    have h1 := ihm (by omega)
    have hj : m < (nodes.getD nd.toNat ([], [])).2.length := by omega
    obtain ⟨c1, c2⟩ := ch_in V h hj
    have h2 := wN_part V h h0 hw hj
    have h3 := sumC_nonneg (cnts_ok nodes nodes.length V.pos).2 ((nodes.getD nd.toNat ([], [])).2.take m)
    have h4 := rowsOf_len V f _ (pre ++ [(nodes.getD nd.toNat ([], [])).1.getD m 0]) c1 (by omega) (by omega)
    rw [upTo, List.length_append, sumC_take _ m hj]
    unfold wN at h4
    omega
theorem rowsOf_row {olen : Nat} {nodes : List FNode} {far : List Int} (V : VF olen nodes far) : ∀ (f : Nat) (nd : Int) (pre : List Int), inN nodes nd → nd < f → ∀ r ∈ rowsOf nodes f nd pre, (r.length : Int) ≤ pre.length + nd := by
  intro f
  induction f with
  | zero => intro nd pre h hf; have := h.1; omega
  | succ f ih =>
    intro nd pre h hf r hr
    unfold rowsOf at hr
    by_cases h0 : nd = 0
    · rw [if_pos h0] at hr; simp only [List.mem_singleton] at hr; subst hr; omega
    · rw [if_neg h0] at hr
      have hl := V.lens (i := nd.toNat) (by have := h.1; have := h.2; omega)
      obtain ⟨j, h1, h2⟩ := upTo_mem _ hr
      obtain ⟨c1, c2⟩ := ch_in V h (j := j) (by omega)
      have := ih _ _ c1 (by omega) r h2
      rw [List.length_append, List.length_singleton] at this
      omega
section
variable {N : Nat}
theorem expand_eq {order : List Int} {nodes : List FNode} {far : List Int} (V : VF order.length nodes far) (hn : okN nodes) : ∀ (f : Nat) (nd : Int) (M : Nat) (pre : List Int) (out : List (List Int)), inN nodes nd → nd < f → nd + 1048580 ≤ (M : Int) → pre.length + nd ≤ 1048576 → out.length + wN nodes nd ≤ 4000 →
    impl_expand M order nodes nd pre out = some (out ++ rowsOf nodes f nd pre) := by
  intro f
  induction f with
  | zero => intro nd M pre out h hf; have := h.1; omega
  | succ f ih =>
    intro nd M pre out h hf hM hp hw
    have g1 := h.1; have g2 := h.2
    obtain ⟨M, rfl⟩ : ∃ M', M = M' + 1 := ⟨M - 1, by omega⟩
    have wb := wN_bd nodes V.pos nd
    rw [impl_expand, rowsOf]
    by_cases h0 : nd = 0
    · subst h0
      rw [show ((0 : Int) == 0) = true from rfl, cond_true, impl_copyInts, apd_nil (by decide) (by omega), bs, bs, apd_ok' (by decide) (by simp; omega), bs, if_pos rfl]
    · rw [show (nd == 0) = false by simpa using h0, cond_false, if_neg h0, ixN h, bs]
      have hi : nd.toNat < nodes.length := by omega
      have hl := V.lens hi
      have hk := okN_at hn hi
      rw [← getN_at hi] at hk
      have hx1 := hk.1.1
      have hwl : wN nodes nd < 1000000000 := by omega
      have hup := upTo_len V h h0 hwl (f := f) (by omega) pre
      have hpart := fun j (hj : j < (nodes.getD nd.toNat ([], [])).2.length) => wN_part V h h0 hwl hj
      have hch := fun j (hj : j < (nodes.getD nd.toNat ([], [])).2.length) => ch_in V h hj
      generalize hx : nodes.getD nd.toNat ([], []) = x at *
      have hL := loopI (fun k (s : List (List Int)) j => impl_expand_L1 (impl_expand M) M k pre s order nodes x.1 x.2 x.1 (x.1.length : Int) j) x.1.length (fun j => out ++ upTo (fun j => rowsOf nodes f (x.2.getD j 0) (pre ++ [x.1.getD j 0])) j) (out ++ upTo (fun j => rowsOf nodes f (x.2.getD j 0) (pre ++ [x.1.getD j 0])) x.1.length, (x.1.length : Int))
        (fun k j hj => by
          have hj2 : j < x.2.length := by omega
          have q1 := hup j (by omega)
          have q2 := hpart j hj2
          obtain ⟨q3, q4⟩ := hch j hj2
          show impl_expand_L1 (impl_expand M) M (k + 1) pre _ order nodes x.1 x.2 x.1 (x.1.length : Int) (j : Int) = _
          rw [impl_expand_L1, dlt hj, cond_true, ix_nat hj, bs, ix_nat hj2, bs, impl_copyInts, apd_nil (by decide) (by omega), bs, bs, apd_ok' (by decide) (by simp; omega), bs, ← getD_at hj2, ← getD_at hj, ih _ M (pre ++ [x.1.getD j 0]) _ q3 (by omega) (by omega) (by rw [List.length_append, List.length_singleton]; omega) (by rw [List.length_append]; omega), bs, ad1 (by omega), bs, List.append_assoc]
          rfl)
        (fun k => by
          show impl_expand_L1 (impl_expand M) M (k + 1) pre _ order nodes x.1 x.2 x.1 (x.1.length : Int) (x.1.length : Int) = _
          rw [impl_expand_L1, dge (by omega), cond_false]) M 0 (by omega) (by omega)
      rw [show upTo (fun j => rowsOf nodes f (x.2.getD j 0) (pre ++ [x.1.getD j 0])) 0 = [] from rfl, List.append_nil] at hL
      have hL' : impl_expand_L1 (impl_expand M) M M pre out order nodes x.1 x.2 x.1 (x.1.length : Int) 0 = _ := hL
      rw [hL', bs, lpB]
theorem l23Rows_eq {order : List Int} {nodes : List FNode} {far : List Int} (V : VF order.length nodes far) (hn : okN nodes) : ∀ (f : Nat) (nd : Int) (M : Nat) (pre : List Int), inN nodes nd → nd < f → nd + 1048580 ≤ (M : Int) → pre.length + nd ≤ 1048576 → wN nodes nd ≤ 4000 →
    spec_l23Rows M order nodes nd pre = some (rowsOf nodes f nd pre) := by
  intro f
  induction f with
  | zero => intro nd M pre h hf; have := h.1; omega
  | succ f ih =>
    intro nd M pre h hf hM hp hw
    have g1 := h.1; have g2 := h.2
    obtain ⟨M, rfl⟩ : ∃ M', M = M' + 1 := ⟨M - 1, by omega⟩
    have wb := wN_bd nodes V.pos nd
    rw [spec_l23Rows, rowsOf]
    by_cases h0 : nd = 0
    · subst h0
      rw [show ((0 : Int) == 0) = true from rfl, cond_true, apd_nil (by decide) (by omega), bs, if_pos rfl]
    · rw [show (nd == 0) = false by simpa using h0, cond_false, if_neg h0]
      have hi : nd.toNat < nodes.length := by omega
      have hix := ixN h
      have hl := V.lens hi
      have hk := okN_at hn hi
      rw [← getN_at hi] at hk
      have hx1 := hk.1.1
      have hwl : wN nodes nd < 1000000000 := by omega
      have hup := upTo_len V h h0 hwl (f := f) (by omega) pre
      have hpart := fun j (hj : j < (nodes.getD nd.toNat ([], [])).2.length) => wN_part V h h0 hwl hj
      have hch := fun j (hj : j < (nodes.getD nd.toNat ([], [])).2.length) => ch_in V h hj
      have hlen := fun j (hj : j < (nodes.getD nd.toNat ([], [])).2.length) => rowsOf_len V f _ (pre ++ [(nodes.getD nd.toNat ([], [])).1.getD j 0]) (ch_in V h hj).1 (by have := (ch_in V h hj).2; omega)
      generalize hx : nodes.getD nd.toNat ([], []) = x at *
      have hL := loopI (fun k (s : List (List Int)) j => spec_l23Rows_L1 (spec_l23Rows M) M k nd pre order nodes s j) x.1.length (fun j => upTo (fun j => rowsOf nodes f (x.2.getD j 0) (pre ++ [x.1.getD j 0])) j) (upTo (fun j => rowsOf nodes f (x.2.getD j 0) (pre ++ [x.1.getD j 0])) x.1.length, (x.1.length : Int))
        (fun k j hj => by
          have hj2 : j < x.2.length := by omega
          have q1 := hup j (by omega)
          have q2 := hpart j hj2
          obtain ⟨q3, q4⟩ := hch j hj2
          have q5 := sumC_nonneg (cnts_ok nodes nodes.length V.pos).2 (x.2.take j)
          have q6 := wN_bd nodes V.pos (x.2.getD j 0)
          have q7 := hlen j hj2 (by omega)
          show spec_l23Rows_L1 (spec_l23Rows M) M (k + 1) nd pre order nodes _ (j : Int) = _
          rw [spec_l23Rows_L1, hix, bs, dlt hj, cond_true, bs, ix_nat hj2, bs, bs, ix_nat hj, bs, apd_nil (by decide) (by omega), bs, apd_ok' (by decide) (by simp; omega), bs, ← getD_at hj2, ← getD_at hj, ih _ M (pre ++ [x.1.getD j 0]) q3 (by omega) (by omega) (by rw [List.length_append, List.length_singleton]; omega) (by omega), bs, apd_ok' (by decide) (by omega), bs, ad1 (by omega), bs]
          rfl)
        (fun k => by
          show spec_l23Rows_L1 (spec_l23Rows M) M (k + 1) nd pre order nodes _ (x.1.length : Int) = _
          rw [spec_l23Rows_L1, hix, bs, dge (by omega), cond_false]) M 0 (by omega) (by omega)
      have hL' : spec_l23Rows_L1 (spec_l23Rows M) M M nd pre order nodes [] 0 = _ := hL
      rw [hL', bs, lpB]
def expandV (order : List Int) (nodes : List FNode) : (Int × List (List Int)) × Bool :=
  bif validF order nodes && !decide (4000 < rowCount order nodes) then (((order.length : Int), rowsOf nodes nodes.length ((nodes.length : Int) - 1) []), true) else ((0, []), false)
theorem rowCount_wN {order : List Int} {nodes : List FNode} (h : validF order nodes = true) : rowCount order nodes = wN nodes ((nodes.length : Int) - 1) := by
  unfold rowCount wN
  rw [h, cond_true, show ((nodes.length : Int) - 1).toNat = nodes.length - 1 by omega]
theorem expandV_ok {order : List Int} {nodes : List FNode} (hn : okN nodes) : okII (expandV order nodes).1.2 := by
  unfold expandV
  cases hv : validF order nodes with
  | false => exact ⟨by simp, by simp⟩
  | true =>
    by_cases hc : 4000 < rowCount order nodes
    · rw [decide_eq_true hc]; exact ⟨by simp, by simp⟩
    · rw [decide_eq_false hc]
      obtain ⟨far, V⟩ := vf_of hv
      have hp := V.pos; have hle := V.le
      rw [rowCount_wN hv] at hc
      have hin : inN nodes ((nodes.length : Int) - 1) := ⟨by omega, by omega⟩
      refine ⟨?_, fun r hr => ?_⟩
      · have := rowsOf_len V nodes.length _ [] hin (by omega) (by omega)
        show (rowsOf nodes nodes.length ((nodes.length : Int) - 1) []).length ≤ 1048576
        omega
      · have := rowsOf_row V nodes.length _ [] hin (by omega) r hr
        rw [List.length_nil] at this
        exact ⟨by omega, fun _ _ => trivial⟩
theorem ExpandFactorization_impl_eq (hN : 1073741824 ≤ N) {order : List Int} {nodes : List FNode} (ho : okI order) (hn : okN nodes) : impl_ExpandFactorization N order nodes = some (expandV order nodes) := by
  unfold impl_ExpandFactorization expandV
  rw [IsValidFactorization_impl_eq hN ho hn, bs]
  cases hv : validF order nodes with
  | false => rfl
  | true =>
    obtain ⟨far, V⟩ := vf_of hv
    have hp := V.pos; have hle := V.le
    rw [cond_true, FactorizedRowCount_impl_eq hN ho hn, bs, Bool.true_and]
    by_cases hc : 4000 < rowCount order nodes
    · rw [decide_eq_true hc]; rfl
    · rw [decide_eq_false hc, cond_false, sb_ok (by omega) (by omega), bs]
      rw [rowCount_wN hv] at hc
      rw [expand_eq V hn nodes.length _ N [] [] ⟨by omega, by omega⟩ (by omega) (by omega) (by rw [List.length_nil]; omega) (by rw [List.length_nil]; omega), bs]
      rfl
theorem ExpandFactorization_spec_eq (hN : 1073741824 ≤ N) {order : List Int} {nodes : List FNode} (ho : okI order) (hn : okN nodes) : spec_ExpandFactorization N order nodes = some (expandV order nodes) := by
  unfold spec_ExpandFactorization expandV
  rw [IsValidFactorization_spec_eq hN ho hn, bs]
  cases hv : validF order nodes with
  | false => rfl
  | true =>
    obtain ⟨far, V⟩ := vf_of hv
    have hp := V.pos; have hle := V.le
    rw [cond_true, FactorizedRowCount_spec_eq hN ho hn, bs, Bool.true_and]
    by_cases hc : 4000 < rowCount order nodes
    · rw [decide_eq_true hc]; rfl
    · rw [decide_eq_false hc, cond_false, sb_ok (by omega) (by omega), bs]
      rw [rowCount_wN hv] at hc
      rw [l23Rows_eq V hn nodes.length _ N [] ⟨by omega, by omega⟩ (by omega) (by omega) (by rw [List.length_nil]; omega) (by omega), bs]
      rfl
end
end Go.Proofs.Ytdingjlefilafaa
