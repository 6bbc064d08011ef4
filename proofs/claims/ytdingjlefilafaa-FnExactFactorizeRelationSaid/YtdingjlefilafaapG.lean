/- Plain laws: how many rows a factorization has. -/
import Derived.Test.YtdingjlefilafaapF
namespace Go.Proofs.Ytdingjlefilafaa
open Go.RowKit

/-- a loop by an index whose state the index tells -/
theorem loopI {σ V : Type} (L : Nat → σ → Int → Option V) (n : Nat) (A : Nat → σ) (v : V)
    (hstep : ∀ k i, i < n → L (k + 1) (A i) (i : Int) = L k (A (i + 1)) ((i + 1 : Nat) : Int)) (hend : ∀ k, L (k + 1) (A n) (n : Int) = some v) :
    ∀ k i, i ≤ n → n - i < k → L k (A i) (i : Int) = some v := by
  intro k
  induction k with
  | zero => intro i hi hk; omega
  | succ k ih =>
    intro i hi hk
    by_cases h : i < n
    · rw [hstep k i h]; exact ih (i + 1) (by omega) (by omega)
    · obtain rfl : i = n := by omega
      exact hend k
section
variable {N : Nat}
theorem ix_app {c z : List Int} {s : Int} {i : Nat} (h : c.length = i) : ix (c ++ s :: z) (i : Int) = some s := by
  rw [ix_nat (by simp; omega)]; subst h; simp
theorem sto_app {c z : List Int} {s y : Int} {i : Nat} (h : c.length = i) : sto (c ++ s :: z) (i : Int) y = some (c ++ y :: z) := by
  rw [sto_nat (by simp; omega)]; subst h; simp
theorem ix_appl {c z : List Int} {j : Int} (h0 : 0 ≤ j) (h : j < c.length) : ix (c ++ z) j = some (c.getD j.toNat 0) := by
  rw [ix_int h0 (by simp; omega), List.getElem_append_left (by omega), getD_at (by omega)]
theorem counts_L2_eq (hN : 1073741824 ≤ N) {nodes : List FNode} {c z : List Int} {i n : Nat} (x : FNode) (hc : cntOk c) (hl : c.length = i) (hx : okI x.2) (hch : ∀ j, j < x.2.length → 0 ≤ x.2.getD j 0 ∧ x.2.getD j 0 < i) {s : Int} (hs : 0 ≤ s ∧ s ≤ 1000000000) (hi : i < 1099511627776) :
    impl_counts_L2 N N (c ++ s :: z) (i : Int) nodes (n : Int) (i : Int) x.2 (x.2.length : Int) 0 = some (c ++ x.2.foldl (cStep c) s :: z, (x.2.length : Int)) := by
  have hL := loopF (fun k (s : Int) j => impl_counts_L2 N k (c ++ s :: z) (i : Int) nodes (n : Int) (i : Int) x.2 (x.2.length : Int) j) x.2.length (by have := hx.1; omega) (fun j s => cStep c s (x.2.getD j 0)) (fun s => (c ++ s :: z, (x.2.length : Int))) (fun _ s => 0 ≤ s ∧ s ≤ 1000000000)
    (fun k j s hj hI => by
      refine ⟨?_, cStep_bd hc hI⟩
      obtain ⟨q1, q2⟩ := hch j hj
      have := cnt_bd hc (x.2.getD j 0).toNat
      have hx1 := hx.1
      show impl_counts_L2 N (k + 1) (c ++ s :: z) (i : Int) nodes (n : Int) (i : Int) x.2 (x.2.length : Int) (j : Int) = _
      rw [impl_counts_L2, dlt hj, cond_true, ix_nat hj, bs, show x.2[j] = x.2.getD j 0 from (getD_at hj).symm, ix_app hl, bs, ix_appl q1 (by omega), bs, ad_ok (by omega) (by omega), bs, bs, sto_app hl, bs, ad1 (by omega), bs]
      rfl)
    (fun k s _ => by
      show impl_counts_L2 N (k + 1) (c ++ s :: z) (i : Int) nodes (n : Int) (i : Int) x.2 (x.2.length : Int) (x.2.length : Int) = _
      rw [impl_counts_L2, dge (by omega), cond_false]) N 0 s (by omega) (by have := hx.1; omega) hs
  rw [Nat.sub_zero, foldl_range0 (cStep c) 0] at hL
  exact hL
theorem counts_eq (hN : 1073741824 ≤ N) {order : List Int} {nodes : List FNode} {far : List Int} (hn : okN nodes) (V : VF order.length nodes far) : impl_counts N order nodes = some (cnts nodes nodes.length) := by
  have hl := hn.1
  have hp := V.pos
  unfold impl_counts
  rw [mk_ok (by decide) (by omega), bs]
  have hL := loopI (fun k (s : List Int) i => impl_counts_L1 N k s nodes (nodes.length : Int) i) nodes.length (fun i => if i = 0 then List.replicate nodes.length 0 else cnts nodes i ++ List.replicate (nodes.length - i) 0) (cnts nodes nodes.length, (nodes.length : Int))
    (fun k i h => by
      have hx : nodes[i] = nodes.getD i ([], []) := by simp [h]
      obtain ⟨_, k2⟩ := okN_at hn h
      rw [hx] at k2
      show impl_counts_L1 N (k + 1) _ nodes (nodes.length : Int) (i : Int) = _
      rw [impl_counts_L1, dlt h, cond_true, ix_nat h, bs, hx]
      by_cases h0 : i = 0
      · subst h0
        rw [show (((0 : Nat) : Int) == 0) = true from rfl, cond_true, if_pos rfl, ix0 (by simp; omega), bs, show (0 : Int) = ((0 : Nat) : Int) from rfl, sto_nat (by simp; omega), bs, V.z2, show nodes.length = (nodes.length - 1) + 1 by omega, List.replicate_succ, List.set_cons_zero]
        rw [show N = (N - 1) + 1 by omega, impl_counts_L2]
        simp only [List.length_nil, Nat.lt_irrefl, Int.lt_irrefl, decide_false, cond_false, bs, lpB]
        rw [ad1 (by omega), bs, if_neg (by omega)]
        rfl
      · rw [show (((i : Nat) : Int) == 0) = false by simp; exact h0, cond_false, if_neg h0, if_neg (by omega)]
        obtain ⟨g1, g2⟩ := cnts_ok nodes i (by omega)
        rw [show nodes.length - i = (nodes.length - (i + 1)) + 1 by omega, List.replicate_succ, counts_L2_eq hN (nodes.getD i ([], [])) g2 g1 k2 (fun j hj => V.ch h hj) (by omega) (by omega), bs, lpB]
        simp only []
        rw [ad1 (by omega), bs, cnts_succ nodes (by omega)]
        unfold cntSt
        rw [List.append_assoc]; rfl)
    (fun k => by
      show impl_counts_L1 N (k + 1) _ nodes (nodes.length : Int) (nodes.length : Int) = _
      rw [impl_counts_L1, dge (by omega), cond_false, if_neg (by omega), Nat.sub_self, List.replicate_zero, List.append_nil]) N 0 (by omega) (by omega)
  rw [if_pos rfl] at hL
  have hL' : impl_counts_L1 N N (List.replicate nodes.length 0) nodes (nodes.length : Int) 0 = _ := hL
  rw [hL', bs, lpB]
def rowCount (order : List Int) (nodes : List FNode) : Int := bif validF order nodes then (cnts nodes nodes.length).getD (nodes.length - 1) 0 else 0
theorem FactorizedRowCount_spec_eq (hN : 1073741824 ≤ N) {order : List Int} {nodes : List FNode} (ho : okI order) (hn : okN nodes) : spec_FactorizedRowCount N order nodes = some (rowCount order nodes) := by
  unfold spec_FactorizedRowCount rowCount
  rw [IsValidFactorization_spec_eq hN ho hn, bs]
  cases hv : validF order nodes
  · rfl
  obtain ⟨far, V⟩ := vf_of hv
  have hp := V.pos
  have hl := hn.1
  have hcl := (cnts_ok nodes nodes.length hp).1
  rw [cond_true, cond_true, l23Counts_eq hN hn V, bs, hcl, sb_ok (by omega) (by omega), bs, show ((nodes.length : Int) - 1) = ((nodes.length - 1 : Nat) : Int) by omega, ix_nat (by omega), bs, getD_at (by omega)]
theorem FactorizedRowCount_impl_eq (hN : 1073741824 ≤ N) {order : List Int} {nodes : List FNode} (ho : okI order) (hn : okN nodes) : impl_FactorizedRowCount N order nodes = some (rowCount order nodes) := by
  unfold impl_FactorizedRowCount rowCount
  rw [IsValidFactorization_impl_eq hN ho hn, bs]
  cases hv : validF order nodes
  · rfl
  obtain ⟨far, V⟩ := vf_of hv
  have hp := V.pos
  have hl := hn.1
  have hcl := (cnts_ok nodes nodes.length hp).1
  rw [cond_true, cond_true, counts_eq hN hn V, bs, hcl, sb_ok (by omega) (by omega), bs, show ((nodes.length : Int) - 1) = ((nodes.length - 1 : Nat) : Int) by omega, ix_nat (by omega), bs, getD_at (by omega)]
end
end Go.Proofs.Ytdingjlefilafaa
