/- Plain laws: how many rows begin so; a row's place. -/
import Derived.Test.YtbjfbfjacchjiaapG
namespace Go.Proofs.Ytbjfbfjacchjiaa
open Go.RowKit

theorem VF.lens {olen : Nat} {nodes : List FNode} {far : List Int} (V : VF olen nodes far) {i : Nat} (h2 : i < nodes.length) : (nodes.getD i ([], [])).1.length = (nodes.getD i ([], [])).2.length := by
  by_cases h1 : 1 ≤ i
  · exact (V.node h1 h2).1
  · obtain rfl : i = 0 := by omega
    rw [V.z1, V.z2]
theorem VF.asc {olen : Nat} {nodes : List FNode} {far : List Int} (V : VF olen nodes far) {i : Nat} (h2 : i < nodes.length) : Go.Proofs.Ytbjfbfjacchjiaa.asc (nodes.getD i ([], [])).1 = true := by
  by_cases h1 : 1 ≤ i
  · exact (V.node h1 h2).2.1
  · obtain rfl : i = 0 := by omega
    rw [V.z1]; rfl
/-- one step down from node s by the value at i -/
def pathSt (nodes : List FNode) (vs : List Int) (i : Nat) (s : Int) : Sum Int Int :=
  let x := nodes.getD s.toNat ([], [])
  let j := findI x.1 (vs.getD i 0)
  bif decide (j < 0) then .inl 0 else .inr (x.2.getD j.toNat 0)
def inN (nodes : List FNode) (s : Int) : Prop := 0 ≤ s ∧ s < nodes.length
theorem findI_lt {xs : List Int} {v : Int} (h : ¬ findI xs v < 0) : 0 ≤ findI xs v ∧ findI xs v < xs.length := by
  rcases findI_spec xs v with ⟨_, h2⟩ | ⟨j, hj, _, h2, _⟩ <;> omega
theorem pathSt_in {olen : Nat} {nodes : List FNode} {far : List Int} (V : VF olen nodes far) {vs : List Int} {i : Nat} {s s' : Int} (hs : inN nodes s) (h : pathSt nodes vs i s = .inr s') : inN nodes s' := by
  unfold pathSt at h
  simp only [] at h
  have hs1 := hs.1; have hs2 := hs.2
  have hi : s.toNat < nodes.length := by omega
  have hl := V.lens hi
  have hch := fun j hj => V.ch hi (j := j) hj
  generalize nodes.getD s.toNat ([], []) = x at *
  by_cases hj : findI x.1 (vs.getD i 0) < 0
  · rw [decide_eq_true hj] at h; cases h
  · rw [decide_eq_false hj] at h
    have e := Sum.inr.inj h
    subst e
    have := findI_lt hj
    have := hch (findI x.1 (vs.getD i 0)).toNat (by omega)
    unfold inN; omega
/-- how many rows begin with the values -/
def prefCount (order : List Int) (nodes : List FNode) (vs : List Int) : Int :=
  bif validF order nodes then
    (bif decide ((order.length : Int) < (vs.length : Int)) then 0 else
      match foldE (pathSt nodes vs) vs.length 0 ((nodes.length - 1 : Nat) : Int) with
      | .inl r => r
      | .inr s => (cnts nodes nodes.length).getD s.toNat 0) else 0
theorem foldE_inv {σ R : Type} (st : Nat → σ → Sum R σ) (I : σ → Prop) (h : ∀ i s s', I s → st i s = .inr s' → I s') : ∀ n i s s', I s → foldE st n i s = .inr s' → I s' := by
  intro n
  induction n with
  | zero => intro i s s' hs e; have : s = s' := by simpa [foldE] using e
            exact this ▸ hs
  | succ n ih =>
    intro i s s' hs e
    unfold foldE at e
    cases hq : st i s with
    | inl r => rw [hq] at e; cases e
    | inr s2 => rw [hq] at e; exact ih _ _ _ (h _ _ _ hs hq) e
section
variable {N : Nat}
theorem ixN {nodes : List FNode} {s : Int} (h : inN nodes s) : ix nodes s = some (nodes.getD s.toNat ([], [])) := by
  have h1 := h.1; have h2 := h.2
  rw [ix_int h1 (by omega), getN_at (by omega)]
theorem FactorizedPrefixCount_spec_eq (hN : 1073741824 ≤ N) {order : List Int} {nodes : List FNode} {vs : List Int} (ho : okI order) (hn : okN nodes) (hv : okI vs) : spec_FactorizedPrefixCount N order nodes vs = some (prefCount order nodes vs) := by
  unfold spec_FactorizedPrefixCount prefCount
  rw [IsValidFactorization_spec_eq hN ho hn, bs]
  cases hval : validF order nodes
  · rfl
  obtain ⟨far, V⟩ := vf_of hval
  have hp := V.pos
  have hl := hn.1
  have hvl := hv.1
  have hcl := (cnts_ok nodes nodes.length hp).1
  rw [cond_true, cond_true]
  cases decide ((order.length : Int) < (vs.length : Int))
  case true => rfl
  rw [cond_false, cond_false, l23Counts_eq hN hn V, bs, sb_ok (by omega) (by omega), bs, show ((nodes.length : Int) - 1) = ((nodes.length - 1 : Nat) : Int) by omega]
  have hL := loopE (fun k (s : Int) i => spec_FactorizedPrefixCount_L1 N k vs order nodes (cnts nodes nodes.length) s i) vs.length (by omega) (pathSt nodes vs) (fun s => (s, (vs.length : Int))) (fun _ s => inN nodes s)
    (fun k i s h hI => by
      refine ⟨?_, fun s' hs' => pathSt_in V hI hs'⟩
      have hi : s.toNat < nodes.length := by have := hI.1; have := hI.2; omega
      have hkx := okN_at hn hi
      rw [← getN_at hi] at hkx
      have hln := V.lens hi
      show spec_FactorizedPrefixCount_L1 N (k + 1) vs order nodes _ s (i : Int) = _
      rw [spec_FactorizedPrefixCount_L1, dlt h, cond_true, ixN hI, bs, ix_nat h, bs]
      unfold pathSt
      simp only []
      generalize nodes.getD s.toNat ([], []) = x at *
      rw [l7Find_eq hN hkx.1.1, bs, show vs.getD i 0 = vs[i] from getD_at h]
      by_cases hj : findI x.1 vs[i] < 0
      · rw [decide_eq_true hj]; rfl
      · have := findI_lt hj
        rw [decide_eq_false hj, cond_false, bs, ix_int this.1 (by omega), bs, ad1 (by omega), bs, cond_false, getD_at (by omega)])
    (fun k s _ => by
      show spec_FactorizedPrefixCount_L1 N (k + 1) vs order nodes _ s (vs.length : Int) = _
      rw [spec_FactorizedPrefixCount_L1, dge (by omega), cond_false]) N 0 ((nodes.length - 1 : Nat) : Int) (by omega) (by omega) ⟨by omega, by omega⟩
  have hL' : spec_FactorizedPrefixCount_L1 N N vs order nodes (cnts nodes nodes.length) ((nodes.length - 1 : Nat) : Int) 0 = _ := hL
  rw [hL', bs, Nat.sub_zero]
  cases hf : foldE (pathSt nodes vs) vs.length 0 ((nodes.length - 1 : Nat) : Int) with
  | inl r => rfl
  | inr s =>
    have hin := foldE_inv (pathSt nodes vs) (inN nodes) (fun i s s' h1 h2 => pathSt_in V h1 h2) _ _ _ _ (⟨by omega, by omega⟩ : inN nodes ((nodes.length - 1 : Nat) : Int)) hf
    have h1 := hin.1; have h2 := hin.2
    simp only [lpS]
    rw [ix_int h1 (by omega), bs, getD_at (by omega)]
theorem FactorizedPrefixCount_impl_eq (hN : 1073741824 ≤ N) {order : List Int} {nodes : List FNode} {vs : List Int} (ho : okI order) (hn : okN nodes) (hv : okI vs) : impl_FactorizedPrefixCount N order nodes vs = some (prefCount order nodes vs) := by
  unfold impl_FactorizedPrefixCount prefCount
  rw [IsValidFactorization_impl_eq hN ho hn, bs]
  cases hval : validF order nodes
  · rfl
  obtain ⟨far, V⟩ := vf_of hval
  have hp := V.pos
  have hl := hn.1
  have hvl := hv.1
  have hcl := (cnts_ok nodes nodes.length hp).1
  rw [cond_true, cond_true]
  cases decide ((order.length : Int) < (vs.length : Int))
  case true => rfl
  rw [cond_false, cond_false, counts_eq hN hn V, bs, hcl, sb_ok (by omega) (by omega), bs, show ((nodes.length : Int) - 1) = ((nodes.length - 1 : Nat) : Int) by omega]
  have hL := loopE (fun k (s : Int) i => impl_FactorizedPrefixCount_L1 N k order nodes (cnts nodes nodes.length) s vs (vs.length : Int) i) vs.length (by omega) (pathSt nodes vs) (fun s => (s, (vs.length : Int))) (fun _ s => inN nodes s)
    (fun k i s h hI => by
      refine ⟨?_, fun s' hs' => pathSt_in V hI hs'⟩
      have hi : s.toNat < nodes.length := by have := hI.1; have := hI.2; omega
      have hkx := okN_at hn hi
      rw [← getN_at hi] at hkx
      have hln := V.lens hi
      show impl_FactorizedPrefixCount_L1 N (k + 1) order nodes _ s vs (vs.length : Int) (i : Int) = _
      rw [impl_FactorizedPrefixCount_L1, dlt h, cond_true, ix_nat h, bs, ixN hI, bs]
      unfold pathSt
      simp only []
      generalize nodes.getD s.toNat ([], []) = x at *
      rw [indexOf_eq hN hkx.1.1, bs, show vs.getD i 0 = vs[i] from getD_at h]
      by_cases hj : findI x.1 vs[i] < 0
      · rw [decide_eq_true hj]; rfl
      · have := findI_lt hj
        rw [decide_eq_false hj, cond_false, ix_int this.1 (by omega), bs, ad1 (by omega), bs, cond_false, getD_at (by omega)])
    (fun k s _ => by
      show impl_FactorizedPrefixCount_L1 N (k + 1) order nodes _ s vs (vs.length : Int) (vs.length : Int) = _
      rw [impl_FactorizedPrefixCount_L1, dge (by omega), cond_false]) N 0 ((nodes.length - 1 : Nat) : Int) (by omega) (by omega) ⟨by omega, by omega⟩
  have hL' : impl_FactorizedPrefixCount_L1 N N order nodes (cnts nodes nodes.length) ((nodes.length - 1 : Nat) : Int) vs (vs.length : Int) 0 = _ := hL
  rw [hL', bs, Nat.sub_zero]
  cases hf : foldE (pathSt nodes vs) vs.length 0 ((nodes.length - 1 : Nat) : Int) with
  | inl r => rfl
  | inr s =>
    have hin := foldE_inv (pathSt nodes vs) (inN nodes) (fun i s s' h1 h2 => pathSt_in V h1 h2) _ _ _ _ (⟨by omega, by omega⟩ : inN nodes ((nodes.length - 1 : Nat) : Int)) hf
    have h1 := hin.1; have h2 := hin.2
    simp only [lpS]
    rw [ix_int h1 (by omega), bs, getD_at (by omega)]
end
end Go.Proofs.Ytbjfbfjacchjiaa
