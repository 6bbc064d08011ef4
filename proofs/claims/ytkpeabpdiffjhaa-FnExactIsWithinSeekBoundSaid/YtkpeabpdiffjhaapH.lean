/- Plain laws: how many rows begin so; a row's place. -/
import Derived.Test.YtkpeabpdiffjhaapG
namespace Go.Proofs.Ytkpeabpdiffjhaa
open Go.RowKit

theorem VF.lens {olen : Nat} {nodes : List FNode} {far : List Int} (V : VF olen nodes far) {i : Nat} (h2 : i < nodes.length) : (nodes.getD i ([], [])).1.length = (nodes.getD i ([], [])).2.length := by
  by_cases h1 : 1 ≤ i
  · exact (V.node h1 h2).1
  · obtain rfl : i = 0 := by omega
    rw [V.z1, V.z2]
theorem VF.asc {olen : Nat} {nodes : List FNode} {far : List Int} (V : VF olen nodes far) {i : Nat} (h2 : i < nodes.length) : Go.Proofs.Ytkpeabpdiffjhaa.asc (nodes.getD i ([], [])).1 = true := by
  by_cases h1 : 1 ≤ i
  · exact (V.node h1 h2).2.1
  · obtain rfl : i = 0 := by omega
    rw [V.z1]; rfl
/-- one step down from node s by the value at i -/
def pathSt (nodes : List FNode) (vs : List Int) (i : Nat) (s : Int) : Sum Int Int :=
  let x := nodes.getD s.toNat ([], [])
  let j := findI x.1 (vs.getD i 0)
  bif decide (j < 0) then .inl 0 else .inr (x.2.getD j.toNat 0)
def inN (nodes : List FNode) (s : Int) : Prop := 0 ≤ s ∧ s < nodes.length
theorem findI_lt {xs : List Int} {v : Int} (h : ¬ findI xs v < 0) : 0 ≤ findI xs v ∧ findI xs v < xs.length := by
  rcases findI_spec xs v with ⟨_, h2⟩ | ⟨j, hj, _, h2, _⟩ <;> omega
theorem pathSt_in {olen : Nat} {nodes : List FNode} {far : List Int} (V : VF olen nodes far) {vs : List Int} {i : Nat} {s s' : Int} (hs : inN nodes s) (h : pathSt nodes vs i s = .inr s') : inN nodes s' := by
  unfold pathSt at h
  simp only [] at h
  have hs1 := hs.1; have hs2 := hs.2
  have hi : s.toNat < nodes.length := by omega
  have hl := V.lens hi
  have hch := fun j hj => V.ch hi (j := j) hj
  generalize nodes.getD s.toNat ([], []) = x at *
  by_cases hj : findI x.1 (vs.getD i 0) < 0
  · rw [decide_eq_true hj] at h; cases h
  · rw [decide_eq_false hj] at h
    have e := Sum.inr.inj h
    subst e
    have := findI_lt hj
    have := hch (findI x.1 (vs.getD i 0)).toNat (by omega)
    unfold inN; omega
/-- how many rows begin with the values -/
def prefCount (order : List Int) (nodes : List FNode) (vs : List Int) : Int :=
  bif validF order nodes then
    (bif decide ((order.length : Int) < (vs.length : Int)) then 0 else
      match foldE (pathSt nodes vs) vs.length 0 ((nodes.length - 1 : Nat) : Int) with
      | .inl r => r
      | .inr s => (cnts nodes nodes.length).getD s.toNat 0) else 0
theorem foldE_inv {σ R : Type} (st : Nat → σ → Sum R σ) (I : σ → Prop) (h : ∀ i s s', I s → st i s = .inr s' → I s') : ∀ n i s s', I s → foldE st n i s = .inr s' → I s' := by
  intro n
  induction n with
  | zero => intro i s s' hs e; have : s = s' := by simpa [foldE] using e
            exact this ▸ hs
  | succ n ih =>
    intro i s s' hs e
    unfold foldE at e
    cases hq : st i s with
    | inl r => rw [hq] at e; cases e
    | inr s2 => rw [hq] at e; exact ih _ _ _ (h _ _ _ hs hq) e
section
variable {N : Nat}
theorem ixN {nodes : List FNode} {s : Int} (h : inN nodes s) : ix nodes s = some (nodes.getD s.toNat ([], [])) := by
  have h1 := h.1; have h2 := h.2
  rw [ix_int h1 (by omega), getN_at (by omega)]
end
end Go.Proofs.Ytkpeabpdiffjhaa
