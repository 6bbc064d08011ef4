/- Plain laws: validity of factorizations, the reference's. -/
import Derived.Test.YtkpeabpdiffjhaapD
namespace Go.Proofs.Ytkpeabpdiffjhaa
open Go.RowKit

theorem range1_all {α : Type} (xs : List α) (i : Nat) (hi : i ≤ xs.length) (p : α → Bool) (q : Nat → Bool) (h : ∀ k (hk : k < xs.length), q k = p xs[k]) : (List.range' 1 (i - 1)).all q = ((xs.take i).drop 1).all p := by
  rw [Bool.eq_iff_iff, List.all_eq_true, List.all_eq_true]
  constructor
  · intro hq x hx
    obtain ⟨j, hj, rfl⟩ := List.getElem_of_mem hx
    simp only [List.length_drop, List.length_take] at hj
    have := hq (j + 1) (by rw [List.mem_range'_1]; omega)
    rw [h (j + 1) (by omega)] at this
    simpa [Nat.add_comm] using this
  · intro hp k hk
    rw [List.mem_range'_1] at hk
    rw [h k (by omega)]
    refine hp _ ?_
    have : ((xs.take i).drop 1)[k - 1]'(by simp; omega) = xs[k]'(by omega) := by
      simp only [List.getElem_drop, List.getElem_take]
      congr 1; omega
    rw [← this]; exact List.getElem_mem _
section
variable {N : Nat}
theorem far_at0 {i : Nat} {far : List Int} (hf : farOk i far) {c : Int} (hc : inR c 0 ((i : Int) - 1) = true) : ix far c = some (far.getD c.toNat 0) := by
  have := far_at (tl := []) hf hc
  simpa using this
theorem foldE_ok {nodes : List FNode} {olen : Nat} (hol : olen ≤ 1048576) : ∀ (m i : Nat) (s s' : List Int), i + m = nodes.length → farOk i s → foldE (nodeSt nodes olen) m i s = .inr s' → farOk nodes.length s' := by
  intro m
  induction m with
  | zero => intro i s s' h1 h2 h3; simp [foldE] at h3; subst h3; simp at h1; subst h1; exact h2
  | succ m ih =>
    intro i s s' h1 h2 h3
    unfold foldE at h3
    cases hs : nodeSt nodes olen i s with
    | inl r => simp [hs] at h3
    | inr s2 => simp only [hs] at h3; exact ih (i + 1) s2 s' (by omega) (nodeSt_ok hol h2 hs) h3
theorem foldE_false {nodes : List FNode} {olen : Nat} {r : Bool} : ∀ (m i : Nat) (s : List Int), foldE (nodeSt nodes olen) m i s = .inl r → r = false := by
  intro m
  induction m with
  | zero => intro i s h; simp [foldE] at h
  | succ m ih =>
    intro i s h
    unfold foldE at h
    cases hq : nodeSt nodes olen i s with
    | inl r2 =>
      rw [hq] at h
      have e : r2 = r := Sum.inl.inj h
      subst e
      unfold nodeSt at hq
      cases hd : nodeD nodes olen s i with
      | none => rw [hd] at hq; exact (Sum.inl.inj hq).symm
      | some d => rw [hd] at hq; cases hq
    | inr s2 => rw [hq] at h; exact ih _ _ h
end
end Go.Proofs.Ytkpeabpdiffjhaa
