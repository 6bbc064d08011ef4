/- Plain laws: what a valid factorization's nodes are; how many rows lie below each node. -/
import Derived.Test.YtkpeabpdiffjhaapE
namespace Go.Proofs.Ytkpeabpdiffjhaa
open Go.RowKit

/-- what a valid factorization says -/
structure VF (olen : Nat) (nodes : List FNode) (far : List Int) : Prop where
  pos : 1 ≤ nodes.length
  le : nodes.length ≤ 4000
  z1 : (nodes.getD 0 ([], [])).1 = []
  z2 : (nodes.getD 0 ([], [])).2 = []
  len : far.length = nodes.length
  f0 : far.getD 0 0 = 0
  last : far.getD (nodes.length - 1) 0 = (olen : Int)
  nd : ∀ i, 1 ≤ i → i < nodes.length → nodeX nodes olen (far.take i) i (nodes.getD i ([], [])) = some (far.getD i 0)
theorem foldE_far {nodes : List FNode} {olen : Nat} : ∀ (m i : Nat) (s far : List Int), s.length = i → foldE (nodeSt nodes olen) m i s = .inr far →
    far.length = i + m ∧ (∀ j, j < i → far.getD j 0 = s.getD j 0) ∧ far.take i = s ∧ ∀ j, i ≤ j → j < i + m → nodeX nodes olen (far.take j) j (nodes.getD j ([], [])) = some (far.getD j 0) := by
  intro m
  induction m with
  | zero =>
    intro i s far hl h
    have e : s = far := by simpa [foldE] using h
    subst e
    exact ⟨by omega, fun _ _ => rfl, List.take_of_length_le (by omega), fun j h1 h2 => by omega⟩
  | succ m ih =>
    intro i s far hl h
    unfold foldE at h
    cases hq : nodeSt nodes olen i s with
    | inl r => rw [hq] at h; cases h
    | inr s2 =>
      rw [hq] at h
      unfold nodeSt at hq
      cases hd : nodeD nodes olen s i with
      | none => rw [hd] at hq; cases hq
      | some d =>
        rw [hd] at hq
        have e2 : s ++ [d] = s2 := Sum.inr.inj hq
        subst e2
        obtain ⟨g1, g2, g3, g4⟩ := ih (i + 1) (s ++ [d]) far (by simp; omega) h
        have ht : far.take i = s := by
          have := congrArg (List.take i) g3
          rw [List.take_take, Nat.min_eq_left (by omega)] at this
          rw [this, List.take_append_of_le_length (by omega), List.take_of_length_le (by omega)]
        refine ⟨by omega, fun j hj => ?_, ht, fun j h1 h2 => ?_⟩
        · rw [g2 j (by omega), List.getD_eq_getElem?_getD, List.getD_eq_getElem?_getD, List.getElem?_append_left (by omega)]
        · by_cases hj : i = j
          · subst hj
            rw [g2 i (by omega), ht]
            unfold nodeD at hd
            rw [hd]
            simp [List.getD_eq_getElem?_getD, ← hl]
          · exact g4 j (by omega) (by omega)
theorem vf_of {order : List Int} {nodes : List FNode} (h : validF order nodes = true) : ∃ far, VF order.length nodes far := by
  unfold validF at h
  simp only [Bool.and_eq_true, decide_eq_true_eq] at h
  obtain ⟨⟨⟨⟨_, h2⟩, h3⟩, h4⟩, h5⟩ := h
  have h2 := inR_iff.1 h2
  cases hs : foldE (nodeSt nodes order.length) (nodes.length - 1) 1 [0] with
  | inl r => rw [hs] at h5; simp at h5
  | inr far =>
    rw [hs] at h5
    obtain ⟨g1, g2, g3, g4⟩ := foldE_far _ 1 [0] far rfl hs
    exact ⟨far, by omega, by omega, h3, h4, by omega, by rw [g2 0 (by omega)]; rfl, by simpa using h5, fun i h1 h2 => g4 i h1 (by omega)⟩
theorem take_getD {xs : List Int} {i j : Nat} (h : j < i) : (xs.take i).getD j 0 = xs.getD j 0 := by
  rw [List.getD_eq_getElem?_getD, List.getD_eq_getElem?_getD, List.getElem?_take, if_pos h]
/-- what one node says -/
theorem VF.node {olen : Nat} {nodes : List FNode} {far : List Int} (V : VF olen nodes far) {i : Nat} (h1 : 1 ≤ i) (h2 : i < nodes.length) :
    (nodes.getD i ([], [])).1.length = (nodes.getD i ([], [])).2.length ∧ asc (nodes.getD i ([], [])).1 = true ∧
    ((nodes.getD i ([], [])).1 = [] ∧ i + 1 = nodes.length ∧ far.getD i 0 = olen ∨
     (nodes.getD i ([], [])).1 ≠ [] ∧ ∀ j, j < (nodes.getD i ([], [])).2.length → 0 ≤ (nodes.getD i ([], [])).2.getD j 0 ∧ (nodes.getD i ([], [])).2.getD j 0 < i ∧ far.getD ((nodes.getD i ([], [])).2.getD j 0).toNat 0 + 1 = far.getD i 0) := by
  have h := V.nd i h1 h2
  generalize nodes.getD i ([], []) = x at *
  unfold nodeX at h
  cases e1 : (decide (x.1.length = x.2.length) && validVals x.1 && asc x.1) with
  | false => rw [e1] at h; cases h
  | true =>
    rw [e1, cond_true] at h
    simp only [Bool.and_eq_true, decide_eq_true_eq] at e1
    refine ⟨e1.1.1, e1.2, ?_⟩
    by_cases hz : x.1.length = 0
    · rw [decide_eq_true hz, cond_true] at h
      by_cases hi : i + 1 = nodes.length
      · rw [decide_eq_true hi, cond_true] at h
        exact .inl ⟨List.length_eq_zero_iff.1 hz, hi, (Option.some.inj h).symm⟩
      · rw [decide_eq_false hi] at h; cases h
    · rw [decide_eq_false hz, cond_false] at h
      cases ha : (List.range' 0 x.2.length).all (chOk (far.take i) i x.2) with
      | false => rw [ha] at h; cases h
      | true =>
        rw [ha, Bool.true_and] at h
        cases hb : newNode nodes i x with
        | false => rw [hb] at h; cases h
        | true =>
          rw [hb, cond_true] at h
          refine .inr ⟨fun e => hz (by simp [e]), fun j hj => ?_⟩
          have hc : ∀ j, j < x.2.length → 0 ≤ x.2.getD j 0 ∧ x.2.getD j 0 < i ∧ far.getD (x.2.getD j 0).toNat 0 = (far.take i).getD (x.2.getD 0 0).toNat 0 := by
            intro j hj
            have := (List.all_eq_true.1 ha) j (by simp; omega)
            unfold chOk at this
            simp only [Bool.and_eq_true, decide_eq_true_eq] at this
            have g := inR_iff.1 this.1
            refine ⟨g.1, by omega, ?_⟩
            rw [← this.2, take_getD (by omega)]
          obtain ⟨q1, q2, q3⟩ := hc j hj
          exact ⟨q1, q2, by rw [q3]; exact Option.some.inj h⟩
/-! ### how many rows -/
def cStep (c : List Int) (s : Int) (ch : Int) : Int := imn 1000000000 (s + c.getD ch.toNat 0)
def cntSt (nodes : List FNode) (c : List Int) (i : Nat) : List Int := c ++ [(nodes.getD i ([], [])).2.foldl (cStep c) 0]
def cnts (nodes : List FNode) (m : Nat) : List Int := (List.range' 1 (m - 1)).foldl (cntSt nodes) [1]
theorem cnts_succ (nodes : List FNode) {m : Nat} (h : 1 ≤ m) : cnts nodes (m + 1) = cntSt nodes (cnts nodes m) m := by
  unfold cnts
  rw [show m + 1 - 1 = (m - 1) + 1 by omega, List.range'_concat, List.foldl_append, List.foldl_cons, List.foldl_nil, show 1 + 1 * (m - 1) = m by omega]
def cntOk (c : List Int) : Prop := ∀ x ∈ c, 0 ≤ x ∧ x ≤ 1000000000
theorem cnt_bd {c : List Int} (hc : cntOk c) (k : Nat) : 0 ≤ c.getD k 0 ∧ c.getD k 0 ≤ 1000000000 := by
  by_cases h : k < c.length
  · rw [show c.getD k 0 = c[k] by simp [h]]; exact hc _ (List.getElem_mem h)
  · rw [show c.getD k 0 = 0 by simp [h]]; omega
theorem imn_eq (a b : Int) : imn a b = if b < a then b else a := by unfold imn; rfl
theorem cStep_bd {c : List Int} (hc : cntOk c) {s ch : Int} (hs : 0 ≤ s ∧ s ≤ 1000000000) : 0 ≤ cStep c s ch ∧ cStep c s ch ≤ 1000000000 := by
  have := cnt_bd hc ch.toNat
  unfold cStep; rw [imn_eq]; split <;> omega
theorem cfold_bd {c : List Int} (hc : cntOk c) (l : List Int) : ∀ s : Int, 0 ≤ s ∧ s ≤ 1000000000 → 0 ≤ l.foldl (cStep c) s ∧ l.foldl (cStep c) s ≤ 1000000000 := by
  induction l with
  | nil => intro s h; exact h
  | cons x l ih => intro s h; exact ih _ (cStep_bd hc h)
theorem cnts_ok (nodes : List FNode) : ∀ m, 1 ≤ m → (cnts nodes m).length = m ∧ cntOk (cnts nodes m) := by
  intro m
  induction m with
  | zero => intro h; omega
  | succ m ih =>
    intro _
    by_cases h : m = 0
    · subst h; refine ⟨rfl, fun x hx => ?_⟩; simp [cnts] at hx; subst hx; omega
    · obtain ⟨h1, h2⟩ := ih (by omega)
      rw [cnts_succ nodes (by omega)]
      unfold cntSt
      refine ⟨by simp [h1], fun x hx => ?_⟩
      rcases List.mem_append.1 hx with h3 | h3
      · exact h2 x h3
      · simp at h3; subst h3; exact cfold_bd h2 _ 0 (by omega)
theorem foldl_range {α σ : Type} (f : σ → α → σ) (d : α) (xs : List α) : ∀ (n : Nat), n ≤ xs.length → ∀ s, (List.range' (xs.length - n) n).foldl (fun s j => f s (xs.getD j d)) s = (xs.drop (xs.length - n)).foldl f s := by
  intro n
  induction n with
  | zero => intro _ s; simp
  | succ n ih =>
    intro h s
    have hg : xs.getD (xs.length - (n + 1)) d = xs[xs.length - (n + 1)]'(by omega) := by
      rw [List.getD_eq_getElem?_getD, List.getElem?_eq_getElem (by omega)]; rfl
    rw [List.range'_succ, List.foldl_cons, show xs.length - (n + 1) + 1 = xs.length - n by omega, ih (by omega), hg, List.drop_eq_getElem_cons (by omega : xs.length - (n + 1) < xs.length), List.foldl_cons, show xs.length - (n + 1) + 1 = xs.length - n by omega]
theorem foldl_range0 {α σ : Type} (f : σ → α → σ) (d : α) (xs : List α) (s : σ) : (List.range' 0 xs.length).foldl (fun s j => f s (xs.getD j d)) s = xs.foldl f s := by
  have := foldl_range f d xs xs.length (Nat.le_refl _) s
  simpa using this
theorem foldl_range' {σ : Type} (f g : σ → Nat → σ) (n : Nat) : ∀ i s, (∀ j s, i ≤ j → j < i + n → f s j = g s j) → (List.range' i n).foldl f s = (List.range' i n).foldl g s := by
  induction n with
  | zero => intro i s h; rfl
  | succ n ih =>
    intro i s h
    rw [List.range'_succ, List.foldl_cons, List.foldl_cons, h i s (by omega) (by omega)]
    exact ih _ _ fun j s h1 h2 => h j s (by omega) (by omega)
section
variable {N : Nat}
theorem VF.ch {olen : Nat} {nodes : List FNode} {far : List Int} (V : VF olen nodes far) {i : Nat} (h2 : i < nodes.length) {j : Nat} (hj : j < (nodes.getD i ([], [])).2.length) : 0 ≤ (nodes.getD i ([], [])).2.getD j 0 ∧ (nodes.getD i ([], [])).2.getD j 0 < i := by
  by_cases h1 : 1 ≤ i
  · obtain ⟨g1, _, g3⟩ := V.node h1 h2
    rcases g3 with ⟨g4, _⟩ | ⟨_, g4⟩
    · rw [g4, List.length_nil] at g1; omega
    · exact ⟨(g4 j hj).1, (g4 j hj).2.1⟩
  · obtain rfl : i = 0 := by omega
    rw [V.z2] at hj; simp at hj
end
end Go.Proofs.Ytkpeabpdiffjhaa
