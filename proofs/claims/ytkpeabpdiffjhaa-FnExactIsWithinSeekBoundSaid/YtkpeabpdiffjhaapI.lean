/- Plain laws: a row's place among the rows of a factorization. -/
import Derived.Test.YtkpeabpdiffjhaapH
namespace Go.Proofs.Ytkpeabpdiffjhaa
open Go.RowKit

/-! ### counts again -/
theorem cnts_get (nodes : List FNode) : ∀ m i, 1 ≤ i → i < m → (cnts nodes m).getD i 0 = (nodes.getD i ([], [])).2.foldl (cStep (cnts nodes i)) 0 := by
  intro m
  induction m with
  | zero => intro i h1 h2; omega
  | succ m ih =>
    intro i h1 h2
    have hm : 1 ≤ m := by omega
    have hl := (cnts_ok nodes m hm).1
    rw [cnts_succ nodes hm]
    unfold cntSt
    by_cases h : i < m
    · rw [List.getD_eq_getElem?_getD, List.getElem?_append_left (by omega), ← List.getD_eq_getElem?_getD, ih i h1 h]
    · obtain rfl : i = m := by omega
      rw [List.getD_eq_getElem?_getD, List.getElem?_append_right (by omega), hl, Nat.sub_self]; rfl
theorem cnts_0 (nodes : List FNode) : ∀ m, 1 ≤ m → (cnts nodes m).getD 0 0 = 1 := by
  intro m
  induction m with
  | zero => intro h; omega
  | succ m ih =>
    intro _
    by_cases h : m = 0
    · subst h; rfl
    · have hl := (cnts_ok nodes m (by omega)).1
      rw [cnts_succ nodes (by omega)]
      unfold cntSt
      rw [List.getD_eq_getElem?_getD, List.getElem?_append_left (by omega), ← List.getD_eq_getElem?_getD, ih (by omega)]
theorem cnts_pre (nodes : List FNode) : ∀ m i j, 1 ≤ i → j < i → i ≤ m → (cnts nodes m).getD j 0 = (cnts nodes i).getD j 0 := by
  intro m i j h1 h2 h3
  by_cases hj : j = 0
  · subst hj; rw [cnts_0 nodes m (by omega), cnts_0 nodes i h1]
  · rw [cnts_get nodes m j (by omega) (by omega), cnts_get nodes i j (by omega) h2]
theorem cfold_pos {c : List Int} (hc : cntOk c) (l : List Int) : ∀ s : Int, 1 ≤ s ∧ s ≤ 1000000000 → 1 ≤ l.foldl (cStep c) s := by
  induction l with
  | nil => intro s h; exact h.1
  | cons x l ih =>
    intro s h
    refine ih _ ?_
    have := cnt_bd hc x.toNat
    unfold cStep; rw [imn_eq]; split <;> omega
theorem cnts_pos {olen : Nat} {nodes : List FNode} {far : List Int} (V : VF olen nodes far) : ∀ i, i < nodes.length → (i = 0 ∨ (nodes.getD i ([], [])).1 ≠ []) → 1 ≤ (cnts nodes nodes.length).getD i 0 := by
  intro i
  induction i using Nat.strongRecOn with
  | _ i ih =>
    intro hi hq
    by_cases h0 : i = 0
    · subst h0; rw [cnts_0 nodes _ hi]; omega
    · have hne := hq.resolve_left h0
      have hl := V.lens hi
      rw [cnts_get nodes _ i (by omega) hi]
      have hch := V.ch hi (j := 0) (by
        have := List.length_pos_iff.2 hne; omega)
      have hcnt := cnts_ok nodes i (by omega)
      cases hx : (nodes.getD i ([], [])).2 with
      | nil => rw [hx] at hl; exact absurd (List.length_eq_zero_iff.1 hl) hne
      | cons y t =>
        rw [hx] at hch
        have hy : 0 ≤ y ∧ y < i := hch
        have hk := ih y.toNat (by omega) (by omega) (by
          by_cases hy0 : y.toNat = 0
          · exact .inl hy0
          · refine .inr fun e => ?_
            have := V.node (i := y.toNat) (by omega) (by omega)
            rcases this.2.2 with ⟨_, g, _⟩ | ⟨g, _⟩
            · omega
            · exact g e)
        rw [cnts_pre nodes _ i y.toNat (by omega) (by omega) (by omega)] at hk
        rw [List.foldl_cons]
        have hb := cnt_bd hcnt.2 y.toNat
        refine cfold_pos hcnt.2 t _ ?_
        unfold cStep; rw [imn_eq]; split <;> omega
/-! ### the rank -/
/-- at node x: one value more -/
def scanSt (c : List Int) (x : FNode) (v : Int) (t : Int × Int) (j : Nat) : Int × Int :=
  (if x.1.getD j 0 < v then t.1 + c.getD (x.2.getD j 0).toNat 0 else t.1, if x.1.getD j 0 = v then x.2.getD j 0 else t.2)
def scan (c : List Int) (x : FNode) (v : Int) (i n : Nat) (t : Int × Int) : Int × Int := (List.range' i n).foldl (scanSt c x v) t
theorem scan_succ (c : List Int) (x : FNode) (v : Int) (i n : Nat) (t : Int × Int) : scan c x v i (n + 1) t = scan c x v (i + 1) n (scanSt c x v t i) := by unfold scan; rw [List.range'_succ, List.foldl_cons]
theorem scan_add (c : List Int) (x : FNode) (v : Int) (s : Int) : ∀ n i t, scan c x v i n (s + t.1, t.2) = (s + (scan c x v i n t).1, (scan c x v i n t).2) := by
  intro n
  induction n with
  | zero => intro i t; rfl
  | succ n ih =>
    intro i t
    rw [scan_succ, scan_succ, ← ih]
    congr 1
    unfold scanSt
    simp only []
    congr 1
    split <;> omega
def rk (nodes : List FNode) (c : List Int) : List Int → Int → Int × Bool
  | [], _ => (0, true)
  | v :: vs, nd =>
    let x := nodes.getD nd.toNat ([], [])
    let t := scan c x v 0 x.1.length (0, -1)
    if t.2 < 0 then (t.1, false) else (t.1 + (rk nodes c vs t.2).1, (rk nodes c vs t.2).2)
def rankV (order : List Int) (nodes : List FNode) (vs : List Int) : Int × Bool :=
  bif validF order nodes then
    (if vs.length = order.length then
      (if 1 < nodes.length ∧ (nodes.getD (nodes.length - 1) ([], [])).1 = [] then (0, false)
       else rk nodes (cnts nodes nodes.length) vs ((nodes.length - 1 : Nat) : Int))
     else (0, false)) else (0, false)
theorem scan_bd {c : List Int} (hc : cntOk c) {x : FNode} {v : Int} {m : Nat} (hch : ∀ j, j < x.2.length → 0 ≤ x.2.getD j 0 ∧ x.2.getD j 0 < m) (hl : x.1.length = x.2.length) : ∀ (n i : Nat) (t : Int × Int), i + n = x.1.length → (t.2 = -1 ∨ 0 ≤ t.2 ∧ t.2 < m) →
    t.1 ≤ (scan c x v i n t).1 ∧ (scan c x v i n t).1 ≤ t.1 + n * 1000000000 ∧ ((scan c x v i n t).2 = -1 ∨ 0 ≤ (scan c x v i n t).2 ∧ (scan c x v i n t).2 < m) := by
  intro n
  induction n with
  | zero => intro i t _ ht; exact ⟨Int.le_refl _, by simp [scan], ht⟩
  | succ n ih =>
    intro i t hi ht
    rw [scan_succ]
    have hb := cnt_bd hc (x.2.getD i 0).toNat
    have h2 : (scanSt c x v t i).2 = -1 ∨ 0 ≤ (scanSt c x v t i).2 ∧ (scanSt c x v t i).2 < m := by
      unfold scanSt
      simp only []
      split
      · exact .inr (hch i (by omega))
      · exact ht
    have h1 : t.1 ≤ (scanSt c x v t i).1 ∧ (scanSt c x v t i).1 ≤ t.1 + 1000000000 := by
      unfold scanSt
      simp only []
      split <;> omega
    obtain ⟨g1, g2, g3⟩ := ih (i + 1) _ (by omega) h2
    exact ⟨by omega, by omega, g3⟩
theorem asc_lt : ∀ (xs : List Int), asc xs = true → ∀ i j, i < j → j < xs.length → xs.getD i 0 < xs.getD j 0
  | [], _, i, j, h1, h2 => by simp at h2
  | [x], _, i, j, h1, h2 => by simp at h2; omega
  | x :: y :: t, h, i, j, h1, h2 => by
    unfold asc at h
    simp only [Bool.and_eq_true, decide_eq_true_eq] at h
    obtain ⟨k1, k2⟩ := h
    have ih := asc_lt (y :: t) k2
    cases j with
    | zero => omega
    | succ j =>
      cases i with
      | zero =>
        by_cases hj : j = 0
        · subst hj; simpa using k1
        · have := ih 0 j (by omega) (by simpa using h2)
          simp only [List.getD_cons_succ, List.getD_cons_zero] at this ⊢
          omega
      | succ i => simpa using ih i j (by omega) (by simpa using h2)
/-- past the value nothing more happens -/
theorem scan_past {c : List Int} {x : FNode} {v : Int} : ∀ n i t, i + n = x.1.length → (∀ j, i ≤ j → j < x.1.length → v < x.1.getD j 0) → scan c x v i n t = t := by
  intro n
  induction n with
  | zero => intro i t _ _; rfl
  | succ n ih =>
    intro i t hi h
    have hv := h i (Nat.le_refl _) (by omega)
    rw [scan_succ]
    have : scanSt c x v t i = t := by
      unfold scanSt
      rw [if_neg (by omega), if_neg (by omega)]
    rw [this]
    exact ih (i + 1) t (by omega) fun j h1 h2 => h j (by omega) h2
def okD (nodes : List FNode) (nd : Int) : Prop := inN nodes nd ∧ (nd = 0 ∨ (nodes.getD nd.toNat ([], [])).1 ≠ [])
theorem okD_ch {olen : Nat} {nodes : List FNode} {far : List Int} (V : VF olen nodes far) {nd ch : Int} (h : inN nodes nd) (h0 : 0 ≤ ch) (h1 : ch < nd) : okD nodes ch := by
  have := h.1; have := h.2
  refine ⟨⟨h0, by omega⟩, ?_⟩
  by_cases hz : ch = 0
  · exact .inl hz
  · refine .inr fun e => ?_
    rcases (V.node (i := ch.toNat) (by omega) (by omega)).2.2 with ⟨_, g, _⟩ | ⟨g, _⟩
    · omega
    · exact g e
theorem rk_bd {olen : Nat} {nodes : List FNode} {far : List Int} (V : VF olen nodes far) (hn : okN nodes) {c : List Int} (hc : cntOk c) : ∀ vs nd, inN nodes nd → 0 ≤ (rk nodes c vs nd).1 ∧ (rk nodes c vs nd).1 ≤ nd * 1048576000000000 := by
  intro vs
  induction vs with
  | nil => intro nd h; have := h.1; unfold rk; omega
  | cons v vs ih =>
    intro nd h
    have h1 := h.1; have h2 := h.2
    unfold rk
    have hi : nd.toNat < nodes.length := by omega
    have hl := V.lens hi
    have hkx := okN_at hn hi
    rw [← getN_at hi] at hkx
    have hch := fun j hj => V.ch hi (j := j) hj
    simp only []
    by_cases hz : nd = 0
    · subst hz
      have : (nodes.getD (0 : Int).toNat ([], [])).1 = [] := V.z1
      rw [this]; simp [scan]
    generalize nodes.getD nd.toNat ([], []) = x at *
    obtain ⟨g1, g2, g3⟩ := scan_bd hc (v := v) hch hl x.1.length 0 (0, -1) (by omega) (.inl rfl)
    have := hkx.1.1
    generalize scan c x v 0 x.1.length (0, -1) = t at *
    split
    · simp only []; omega
    · simp only [] at g1 g2 ⊢
      have := ih t.2 ⟨by omega, by omega⟩
      omega
section
variable {N : Nat}
end
end Go.Proofs.Ytkpeabpdiffjhaa
