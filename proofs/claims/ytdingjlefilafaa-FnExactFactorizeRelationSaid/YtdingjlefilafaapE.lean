/- Plain laws: validity of factorizations, the reference's. -/
import Derived.Test.YtdingjlefilafaapD
namespace Go.Proofs.Ytdingjlefilafaa
open Go.RowKit

theorem range1_all {α : Type} (xs : List α) (i : Nat) (hi : i ≤ xs.length) (p : α → Bool) (q : Nat → Bool) (h : ∀ k (hk : k < xs.length), q k = p xs[k]) : (List.range' 1 (i - 1)).all q = ((xs.take i).drop 1).all p := by
  rw [Bool.eq_iff_iff, List.all_eq_true, List.all_eq_true]
  constructor
  · intro hq x hx
    obtain ⟨j, hj, rfl⟩ := List.getElem_of_mem hx
    simp only [List.length_drop, List.length_take] at hj
    have := hq (j + 1) (by rw [List.mem_range'_1]; omega)
    rw [h (j + 1) (by omega)] at this
    simpa [Nat.add_comm] using this
  · intro hp k hk
    rw [List.mem_range'_1] at hk
    rw [h k (by omega)]
    refine hp _ ?_
    have : ((xs.take i).drop 1)[k - 1]'(by simp; omega) = xs[k]'(by omega) := by
      simp only [List.getElem_drop, List.getElem_take]
      congr 1; omega
    rw [← this]; exact List.getElem_mem _
section
variable {N : Nat}
theorem far_at0 {i : Nat} {far : List Int} (hf : farOk i far) {c : Int} (hc : inR c 0 ((i : Int) - 1) = true) : ix far c = some (far.getD c.toNat 0) := by
  have := far_at (tl := []) hf hc
  simpa using this
theorem nodeStep_spec (hN : 1073741824 ≤ N) {order : List Int} {nodes : List FNode} (ho : order.length ≤ 1048576) (hn : okN nodes) {far : List Int} {i k : Nat} (hi : i < nodes.length) (h0 : 1 ≤ i) (hf : farOk i far) :
    spec_IsValidFactorization_L1 N (k + 1) order nodes far (i : Int) = (match nodeSt nodes order.length i far with | .inl r => some (.inl r) | .inr s' => spec_IsValidFactorization_L1 N k order nodes s' ((i + 1 : Nat) : Int)) := by
  obtain ⟨k1, k2⟩ := okN_at hn hi
  have hl := hn.1
  have hfl := hf.1
  rw [spec_IsValidFactorization_L1, dlt hi, cond_true, ix_nat hi, bs]
  unfold nodeSt nodeD
  rw [getN_at hi]
  unfold nodeX
  generalize hx : nodes[i] = x at *
  by_cases h1 : x.1.length = x.2.length
  case neg => rw [lenNe' h1, cond_true, decide_eq_false h1]; rfl
  rw [show ((x.1.length : Int) != (x.2.length : Int)) = false by simp [h1], cond_false, decide_eq_true h1, IsStrictlyAscending_spec_eq hN k1.1, bs, AreValidValues_spec_eq hN k1.1, bs]
  cases asc x.1
  · cases validVals x.1 <;> rfl
  cases validVals x.1
  · rfl
  simp only [cond_true, Bool.and_self]
  by_cases h2 : x.1.length = 0
  · rw [show ((x.1.length : Int) == 0) = true by simp [h2], cond_true, decide_eq_true h2, cond_true, sb_ok (by omega) (by omega), bs, bneD]
    by_cases h3 : i + 1 = nodes.length
    · rw [decide_eq_true h3, decide_eq_true (by omega : (i : Int) = (nodes.length : Int) - 1), Bool.not_true, cond_false, apd_ok' (by decide) (by simp; omega), bs, ad1 (by omega), bs]; rfl
    · rw [decide_eq_false h3, decide_eq_false (by omega : ¬ (i : Int) = (nodes.length : Int) - 1)]; rfl
  rw [show ((x.1.length : Int) == 0) = false by simp; exact fun h => h2 (by simp [h]), cond_false, decide_eq_false h2, cond_false]
  have hc0 : 0 < x.2.length := by omega
  have hcl := k2.1
  have hL := loopAI (fun k j => spec_IsValidFactorization_L2 N k order nodes far (i : Int) x.1 x.2 j) x.2.length false (chOk far i x.2) (x.2.length : Int) (fun j => j = 0 ∨ chOk far i x.2 0 = true)
    (fun k j h hI => by
      refine ⟨?_, fun hp => ?_⟩
      · show spec_IsValidFactorization_L2 N (k + 1) order nodes far (i : Int) x.1 x.2 (j : Int) = _
        rw [spec_IsValidFactorization_L2, dlt h, cond_true, ix_nat h, bs, sb_ok (by omega) (by omega), bs, l1In_eq, bs, bs]
        unfold chOk
        rw [show x.2.getD j 0 = x.2[j] from getD_at h]
        cases hw : inR x.2[j] 0 ((i : Int) - 1)
        · rfl
        rw [cond_true, far_at0 hf hw, bs, ix0 hc0, bs]
        have h00 : inR (x.2.getD 0 0) 0 ((i : Int) - 1) = true := by
          rcases hI with rfl | hI
          · rw [getD_at h]; exact hw
          · exact chk0 hI
        rw [getD_at hc0] at h00
        rw [far_at0 hf h00, bs, bneD, ad1 (by omega), bs, Bool.true_and, getD_at hc0]
        cases decide (far.getD (x.2[j]).toNat 0 = far.getD (x.2[0]).toNat 0) <;> rfl
      · rcases hI with rfl | hI
        · exact .inr hp
        · exact .inr hI)
    (fun k => by
      show spec_IsValidFactorization_L2 N (k + 1) order nodes far (i : Int) x.1 x.2 (x.2.length : Int) = _
      rw [spec_IsValidFactorization_L2, dge (by omega), cond_false]) N 0 (by omega) (by omega) (.inl rfl)
  have hL' : spec_IsValidFactorization_L2 N N order nodes far (i : Int) x.1 x.2 0 = _ := hL
  rw [hL', bs, Nat.sub_zero]
  cases hall : (List.range' 0 x.2.length).all (chOk far i x.2)
  · rfl
  have h00 : inR (x.2[0]) 0 ((i : Int) - 1) = true := by
    rw [List.all_eq_true] at hall
    have := chk0 (hall 0 (by simp; omega))
    rw [getD_at hc0] at this; exact this
  rw [cond_true, Bool.true_and]
  have hb := far_bd hf (x.2[0]).toNat
  simp only [lpS]
  rw [ix0 hc0, bs, far_at0 hf h00, bs, ad_ok (by omega) (by omega), bs, apd_ok' (by decide) (by simp; omega), bs]
  have hL2 := loopA (fun k j => spec_IsValidFactorization_L3 N k order nodes (far ++ [far.getD (x.2[0]).toNat 0 + 1]) (i : Int) x.1 x.2 j) i (by omega) false (fun j => if h : j < nodes.length then !decide (nodes[j] = x) else true) (i : Int)
    (fun k j h => by
      obtain ⟨q1, q2⟩ := okN_at hn (by omega : j < nodes.length)
      have a1 := k1.1; have a2 := k2.1
      show spec_IsValidFactorization_L3 N (k + 1) order nodes _ (i : Int) x.1 x.2 (j : Int) = _
      rw [spec_IsValidFactorization_L3, dlt h, cond_true, ix_nat (by omega), bs, bs, CompareRows_spec_eq hN q1.1 (by omega), bs, CompareRows_spec_eq hN q2.1 (by omega), bs, cmpR_beq, cmpR_beq, ad1 (by omega), bs]
      simp only [dif_pos (by omega : j < nodes.length), bs]
      rw [node_eq]
      cases decide (nodes[j].1 = x.1) <;> cases decide (nodes[j].2 = x.2) <;> rfl)
    (fun k => by
      show spec_IsValidFactorization_L3 N (k + 1) order nodes _ (i : Int) x.1 x.2 (i : Int) = _
      rw [spec_IsValidFactorization_L3, dge (by omega), cond_false]) N 1 h0 (by omega)
  have hL2' : spec_IsValidFactorization_L3 N N order nodes (far ++ [far.getD (x.2[0]).toNat 0 + 1]) (i : Int) x.1 x.2 1 = _ := hL2
  rw [hL2', bs, range1_all nodes i (by omega) (fun m => !decide (m = x)) _ (fun j hj => by rw [dif_pos hj])]
  unfold newNode
  cases ((nodes.take i).drop 1).all fun m => !decide (m = x)
  · simp only [cond_false, lpS]
  simp only [cond_true, lpS]
  rw [ad1 (by omega), bs, getD_at hc0]
theorem foldE_ok {nodes : List FNode} {olen : Nat} (hol : olen ≤ 1048576) : ∀ (m i : Nat) (s s' : List Int), i + m = nodes.length → farOk i s → foldE (nodeSt nodes olen) m i s = .inr s' → farOk nodes.length s' := by
  intro m
  induction m with
  | zero => intro i s s' h1 h2 h3; simp [foldE] at h3; subst h3; simp at h1; subst h1; exact h2
  | succ m ih =>
    intro i s s' h1 h2 h3
    unfold foldE at h3
    cases hs : nodeSt nodes olen i s with
    | inl r => simp [hs] at h3
    | inr s2 => simp only [hs] at h3; exact ih (i + 1) s2 s' (by omega) (nodeSt_ok hol h2 hs) h3
theorem foldE_false {nodes : List FNode} {olen : Nat} {r : Bool} : ∀ (m i : Nat) (s : List Int), foldE (nodeSt nodes olen) m i s = .inl r → r = false := by
  intro m
  induction m with
  | zero => intro i s h; simp [foldE] at h
  | succ m ih =>
    intro i s h
    unfold foldE at h
    cases hq : nodeSt nodes olen i s with
    | inl r2 =>
      rw [hq] at h
      have e : r2 = r := Sum.inl.inj h
      subst e
      unfold nodeSt at hq
      cases hd : nodeD nodes olen s i with
      | none => rw [hd] at hq; exact (Sum.inl.inj hq).symm
      | some d => rw [hd] at hq; cases hq
    | inr s2 => rw [hq] at h; exact ih _ _ h
theorem IsValidFactorization_spec_eq (hN : 1073741824 ≤ N) {order : List Int} {nodes : List FNode} (ho : okI order) (hn : okN nodes) : spec_IsValidFactorization N order nodes = some (validF order nodes) := by
  have hl := hn.1
  have hol := ho.1
  unfold spec_IsValidFactorization validF
  rw [IsPermutation_spec_eq hN ho.1, bs]
  cases isPermB order
  · rfl
  by_cases h1 : nodes.length < 1
  · rw [decide_eq_true (by omega : (nodes.length : Int) < 1), show inR (nodes.length : Int) 1 4000 = false by rw [← Bool.not_eq_true, inR_iff]; omega]; rfl
  rw [decide_eq_false (by omega : ¬ (nodes.length : Int) < 1)]
  by_cases h2 : 4000 < nodes.length
  · rw [decide_eq_true (by omega : (4000 : Int) < (nodes.length : Int)), show inR (nodes.length : Int) 1 4000 = false by rw [← Bool.not_eq_true, inR_iff]; omega]; rfl
  rw [decide_eq_false (by omega : ¬ (4000 : Int) < (nodes.length : Int)), show inR (nodes.length : Int) 1 4000 = true by rw [inR_iff]; omega]
  have hp : 0 < nodes.length := by omega
  obtain ⟨k1, k2⟩ := okN_at hn hp
  have := k1.1; have := k2.1
  simp only [cond_true, cond_false, Bool.true_and]
  rw [ix0 hp, bs, bs, ad_ok (by omega) (by omega), bs, getN_at hp]
  by_cases e1 : nodes[0].1 = []
  case neg =>
    have : 0 < nodes[0].1.length := List.length_pos_iff.2 e1
    rw [decide_eq_true (by omega), decide_eq_false e1]; rfl
  by_cases e2 : nodes[0].2 = []
  case neg =>
    have : 0 < nodes[0].2.length := List.length_pos_iff.2 e2
    rw [decide_eq_true (by omega), decide_eq_false e2, Bool.and_false]; rfl
  rw [decide_eq_false (by simp [e1, e2]), decide_eq_true e1, decide_eq_true e2, cond_false, Bool.true_and, Bool.true_and]
  have hL := loopE (fun k (s : List Int) i => spec_IsValidFactorization_L1 N k order nodes s i) nodes.length (by omega) (nodeSt nodes order.length) (fun s => ((s, (nodes.length : Int)) : List Int × Int)) (fun i s => 1 ≤ i ∧ farOk i s)
    (fun k i s h hI => ⟨by have h9 := nodeStep_spec (k := k) hN hol hn h hI.1 hI.2; rw [h9]; cases nodeSt nodes order.length i s <;> rfl, fun s' hs => ⟨by omega, nodeSt_ok hol hI.2 hs⟩⟩)
    (fun k s hI => by
      show spec_IsValidFactorization_L1 N (k + 1) order nodes _ (nodes.length : Int) = _
      rw [spec_IsValidFactorization_L1, dge (by omega), cond_false]) N 1 [0] (by omega) (by omega) ⟨Nat.le_refl _, rfl, by simp⟩
  have hL' : spec_IsValidFactorization_L1 N N order nodes [0] 1 = _ := hL
  rw [hL', bs]
  cases hs : foldE (nodeSt nodes order.length) (nodes.length - 1) 1 [0] with
  | inl r => rw [foldE_false _ _ _ hs]; rfl
  | inr far =>
    have hf := foldE_ok hol (nodes.length - 1) 1 [0] far (by omega) ⟨rfl, by simp⟩ hs
    have hfl := hf.1
    simp only [lpS]
    simp only [hfl]
    rw [sb_ok (by omega) (by omega), bs, show ((nodes.length : Int) - 1) = ((nodes.length - 1 : Nat) : Int) by omega, ix_nat (by omega), bs, beqD]
    have : far.getD (nodes.length - 1) 0 = far[nodes.length - 1]'(by omega) := by rw [List.getD_eq_getElem?_getD, List.getElem?_eq_getElem (by omega)]; rfl
    rw [this]
end
end Go.Proofs.Ytdingjlefilafaa
