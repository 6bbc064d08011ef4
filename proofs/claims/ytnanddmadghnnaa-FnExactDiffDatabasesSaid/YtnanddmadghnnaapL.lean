/- Plain laws: values that are in all lists, by lookup. -/
import Derived.Test.YtnanddmadghnnaapK
namespace Go.Proofs.Ytnanddmadghnnaa
open Go.RowKit

def allAsc (ls : List (List Int)) : Bool := ls.all asc && decide (0 < ls.length)
def shortSt (ls : List (List Int)) (i : Nat) (s : Int) : Int := bif decide ((ls.getD i []).length < (ls.getD s.toNat []).length) then (i : Int) else s
def shortI (ls : List (List Int)) : Int := (List.range' 1 (ls.length - 1)).foldl (fun s i => shortSt ls i s) 0
def inSt (ls : List (List Int)) (sh : Int) (v : Int) (t : Int × Bool) (j : Nat) : Int × Bool := bif t.2 && ((j : Int) != sh) then (t.1 + 1, decide (v ∈ ls.getD j [])) else t
def inF (ls : List (List Int)) (sh v : Int) (j m : Nat) (t : Int × Bool) : Int × Bool := (List.range' j m).foldl (inSt ls sh v) t
theorem inF_succ (ls : List (List Int)) (sh v : Int) (j m : Nat) (t : Int × Bool) : inF ls sh v j (m + 1) t = inF ls sh v (j + 1) m (inSt ls sh v t j) := by unfold inF; rw [List.range'_succ, List.foldl_cons]
theorem inF_false (ls : List (List Int)) (sh v c : Int) : ∀ m j, inF ls sh v j m (c, false) = (c, false) := by
  intro m
  induction m with
  | zero => intro j; rfl
  | succ m ih => intro j; rw [inF_succ]; exact ih (j + 1)
theorem inF_bd (ls : List (List Int)) (sh v : Int) : ∀ m j t, t.1 ≤ (inF ls sh v j m t).1 ∧ (inF ls sh v j m t).1 ≤ t.1 + m := by
  intro m
  induction m with
  | zero => intro j t; simp [inF]
  | succ m ih =>
    intro j t
    rw [inF_succ]
    have h := ih (j + 1) (inSt ls sh v t j)
    have : t.1 ≤ (inSt ls sh v t j).1 ∧ (inSt ls sh v t j).1 ≤ t.1 + 1 := by
      unfold inSt
      cases (t.2 && ((j : Int) != sh))
      · simp only [cond_false]; omega
      · simp only [cond_true]; omega
    omega
def outSt (ls : List (List Int)) (sh : Int) (vs : List Int) (i : Nat) (s : List Int × Int) : List Int × Int :=
  let t := inF ls sh (vs.getD i 0) 0 ls.length (s.2, true)
  (bif t.2 then s.1 ++ [vs.getD i 0] else s.1, t.1)
def interV (ls : List (List Int)) : List Int × Int :=
  bif allAsc ls then (List.range' 0 (ls.getD (shortI ls).toNat []).length).foldl (fun s i => outSt ls (shortI ls) (ls.getD (shortI ls).toNat []) i s) ([], 0) else ([], 0)
theorem shortSt_in {ls : List (List Int)} {i : Nat} {s : Int} (hi : i < ls.length) (h : 0 ≤ s ∧ s < ls.length) : 0 ≤ shortSt ls i s ∧ shortSt ls i s < ls.length := by
  unfold shortSt
  cases decide ((ls.getD i []).length < (ls.getD s.toNat []).length)
  · exact h
  · simp only [cond_true]; omega
theorem shortI_in {ls : List (List Int)} (h : 0 < ls.length) : 0 ≤ shortI ls ∧ shortI ls < ls.length := by
  unfold shortI
  have : ∀ m j (s : Int), j + m = ls.length → 0 ≤ s ∧ s < ls.length → 0 ≤ (List.range' j m).foldl (fun s i => shortSt ls i s) s ∧ (List.range' j m).foldl (fun s i => shortSt ls i s) s < ls.length := by
    intro m
    induction m with
    | zero => intro j s _ h; exact h
    | succ m ih => intro j s hj hs; rw [List.range'_succ, List.foldl_cons]; exact ih (j + 1) _ (by omega) (shortSt_in (by omega) hs)
  exact this _ 1 0 (by omega) (by omega)
theorem interV_ok {ls : List (List Int)} (h : okII ls) : okI (interV ls).1 := by
  unfold interV
  cases ha : allAsc ls
  · exact ⟨by simp, fun _ _ => trivial⟩
  have hp : 0 < ls.length := by unfold allAsc at ha; simp at ha; exact ha.2
  have hin := shortI_in hp
  rw [cond_true]
  generalize hvs : ls.getD (shortI ls).toNat [] = vs
  have hl : vs.length ≤ 1048576 := by
    rw [← hvs, getL_at (by omega)]; exact okII_at h (by omega)
  have : ∀ m j (s : List Int × Int), s.1.length ≤ j → j + m = vs.length → ((List.range' j m).foldl (fun s i => outSt ls (shortI ls) vs i s) s).1.length ≤ vs.length := by
    intro m
    induction m with
    | zero => intro j s h1 h2; simp only [List.range'_zero, List.foldl_nil]; omega
    | succ m ih =>
      intro j s h1 h2
      rw [List.range'_succ, List.foldl_cons]
      refine ih (j + 1) _ ?_ (by omega)
      unfold outSt
      simp only []
      cases (inF ls (shortI ls) (vs.getD j 0) 0 ls.length (s.2, true)).2
      · simp only [cond_false]; omega
      · simp only [cond_true, List.length_append, List.length_singleton]; omega
  exact ⟨by have := this vs.length 0 ([], 0) (by simp) (by omega); omega, fun _ _ => trivial⟩
section
variable {N : Nat}
theorem ascLists {L : Nat → Int → Option (Sum Bool Int)} {ls : List (List Int)} (hN : 1073741824 ≤ N) (h : okII ls)
    (hs : ∀ k i (hi : i < ls.length), L (k + 1) (i : Int) = bif asc ls[i] then L k ((i + 1 : Nat) : Int) else some (.inl false)) (he : ∀ k, L (k + 1) (ls.length : Int) = some (.inr (ls.length : Int))) :
    (L N 0).bind (fun s => lpS s (fun q => some q) fun _ => some (decide (0 < (ls.length : Int)))) = some (allAsc ls) := by
  have hl := h.1
  have := loopA L ls.length (by omega) false (fun i => if h : i < ls.length then asc ls[i] else true) (ls.length : Int)
    (fun k i hi => by rw [hs k i hi]; simp only [dif_pos hi]) he N 0 (by omega) (by omega)
  rw [show ((0 : Int)) = ((0 : Nat) : Int) from rfl, this, bs, Nat.sub_zero, range_all ls asc _ (fun i hi => by rw [dif_pos hi])]
  unfold allAsc
  cases ls.all asc
  · rfl
  · simp only [cond_true, lpS, Bool.true_and]; simp
theorem l18All_eq (hN : 1073741824 ≤ N) {ls : List (List Int)} (h : okII ls) : spec_l18All N ls = some (allAsc ls) := by
  have hl := h.1
  unfold spec_l18All
  exact ascLists hN h (L := fun k i => spec_l18All_L1 N k ls i)
    (fun k i hi => by
      show spec_l18All_L1 N (k + 1) ls (i : Int) = _
      rw [spec_l18All_L1, dlt hi, cond_true, ix_nat hi, bs, IsStrictlyAscending_spec_eq hN (okII_at h hi), bs, ad1 (by omega), bs])
    (fun k => by
      show spec_l18All_L1 N (k + 1) ls (ls.length : Int) = _
      rw [spec_l18All_L1, dge (by omega), cond_false])
theorem ascendingLists_eq (hN : 1073741824 ≤ N) {ls : List (List Int)} (h : okII ls) : impl_ascendingLists N ls = some (allAsc ls) := by
  have hl := h.1
  unfold impl_ascendingLists
  exact ascLists hN h (L := fun k i => impl_ascendingLists_L1 N k ls ls (ls.length : Int) i)
    (fun k i hi => by
      show impl_ascendingLists_L1 N (k + 1) ls ls (ls.length : Int) (i : Int) = _
      rw [impl_ascendingLists_L1, dlt hi, cond_true, ix_nat hi, bs, IsStrictlyAscending_impl_eq hN (okII_at h hi), bs, ad1 (by omega), bs])
    (fun k => by
      show impl_ascendingLists_L1 N (k + 1) ls ls (ls.length : Int) (ls.length : Int) = _
      rw [impl_ascendingLists_L1, dge (by omega), cond_false])
theorem ixL {ls : List (List Int)} {s : Int} (h : 0 ≤ s ∧ s < ls.length) : ix ls s = some (ls.getD s.toNat []) := by
  rw [ix_int h.1 h.2, getL_at (by omega)]
theorem inter_L3_spec (hN : 1073741824 ≤ N) {ls : List (List Int)} (h : okII ls) {out : List Int} {sh : Int} (hsh : 0 ≤ sh ∧ sh < ls.length) {i : Nat} (hi : i < (ls.getD sh.toNat []).length) : ∀ (m j k : Nat) (t : Int × Bool), j + m = ls.length → m < k → 0 ≤ t.1 → t.1 ≤ 2199023255552 + j →
    ∃ j', spec_IntersectByLookup_L3 N k ls out t.1 sh (i : Int) t.2 (j : Int) = some ((inF ls sh ((ls.getD sh.toNat []).getD i 0) j m t).1, (inF ls sh ((ls.getD sh.toNat []).getD i 0) j m t).2, j') := by
  have hl := h.1
  intro m
  induction m with
  | zero =>
    intro j k t hj hk h0 h1
    obtain ⟨k, rfl⟩ : ∃ k', k = k' + 1 := ⟨k - 1, by omega⟩
    refine ⟨(j : Int), ?_⟩
    rw [spec_IntersectByLookup_L3, dge (by omega), cond_false]; rfl
  | succ m ih =>
    intro j k t hj hk h0 h1
    obtain ⟨k, rfl⟩ : ∃ k', k = k' + 1 := ⟨k - 1, by omega⟩
    have hjl : j < ls.length := by omega
    rw [spec_IntersectByLookup_L3, dlt hjl, cond_true]
    obtain ⟨c, ok⟩ := t
    cases ok
    · refine ⟨(j : Int), ?_⟩
      rw [inF_false, cond_false]
    · rw [cond_true, inF_succ]
      simp only [] at h0 h1
      by_cases e : (j : Int) = sh
      · have hst : inSt ls sh ((ls.getD sh.toNat []).getD i 0) (c, true) j = (c, true) := by unfold inSt; rw [e]; simp
        rw [show ((j : Int) != sh) = false by simp [e], cond_false, ad1 (by omega), bs, hst]
        exact ih (j + 1) k (c, true) (by omega) (by omega) h0 (by simp only []; omega)
      · have hst : inSt ls sh ((ls.getD sh.toNat []).getD i 0) (c, true) j = (c + 1, decide ((ls.getD sh.toNat []).getD i 0 ∈ ls.getD j [])) := by
          unfold inSt; rw [show ((j : Int) != sh) = true by simp [e]]; rfl
        rw [show ((j : Int) != sh) = true by simp [e], cond_true, ad_ok (by omega) (by omega), bs, ix_nat hjl, bs, ixL hsh, bs, ix_nat hi, bs, l7Find_eq hN (okII_at h hjl), bs, ad1 (by omega), bs, findI_nonneg, hst]
        rw [show (ls.getD sh.toNat [])[i] = (ls.getD sh.toNat []).getD i 0 from (getD_at hi).symm, show ls[j] = ls.getD j [] from (getL_at hjl).symm]
        exact ih (j + 1) k (c + 1, decide ((ls.getD sh.toNat []).getD i 0 ∈ ls.getD j [])) (by omega) (by omega) (by simp only []; omega) (by simp only []; omega)
theorem IntersectByLookup_spec_eq (hN : 1073741824 ≤ N) {ls : List (List Int)} (h : okII ls) : spec_IntersectByLookup N ls = some (interV ls) := by
  have hl := h.1
  unfold spec_IntersectByLookup interV
  rw [l18All_eq hN h, bs]
  cases ha : allAsc ls
  · rfl
  have hp : 0 < ls.length := by unfold allAsc at ha; simp at ha; exact ha.2
  have hin := shortI_in hp
  rw [cond_true, cond_true]
  have hL := loopF (fun k (s : Int) i => spec_IntersectByLookup_L1 N k ls [] 0 s i) ls.length (by omega) (fun i s => shortSt ls i s) (fun s => (s, (ls.length : Int))) (fun _ s => 0 ≤ s ∧ s < ls.length)
    (fun k i s hi hI => by
      refine ⟨?_, shortSt_in hi hI⟩
      show spec_IntersectByLookup_L1 N (k + 1) ls [] 0 s (i : Int) = _
      rw [spec_IntersectByLookup_L1, dlt hi, cond_true, ix_nat hi, bs, ixL hI, bs]
      unfold shortSt
      rw [show ls[i] = ls.getD i [] from (getL_at hi).symm]
      by_cases hc : (ls.getD i []).length < (ls.getD s.toNat []).length
      · rw [decide_eq_true hc, decide_eq_true (by omega), cond_true, cond_true, ad1 (by omega), bs]
      · rw [decide_eq_false hc, decide_eq_false (by omega), cond_false, cond_false, ad1 (by omega), bs])
    (fun k s _ => by
      show spec_IntersectByLookup_L1 N (k + 1) ls [] 0 s (ls.length : Int) = _
      rw [spec_IntersectByLookup_L1, dge (by omega), cond_false]) N 1 0 (by omega) (by omega) (by omega)
  have hL' : spec_IntersectByLookup_L1 N N ls [] 0 0 1 = some (shortI ls, (ls.length : Int)) := hL
  rw [hL', bs, lpB]
  simp only []
  generalize shortI ls = sh at *
  have hvl : (ls.getD sh.toNat []).length ≤ 1048576 := by rw [getL_at (by omega)]; exact okII_at h (by omega)
  have hM := loopF (fun k (s : List Int × Int) i => spec_IntersectByLookup_L2 N k ls s.1 s.2 sh i) (ls.getD sh.toNat []).length (by omega) (fun i s => outSt ls sh (ls.getD sh.toNat []) i s) (fun s => (s.1, s.2, ((ls.getD sh.toNat []).length : Int))) (fun i s => s.1.length ≤ i ∧ 0 ≤ s.2 ∧ s.2 ≤ i * 1048576)
    (fun k i s hi hI => by
      obtain ⟨i1, i2, i3⟩ := hI
      obtain ⟨j', e⟩ := inter_L3_spec hN h (out := s.1) hin hi ls.length 0 N (s.2, true) (by omega) (by omega) i2 (by simp only []; omega)
      have hb := inF_bd ls sh ((ls.getD sh.toNat []).getD i 0) ls.length 0 (s.2, true)
      have e' : spec_IntersectByLookup_L3 N N ls s.1 s.2 sh (i : Int) true 0 = _ := e
      unfold outSt
      simp only [] at hb ⊢
      refine ⟨?_, ?_, ?_, ?_⟩
      · show spec_IntersectByLookup_L2 N (k + 1) ls s.1 s.2 sh (i : Int) = _
        rw [spec_IntersectByLookup_L2, ixL hin, bs, dlt hi, cond_true, e', bs, lpB]
        simp only []
        cases (inF ls sh ((ls.getD sh.toNat []).getD i 0) 0 ls.length (s.2, true)).2
        · rw [cond_false, ad1 (by omega), bs]; rfl
        · rw [cond_true, bs, ix_nat hi, bs, apd_ok' (by decide) (by simp; omega), bs, ad1 (by omega), bs, show (ls.getD sh.toNat [])[i] = (ls.getD sh.toNat []).getD i 0 from (getD_at hi).symm]; rfl
      · cases (inF ls sh ((ls.getD sh.toNat []).getD i 0) 0 ls.length (s.2, true)).2
        · simp only [cond_false]; omega
        · simp only [cond_true, List.length_append, List.length_singleton]; omega
      · omega
      · omega)
    (fun k s _ => by
      show spec_IntersectByLookup_L2 N (k + 1) ls s.1 s.2 sh ((ls.getD sh.toNat []).length : Int) = _
      rw [spec_IntersectByLookup_L2, ixL hin, bs, dge (by omega), cond_false]) N 0 ([], 0) (by omega) (by omega) ⟨by simp, by simp, by simp⟩
  rw [Nat.sub_zero] at hM
  have hM' : spec_IntersectByLookup_L2 N N ls [] 0 sh 0 = _ := hM
  rw [hM', bs, lpB]
theorem IntersectByLookup_impl_eq (hN : 1073741824 ≤ N) {ls : List (List Int)} (h : okII ls) : impl_IntersectByLookup N ls = some (interV ls) := by
  have hl := h.1
  unfold impl_IntersectByLookup interV
  rw [ascendingLists_eq hN h, bs]
  cases ha : allAsc ls
  · rfl
  have hp : 0 < ls.length := by unfold allAsc at ha; simp at ha; exact ha.2
  have hin := shortI_in hp
  rw [cond_true, cond_true]
  have hL := loopF (fun k (s : Int) i => impl_IntersectByLookup_L1 N k ls s ls (ls.length : Int) i) ls.length (by omega) (fun i s => shortSt ls i s) (fun s => (s, (ls.length : Int))) (fun _ s => 0 ≤ s ∧ s < ls.length)
    (fun k i s hi hI => by
      refine ⟨?_, shortSt_in hi hI⟩
      show impl_IntersectByLookup_L1 N (k + 1) ls s ls (ls.length : Int) (i : Int) = _
      rw [impl_IntersectByLookup_L1, dlt hi, cond_true, ix_nat hi, bs, ixL hI, bs]
      unfold shortSt
      rw [show ls[i] = ls.getD i [] from (getL_at hi).symm]
      by_cases hc : (ls.getD i []).length < (ls.getD s.toNat []).length
      · rw [decide_eq_true hc, decide_eq_true (by omega), cond_true, cond_true, ad1 (by omega), bs]
      · rw [decide_eq_false hc, decide_eq_false (by omega), cond_false, cond_false, ad1 (by omega), bs])
    (fun k s _ => by
      show impl_IntersectByLookup_L1 N (k + 1) ls s ls (ls.length : Int) (ls.length : Int) = _
      rw [impl_IntersectByLookup_L1, dge (by omega), cond_false]) N 0 0 (by omega) (by omega) (by omega)
  have hsh : (List.range' 0 (ls.length - 0)).foldl (fun s i => shortSt ls i s) 0 = shortI ls := by
    unfold shortI
    rw [show ls.length - 0 = (ls.length - 1) + 1 by omega, List.range'_succ, List.foldl_cons]
    congr 1
    unfold shortSt
    simp
  rw [hsh] at hL
  have hL' : impl_IntersectByLookup_L1 N N ls 0 ls (ls.length : Int) 0 = some (shortI ls, (ls.length : Int)) := hL
  rw [hL', bs, lpB]
  simp only []
  generalize shortI ls = sh at *
  rw [ixL hin, bs]
  have hvl : (ls.getD sh.toNat []).length ≤ 1048576 := by rw [getL_at (by omega)]; exact okII_at h (by omega)
  generalize ls.getD sh.toNat [] = vs at *
  have hM := loopF (fun k (s : List Int × Int) i => impl_IntersectByLookup_L2 N k ls sh s.1 s.2 vs (vs.length : Int) i) vs.length (by omega) (fun i s => outSt ls sh vs i s) (fun s => (s.1, s.2, (vs.length : Int))) (fun i s => s.1.length ≤ i ∧ 0 ≤ s.2 ∧ s.2 ≤ i * 1048576)
    (fun k i s hi hI => by
      obtain ⟨i1, i2, i3⟩ := hI
      have hb := inF_bd ls sh (vs.getD i 0) ls.length 0 (s.2, true)
      have hL3 := loopF (fun k (t : Int × Bool) j => impl_IntersectByLookup_L3 N k ls sh s.1 t.1 vs[i] t.2 vs (vs.length : Int) (i : Int) ls (ls.length : Int) j) ls.length (by omega) (fun j t => inSt ls sh (vs.getD i 0) t j) (fun t => (t.1, t.2, (ls.length : Int))) (fun j t => 0 ≤ t.1 ∧ t.1 ≤ 2199023255552 + j)
        (fun k j t hj hI => by
          obtain ⟨c, ok⟩ := t
          simp only [] at hI
          refine ⟨?_, ?_⟩
          · show impl_IntersectByLookup_L3 N (k + 1) ls sh s.1 c vs[i] ok vs (vs.length : Int) (i : Int) ls (ls.length : Int) (j : Int) = _
            rw [impl_IntersectByLookup_L3, dlt hj, cond_true, ix_nat hj, bs]
            unfold inSt
            cases hne : ((j : Int) != sh)
            · rw [cond_false, ad1 (by omega), bs, Bool.and_false, cond_false]
            · rw [cond_true]
              cases ok
              · rw [cond_false, ad1 (by omega), bs]; rfl
              · rw [cond_true, ad_ok (by omega) (by omega), bs, hasInt_eq hN (okII_at h hj), bs, ad1 (by omega), bs, show vs[i] = vs.getD i 0 from (getD_at hi).symm, show ls[j] = ls.getD j [] from (getL_at hj).symm]; rfl
          · unfold inSt
            simp only []
            cases (ok && ((j : Int) != sh))
            · simp only [cond_false]; omega
            · simp only [cond_true]; omega)
        (fun k t _ => by
          show impl_IntersectByLookup_L3 N (k + 1) ls sh s.1 t.1 vs[i] t.2 vs (vs.length : Int) (i : Int) ls (ls.length : Int) (ls.length : Int) = _
          rw [impl_IntersectByLookup_L3, dge (by omega), cond_false]) N 0 (s.2, true) (by omega) (by omega) ⟨i2, by simp only []; omega⟩
      rw [Nat.sub_zero] at hL3
      have e' : impl_IntersectByLookup_L3 N N ls sh s.1 s.2 vs[i] true vs (vs.length : Int) (i : Int) ls (ls.length : Int) 0 = some ((inF ls sh (vs.getD i 0) 0 ls.length (s.2, true)).1, (inF ls sh (vs.getD i 0) 0 ls.length (s.2, true)).2, (ls.length : Int)) := hL3
      unfold outSt
      simp only [] at hb ⊢
      refine ⟨?_, ?_, ?_, ?_⟩
      · show impl_IntersectByLookup_L2 N (k + 1) ls sh s.1 s.2 vs (vs.length : Int) (i : Int) = _
        rw [impl_IntersectByLookup_L2, dlt hi, cond_true, ix_nat hi, bs, e', bs, lpB]
        simp only []
        cases (inF ls sh (vs.getD i 0) 0 ls.length (s.2, true)).2
        · rw [cond_false, ad1 (by omega), bs]; rfl
        · rw [cond_true, apd_ok' (by decide) (by simp; omega), bs, ad1 (by omega), bs, show vs[i] = vs.getD i 0 from (getD_at hi).symm]; rfl
      · cases (inF ls sh (vs.getD i 0) 0 ls.length (s.2, true)).2
        · simp only [cond_false]; omega
        · simp only [cond_true, List.length_append, List.length_singleton]; omega
      · omega
      · omega)
    (fun k s _ => by
      show impl_IntersectByLookup_L2 N (k + 1) ls sh s.1 s.2 vs (vs.length : Int) (vs.length : Int) = _
      rw [impl_IntersectByLookup_L2, dge (by omega), cond_false]) N 0 ([], 0) (by omega) (by omega) ⟨by simp, by simp, by simp⟩
  rw [Nat.sub_zero] at hM
  have hM' : impl_IntersectByLookup_L2 N N ls sh [] 0 vs (vs.length : Int) 0 = _ := hM
  rw [hM', bs, lpB]
end
end Go.Proofs.Ytnanddmadghnnaa
