/- Plain laws: values that are in all lists, by lookup. -/
import Derived.Test.YtkpeabpdiffjhaapK
namespace Go.Proofs.Ytkpeabpdiffjhaa
open Go.RowKit

def allAsc (ls : List (List Int)) : Bool := ls.all asc && decide (0 < ls.length)
def shortSt (ls : List (List Int)) (i : Nat) (s : Int) : Int := bif decide ((ls.getD i []).length < (ls.getD s.toNat []).length) then (i : Int) else s
def shortI (ls : List (List Int)) : Int := (List.range' 1 (ls.length - 1)).foldl (fun s i => shortSt ls i s) 0
def inSt (ls : List (List Int)) (sh : Int) (v : Int) (t : Int × Bool) (j : Nat) : Int × Bool := bif t.2 && ((j : Int) != sh) then (t.1 + 1, decide (v ∈ ls.getD j [])) else t
def inF (ls : List (List Int)) (sh v : Int) (j m : Nat) (t : Int × Bool) : Int × Bool := (List.range' j m).foldl (inSt ls sh v) t
theorem inF_succ (ls : List (List Int)) (sh v : Int) (j m : Nat) (t : Int × Bool) : inF ls sh v j (m + 1) t = inF ls sh v (j + 1) m (inSt ls sh v t j) := by unfold inF; rw [List.range'_succ, List.foldl_cons]
theorem inF_false (ls : List (List Int)) (sh v c : Int) : ∀ m j, inF ls sh v j m (c, false) = (c, false) := by
  intro m
  induction m with
  | zero => intro j; rfl
  | succ m ih => intro j; rw [inF_succ]; exact ih (j + 1)
theorem inF_bd (ls : List (List Int)) (sh v : Int) : ∀ m j t, t.1 ≤ (inF ls sh v j m t).1 ∧ (inF ls sh v j m t).1 ≤ t.1 + m := by
  intro m
  induction m with
  | zero => intro j t; simp [inF]
  | succ m ih =>
    intro j t
    rw [inF_succ]
    have h := ih (j + 1) (inSt ls sh v t j)
    have : t.1 ≤ (inSt ls sh v t j).1 ∧ (inSt ls sh v t j).1 ≤ t.1 + 1 := by
      unfold inSt
      cases (t.2 && ((j : Int) != sh))
      · simp only [cond_false]; omega
      · simp only [cond_true]; omega
    omega
def outSt (ls : List (List Int)) (sh : Int) (vs : List Int) (i : Nat) (s : List Int × Int) : List Int × Int :=
  let t := inF ls sh (vs.getD i 0) 0 ls.length (s.2, true)
  (bif t.2 then s.1 ++ [vs.getD i 0] else s.1, t.1)
def interV (ls : List (List Int)) : List Int × Int :=
  bif allAsc ls then (List.range' 0 (ls.getD (shortI ls).toNat []).length).foldl (fun s i => outSt ls (shortI ls) (ls.getD (shortI ls).toNat []) i s) ([], 0) else ([], 0)
theorem shortSt_in {ls : List (List Int)} {i : Nat} {s : Int} (hi : i < ls.length) (h : 0 ≤ s ∧ s < ls.length) : 0 ≤ shortSt ls i s ∧ shortSt ls i s < ls.length := by
  unfold shortSt
  cases decide ((ls.getD i []).length < (ls.getD s.toNat []).length)
  · exact h
  · simp only [cond_true]; omega
theorem shortI_in {ls : List (List Int)} (h : 0 < ls.length) : 0 ≤ shortI ls ∧ shortI ls < ls.length := by
  unfold shortI
  have : ∀ m j (s : Int), j + m = ls.length → 0 ≤ s ∧ s < ls.length → 0 ≤ (List.range' j m).foldl (fun s i => shortSt ls i s) s ∧ (List.range' j m).foldl (fun s i => shortSt ls i s) s < ls.length := by
    intro m
    induction m with
    | zero => intro j s _ h; exact h
    | succ m ih => intro j s hj hs; rw [List.range'_succ, List.foldl_cons]; exact ih (j + 1) _ (by omega) (shortSt_in (by omega) hs)
  exact this _ 1 0 (by omega) (by omega)
theorem interV_ok {ls : List (List Int)} (h : okII ls) : okI (interV ls).1 := by
  unfold interV
  cases ha : allAsc ls
  · exact ⟨by simp, fun _ _ => trivial⟩
  have hp : 0 < ls.length := by unfold allAsc at ha; simp at ha; exact ha.2
  have hin := shortI_in hp
  rw [cond_true]
  generalize hvs : ls.getD (shortI ls).toNat [] = vs
  have hl : vs.length ≤ 1048576 := by
    rw [← hvs, getL_at (by omega)]; exact okII_at h (by omega)
  have : ∀ m j (s : List Int × Int), s.1.length ≤ j → j + m = vs.length → ((List.range' j m).foldl (fun s i => outSt ls (shortI ls) vs i s) s).1.length ≤ vs.length := by
    intro m
    induction m with
    | zero => intro j s h1 h2; simp only [List.range'_zero, List.foldl_nil]; omega
    | succ m ih =>
      intro j s h1 h2
      rw [List.range'_succ, List.foldl_cons]
      refine ih (j + 1) _ ?_ (by omega)
      unfold outSt
      simp only []
      cases (inF ls (shortI ls) (vs.getD j 0) 0 ls.length (s.2, true)).2
      · simp only [cond_false]; omega
      · simp only [cond_true, List.length_append, List.length_singleton]; omega
  exact ⟨by have := this vs.length 0 ([], 0) (by simp) (by omega); omega, fun _ _ => trivial⟩
section
variable {N : Nat}
theorem ascLists {L : Nat → Int → Option (Sum Bool Int)} {ls : List (List Int)} (hN : 1073741824 ≤ N) (h : okII ls)
    (hs : ∀ k i (hi : i < ls.length), L (k + 1) (i : Int) = bif asc ls[i] then L k ((i + 1 : Nat) : Int) else some (.inl false)) (he : ∀ k, L (k + 1) (ls.length : Int) = some (.inr (ls.length : Int))) :
    (L N 0).bind (fun s => lpS s (fun q => some q) fun _ => some (decide (0 < (ls.length : Int)))) = some (allAsc ls) := by
  have hl := h.1
  have := loopA L ls.length (by omega) false (fun i => if h : i < ls.length then asc ls[i] else true) (ls.length : Int)
    (fun k i hi => by rw [hs k i hi]; simp only [dif_pos hi]) he N 0 (by omega) (by omega)
  rw [show ((0 : Int)) = ((0 : Nat) : Int) from rfl, this, bs, Nat.sub_zero, range_all ls asc _ (fun i hi => by rw [dif_pos hi])]
  unfold allAsc
  cases ls.all asc
  · rfl
  · simp only [cond_true, lpS, Bool.true_and]; simp
theorem ixL {ls : List (List Int)} {s : Int} (h : 0 ≤ s ∧ s < ls.length) : ix ls s = some (ls.getD s.toNat []) := by
  rw [ix_int h.1 h.2, getL_at (by omega)]
end
end Go.Proofs.Ytkpeabpdiffjhaa
