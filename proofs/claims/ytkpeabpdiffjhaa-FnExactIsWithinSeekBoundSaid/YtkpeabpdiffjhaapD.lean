/- Plain laws: validity of factorizations. -/
import Derived.Test.YtkpeabpdiffjhaapC
namespace Go.Proofs.Ytkpeabpdiffjhaa
open Go.RowKit

/-- a loop that looks for a reason to leave; what the rounds so far have shown is known -/
theorem loopAI {R V : Type} (L : Nat → Int → Option (Sum R V)) (n : Nat) (b : R) (p : Nat → Bool) (v : V) (I : Nat → Prop)
    (hstep : ∀ k i, i < n → I i → L (k + 1) (i : Int) = (bif p i then L k ((i + 1 : Nat) : Int) else some (.inl b)) ∧ (p i = true → I (i + 1)))
    (hend : ∀ k, L (k + 1) (n : Int) = some (.inr v)) :
    ∀ k i, i ≤ n → n - i < k → I i → L k (i : Int) = some (bif (List.range' i (n - i)).all p then .inr v else .inl b) := by
  intro k
  induction k with
  | zero => intro i hi hk; omega
  | succ k ih =>
    intro i hi hk hI
    by_cases h : i < n
    · obtain ⟨h1, h2⟩ := hstep k i h hI
      rw [h1, show n - i = (n - (i + 1)) + 1 by omega, List.range'_succ, List.all_cons]
      cases hp : p i with
      | true => rw [cond_true, Bool.true_and]; exact ih (i + 1) (by omega) (by omega) (h2 hp)
      | false => rfl
    · obtain rfl : i = n := by omega
      rw [hend k, Nat.sub_self]; rfl
theorem lenNe' {α β : Type} {xs : List α} {ys : List β} (h : ¬ xs.length = ys.length) : ((xs.length : Int) != (ys.length : Int)) = true := by simp; omega
theorem ix0 {α : Type} {xs : List α} (h : 0 < xs.length) : ix xs 0 = some xs[0] := ix_nat h
theorem slc1 {α : Type} {xs : List α} {i : Nat} (h1 : 1 ≤ i) (h2 : i ≤ xs.length) : slc xs 1 (i : Int) = some ((xs.take i).drop 1) := slc_ok h1 h2
abbrev FNode := List Int × List Int
def chOk (far : List Int) (i : Nat) (ch : List Int) (j : Nat) : Bool := inR (ch.getD j 0) 0 ((i : Int) - 1) && decide (far.getD (ch.getD j 0).toNat 0 = far.getD (ch.getD 0 0).toNat 0)
def newNode (nodes : List FNode) (i : Nat) (x : FNode) : Bool := ((nodes.take i).drop 1).all fun m => !decide (m = x)
/-- the distance of node i to node 0, if it is right -/
def nodeX (nodes : List FNode) (olen : Nat) (far : List Int) (i : Nat) (x : FNode) : Option Int :=
  bif decide (x.1.length = x.2.length) && validVals x.1 && asc x.1 then
    bif decide (x.1.length = 0) then (bif decide (i + 1 = nodes.length) then some (olen : Int) else none)
    else bif (List.range' 0 x.2.length).all (chOk far i x.2) && newNode nodes i x then some (far.getD (x.2.getD 0 0).toNat 0 + 1) else none
  else none
def nodeD (nodes : List FNode) (olen : Nat) (far : List Int) (i : Nat) : Option Int := nodeX nodes olen far i (nodes.getD i ([], []))
theorem nodeX_cases {nodes : List FNode} {olen : Nat} {far : List Int} {i : Nat} {x : FNode} {d : Int} (h : nodeX nodes olen far i x = some d) : d = (olen : Int) ∨ d = far.getD (x.2.getD 0 0).toNat 0 + 1 := by
  unfold nodeX at h
  generalize (decide (x.1.length = x.2.length) && validVals x.1 && asc x.1) = b1 at h
  generalize decide (x.1.length = 0) = b2 at h
  generalize decide (i + 1 = nodes.length) = b3 at h
  generalize ((List.range' 0 x.2.length).all (chOk far i x.2) && newNode nodes i x) = b4 at h
  cases b1
  · cases h
  cases b2
  · cases b4
    · cases h
    · exact .inr (Option.some.inj h).symm
  · cases b3
    · cases h
    · exact .inl (Option.some.inj h).symm
def nodeSt (nodes : List FNode) (olen : Nat) (i : Nat) (far : List Int) : Sum Bool (List Int) := match nodeD nodes olen far i with | none => .inl false | some d => .inr (far ++ [d])
def validF (order : List Int) (nodes : List FNode) : Bool :=
  isPermB order && inR nodes.length 1 4000 && decide ((nodes.getD 0 ([], [])).1 = []) && decide ((nodes.getD 0 ([], [])).2 = []) &&
  (match foldE (nodeSt nodes order.length) (nodes.length - 1) 1 [0] with | .inl _ => false | .inr far => decide (far.getD (nodes.length - 1) 0 = (order.length : Int)))
def farOk (i : Nat) (far : List Int) : Prop := far.length = i ∧ ∀ x ∈ far, 0 ≤ x ∧ x ≤ 1048576 + i
theorem getN_at {nodes : List FNode} {i : Nat} (h : i < nodes.length) : nodes.getD i ([], []) = nodes[i] := by simp [h]
theorem far_at {i : Nat} {far tl : List Int} (hf : farOk i far) {c : Int} (hc : inR c 0 ((i : Int) - 1) = true) : ix (far ++ tl) c = some (far.getD c.toNat 0) := by
  have h := inR_iff.1 hc
  have hl := hf.1
  rw [ix_int h.1 (by simp; omega)]
  have h2 : c.toNat < far.length := by omega
  rw [List.getElem_append_left h2]
  simp [h2]
theorem far_bd {i : Nat} {far : List Int} (hf : farOk i far) (k : Nat) : 0 ≤ far.getD k 0 ∧ far.getD k 0 ≤ 1048576 + i := by
  by_cases h : k < far.length
  · rw [show far.getD k 0 = far[k] by simp [h]]; exact hf.2 _ (List.getElem_mem h)
  · rw [show far.getD k 0 = 0 by simp [h]]; omega
theorem nodeSt_ok {nodes : List FNode} {olen i : Nat} (ho : olen ≤ 1048576) {far far' : List Int} (hf : farOk i far) (h : nodeSt nodes olen i far = .inr far') : farOk (i + 1) far' := by
  unfold nodeSt at h
  cases hd : nodeD nodes olen far i with
  | none => simp [hd] at h
  | some d =>
    simp [hd] at h
    subst h
    have hb : 0 ≤ d ∧ d ≤ 1048576 + (i + 1) := by
      have := far_bd hf ((nodes.getD i ([], [])).2.getD 0 0).toNat
      unfold nodeD at hd
      rcases nodeX_cases hd with h1 | h1 <;> omega
    refine ⟨by simp [hf.1], fun x hx => ?_⟩
    rcases List.mem_append.1 hx with h1 | h1
    · have := hf.2 x h1; omega
    · simp at h1; subst h1; omega
section
variable {N : Nat}
theorem okN_at {nodes : List FNode} (hn : okN nodes) {i : Nat} (h : i < nodes.length) : okI nodes[i].1 ∧ okI nodes[i].2 := hn.2 _ (List.getElem_mem h)
theorem node_eq (x y : FNode) : decide (x = y) = (decide (x.1 = y.1) && decide (x.2 = y.2)) := by
  rw [Bool.eq_iff_iff]; simp [Prod.ext_iff]
theorem chk0 {far : List Int} {i : Nat} {ch : List Int} {j : Nat} (h : chOk far i ch j = true) : inR (ch.getD j 0) 0 ((i : Int) - 1) = true := by
  unfold chOk at h; exact (Bool.and_eq_true _ _ ▸ h).1
theorem sto_far {far : List Int} {n i : Nat} {d : Int} (hl : far.length = i) (hi : i < n) : sto (far ++ List.replicate (n - i) 0) (i : Int) d = some ((far ++ [d]) ++ List.replicate (n - (i + 1)) 0) := by
  rw [sto_nat (by simp; omega), List.set_append_right _ _ (by omega), show n - i = (n - (i + 1)) + 1 by omega, List.replicate_succ, show i - far.length = 0 by omega, List.set_cons_zero]
  simp
theorem nil_len {xs : List Int} : decide (0 < (xs.length : Int)) = !decide (xs = []) := by
  cases xs with
  | nil => rfl
  | cons x xs => rw [decide_eq_true (by simp only [List.length_cons]; omega), decide_eq_false (by simp)]; rfl
end
end Go.Proofs.Ytkpeabpdiffjhaa
