/- Plain laws: validity of factorizations. -/
import Derived.Test.YtdingjlefilafaapC
namespace Go.Proofs.Ytdingjlefilafaa
open Go.RowKit

/-- a loop that looks for a reason to leave; what the rounds so far have shown is known -/
theorem loopAI {R V : Type} (L : Nat → Int → Option (Sum R V)) (n : Nat) (b : R) (p : Nat → Bool) (v : V) (I : Nat → Prop)
    (hstep : ∀ k i, i < n → I i → L (k + 1) (i : Int) = (bif p i then L k ((i + 1 : Nat) : Int) else some (.inl b)) ∧ (p i = true → I (i + 1)))
    (hend : ∀ k, L (k + 1) (n : Int) = some (.inr v)) :
    ∀ k i, i ≤ n → n - i < k → I i → L k (i : Int) = some (bif (List.range' i (n - i)).all p then .inr v else .inl b) := by
  intro k
  induction k with
  | zero => intro i hi hk; omega
  | succ k ih =>
    intro i hi hk hI
    by_cases h : i < n
    · obtain ⟨h1, h2⟩ := hstep k i h hI
      rw [h1, show n - i = (n - (i + 1)) + 1 by omega, List.range'_succ, List.all_cons]
      cases hp : p i with
      | true => rw [cond_true, Bool.true_and]; exact ih (i + 1) (by omega) (by omega) (h2 hp)
      | false => rfl
    · obtain rfl : i = n := by omega
      rw [hend k, Nat.sub_self]; rfl
theorem lenNe' {α β : Type} {xs : List α} {ys : List β} (h : ¬ xs.length = ys.length) : ((xs.length : Int) != (ys.length : Int)) = true := by simp; omega
theorem ix0 {α : Type} {xs : List α} (h : 0 < xs.length) : ix xs 0 = some xs[0] := ix_nat h
theorem slc1 {α : Type} {xs : List α} {i : Nat} (h1 : 1 ≤ i) (h2 : i ≤ xs.length) : slc xs 1 (i : Int) = some ((xs.take i).drop 1) := slc_ok h1 h2
abbrev FNode := List Int × List Int
def chOk (far : List Int) (i : Nat) (ch : List Int) (j : Nat) : Bool := inR (ch.getD j 0) 0 ((i : Int) - 1) && decide (far.getD (ch.getD j 0).toNat 0 = far.getD (ch.getD 0 0).toNat 0)
def newNode (nodes : List FNode) (i : Nat) (x : FNode) : Bool := ((nodes.take i).drop 1).all fun m => !decide (m = x)
/-- the distance of node i to node 0, if it is right -/
def nodeX (nodes : List FNode) (olen : Nat) (far : List Int) (i : Nat) (x : FNode) : Option Int :=
  bif decide (x.1.length = x.2.length) && validVals x.1 && asc x.1 then
    bif decide (x.1.length = 0) then (bif decide (i + 1 = nodes.length) then some (olen : Int) else none)
    else bif (List.range' 0 x.2.length).all (chOk far i x.2) && newNode nodes i x then some (far.getD (x.2.getD 0 0).toNat 0 + 1) else none
  else none
def nodeD (nodes : List FNode) (olen : Nat) (far : List Int) (i : Nat) : Option Int := nodeX nodes olen far i (nodes.getD i ([], []))
theorem nodeX_cases {nodes : List FNode} {olen : Nat} {far : List Int} {i : Nat} {x : FNode} {d : Int} (h : nodeX nodes olen far i x = some d) : d = (olen : Int) ∨ d = far.getD (x.2.getD 0 0).toNat 0 + 1 := by
  unfold nodeX at h
  generalize (decide (x.1.length = x.2.length) && validVals x.1 && asc x.1) = b1 at h
  generalize decide (x.1.length = 0) = b2 at h
  generalize decide (i + 1 = nodes.length) = b3 at h
  generalize ((List.range' 0 x.2.length).all (chOk far i x.2) && newNode nodes i x) = b4 at h
  cases b1
  · cases h
  cases b2
  · cases b4
    · cases h
    · exact .inr (Option.some.inj h).symm
  · cases b3
    · cases h
    · exact .inl (Option.some.inj h).symm
def nodeSt (nodes : List FNode) (olen : Nat) (i : Nat) (far : List Int) : Sum Bool (List Int) := match nodeD nodes olen far i with | none => .inl false | some d => .inr (far ++ [d])
def validF (order : List Int) (nodes : List FNode) : Bool :=
  isPermB order && inR nodes.length 1 4000 && decide ((nodes.getD 0 ([], [])).1 = []) && decide ((nodes.getD 0 ([], [])).2 = []) &&
  (match foldE (nodeSt nodes order.length) (nodes.length - 1) 1 [0] with | .inl _ => false | .inr far => decide (far.getD (nodes.length - 1) 0 = (order.length : Int)))
def farOk (i : Nat) (far : List Int) : Prop := far.length = i ∧ ∀ x ∈ far, 0 ≤ x ∧ x ≤ 1048576 + i
theorem getN_at {nodes : List FNode} {i : Nat} (h : i < nodes.length) : nodes.getD i ([], []) = nodes[i] := by simp [h]
theorem far_at {i : Nat} {far tl : List Int} (hf : farOk i far) {c : Int} (hc : inR c 0 ((i : Int) - 1) = true) : ix (far ++ tl) c = some (far.getD c.toNat 0) := by
  have h := inR_iff.1 hc
  have hl := hf.1
  rw [ix_int h.1 (by simp; omega)]
  have h2 : c.toNat < far.length := by omega
  rw [List.getElem_append_left h2]
  simp [h2]
theorem far_bd {i : Nat} {far : List Int} (hf : farOk i far) (k : Nat) : 0 ≤ far.getD k 0 ∧ far.getD k 0 ≤ 1048576 + i := by
  by_cases h : k < far.length
  · rw [show far.getD k 0 = far[k] by simp [h]]; exact hf.2 _ (List.getElem_mem h)
  · rw [show far.getD k 0 = 0 by simp [h]]; omega
theorem nodeSt_ok {nodes : List FNode} {olen i : Nat} (ho : olen ≤ 1048576) {far far' : List Int} (hf : farOk i far) (h : nodeSt nodes olen i far = .inr far') : farOk (i + 1) far' := by
  unfold nodeSt at h
  cases hd : nodeD nodes olen far i with
  | none => simp [hd] at h
  | some d =>
    simp [hd] at h
    subst h
    have hb : 0 ≤ d ∧ d ≤ 1048576 + (i + 1) := by
      have := far_bd hf ((nodes.getD i ([], [])).2.getD 0 0).toNat
      unfold nodeD at hd
      rcases nodeX_cases hd with h1 | h1 <;> omega
    refine ⟨by simp [hf.1], fun x hx => ?_⟩
    rcases List.mem_append.1 hx with h1 | h1
    · have := hf.2 x h1; omega
    · simp at h1; subst h1; omega
section
variable {N : Nat}
theorem okN_at {nodes : List FNode} (hn : okN nodes) {i : Nat} (h : i < nodes.length) : okI nodes[i].1 ∧ okI nodes[i].2 := hn.2 _ (List.getElem_mem h)
theorem node_eq (x y : FNode) : decide (x = y) = (decide (x.1 = y.1) && decide (x.2 = y.2)) := by
  rw [Bool.eq_iff_iff]; simp [Prod.ext_iff]
theorem sameNode_eq (hN : 1073741824 ≤ N) {x y : FNode} (h1 : okI x.1) (h2 : okI x.2) : impl_sameNode N x.1 x.2 y.1 y.2 = some (decide (x = y)) := by
  unfold impl_sameNode
  rw [sameInts_eq hN h1.1, bs, sameInts_eq hN h2.1, bs, node_eq]
  cases decide (x.1 = y.1) <;> rfl
theorem chk0 {far : List Int} {i : Nat} {ch : List Int} {j : Nat} (h : chOk far i ch j = true) : inR (ch.getD j 0) 0 ((i : Int) - 1) = true := by
  unfold chOk at h; exact (Bool.and_eq_true _ _ ▸ h).1
theorem nodeOk_eq (hN : 1073741824 ≤ N) {order : List Int} {nodes : List FNode} (ho : order.length ≤ 1048576) (hn : okN nodes) {far tl : List Int} {i : Nat} (hi : i < nodes.length) (h0 : 1 ≤ i) (hf : farOk i far) :
    ∃ r, impl_nodeOk N order nodes (far ++ tl) (i : Int) = some r ∧ (match nodeD nodes order.length far i with | some d => r = (d, true) | none => r.2 = false) := by
  obtain ⟨k1, k2⟩ := okN_at hn hi
  have hl := hn.1
  unfold impl_nodeOk nodeD
  rw [ix_nat hi, bs, getN_at hi]
  unfold nodeX
  generalize hx : nodes[i] = x at *
  by_cases h1 : x.1.length = x.2.length
  case neg => rw [lenNe' h1, cond_true, decide_eq_false h1]; exact ⟨_, rfl, rfl⟩
  rw [show ((x.1.length : Int) != (x.2.length : Int)) = false by simp [h1], cond_false, decide_eq_true h1, AreValidValues_impl_eq hN k1.1, bs, IsStrictlyAscending_impl_eq hN k1.1, bs]
  cases validVals x.1
  · exact ⟨_, rfl, rfl⟩
  cases asc x.1
  · exact ⟨_, rfl, rfl⟩
  simp only [cond_true, Bool.and_self]
  by_cases h2 : x.1.length = 0
  · rw [show ((x.1.length : Int) == 0) = true by simp [h2], cond_true, decide_eq_true h2, cond_true, sb_ok (by omega) (by omega), bs, beqD]
    by_cases h3 : i + 1 = nodes.length
    · rw [decide_eq_true h3, decide_eq_true (by omega : (i : Int) = (nodes.length : Int) - 1)]; exact ⟨_, rfl, rfl⟩
    · rw [decide_eq_false h3, decide_eq_false (by omega : ¬ (i : Int) = (nodes.length : Int) - 1)]; exact ⟨_, rfl, rfl⟩
  rw [show ((x.1.length : Int) == 0) = false by simp; exact fun h => h2 (by simp [h]), cond_false, decide_eq_false h2, cond_false]
  have hc0 : 0 < x.2.length := by omega
  have hcl := k2.1
  have hL := loopAI (fun k j => impl_nodeOk_L1 N k (far ++ tl) (i : Int) order nodes x.1 x.2 x.2 (x.2.length : Int) j) x.2.length ((0 : Int), false) (chOk far i x.2) (x.2.length : Int) (fun j => j = 0 ∨ chOk far i x.2 0 = true)
    (fun k j h hI => by
      refine ⟨?_, fun hp => ?_⟩
      · show impl_nodeOk_L1 N (k + 1) (far ++ tl) (i : Int) order nodes x.1 x.2 x.2 _ (j : Int) = _
        rw [impl_nodeOk_L1, dlt h, cond_true, ix_nat h, bs, sb_ok (by omega) (by omega), bs, within_eq, bs]
        unfold chOk
        rw [show x.2.getD j 0 = x.2[j] from getD_at h]
        cases hw : inR x.2[j] 0 ((i : Int) - 1)
        · rfl
        rw [cond_true, far_at hf hw, bs, ix0 hc0, bs]
        have h00 : inR (x.2.getD 0 0) 0 ((i : Int) - 1) = true := by
          rcases hI with rfl | hI
          · rw [getD_at h]; exact hw
          · exact chk0 hI
        rw [getD_at hc0] at h00
        rw [far_at hf h00, bs, bneD, ad1 (by omega), bs, Bool.true_and, getD_at hc0]
        cases decide (far.getD (x.2[j]).toNat 0 = far.getD (x.2[0]).toNat 0) <;> rfl
      · rcases hI with rfl | hI
        · exact .inr hp
        · exact .inr hI)
    (fun k => by
      show impl_nodeOk_L1 N (k + 1) (far ++ tl) (i : Int) order nodes x.1 x.2 x.2 _ (x.2.length : Int) = _
      rw [impl_nodeOk_L1, dge (by omega), cond_false]) N 0 (by omega) (by omega) (.inl rfl)
  have hL' : impl_nodeOk_L1 N N (far ++ tl) (i : Int) order nodes x.1 x.2 x.2 (x.2.length : Int) 0 = _ := hL
  rw [hL', bs, Nat.sub_zero]
  cases hall : (List.range' 0 x.2.length).all (chOk far i x.2)
  · exact ⟨_, rfl, rfl⟩
  have h00 : inR (x.2[0]) 0 ((i : Int) - 1) = true := by
    rw [List.all_eq_true] at hall
    have := chk0 (hall 0 (by simp; omega))
    rw [getD_at hc0] at this; exact this
  rw [cond_true, Bool.true_and]
  show ∃ r, ((slc nodes 1 (i : Int)).bind _) = some r ∧ _
  rw [slc1 h0 (by omega), bs]
  have hL2 := loopA (fun k j => impl_nodeOk_L2 N k (far ++ tl) x.1 x.2 ((nodes.take i).drop 1) (((nodes.take i).drop 1).length : Int) j) ((nodes.take i).drop 1).length (by simp; omega) ((0 : Int), false) (fun j => if h : j < ((nodes.take i).drop 1).length then !decide (((nodes.take i).drop 1)[j] = x) else true) (((nodes.take i).drop 1).length : Int)
    (fun k j h => by
      have hm : ((nodes.take i).drop 1)[j] ∈ nodes := List.mem_of_mem_take (List.mem_of_mem_drop (List.getElem_mem h))
      obtain ⟨q1, q2⟩ := hn.2 _ hm
      have hjl : j < 1099511627776 := by simp at h; omega
      show impl_nodeOk_L2 N (k + 1) (far ++ tl) x.1 x.2 _ _ (j : Int) = _
      rw [impl_nodeOk_L2, dlt h, cond_true, ix_nat h, bs, sameNode_eq hN q1 q2, bs, ad1 hjl, bs]
      simp only [dif_pos h]
      cases decide (((nodes.take i).drop 1)[j] = x) <;> rfl)
    (fun k => by
      show impl_nodeOk_L2 N (k + 1) (far ++ tl) x.1 x.2 _ _ (((nodes.take i).drop 1).length : Int) = _
      rw [impl_nodeOk_L2, dge (by omega), cond_false]) N 0 (by omega) (by simp; omega)
  have hL2' : impl_nodeOk_L2 N N (far ++ tl) x.1 x.2 ((nodes.take i).drop 1) (((nodes.take i).drop 1).length : Int) 0 = _ := hL2
  rw [hL2', bs, Nat.sub_zero, range_all ((nodes.take i).drop 1) (fun m => !decide (m = x)) _ (fun j hj => by rw [dif_pos hj])]
  unfold newNode
  cases ((nodes.take i).drop 1).all fun m => !decide (m = x)
  · exact ⟨_, rfl, rfl⟩
  show ∃ r, ((ix x.2 0).bind _) = some r ∧ _
  have hb := far_bd hf (x.2[0]).toNat
  rw [ix0 hc0, bs, far_at hf h00, bs, ad_ok (by omega) (by omega), bs, getD_at hc0]
  exact ⟨_, rfl, rfl⟩
theorem sto_far {far : List Int} {n i : Nat} {d : Int} (hl : far.length = i) (hi : i < n) : sto (far ++ List.replicate (n - i) 0) (i : Int) d = some ((far ++ [d]) ++ List.replicate (n - (i + 1)) 0) := by
  rw [sto_nat (by simp; omega), List.set_append_right _ _ (by omega), show n - i = (n - (i + 1)) + 1 by omega, List.replicate_succ, show i - far.length = 0 by omega, List.set_cons_zero]
  simp
theorem nil_len {xs : List Int} : decide (0 < (xs.length : Int)) = !decide (xs = []) := by
  cases xs with
  | nil => rfl
  | cons x xs => rw [decide_eq_true (by simp only [List.length_cons]; omega), decide_eq_false (by simp)]; rfl
theorem IsValidFactorization_impl_eq (hN : 1073741824 ≤ N) {order : List Int} {nodes : List FNode} (ho : okI order) (hn : okN nodes) : impl_IsValidFactorization N order nodes = some (validF order nodes) := by
  have hl := hn.1
  have hol := ho.1
  unfold impl_IsValidFactorization validF
  rw [IsPermutation_impl_eq hN ho.1, bs, within_eq, bs]
  cases isPermB order
  · rfl
  cases hr : inR (nodes.length : Int) 1 4000
  · rfl
  have hr' := inR_iff.1 hr
  have hp : 0 < nodes.length := by omega
  simp only [cond_true, Bool.true_and]
  rw [ix0 hp, bs, bs, getN_at hp]
  simp only [nil_len]
  cases decide (nodes[0].1 = [])
  · rfl
  cases decide (nodes[0].2 = [])
  · rfl
  simp only [Bool.not_true, cond_false, Bool.true_and]
  rw [mk_ok (by decide) (by omega), bs]
  have hL := loopE (fun k (s : List Int) i => impl_IsValidFactorization_L1 N k order nodes (s ++ List.replicate (nodes.length - s.length) 0) i) nodes.length (by omega) (nodeSt nodes order.length) (fun s => ((s ++ List.replicate (nodes.length - s.length) 0, (nodes.length : Int)) : List Int × Int)) (fun i s => 1 ≤ i ∧ farOk i s)
    (fun k i s h hI => by
      refine ⟨?_, fun s' hs => ⟨by omega, nodeSt_ok hol hI.2 hs⟩⟩
      obtain ⟨r, e1, e2⟩ := nodeOk_eq hN (order := order) hol hn (tl := List.replicate (nodes.length - s.length) 0) h hI.1 hI.2
      show impl_IsValidFactorization_L1 N (k + 1) order nodes _ (i : Int) = _
      rw [impl_IsValidFactorization_L1, dlt h, cond_true, e1, bs]
      unfold nodeSt
      cases hd : nodeD nodes order.length s i with
      | none =>
        rw [hd] at e2
        rw [show r.2 = false from e2]; rfl
      | some d =>
        rw [hd] at e2
        obtain rfl : r = (d, true) := e2
        have hsl := hI.2.1
        rw [cond_true, ix_nat (by simp; omega), bs]
        rw [hsl, sto_far hsl h, bs, ad1 (by omega), bs]
        simp only [List.length_append, List.length_singleton, hsl])
    (fun k s hI => by
      show impl_IsValidFactorization_L1 N (k + 1) order nodes _ (nodes.length : Int) = _
      rw [impl_IsValidFactorization_L1, dge (by omega), cond_false]) N 1 [0] (by omega) (by omega) ⟨Nat.le_refl _, rfl, by simp⟩
  have he : List.replicate nodes.length (0 : Int) = [0] ++ List.replicate (nodes.length - [(0 : Int)].length) 0 := by
    obtain ⟨m, hm⟩ : ∃ m, nodes.length = m + 1 := ⟨nodes.length - 1, by omega⟩
    rw [hm]; rfl
  have hL' : impl_IsValidFactorization_L1 N N order nodes ([0] ++ List.replicate (nodes.length - [(0 : Int)].length) 0) 1 = _ := hL
  rw [he, hL', bs]
  have hI' : ∀ (m i : Nat) (s s' : List Int), i + m = nodes.length → farOk i s → foldE (nodeSt nodes order.length) m i s = .inr s' → farOk nodes.length s' := by
    intro m
    induction m with
    | zero => intro i s s' h1 h2 h3; simp [foldE] at h3; subst h3; simp at h1; subst h1; exact h2
    | succ m ih =>
      intro i s s' h1 h2 h3
      unfold foldE at h3
      cases hs : nodeSt nodes order.length i s with
      | inl r => simp [hs] at h3
      | inr s2 => simp only [hs] at h3; exact ih (i + 1) s2 s' (by omega) (nodeSt_ok hol h2 hs) h3
  cases hs : foldE (nodeSt nodes order.length) (nodes.length - 1) 1 [0] with
  | inl r =>
    have hrf : r = false := by
      have : ∀ (m i : Nat) (s : List Int), foldE (nodeSt nodes order.length) m i s = .inl r → r = false := by
        intro m
        induction m with
        | zero => intro i s h; simp [foldE] at h
        | succ m ih =>
          intro i s h
          unfold foldE at h
          cases hq : nodeSt nodes order.length i s with
          | inl r2 =>
            rw [hq] at h
            have e : r2 = r := Sum.inl.inj h
            subst e
            unfold nodeSt at hq
            cases hd : nodeD nodes order.length s i with
            | none => rw [hd] at hq; exact (Sum.inl.inj hq).symm
            | some d => rw [hd] at hq; cases hq
          | inr s2 => rw [hq] at h; exact ih _ _ h
      exact this _ _ _ hs
    rw [hrf]; rfl
  | inr far =>
    have hf := hI' (nodes.length - 1) 1 [0] far (by omega) ⟨rfl, by simp⟩ hs
    have hfl := hf.1
    show ((sb _ 1).bind _) = _
    simp only [hfl, Nat.sub_self, List.replicate_zero, List.append_nil]
    rw [sb_ok (by omega) (by omega), bs, show ((nodes.length : Int) - 1) = ((nodes.length - 1 : Nat) : Int) by omega, ix_nat (by omega), bs, beqD]
    have : far.getD (nodes.length - 1) 0 = far[nodes.length - 1]'(by omega) := by rw [List.getD_eq_getElem?_getD, List.getElem?_eq_getElem (by omega)]; rfl
    rw [this]
end
end Go.Proofs.Ytdingjlefilafaa
