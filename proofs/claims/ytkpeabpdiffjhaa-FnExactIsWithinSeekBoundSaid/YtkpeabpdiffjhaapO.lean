/- Plain laws: validity of queries; the bound of seeks. -/
import Derived.Test.YtkpeabpdiffjhaapN
namespace Go.Proofs.Ytkpeabpdiffjhaa
open Go.RowKit

theorem loopAS {σ R V : Type} (L : Nat → σ → Int → Option (Sum R V)) (n : Nat) (b : R) (p : Nat → Bool) (A : Nat → σ) (v : V)
    (hstep : ∀ k i, i < n → L (k + 1) (A i) (i : Int) = bif p i then L k (A (i + 1)) ((i + 1 : Nat) : Int) else some (.inl b)) (hend : ∀ k, L (k + 1) (A n) (n : Int) = some (.inr v)) :
    ∀ k i, i ≤ n → n - i < k → L k (A i) (i : Int) = some (bif (List.range' i (n - i)).all p then .inr v else .inl b) := by
  intro k
  induction k with
  | zero => intro i hi hk; omega
  | succ k ih =>
    intro i hi hk
    by_cases h : i < n
    · rw [hstep k i h, show n - i = (n - (i + 1)) + 1 by omega, List.range'_succ, List.all_cons]
      cases hp : p i with
      | true => rw [cond_true, Bool.true_and]; exact ih (i + 1) (by omega) (by omega)
      | false => rfl
    · obtain rfl : i = n := by omega
      rw [hend k, Nat.sub_self]; rfl
theorem lpSr {R V S : Type} {v : V} {f : R → Option S} {g : V → Option S} : lpS (.inr v) f g = g v := rfl
theorem lpSl {R V S : Type} {v : R} {f : R → Option S} {g : V → Option S} : lpS (.inl v) f g = f v := rfl
abbrev QAtom := ByteArray × List Int
abbrev okAtoms (xs : List QAtom) : Prop := AllL (fun x => x.1.size ≤ 1048576 ∧ (AllL (fun _ => True) 1048576) x.2) 1048576 xs
def atomOk (n : Int) (a : QAtom) : Bool := nameOk a.1 && inR a.2.length 1 5 && a.2.all fun v => inR v 0 (n - 1)
def covered (n : Int) (atoms : List QAtom) : Bool := (List.range' 0 n.toNat).all fun v => atoms.any fun a => decide ((v : Int) ∈ a.2)
def queryOk (n : Int) (atoms : List QAtom) (out : List Int) : Bool := inR n 1 5 && inR atoms.length 1 4 && isSetB out n && atoms.all (atomOk n) && covered n atoms
theorem nodup_bound : ∀ (n : Nat) (xs : List Int), xs.Nodup → (∀ x ∈ xs, 0 ≤ x ∧ x < n) → xs.length ≤ n := by
  intro n
  induction n with
  | zero =>
    intro xs _ h
    cases xs with
    | nil => simp
    | cons x xs => have := h x (by simp); omega
  | succ n ih =>
    intro xs hn h
    by_cases hm : (n : Int) ∈ xs
    · have h1 := ih (xs.erase (n : Int)) (hn.erase _) (fun x hx => by
        have h2 := h x (List.mem_of_mem_erase hx)
        have h3 : x ≠ n := by rintro rfl; exact (hn.mem_erase_iff.1 hx).1 rfl
        omega)
      rw [List.length_erase_of_mem hm] at h1
      omega
    · have := ih xs hn (fun x hx => by
        have h2 := h x hx
        have h3 : x ≠ n := by rintro rfl; exact hm hx
        omega)
      omega
theorem isSetB_spec {xs : List Int} {n : Int} (h : isSetB xs n = true) : xs.Nodup ∧ ∀ x ∈ xs, 0 ≤ x ∧ x ≤ n - 1 := by
  unfold isSetB at h
  rw [List.all_eq_true] at h
  have hk : ∀ i (hi : i < xs.length), (0 ≤ xs[i] ∧ xs[i] ≤ n - 1) ∧ xs[i] ∉ xs.take i := by
    intro i hi
    have := h i (by simp; omega)
    simp only [getD_at hi, Bool.and_eq_true, inR_iff, Bool.not_eq_true', decide_eq_false_iff_not] at this
    exact this
  refine ⟨?_, fun x hx => ?_⟩
  · rw [List.nodup_iff_pairwise_ne, List.pairwise_iff_getElem]
    intro i j hi hj hij e
    refine (hk j hj).2 ?_
    rw [← e]
    have : (xs.take j)[i]'(by simp; omega) = xs[i] := List.getElem_take
    rw [← this]; exact List.getElem_mem _
  · obtain ⟨i, hi, rfl⟩ := List.getElem_of_mem hx
    exact (hk i hi).1
theorem isSetB_len {xs : List Int} {n : Int} (h0 : 0 ≤ n) (h : isSetB xs n = true) : (xs.length : Int) ≤ n := by
  obtain ⟨h1, h2⟩ := isSetB_spec h
  have := nodup_bound n.toNat xs h1 (fun x hx => by have := h2 x hx; omega)
  omega
def mapR (m : Nat) (g : Nat → Bool) : List Bool := (List.range' 0 m).map g
theorem mapR_len (m : Nat) (g : Nat → Bool) : (mapR m g).length = m := by simp [mapR]
theorem mapR_at {m : Nat} {g : Nat → Bool} {i : Nat} (h : i < m) : ix (mapR m g) (i : Int) = some (g i) := by
  rw [ix_nat (by rw [mapR_len]; exact h)]; simp [mapR]
theorem mapR_sto {m : Nat} {g : Nat → Bool} {c : Nat} (h : c < m) : sto (mapR m g) (c : Int) true = some (mapR m fun v => g v || decide (v = c)) := by
  rw [sto_nat (by rw [mapR_len]; exact h)]
  congr 1
  refine List.ext_getElem (by simp [mapR]) fun i h1 h2 => ?_
  simp only [mapR, List.getElem_set, List.getElem_map, List.getElem_range']
  simp only [Nat.zero_add, Nat.one_mul]
  by_cases e : c = i
  · subst e; simp
  · have e2 : ¬ i = c := fun h => e h.symm
    rw [if_neg e, decide_eq_false e2, Bool.or_false]
theorem mapR_ext {m : Nat} {f g : Nat → Bool} (h : ∀ v, f v = g v) : mapR m f = mapR m g := by rw [show f = g from funext h]
theorem mapR_all (m : Nat) (g : Nat → Bool) : (mapR m g).all id = (List.range' 0 m).all g := by simp [mapR, List.all_map]
theorem any_take_succ {α : Type} {p : α → Bool} {xs : List α} {i : Nat} (h : i < xs.length) : (xs.take (i + 1)).any p = ((xs.take i).any p || p xs[i]) := by
  rw [List.take_succ_eq_append_getElem h, List.any_append]; simp
theorem mem_take_succ {xs : List Int} {i : Nat} (h : i < xs.length) (v : Int) : decide (v ∈ xs.take (i + 1)) = (decide (v ∈ xs.take i) || decide (v = xs[i])) := by
  have e : v ∈ xs.take (i + 1) ↔ v ∈ xs.take i ∨ v = xs[i] := by
    rw [List.take_succ_eq_append_getElem h, List.mem_append, List.mem_singleton]
  rw [Bool.eq_iff_iff]; simp only [decide_eq_true_eq, Bool.or_eq_true]; exact e
section
variable {N : Nat}
def seenR (m : Nat) (atoms : List QAtom) (i : Nat) : List Bool := mapR m fun v => (atoms.take i).any fun a => decide ((v : Int) ∈ a.2)
def seenA (m : Nat) (atoms : List QAtom) (i : Nat) (xs : List Int) (j : Nat) : List Bool := mapR m fun v => (atoms.take i).any (fun a => decide ((v : Int) ∈ a.2)) || decide ((v : Int) ∈ xs.take j)
theorem seenA_0 (m : Nat) (atoms : List QAtom) (i : Nat) (xs : List Int) : seenA m atoms i xs 0 = seenR m atoms i := mapR_ext fun v => by simp
theorem seenA_all (m : Nat) (atoms : List QAtom) {i : Nat} (h : i < atoms.length) : seenA m atoms i atoms[i].2 atoms[i].2.length = seenR m atoms (i + 1) := mapR_ext fun v => by rw [List.take_length, any_take_succ h]
theorem seenA_succ {m : Nat} {atoms : List QAtom} {i : Nat} {xs : List Int} {j c : Nat} (hj : j < xs.length) (hc : xs[j] = (c : Int)) (hm : c < m) : sto (seenA m atoms i xs j) (c : Int) true = some (seenA m atoms i xs (j + 1)) := by
  unfold seenA
  rw [mapR_sto hm]
  congr 1
  refine mapR_ext fun v => ?_
  rw [mem_take_succ hj, hc, Bool.or_assoc]
  congr 2
  rw [decide_eq_decide]; omega
theorem seenA_at {m : Nat} {atoms : List QAtom} {i : Nat} {xs : List Int} {j c : Nat} (hm : c < m) : ∃ b, ix (seenA m atoms i xs j) (c : Int) = some b := ⟨_, mapR_at hm⟩
theorem seenR_0 (m : Nat) (atoms : List QAtom) : List.replicate m false = seenR m atoms 0 := by
  refine List.ext_getElem (by simp [seenR, mapR]) fun i h1 h2 => ?_
  simp [seenR, mapR]
theorem IVQ_L2_step {m : Nat} {atoms : List QAtom} {i : Nat} {xs : List Int} {t : List QAtom} {tl ti : Int} (hx : xs.length ≤ 1048576) (hm : m ≤ 5) (k j : Nat) (hj : j < xs.length) :
    impl_IsValidQuery_L2 N (k + 1) (m : Int) (seenA m atoms i xs j) t tl ti xs (xs.length : Int) (j : Int) = bif (if h : j < xs.length then inR xs[j] 0 ((m : Int) - 1) else true) then impl_IsValidQuery_L2 N k (m : Int) (seenA m atoms i xs (j + 1)) t tl ti xs (xs.length : Int) ((j + 1 : Nat) : Int) else some (.inl false) := by
  rw [impl_IsValidQuery_L2, dlt hj, cond_true, ix_nat hj, bs, sb_ok (by omega) (by omega), bs, within_eq, bs, dif_pos hj]
  cases hc : inR xs[j] 0 ((m : Int) - 1) with
  | false => rw [cond_false, cond_false]
  | true =>
    have hc' := inR_iff.1 hc
    obtain ⟨c, hcc⟩ := Int.eq_ofNat_of_zero_le hc'.1
    obtain ⟨b, hb⟩ := seenA_at (m := m) (atoms := atoms) (i := i) (xs := xs) (j := j) (c := c) (by omega)
    rw [cond_true, cond_true, hcc, hb, bs, seenA_succ hj hcc (by omega), bs, ad1 (by omega), bs]
theorem IVQ_L2 (hN : 1073741824 ≤ N) {m : Nat} {atoms : List QAtom} {i : Nat} {xs : List Int} {t : List QAtom} {tl ti : Int} (hx : xs.length ≤ 1048576) (hm : m ≤ 5) :
    impl_IsValidQuery_L2 N N (m : Int) (seenR m atoms i) t tl ti xs (xs.length : Int) 0 = some (bif xs.all (fun v => inR v 0 ((m : Int) - 1)) then .inr (seenA m atoms i xs xs.length, (xs.length : Int)) else .inl false) := by
  have h := loopAS (fun k (s : List Bool) j => impl_IsValidQuery_L2 N k (m : Int) s t tl ti xs (xs.length : Int) j) xs.length false (fun j => if h : j < xs.length then inR xs[j] 0 ((m : Int) - 1) else true) (seenA m atoms i xs) (seenA m atoms i xs xs.length, (xs.length : Int))
    (fun k j hj => IVQ_L2_step hx hm k j hj)
    (fun k => by
      show impl_IsValidQuery_L2 N (k + 1) (m : Int) _ t tl ti xs _ (xs.length : Int) = _
      rw [impl_IsValidQuery_L2, dge (by omega), cond_false]) N 0 (by omega) (by omega)
  rw [Nat.sub_zero, range_all xs (fun v => inR v 0 ((m : Int) - 1)) _ (fun j hj => by rw [dif_pos hj]), seenA_0] at h
  exact h
theorem IVQ_L1_step (hN : 1073741824 ≤ N) {m : Nat} {atoms : List QAtom} (ha : okAtoms atoms) (hm : m ≤ 5) (k i : Nat) (h : i < atoms.length) :
    impl_IsValidQuery_L1 N (k + 1) (m : Int) (seenR m atoms i) atoms (atoms.length : Int) (i : Int) = bif (if h : i < atoms.length then atomOk m atoms[i] else true) then impl_IsValidQuery_L1 N k (m : Int) (seenR m atoms (i + 1)) atoms (atoms.length : Int) ((i + 1 : Nat) : Int) else some (.inl false) := by
  have hl := ha.1
  obtain ⟨g1, g2⟩ := ha.2 _ (List.getElem_mem h)
  rw [impl_IsValidQuery_L1, dlt h, cond_true, ix_nat h, bs, IsValidName_impl_eq hN g1, bs, within_eq, bs, dif_pos h]
  unfold atomOk
  cases nameOk atoms[i].1 with
  | false => simp only [Bool.false_and, Bool.and_false, Bool.true_and, cond_false, cond_true]
  | true =>
    cases inR (atoms[i].2.length : Int) 1 5 with
    | false => simp only [Bool.false_and, Bool.and_false, Bool.true_and, cond_false, cond_true]
    | true =>
      simp only [cond_true, Bool.true_and]
      rw [IVQ_L2 hN g2.1 hm, bs]
      cases atoms[i].2.all fun v => inR v 0 ((m : Int) - 1) with
      | false => simp only [cond_false, lpS]
      | true =>
        rw [cond_true, lpSr, ad1 (by omega), bs, seenA_all m atoms h, cond_true]
theorem IVQ_L1 (hN : 1073741824 ≤ N) {m : Nat} {atoms : List QAtom} (ha : okAtoms atoms) (hm : m ≤ 5) :
    impl_IsValidQuery_L1 N N (m : Int) (List.replicate m false) atoms (atoms.length : Int) 0 = some (bif atoms.all (atomOk m) then .inr (seenR m atoms atoms.length, (atoms.length : Int)) else .inl false) := by
  have hl := ha.1
  have h := loopAS (fun k (s : List Bool) i => impl_IsValidQuery_L1 N k (m : Int) s atoms (atoms.length : Int) i) atoms.length false (fun i => if h : i < atoms.length then atomOk m atoms[i] else true) (seenR m atoms) (seenR m atoms atoms.length, (atoms.length : Int))
    (fun k i h => IVQ_L1_step hN ha hm k i h)
    (fun k => by
      show impl_IsValidQuery_L1 N (k + 1) (m : Int) _ atoms _ (atoms.length : Int) = _
      rw [impl_IsValidQuery_L1, dge (by omega), cond_false]) N 0 (by omega) (by omega)
  rw [Nat.sub_zero, range_all atoms (atomOk m) _ (fun i hi => by rw [dif_pos hi]), ← seenR_0] at h
  exact h
theorem IVQ_L3 (hN : 1073741824 ≤ N) {xs : List Bool} (hx : xs.length ≤ 1048576) : impl_IsValidQuery_L3 N N xs (xs.length : Int) 0 = some (bif xs.all id then .inr (xs.length : Int) else .inl false) :=
  allL (fun k i => impl_IsValidQuery_L3 N k xs (xs.length : Int) i) xs id hN hx
    (fun k i h => by
      show impl_IsValidQuery_L3 N (k + 1) _ _ (i : Int) = _
      rw [impl_IsValidQuery_L3, dlt h, cond_true, ix_nat h, bs, ad1 (by omega), bs]; rfl)
    (fun k => by
      show impl_IsValidQuery_L3 N (k + 1) _ _ (xs.length : Int) = _
      rw [impl_IsValidQuery_L3, dge (by omega), cond_false])
theorem seenR_all {m : Nat} {atoms : List QAtom} : (seenR m atoms atoms.length).all id = covered m atoms := by
  unfold seenR covered
  rw [mapR_all, Int.toNat_natCast, List.take_length]
theorem queryOk_no {n : Int} {atoms : List QAtom} {out : List Int} (h : inR n 1 5 = false) : queryOk n atoms out = false := by unfold queryOk; rw [h]; rfl
theorem IsValidQuery_impl_eq (hN : 1073741824 ≤ N) {n : Int} {atoms : List QAtom} {out : List Int} (ha : okAtoms atoms) (ho : okI out) : impl_IsValidQuery N n atoms out = some (queryOk n atoms out) := by
  have hl := ha.1
  unfold impl_IsValidQuery
  rw [within_eq, bs, within_eq, bs]
  cases hn : inR n 1 5 with
  | false => rw [queryOk_no hn]; rfl
  | true =>
    have hn' := inR_iff.1 hn
    unfold queryOk
    rw [hn, cond_true, isSetOf_eq hN ho.1 (by omega), bs]
    cases inR (atoms.length : Int) 1 4 with
    | false => rfl
    | true =>
      cases isSetB out n with
      | false => rfl
      | true =>
        obtain ⟨m, rfl⟩ := Int.eq_ofNat_of_zero_le (by omega : 0 ≤ n)
        simp only [cond_true, Bool.and_self, Bool.true_and]
        rw [mk_ok (by decide) (by omega), bs, IVQ_L1 hN ha (by omega), bs]
        cases atoms.all (atomOk m) with
        | false => rfl
        | true =>
          simp only [cond_true, lpS, Bool.true_and]
          rw [IVQ_L3 hN (by unfold seenR; rw [mapR_len]; omega), bs, seenR_all]
          cases covered m atoms <;> rfl
theorem ContainsVariable_spec_eq (hN : 1073741824 ≤ N) {s : ByteArray} {xs : List Int} {v : Int} (hx : okI xs) : spec_ContainsVariable N s xs v = some (decide (v ∈ xs)) := by
  have hl := hx.1
  have := loopFind (fun k i => spec_ContainsVariable_L1 N k v s xs i) xs (fun x => decide (x = v)) (fun _ => true) (xs.length : Int) (by omega)
    (fun k i h => by
      show spec_ContainsVariable_L1 N (k + 1) v s xs (i : Int) = _
      rw [spec_ContainsVariable_L1, dlt h, cond_true, ix_nat h, bs, ad1 (by omega), bs, beqD])
    (fun k => by
      show spec_ContainsVariable_L1 N (k + 1) v s xs (xs.length : Int) = _
      rw [spec_ContainsVariable_L1, dge (by omega), cond_false]) N 0 (by omega) (by omega)
  rw [List.drop_zero] at this
  have this' : spec_ContainsVariable_L1 N N v s xs 0 = _ := this
  unfold spec_ContainsVariable
  rw [this', bs]
  cases hf : xs.find? (fun x => decide (x = v)) with
  | none =>
    have : v ∉ xs := fun hm => by have := (List.find?_eq_none.1 hf) v hm; simp at this
    simp [lpS, this]
  | some y =>
    have h1 := List.find?_some hf
    have h2 := List.mem_of_find?_eq_some hf
    have : v ∈ xs := by simp at h1; rw [← h1]; exact h2
    simp [lpS, this]
theorem ContainsVariable_impl_eq (hN : 1073741824 ≤ N) {s : ByteArray} {xs : List Int} {v : Int} (hx : okI xs) : impl_ContainsVariable N s xs v = some (decide (v ∈ xs)) := by
  unfold impl_ContainsVariable; rw [hasInt_eq hN hx.1, bs]
theorem SVQ_L2 (hN : 1073741824 ≤ N) {n : Int} {atoms : List QAtom} {out : List Int} {i : Nat} (h : i < atoms.length) (hn : n ≤ 5) (h0 : 0 ≤ n) (hx : atoms[i].2.length ≤ 1048576) :
    spec_IsValidQuery_L2 N N n atoms out (i : Int) 0 = some (bif atoms[i].2.all (fun v => inR v 0 (n - 1)) then .inr (atoms[i].2.length : Int) else .inl false) :=
  allL (fun k2 j => spec_IsValidQuery_L2 N k2 n atoms out (i : Int) j) atoms[i].2 (fun v => inR v 0 (n - 1)) hN hx
    (fun k2 j hj => by
      show spec_IsValidQuery_L2 N (k2 + 1) n atoms out (i : Int) (j : Int) = _
      rw [spec_IsValidQuery_L2, ix_nat h, bs, dlt hj, cond_true, bs, ix_nat hj, bs, sb_ok (by omega) (by omega), bs, l1In_eq, bs, ad1 (by omega), bs])
    (fun k2 => by
      show spec_IsValidQuery_L2 N (k2 + 1) n atoms out (i : Int) (atoms[i].2.length : Int) = _
      rw [spec_IsValidQuery_L2, ix_nat h, bs, dge (by omega), cond_false])
theorem SVQ_L1 (hN : 1073741824 ≤ N) {n : Int} {atoms : List QAtom} {out : List Int} (ha : okAtoms atoms) (hn : n ≤ 5) (h0 : 0 ≤ n) :
    spec_IsValidQuery_L1 N N n atoms out 0 = some (bif atoms.all (atomOk n) then .inr (atoms.length : Int) else .inl false) :=
  allL (fun k i => spec_IsValidQuery_L1 N k n atoms out i) atoms (atomOk n) hN ha.1
    (fun k i h => by
      have hl := ha.1
      obtain ⟨g1, g2⟩ := ha.2 _ (List.getElem_mem h)
      show spec_IsValidQuery_L1 N (k + 1) n atoms out (i : Int) = _
      rw [spec_IsValidQuery_L1, dlt h, cond_true, ix_nat h, bs, IsValidName_spec_eq hN g1, bs, bs, l1In_eq, bs]
      unfold atomOk
      cases nameOk atoms[i].1 with
      | false => simp only [Bool.false_and, Bool.and_false, Bool.true_and, cond_false, cond_true]
      | true =>
        cases inR (atoms[i].2.length : Int) 1 5 with
        | false => simp only [Bool.false_and, Bool.and_false, Bool.true_and, cond_false, cond_true]
        | true =>
          simp only [cond_true, Bool.true_and]
          rw [SVQ_L2 hN h hn h0 g2.1, bs]
          cases atoms[i].2.all fun v => inR v 0 (n - 1) with
          | false => simp only [cond_false, lpS]
          | true =>
            rw [cond_true, lpSr, ad1 (by omega), bs, cond_true])
    (fun k => by
      show spec_IsValidQuery_L1 N (k + 1) n atoms out (atoms.length : Int) = _
      rw [spec_IsValidQuery_L1, dge (by omega), cond_false])
theorem SVQ_L4 (hN : 1073741824 ≤ N) {n v : Int} {atoms : List QAtom} {out : List Int} (ha : okAtoms atoms) :
    spec_IsValidQuery_L4 N N n atoms out v false 0 = some (atoms.any (fun a => decide (v ∈ a.2)), (atoms.length : Int)) := by
  have hl := ha.1
  exact loopI (fun k2 (s : Bool) j => spec_IsValidQuery_L4 N k2 n atoms out v s j) atoms.length (fun j => (atoms.take j).any fun a => decide (v ∈ a.2)) (atoms.any (fun a => decide (v ∈ a.2)), (atoms.length : Int))
    (fun k2 j hj => by
      obtain ⟨g1, g2⟩ := ha.2 _ (List.getElem_mem hj)
      show spec_IsValidQuery_L4 N (k2 + 1) n atoms out v _ (j : Int) = _
      rw [spec_IsValidQuery_L4, dlt hj, cond_true, any_take_succ hj, ad1 (by omega), bs, ix_nat hj, bs, ContainsVariable_spec_eq hN g2, bs, bs]
      cases (atoms.take j).any fun a => decide (v ∈ a.2) <;> rfl)
    (fun k2 => by
      show spec_IsValidQuery_L4 N (k2 + 1) n atoms out v _ (atoms.length : Int) = _
      rw [spec_IsValidQuery_L4, dge (by omega), cond_false, List.take_length]) N 0 (by omega) (by omega)
theorem SVQ_L3 (hN : 1073741824 ≤ N) {m : Nat} {atoms : List QAtom} {out : List Int} (ha : okAtoms atoms) (hm : m ≤ 5) :
    spec_IsValidQuery_L3 N N (m : Int) atoms out 0 = some (bif covered m atoms then .inr (m : Int) else .inl false) := by
  have h := loopA (fun k i => spec_IsValidQuery_L3 N k (m : Int) atoms out i) m (by omega) false (fun v => atoms.any fun a => decide ((v : Int) ∈ a.2)) (m : Int)
    (fun k v h => by
      show spec_IsValidQuery_L3 N (k + 1) (m : Int) atoms out (v : Int) = _
      rw [spec_IsValidQuery_L3, dlt h, cond_true, SVQ_L4 hN ha, bs, lpB]
      simp only []
      rw [ad1 (by omega), bs])
    (fun k => by
      show spec_IsValidQuery_L3 N (k + 1) (m : Int) atoms out (m : Int) = _
      rw [spec_IsValidQuery_L3, dge (by omega), cond_false]) N 0 (by omega) (by omega)
  unfold covered
  rw [Int.toNat_natCast]
  rw [Nat.sub_zero] at h
  exact h
theorem SVQ_L5 (hN : 1073741824 ≤ N) {n : Int} {atoms : List QAtom} {out : List Int} (ho : out.length ≤ 1048576) (hn : n ≤ 5) (h0 : 0 ≤ n) :
    spec_IsValidQuery_L5 N N n atoms out 0 = some (bif isSetB out n then .inr (out.length : Int) else .inl false) := by
  have h := loopA (fun k i => spec_IsValidQuery_L5 N k n atoms out i) out.length (by omega) false (fun i => inR (out.getD i 0) 0 (n - 1) && !decide (out.getD i 0 ∈ out.take i)) (out.length : Int)
    (fun k i h => by
      show spec_IsValidQuery_L5 N (k + 1) n atoms out (i : Int) = _
      rw [spec_IsValidQuery_L5, dlt h, cond_true, ix_nat h, bs, sb_ok (by omega) (by omega), bs, l1In_eq, bs, show ((0 : Int)) = ((0 : Nat) : Int) from rfl, slc_ok (Nat.zero_le _) (by omega), bs, bs, List.drop_zero, l7Find_eq hN (by simp; omega), bs, ad1 (by omega), bs]
      simp only [getD_at h, findI_nonneg, show ((0 : Nat) : Int) = 0 from rfl]
      cases inR out[i] 0 (n - 1)
      · rfl
      · cases decide (out[i] ∈ out.take i) <;> rfl)
    (fun k => by
      show spec_IsValidQuery_L5 N (k + 1) n atoms out (out.length : Int) = _
      rw [spec_IsValidQuery_L5, dge (by omega), cond_false]) N 0 (by omega) (by omega)
  rw [Nat.sub_zero] at h
  exact h
theorem IsValidQuery_spec_eq (hN : 1073741824 ≤ N) {n : Int} {atoms : List QAtom} {out : List Int} (ha : okAtoms atoms) (ho : okI out) : spec_IsValidQuery N n atoms out = some (queryOk n atoms out) := by
  have hl := ha.1
  have hol := ho.1
  unfold spec_IsValidQuery
  rw [l1In_eq, bs, l1In_eq, bs]
  cases hn : inR n 1 5 with
  | false => rw [queryOk_no hn]; rfl
  | true =>
    have hn' := inR_iff.1 hn
    unfold queryOk
    rw [hn]
    cases inR (atoms.length : Int) 1 4 with
    | false => rfl
    | true =>
      simp only [cond_true, Bool.true_and]
      by_cases hlen : n < (out.length : Int)
      · have : isSetB out n = false := by
          rw [← Bool.not_eq_true]; intro h
          have := isSetB_len (by omega) h; omega
        rw [decide_eq_true hlen, cond_true, this]; rfl
      · obtain ⟨m, rfl⟩ := Int.eq_ofNat_of_zero_le (by omega : 0 ≤ n)
        rw [decide_eq_false hlen, cond_false, SVQ_L1 hN ha (by omega) (by omega), bs]
        cases atoms.all (atomOk m) with
        | false => rw [Bool.and_false, Bool.false_and]; rfl
        | true =>
          simp only [cond_true, lpS, Bool.and_true]
          rw [SVQ_L3 hN ha (by omega), bs]
          cases covered m atoms with
          | false => rw [Bool.and_false]; rfl
          | true =>
            simp only [cond_true, lpS, Bool.and_true]
            rw [SVQ_L5 hN hol (by omega) (by omega), bs]
            cases isSetB out m <;> rfl
def seekB (n : Int) (atoms : List QAtom) (out : List Int) (rows : Int) : Int := bif queryOk n atoms out && inR rows 0 1000000 then 2 * n * atoms.length * rows else 0
theorem queryOk_n {n : Int} {atoms : List QAtom} {out : List Int} (h : queryOk n atoms out = true) : 1 ≤ n ∧ n ≤ 5 ∧ 1 ≤ (atoms.length : Int) ∧ (atoms.length : Int) ≤ 4 := by
  unfold queryOk at h
  simp only [Bool.and_eq_true, inR_iff] at h
  exact ⟨h.1.1.1.1.1, h.1.1.1.1.2, h.1.1.1.2.1, h.1.1.1.2.2⟩
theorem seek_bd {n l r : Int} (h1 : 1 ≤ n ∧ n ≤ 5) (h2 : 1 ≤ l ∧ l ≤ 4) (h3 : 0 ≤ r ∧ r ≤ 1000000) : 0 ≤ 2 * n * l ∧ 2 * n * l ≤ 40 ∧ 0 ≤ 2 * n * l * r ∧ 2 * n * l * r ≤ 40000000 := by
  have a : 0 ≤ 2 * n * l ∧ 2 * n * l ≤ 40 := by
    have := Int.mul_le_mul (show 2 * n ≤ 10 by omega) h2.2 (by omega) (by omega)
    exact ⟨Int.mul_nonneg (by omega) (by omega), by omega⟩
  refine ⟨a.1, a.2, Int.mul_nonneg a.1 h3.1, ?_⟩
  have := Int.mul_le_mul a.2 h3.2 h3.1 (by omega)
  omega
theorem SeekBound_impl_eq (hN : 1073741824 ≤ N) {n : Int} {atoms : List QAtom} {out : List Int} {rows : Int} (ha : okAtoms atoms) (ho : okI out) : impl_SeekBound N n atoms out rows = some (seekB n atoms out rows) := by
  unfold impl_SeekBound seekB
  rw [IsValidQuery_impl_eq hN ha ho, bs, within_eq, bs]
  cases hq : queryOk n atoms out
  · rfl
  cases hr : inR rows 0 1000000
  · rfl
  obtain ⟨h1, h2, h3, h4⟩ := queryOk_n hq
  have h5 := inR_iff.1 hr
  obtain ⟨b1, b2, b3, b4⟩ := seek_bd ⟨h1, h2⟩ ⟨h3, h4⟩ h5
  simp only [cond_true, Bool.and_self]
  rw [ml_ok (by omega) (by omega), bs, ml_ok (by omega) (by omega), bs, ml_ok (by omega) (by omega), bs]
theorem SeekBound_spec_eq (hN : 1073741824 ≤ N) {n : Int} {atoms : List QAtom} {out : List Int} {rows : Int} (ha : okAtoms atoms) (ho : okI out) : spec_SeekBound N n atoms out rows = some (seekB n atoms out rows) := by
  unfold spec_SeekBound seekB
  rw [IsValidQuery_spec_eq hN ha ho, bs, l1In_eq, bs]
  cases hq : queryOk n atoms out
  · rfl
  cases hr : inR rows 0 1000000
  · rfl
  obtain ⟨h1, h2, h3, h4⟩ := queryOk_n hq
  have h5 := inR_iff.1 hr
  obtain ⟨b1, b2, b3, b4⟩ := seek_bd ⟨h1, h2⟩ ⟨h3, h4⟩ h5
  simp only [cond_true, Bool.and_self]
  rw [ml_ok (by omega) (by omega), bs, ml_ok (by omega) (by omega), bs, ml_ok (by omega) (by omega), bs]
end
end Go.Proofs.Ytkpeabpdiffjhaa
