/- Plain laws: validity of queries; the bound of seeks. -/
import Derived.Test.YtdingjlefilafaapN
namespace Go.Proofs.Ytdingjlefilafaa
open Go.RowKit

theorem loopAS {σ R V : Type} (L : Nat → σ → Int → Option (Sum R V)) (n : Nat) (b : R) (p : Nat → Bool) (A : Nat → σ) (v : V)
    (hstep : ∀ k i, i < n → L (k + 1) (A i) (i : Int) = bif p i then L k (A (i + 1)) ((i + 1 : Nat) : Int) else some (.inl b)) (hend : ∀ k, L (k + 1) (A n) (n : Int) = some (.inr v)) :
    ∀ k i, i ≤ n → n - i < k → L k (A i) (i : Int) = some (bif (List.range' i (n - i)).all p then .inr v else .inl b) := by
  intro k
  induction k with
  | zero => intro i hi hk; omega
  | succ k ih =>
    intro i hi hk
    by_cases h : i < n
    · rw [hstep k i h, show n - i = (n - (i + 1)) + 1 by omega, List.range'_succ, List.all_cons]
      cases hp : p i with
      | true => rw [cond_true, Bool.true_and]; exact ih (i + 1) (by omega) (by omega)
      | false => rfl
    · obtain rfl : i = n := by omega
      rw [hend k, Nat.sub_self]; rfl
theorem lpSr {R V S : Type} {v : V} {f : R → Option S} {g : V → Option S} : lpS (.inr v) f g = g v := rfl
theorem lpSl {R V S : Type} {v : R} {f : R → Option S} {g : V → Option S} : lpS (.inl v) f g = f v := rfl
abbrev QAtom := ByteArray × List Int
abbrev okAtoms (xs : List QAtom) : Prop := AllL (fun x => x.1.size ≤ 1048576 ∧ (AllL (fun _ => True) 1048576) x.2) 1048576 xs
def atomOk (n : Int) (a : QAtom) : Bool := nameOk a.1 && inR a.2.length 1 5 && a.2.all fun v => inR v 0 (n - 1)
def covered (n : Int) (atoms : List QAtom) : Bool := (List.range' 0 n.toNat).all fun v => atoms.any fun a => decide ((v : Int) ∈ a.2)
def queryOk (n : Int) (atoms : List QAtom) (out : List Int) : Bool := inR n 1 5 && inR atoms.length 1 4 && isSetB out n && atoms.all (atomOk n) && covered n atoms
theorem nodup_bound : ∀ (n : Nat) (xs : List Int), xs.Nodup → (∀ x ∈ xs, 0 ≤ x ∧ x < n) → xs.length ≤ n := by
  intro n
  induction n with
  | zero =>
    intro xs _ h
    cases xs with
    | nil => simp
    | cons x xs => have := h x (by simp); omega
  | succ n ih =>
    intro xs hn h
    by_cases hm : (n : Int) ∈ xs
    · have h1 := ih (xs.erase (n : Int)) (hn.erase _) (fun x hx => by
        have h2 := h x (List.mem_of_mem_erase hx)
        have h3 : x ≠ n := by rintro rfl; exact (hn.mem_erase_iff.1 hx).1 rfl
        omega)
      rw [List.length_erase_of_mem hm] at h1
      omega
    · have := ih xs hn (fun x hx => by
        have h2 := h x hx
        have h3 : x ≠ n := by rintro rfl; exact hm hx
        omega)
      omega
theorem isSetB_spec {xs : List Int} {n : Int} (h : isSetB xs n = true) : xs.Nodup ∧ ∀ x ∈ xs, 0 ≤ x ∧ x ≤ n - 1 := by
  unfold isSetB at h
  rw [List.all_eq_true] at h
  have hk : ∀ i (hi : i < xs.length), (0 ≤ xs[i] ∧ xs[i] ≤ n - 1) ∧ xs[i] ∉ xs.take i := by
    intro i hi
    have := h i (by simp; omega)
    simp only [getD_at hi, Bool.and_eq_true, inR_iff, Bool.not_eq_true', decide_eq_false_iff_not] at this
    exact this
  refine ⟨?_, fun x hx => ?_⟩
  · rw [List.nodup_iff_pairwise_ne, List.pairwise_iff_getElem]
    intro i j hi hj hij e
    refine (hk j hj).2 ?_
    rw [← e]
    have : (xs.take j)[i]'(by simp; omega) = xs[i] := List.getElem_take
    rw [← this]; exact List.getElem_mem _
  · obtain ⟨i, hi, rfl⟩ := List.getElem_of_mem hx
    exact (hk i hi).1
theorem isSetB_len {xs : List Int} {n : Int} (h0 : 0 ≤ n) (h : isSetB xs n = true) : (xs.length : Int) ≤ n := by
  obtain ⟨h1, h2⟩ := isSetB_spec h
  have := nodup_bound n.toNat xs h1 (fun x hx => by have := h2 x hx; omega)
  omega
def mapR (m : Nat) (g : Nat → Bool) : List Bool := (List.range' 0 m).map g
theorem mapR_len (m : Nat) (g : Nat → Bool) : (mapR m g).length = m := by simp [mapR]
theorem mapR_at {m : Nat} {g : Nat → Bool} {i : Nat} (h : i < m) : ix (mapR m g) (i : Int) = some (g i) := by
  rw [ix_nat (by rw [mapR_len]; exact h)]; simp [mapR]
theorem mapR_sto {m : Nat} {g : Nat → Bool} {c : Nat} (h : c < m) : sto (mapR m g) (c : Int) true = some (mapR m fun v => g v || decide (v = c)) := by
  rw [sto_nat (by rw [mapR_len]; exact h)]
  congr 1
  refine List.ext_getElem (by simp [mapR]) fun i h1 h2 => ?_
  simp only [mapR, List.getElem_set, List.getElem_map, List.getElem_range']
  simp only [Nat.zero_add, Nat.one_mul]
  by_cases e : c = i
  · subst e; simp
  · have e2 : ¬ i = c := fun h => e h.symm
    rw [if_neg e, decide_eq_false e2, Bool.or_false]
theorem mapR_ext {m : Nat} {f g : Nat → Bool} (h : ∀ v, f v = g v) : mapR m f = mapR m g := by rw [show f = g from funext h]
theorem mapR_all (m : Nat) (g : Nat → Bool) : (mapR m g).all id = (List.range' 0 m).all g := by simp [mapR, List.all_map]
theorem any_take_succ {α : Type} {p : α → Bool} {xs : List α} {i : Nat} (h : i < xs.length) : (xs.take (i + 1)).any p = ((xs.take i).any p || p xs[i]) := by
  rw [List.take_succ_eq_append_getElem h, List.any_append]; simp
theorem mem_take_succ {xs : List Int} {i : Nat} (h : i < xs.length) (v : Int) : decide (v ∈ xs.take (i + 1)) = (decide (v ∈ xs.take i) || decide (v = xs[i])) := by
  have e : v ∈ xs.take (i + 1) ↔ v ∈ xs.take i ∨ v = xs[i] := by
    rw [List.take_succ_eq_append_getElem h, List.mem_append, List.mem_singleton]
  rw [Bool.eq_iff_iff]; simp only [decide_eq_true_eq, Bool.or_eq_true]; exact e
section
variable {N : Nat}
def seenR (m : Nat) (atoms : List QAtom) (i : Nat) : List Bool := mapR m fun v => (atoms.take i).any fun a => decide ((v : Int) ∈ a.2)
def seenA (m : Nat) (atoms : List QAtom) (i : Nat) (xs : List Int) (j : Nat) : List Bool := mapR m fun v => (atoms.take i).any (fun a => decide ((v : Int) ∈ a.2)) || decide ((v : Int) ∈ xs.take j)
theorem seenA_0 (m : Nat) (atoms : List QAtom) (i : Nat) (xs : List Int) : seenA m atoms i xs 0 = seenR m atoms i := mapR_ext fun v => by simp
theorem seenA_all (m : Nat) (atoms : List QAtom) {i : Nat} (h : i < atoms.length) : seenA m atoms i atoms[i].2 atoms[i].2.length = seenR m atoms (i + 1) := mapR_ext fun v => by rw [List.take_length, any_take_succ h]
theorem seenA_succ {m : Nat} {atoms : List QAtom} {i : Nat} {xs : List Int} {j c : Nat} (hj : j < xs.length) (hc : xs[j] = (c : Int)) (hm : c < m) : sto (seenA m atoms i xs j) (c : Int) true = some (seenA m atoms i xs (j + 1)) := by
  unfold seenA
  rw [mapR_sto hm]
  congr 1
  refine mapR_ext fun v => ?_
  rw [mem_take_succ hj, hc, Bool.or_assoc]
  congr 2
  rw [decide_eq_decide]; omega
theorem seenA_at {m : Nat} {atoms : List QAtom} {i : Nat} {xs : List Int} {j c : Nat} (hm : c < m) : ∃ b, ix (seenA m atoms i xs j) (c : Int) = some b := ⟨_, mapR_at hm⟩
theorem seenR_0 (m : Nat) (atoms : List QAtom) : List.replicate m false = seenR m atoms 0 := by
  refine List.ext_getElem (by simp [seenR, mapR]) fun i h1 h2 => ?_
  simp [seenR, mapR]
theorem seenR_all {m : Nat} {atoms : List QAtom} : (seenR m atoms atoms.length).all id = covered m atoms := by
  unfold seenR covered
  rw [mapR_all, Int.toNat_natCast, List.take_length]
theorem queryOk_no {n : Int} {atoms : List QAtom} {out : List Int} (h : inR n 1 5 = false) : queryOk n atoms out = false := by unfold queryOk; rw [h]; rfl
def seekB (n : Int) (atoms : List QAtom) (out : List Int) (rows : Int) : Int := bif queryOk n atoms out && inR rows 0 1000000 then 2 * n * atoms.length * rows else 0
theorem queryOk_n {n : Int} {atoms : List QAtom} {out : List Int} (h : queryOk n atoms out = true) : 1 ≤ n ∧ n ≤ 5 ∧ 1 ≤ (atoms.length : Int) ∧ (atoms.length : Int) ≤ 4 := by
  unfold queryOk at h
  simp only [Bool.and_eq_true, inR_iff] at h
  exact ⟨h.1.1.1.1.1, h.1.1.1.1.2, h.1.1.1.2.1, h.1.1.1.2.2⟩
theorem seek_bd {n l r : Int} (h1 : 1 ≤ n ∧ n ≤ 5) (h2 : 1 ≤ l ∧ l ≤ 4) (h3 : 0 ≤ r ∧ r ≤ 1000000) : 0 ≤ 2 * n * l ∧ 2 * n * l ≤ 40 ∧ 0 ≤ 2 * n * l * r ∧ 2 * n * l * r ≤ 40000000 := by
  have a : 0 ≤ 2 * n * l ∧ 2 * n * l ≤ 40 := by
    have := Int.mul_le_mul (show 2 * n ≤ 10 by omega) h2.2 (by omega) (by omega)
    exact ⟨Int.mul_nonneg (by omega) (by omega), by omega⟩
  refine ⟨a.1, a.2, Int.mul_nonneg a.1 h3.1, ?_⟩
  have := Int.mul_le_mul a.2 h3.2 h3.1 (by omega)
  omega
end
end Go.Proofs.Ytdingjlefilafaa
