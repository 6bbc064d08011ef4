/- Plain laws: equality of rows, relations, deltas, factorizations; validity of relations. -/
import Derived.Test.YtobjjdfgnaanjaapA
namespace Go.Proofs.Ytobjjdfgnaanjaa
open Go.RowKit

abbrev okI (xs : List Int) : Prop := AllL (fun _ => True) 1048576 xs
abbrev okII (xs : List (List Int)) : Prop := AllL (AllL (fun _ => True) 1048576) 1048576 xs
abbrev okN (xs : List (List Int × List Int)) : Prop := AllL (fun x => (AllL (fun _ => True) 1048576) x.1 ∧ (AllL (fun _ => True) 1048576) x.2) 1048576 xs
/-- a loop that compares two lists, place by place -/
theorem eqLoop {α : Type} [DecidableEq α] {L : Nat → Int → Option (Sum Bool Int)} {xs ys : List α} (hl : xs.length = ys.length) (hx : xs.length ≤ 1048576) {N : Nat} (hN : 1073741824 ≤ N)
    (hs : ∀ k i (h : i < xs.length) (h' : i < ys.length), L (k + 1) (i : Int) = bif decide (xs[i] = ys[i]) then L k ((i + 1 : Nat) : Int) else some (.inl false)) (he : ∀ k, L (k + 1) (xs.length : Int) = some (.inr (xs.length : Int))) :
    ((L N 0).bind fun s => lpS s (fun q => some q) fun _ => some true) = some (decide (xs = ys)) := by
  have := loopA L xs.length (by omega) false (fun i => if h : i < xs.length then decide (xs[i] = ys[i]'(by omega)) else true) (xs.length : Int)
    (fun k i h => by rw [hs k i h (by omega)]; simp only [dif_pos h]) he N 0 (by omega) (by omega)
  rw [show ((0 : Int)) = ((0 : Nat) : Int) from rfl, this, bs, Nat.sub_zero, range_eq hl _ (fun i hi => by rw [dif_pos hi])]
  cases decide (xs = ys) <;> rfl
theorem ne_len {α : Type} [DecidableEq α] {xs ys : List α} (h : ¬ xs.length = ys.length) : some false = some (decide (xs = ys)) := by
  congr 1; rw [eq_comm, decide_eq_false_iff_not]; rintro rfl; exact h rfl
theorem lenNe {α : Type} {xs ys : List α} (h : ¬ xs.length = ys.length) : ((xs.length : Int) != (ys.length : Int)) = true := by simp; omega
theorem lenEq {α : Type} {xs ys : List α} (h : xs.length = ys.length) : ((xs.length : Int) != (ys.length : Int)) = false := by simp [h]
section
variable {N : Nat}
theorem sameRows_eq (hN : 1073741824 ≤ N) {xs ys : List (List Int)} (hx : okII xs) : impl_sameRows N xs ys = some (decide (xs = ys)) := by
  unfold impl_sameRows
  by_cases hl : xs.length = ys.length
  · rw [lenEq hl, cond_false]
    refine eqLoop (L := fun k i => impl_sameRows_L1 N k xs ys (xs.length : Int) i) hl hx.1 hN (fun k i h h' => ?_) (fun k => ?_)
    · have := hx.1
      show impl_sameRows_L1 N (k + 1) xs ys _ (i : Int) = _
      rw [impl_sameRows_L1, dlt h, cond_true, ix_nat h, bs, ix_nat h', bs, sameInts_eq hN (hx.2 _ (List.getElem_mem h)).1, bs, ad1 (by omega), bs]
    · show impl_sameRows_L1 N (k + 1) xs ys _ (xs.length : Int) = _
      rw [impl_sameRows_L1, dge (by omega), cond_false]
  · rw [lenNe hl, cond_true]; exact ne_len hl
theorem cmpR_bne (xs ys : List Int) : (cmpR xs ys != 0) = !decide (xs = ys) := by
  rw [bneD]; congr 1; rw [decide_eq_decide]; exact cmpR_zero
theorem cmpR_beq (xs ys : List Int) : (cmpR xs ys == 0) = decide (xs = ys) := by
  rw [beqD, decide_eq_decide]; exact cmpR_zero
theorem EqualRelations_impl_eq (hN : 1073741824 ≤ N) {a b : Int} {xs ys : List (List Int)} (hx : okII xs) : impl_EqualRelations N a xs b ys = some (decide ((a, xs) = (b, ys))) := by
  unfold impl_EqualRelations
  rw [sameRows_eq hN hx, bs, beqD]
  by_cases h1 : a = b <;> by_cases h2 : xs = ys <;> simp [h1, h2]
theorem EqualRelations_spec_eq (hN : 1073741824 ≤ N) {a b : Int} {xs ys : List (List Int)} (hx : okII xs) (hy : okII ys) : spec_EqualRelations N a xs b ys = some (decide ((a, xs) = (b, ys))) := by
  unfold spec_EqualRelations
  by_cases hl : xs.length = ys.length
  · rw [lenEq hl, cond_false, eqLoop (L := fun k i => spec_EqualRelations_L1 N k a xs b ys i) hl hx.1 hN (fun k i h h' => ?_) (fun k => ?_), bneD]
    · by_cases h1 : a = b <;> by_cases h2 : xs = ys <;> simp [h1, h2]
    · have := hx.1
      have := (hy.2 _ (List.getElem_mem h')).1
      show spec_EqualRelations_L1 N (k + 1) a xs b ys (i : Int) = _
      rw [spec_EqualRelations_L1, dlt h, cond_true, ix_nat h, bs, ix_nat h', bs, CompareRows_spec_eq hN (hx.2 _ (List.getElem_mem h)).1 (by omega), bs, cmpR_bne, ad1 (by omega), bs]
      cases decide (xs[i] = ys[i]) <;> rfl
    · show spec_EqualRelations_L1 N (k + 1) a xs b ys (xs.length : Int) = _
      rw [spec_EqualRelations_L1, dge (by omega), cond_false]
  · rw [lenNe hl, cond_true, bneD]
    have : ¬ xs = ys := fun e => hl (by rw [e])
    by_cases h1 : a = b <;> simp [h1, this]
theorem EqualDeltas_impl_eq (hN : 1073741824 ≤ N) {s t : ByteArray} {a b c d : Int} {x y z u : List (List Int)} (hx : okII x) (hy : okII y) :
    impl_EqualDeltas N s a x b y t c z d u = some (decide ((s, (a, x), (b, y)) = (t, (c, z), (d, u)))) := by
  unfold impl_EqualDeltas
  rw [EqualRelations_impl_eq hN hx, EqualRelations_impl_eq hN hy, bs, bs, eqS_dec]
  by_cases h1 : s = t <;> by_cases h2 : (a, x) = (c, z) <;> by_cases h3 : (b, y) = (d, u) <;> simp only [h1, h2, h3, decide_true, decide_false, cond_true, cond_false, Prod.mk.injEq, true_and, false_and, and_false] <;> simp_all
theorem EqualDeltas_spec_eq (hN : 1073741824 ≤ N) {s t : ByteArray} {a b c d : Int} {x y z u : List (List Int)} (hx : okII x) (hy : okII y) (hz : okII z) (hu : okII u) :
    spec_EqualDeltas N s a x b y t c z d u = some (decide ((s, (a, x), (b, y)) = (t, (c, z), (d, u)))) := by
  unfold spec_EqualDeltas
  rw [EqualRelations_spec_eq hN hx hz, EqualRelations_spec_eq hN hy hu, bs, bs, eqS_dec]
  by_cases h1 : s = t <;> by_cases h2 : (a, x) = (c, z) <;> by_cases h3 : (b, y) = (d, u) <;> simp only [h1, h2, h3, decide_true, decide_false, cond_true, cond_false, Prod.mk.injEq, true_and, false_and, and_false] <;> simp_all
end
end Go.Proofs.Ytobjjdfgnaanjaa
