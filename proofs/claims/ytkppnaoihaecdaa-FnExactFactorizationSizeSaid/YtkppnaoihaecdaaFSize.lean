/- FactorizationSize: what the program's and the reference's return. -/
import Derived.Test.YtkppnaoihaecdaaHelpA
namespace Go.Proofs.Ytkppnaoihaecdaa
open Go.RowKit

def factSize (ns : List (List Int × List Int)) : Nat := (ns.map fun n => n.1.length).sum
theorem factSize_le {f : List Int × List (List Int × List Int)} : factSize f.2 ≤ sizeFactorization f := by
  unfold factSize sizeFactorization sizeFactorNodeS
  have : ∀ l : List (List Int × List Int), (l.map fun n => n.1.length).sum ≤ (l.map sizeFactorNode).sum := by
    intro l
    induction l with
    | nil => simp
    | cons x l ih => simp only [List.map_cons, List.sum_cons]; have : sizeFactorNode x = x.1.length + x.2.length := rfl; omega
  have := this f.2
  omega
theorem factSize_take_le (ns : List (List Int × List Int)) (k : Nat) : factSize (ns.take k) ≤ factSize ns := by
  unfold factSize
  conv => rhs; rw [← List.take_append_drop k ns]
  rw [List.map_append, List.sum_append]; omega

theorem FactorizationSize_spec {w wA : World} {v0 v1 : Value} {x0 : List Int} {x1 : List (List Int × List Int)} (h1 : rFactorNodeS.rd wA [v1] x1) (hA : Ext wA w) (hb : sizeFactorization (x0, x1) ≤ 1048576) :
    Calls Try.prog 23 #[.agg #[v0, v1]] w fun e w' => e = .returned (.int .i64 (factSize x1)) ∧ Ext w w' := by
  have hS := Sat.start w
  have hl := rd_len_le h1
  have hbd : ∀ k, factSize (x1.take k) ≤ 1048576 := fun k => Nat.le_trans (factSize_take_le _ _) (Nat.le_trans (factSize_le (f := (x0, x1))) hb)
  clear hb
  go_enter Try.func23, Try.ntmps23
  go_wp2_with (first | (refine wpl_box (cs := [v0, v1]) rfl rfl rfl hS ?_; clear hS; intro w1 b1 hS hx1) | (refine wpl_load1 rfl rfl hS rfl (by rfl) ?_) | (refine wpl_loadn rfl rfl hS rfl (by rfl) (by rfl) ?_))
  go_loop [3, 4] (fun n i => ∃ k : Nat, k ≤ x1.length ∧ i = .int .i64 k ∧ n = .int .i64 (factSize (x1.take k))) (fun _ i => x1.length - (intOf i).toNat)
  case atStart => exact ⟨0, Nat.zero_le _, rfl, rfl⟩
  case round =>
    obtain ⟨k, hk, rfl, rfl⟩ := hrel
    have hb1 := hbd k
    have hb2 := hbd (k + 1)
    clear hbd
    by_cases hlt : k < x1.length
    · have Hs := Lib.hid (sum_take_succ (fun n : List Int × List Int => n.1.length) hlt)
      obtain ⟨b, off, cap, c0, c1, rfl, hcap, hr, hc0, hc1⟩ := slice_at2 h1 rfl (hA.trans hS.below) k hlt
      obtain ⟨q0, q1⟩ := cellsFactorNode hr
      have hll := rd_len_le q0
      have Hs2 := Lib.hid (show factSize (x1.take (k + 1)) = factSize (x1.take k) + (x1[k]).1.length from Hs.out)
      have hsum : factSize (x1.take k) + (x1[k]).1.length ≤ 1048576 := by rw [← Hs2.out]; exact hb2
      clear h1 Hs
      go_wp2_with (first | (refine wpl_load1 rfl rfl hS rfl (by rfl) ?_) | (refine wpl_loadn rfl rfl hS rfl (by rfl) (by rfl) ?_) | (refine wpl_len rfl rfl rfl q0 ?_))
      go_round
      case rel => exact ⟨k + 1, by omega, by go_num, by rw [Hs2.out]; go_num⟩
      case measure => simp [intOf]; omega
    · go_wp2_with (first | (refine wpl_load1 rfl rfl hS rfl (by rfl) ?_) | (refine wpl_loadn rfl rfl hS rfl (by rfl) (by rfl) ?_) | (refine wpl_len rfl rfl rfl h1 ?_))
      go_ret
      obtain rfl : k = x1.length := by omega
      exact ⟨ret_int (by rw [List.take_of_length_le (Nat.le_refl _)]), hS.below⟩
theorem FactorizationSize_impl {w wA : World} {v0 v1 : Value} {x0 : List Int} {x1 : List (List Int × List Int)} (h1 : rFactorNodeS.rd wA [v1] x1) (hA : Ext wA w) (hb : sizeFactorization (x0, x1) ≤ 1048576) :
    Calls Try.prog 25 #[.agg #[v0, v1]] w fun e w' => e = .returned (.int .i64 (factSize x1)) ∧ Ext w w' := by
  have hS := Sat.start w
  have hl := rd_len_le h1
  have hbd : ∀ k, factSize (x1.take k) ≤ 1048576 := fun k => Nat.le_trans (factSize_take_le _ _) (Nat.le_trans (factSize_le (f := (x0, x1))) hb)
  clear hb
  go_enter Try.func25, Try.ntmps25
  go_wp2_with (first | (refine wpl_box (cs := [v0, v1]) rfl rfl rfl hS ?_; clear hS; intro w1 b1 hS hx1) | (refine wpl_load1 rfl rfl hS rfl (by rfl) ?_) | (refine wpl_loadn rfl rfl hS rfl (by rfl) (by rfl) ?_) | (refine wpl_len rfl rfl rfl h1 ?_))
  go_loopw [3, 9] (fun n i wr => ∃ k : Nat, k ≤ x1.length ∧ i = .int .i64 k ∧ n = .int .i64 (factSize (x1.take k)) ∧ Sat w wr []) (fun _ i _ => x1.length - (intOf i).toNat)
  case atStart => exact ⟨0, Nat.zero_le _, rfl, rfl, hS.keep 0⟩
  case round =>
    clear hS
    obtain ⟨k, hk, rfl, rfl, hS⟩ := hrel
    have hb1 := hbd k
    have hb2 := hbd (k + 1)
    clear hbd
    by_cases hlt : k < x1.length
    · have Hs := Lib.hid (sum_take_succ (fun n : List Int × List Int => n.1.length) hlt)
      obtain ⟨b, off, cap, c0, c1, rfl, hcap, hr, hc0, hc1⟩ := slice_at2 h1 rfl (hA.trans hS.below) k hlt
      obtain ⟨q0, q1⟩ := cellsFactorNode hr
      have o0 : c0.oneCell' = true := rFactorNode.rd_one hr c0 (by simp)
      have o1 : c1.oneCell' = true := rFactorNode.rd_one hr c1 (by simp)
      have hll := rd_len_le q0
      have Hs2 := Lib.hid (show factSize (x1.take (k + 1)) = factSize (x1.take k) + (x1[k]).1.length from Hs.out)
      have hsum : factSize (x1.take k) + (x1[k]).1.length ≤ 1048576 := by rw [← Hs2.out]; exact hb2
      clear h1 Hs
      go_wp2_with (first | (refine wpl_load1 rfl rfl hS rfl (by rfl) ?_) | (refine wpl_loadn rfl rfl hS rfl (by rfl) (by rfl) ?_) | (refine wpl_len rfl rfl rfl q0 ?_) | (refine wpl_alloc rfl rfl hS ?_; clear hS; intro w1 b1 hS hx1) | (refine wpl_storev rfl rfl hS rfl [c0, c1] rfl (by rfl) (by simp) (by simp [oc_int, oc_str, o0, o1]) ?_; clear hS; intro w3 hS; simp only [List.take, List.drop, List.nil_append, List.cons_append, Nat.reduceAdd] at hS))
      go_roundw
      case rel => exact ⟨k + 1, by omega, by go_num, by rw [Hs2.out]; go_num, hS.keep 0⟩
      case measure => simp [intOf]; omega
    · go_wp2_with fail
      go_ret
      obtain rfl : k = x1.length := by omega
      exact ⟨ret_int (by rw [List.take_of_length_le (Nat.le_refl _)]), hS.below⟩
end Go.Proofs.Ytkppnaoihaecdaa
