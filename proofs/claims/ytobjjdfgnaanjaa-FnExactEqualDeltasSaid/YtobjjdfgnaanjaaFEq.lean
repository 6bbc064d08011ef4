/- Equality of rows, of nodes, of factorizations: the program's and the reference's. -/
import Derived.Test.YtobjjdfgnaanjaaRows2
import Derived.Deep.DeepMust
namespace Go.Proofs.Ytobjjdfgnaanjaa
open Go.RowKit

theorem sameInts_implD {w wA wB : World} {v u : Value} {xs ys : List Int} (hv : rIntS.rd wA [v] xs) (hu : rIntS.rd wB [u] ys) (hA : Ext wA w) (hB : Ext wB w) :
    Calls Try.prog 49 #[v, u] w fun e w' => e = .returned (.bool (decide (xs = ys))) ∧ Drw w w' := by
  have hl := rd_len_le hv
  have hl2 := rd_len_le hu
  obtain ⟨ao, cap, rfl⟩ := sliceR_shape hv
  obtain ⟨ao2, cap2, rfl⟩ := sliceR_shape hu
  by_cases hlen : xs.length = ys.length
  case neg =>
    have hne : ((xs.length : Int) != (ys.length : Int)) = true := by simp only [bne_iff_ne]; omega
    go_enter Try.func49, Try.ntmps49
    go_wp2
    go_ret
    exact ⟨ret_bool (by rw [eq_comm, decide_eq_false_iff_not]; intro e; subst e; exact hlen rfl), Drw.refl _⟩
  have hne : ((xs.length : Int) != (ys.length : Int)) = false := by simp [hlen]
  have HL := Lib.hid hlen
  clear hlen
  go_enter Try.func49, Try.ntmps49
  go_wp2
  go_loopw [13] (fun i wr => ∃ k : Nat, k ≤ xs.length ∧ i = .int .i64 k ∧ xs.take k = ys.take k ∧ Drw w wr) (fun i _ => xs.length - (intOf i).toNat)
  case atStart => exact ⟨0, Nat.zero_le _, rfl, rfl, Drw.refl _⟩
  case round =>
    obtain ⟨k, hk, rfl, ht, hw⟩ := hrel
    have Ht := Lib.hid ht
    clear ht
    by_cases hlt : k < xs.length
    · have hlt2 : k < ys.length := by have := HL.out; omega
      obtain ⟨b, off, cap', e, hcap, c1⟩ := ints_at hv (hA.trans hw.ext) k hlt
      obtain ⟨b2, off2, cap2', e2, hcap2, c2⟩ := ints_at hu (hB.trans hw.ext) k hlt2
      clear hv hu
      simp only [Value.slice.injEq] at e e2
      obtain ⟨rfl, _, rfl⟩ := e
      obtain ⟨rfl, _, rfl⟩ := e2
      by_cases h1 : xs[k] = ys[k]
      · have H1 := Lib.hid h1
        have hb : (xs[k] != ys[k]) = false := by simpa using h1
        clear h1
        go_wp2
        go_quiet (fail)
        go_wp2
        go_roundw
        case rel => exact ⟨k + 1, by omega, by go_num, take_eq_succ hlt hlt2 Ht.out H1.out, hw.more (Drw.at _ _)⟩
        case measure => simp [intOf]; omega
      · have hb : (xs[k] != ys[k]) = true := by simpa using h1
        go_wp2
        go_quiet (fail)
        go_wp2
        go_ret
        exact ⟨ret_bool (by rw [eq_comm, decide_eq_false_iff_not]; intro e; subst e; exact h1 rfl), hw.more (Drw.at _ _)⟩
    · go_wp2
      go_ret
      obtain rfl : k = xs.length := by omega
      exact ⟨ret_bool (by rw [eq_comm, decide_eq_true_iff]; exact eq_of_take HL.out Ht.out), hw⟩

theorem sameInts_impl {w wA wB : World} {v u : Value} {xs ys : List Int} (hv : rIntS.rd wA [v] xs) (hu : rIntS.rd wB [u] ys) (hA : Ext wA w) (hB : Ext wB w) :
    Calls Try.prog 49 #[v, u] w fun e w' => e = .returned (.bool (decide (xs = ys))) ∧ Ext w w' := (sameInts_implD hv hu hA hB).mono fun _ _ h => ⟨h.1, h.2.ext⟩

theorem sameNode_impl {w wA wB : World} {av0 av1 bv0 bv1 : Value} {ax0 ax1 bx0 bx1 : List Int} (ah0 : (rIntS).rd wA [av0] ax0) (ah1 : (rIntS).rd wA [av1] ax1) (bh0 : (rIntS).rd wB [bv0] bx0) (bh1 : (rIntS).rd wB [bv1] bx1) (hA : Ext wA w) (hB : Ext wB w) :
    Calls Try.prog 50 #[.agg #[av0, av1], .agg #[bv0, bv1]] w fun e w' => e = .returned (.bool (decide ((ax0, ax1) = (bx0, bx1)))) ∧ Ext w w' := by
  have hS := Sat.start w
  go_enter Try.func50, Try.ntmps50
  go_wp2_with (first | (refine wpl_box (cs := [av0, av1]) rfl rfl rfl hS ?_; clear hS; intro w1 b1 hS hx1) | (refine wpl_box (cs := [bv0, bv1]) rfl rfl rfl hS ?_; clear hS; intro w1 b2 hS hx1) | (refine wpl_load1 rfl rfl hS rfl (by rfl) ?_) | (refine wpl_loadn rfl rfl hS rfl (by rfl) (by rfl) ?_))
  refine (sameInts_impl ah0 bh0 (hA.trans hS.below) (hB.trans hS.below)).mono ?_
  rintro e w2 ⟨rfl, hx2⟩
  replace hS := hS.ext hx2
  generalize hd : decide (ax0 = bx0) = d
  have H0 := Lib.hid hd
  clear hd
  cases d
  · go_wp2
    go_ret
    exact ⟨ret_bool (by rw [eq_comm, decide_eq_false_iff_not]; intro e; exact of_decide_eq_false H0.out (congrArg Prod.fst e)), hS.below⟩
  have e0 := of_decide_eq_true H0.out
  clear H0
  have E0 := Lib.hid e0
  clear e0
  have m1 := hS.boxCell 1 _ rfl (b := b1)
  have m2 := hS.boxCell 1 _ rfl (b := b2)
  go_wp2_with (go_at_call 49; refine Calls.mono (R := fun e w' => e = .returned (.bool (decide (ax1 = bx1))) ∧ Ext _ w') (sameInts_impl ah1 bh1 (hA.trans hS.below) (hB.trans hS.below)) ?_; rintro e w3 ⟨rfl, hx3⟩)
  replace hS := hS.ext hx3
  go_ret
  exact ⟨ret_bool (by rw [decide_eq_decide]; constructor <;> intro e <;> first | exact congrArg Prod.snd e | exact Prod.ext E0.out e), hS.below⟩

set_option maxHeartbeats 1000000 in
theorem EqualFactorizations_impl {w wA wB : World} {av0 av1 bv0 bv1 : Value} {ax0 bx0 : List Int} {ax1 bx1 : List (List Int × List Int)} (ah0 : (rIntS).rd wA [av0] ax0) (ah1 : (rFactorNodeS).rd wA [av1] ax1) (bh0 : (rIntS).rd wB [bv0] bx0) (bh1 : (rFactorNodeS).rd wB [bv1] bx1) (hA : Ext wA w) (hB : Ext wB w) :
    Calls Try.prog 12 #[.agg #[av0, av1], .agg #[bv0, bv1]] w fun e w' => e = .returned (.bool (decide ((ax0, ax1) = (bx0, bx1)))) ∧ Ext w w' := by
  have hS := Sat.start w
  have hl := rd_len_le ah1
  have hl2 := rd_len_le bh1
  obtain ⟨ao, cap, rfl⟩ := sliceR_shape ah1
  obtain ⟨ao2, cap2, rfl⟩ := sliceR_shape bh1
  go_enter Try.func12, Try.ntmps12
  go_wp2_with (first | (refine wpl_box (cs := [av0, .slice ao ax1.length cap]) rfl rfl rfl hS ?_; clear hS; intro w1 b1 hS hx1) | (refine wpl_box (cs := [bv0, .slice ao2 bx1.length cap2]) rfl rfl rfl hS ?_; clear hS; intro w1 b2 hS hx1) | (refine wpl_load1 rfl rfl hS rfl (by rfl) ?_) | (refine wpl_loadn rfl rfl hS rfl (by rfl) (by rfl) ?_))
  refine (sameInts_impl ah0 bh0 (hA.trans hS.below) (hB.trans hS.below)).mono ?_
  rintro e w2 ⟨rfl, hx2⟩
  replace hS := hS.ext hx2
  generalize hd : decide (ax0 = bx0) = d
  have H0 := Lib.hid hd
  clear hd
  cases d
  · go_wp2_with (first | (refine wpl_load1 rfl rfl hS rfl (by rfl) ?_) | (refine wpl_loadn rfl rfl hS rfl (by rfl) (by rfl) ?_))
    go_ret
    exact ⟨ret_bool (by rw [eq_comm, decide_eq_false_iff_not]; intro e; exact of_decide_eq_false H0.out (congrArg Prod.fst e)), hS.below⟩
  have e0 := of_decide_eq_true H0.out
  clear H0
  have E0 := Lib.hid e0
  clear e0
  have m1 := hS.boxCell 1 _ rfl (b := b1)
  have m2 := hS.boxCell 1 _ rfl (b := b2)
  by_cases hlen : ax1.length = bx1.length
  case neg =>
    have hne : ((ax1.length : Int) != (bx1.length : Int)) = true := by simp only [bne_iff_ne]; omega
    go_wp2
    go_ret
    exact ⟨ret_bool (by rw [eq_comm, decide_eq_false_iff_not]; intro e; exact hlen (congrArg (fun p => p.2.length) e)), hS.below⟩
  have hne : ((ax1.length : Int) != (bx1.length : Int)) = false := by simp [hlen]
  have HL := Lib.hid hlen
  clear hlen
  go_wp2
  clear m1 m2
  go_loopw [24] (fun i wr => ∃ k : Nat, k ≤ ax1.length ∧ i = .int .i64 k ∧ ax1.take k = bx1.take k ∧ Sat w wr [Box b2 30 [bv0, .slice ao2 bx1.length cap2], Box b1 30 [av0, .slice ao ax1.length cap]]) (fun i _ => ax1.length - (intOf i).toNat)
  case atStart => exact ⟨0, Nat.zero_le _, rfl, rfl, hS⟩
  case round =>
    clear hS
    obtain ⟨k, hk, rfl, ht, hS⟩ := hrel
    have Ht := Lib.hid ht
    clear ht
    by_cases hlt : k < ax1.length
    · have hlt2 : k < bx1.length := by have := HL.out; omega
      obtain ⟨b, off, cap', c0, c1, e, hcap, hr, hc0, hc1⟩ := slice_at2 ah1 rfl (hA.trans hS.below) k hlt
      obtain ⟨b', off2, cap2', d0, d1, e', hcap2, hs, hd0, hd1⟩ := slice_at2 bh1 rfl (hB.trans hS.below) k hlt2
      simp only [Value.slice.injEq] at e e'
      obtain ⟨rfl, _, rfl⟩ := e
      obtain ⟨rfl, _, rfl⟩ := e'
      obtain ⟨q0, q1⟩ := cellsFactorNode hr
      obtain ⟨p0, p1⟩ := cellsFactorNode hs
      clear ah1 bh1
      have hSd := hS.ext (Below.drew (Ext.refl _))
      have hA1 := (hA.trans hS.below).drew
      have hB1 := (hB.trans hS.below).drew
      have m1 := hS.boxCell 1 _ rfl (b := b1)
      have m2 := hS.boxCell 1 _ rfl (b := b2)
      go_wp2
      go_region_held3 (fun W => W.cell? ⟨b1, 1, none⟩ = some (.slice (some ⟨b, off, none⟩) ax1.length cap) ∧ W.cell? ⟨b2, 1, none⟩ = some (.slice (some ⟨b', off2, none⟩) bx1.length cap2) ∧ W.cell? ⟨b, off + k * 2, none⟩ = some (c0) ∧ W.cell? ⟨b, off + k * 2 + 1, none⟩ = some (c1) ∧ W.cell? ⟨b', off2 + k * 2, none⟩ = some (d0) ∧ W.cell? ⟨b', off2 + k * 2 + 1, none⟩ = some (d1)) (first | exact ⟨m1, m2, hc0, hc1, hd0, hd1⟩ | exact ⟨cell_up hx2 m1, cell_up hx2 m2, cell_up hx2 hc0, cell_up hx2 hc1, cell_up hx2 hd0, cell_up hx2 hd1⟩)
        (first | (go_at_call 50; refine Calls.mono (R := fun e w' => e = .returned (.bool (decide (ax1[k] = bx1[k]))) ∧ Ext _ w') (sameNode_impl q0 q1 p0 p1 hA1 hB1) ?_; rintro e w2 ⟨rfl, hx2⟩))
      generalize hd : decide (ax1[k] = bx1[k]) = d
      have H1 := Lib.hid hd
      clear hd
      cases d
      · go_wp2
        go_ret
        exact ⟨ret_bool (by rw [eq_comm, decide_eq_false_iff_not]; intro e; simp only [Prod.mk.injEq] at e; obtain ⟨_, rfl⟩ := e; simpa using H1.out), (hSd.ext hx2).below⟩
      · have E1 := of_decide_eq_true H1.out
        go_wp2
        refine ⟨?_, by simp [intOf]; omega⟩
        have hS3 := hSd.ext hx2
        have ht3 := take_eq_succ hlt hlt2 Ht.out E1
        first | exact ⟨k + 1, by omega, by go_num, ht3, hS3⟩ | ((repeat apply Exists.intro); exact ⟨⟨k + 1, by omega, by go_num, ht3, hS3⟩, rfl⟩)
    · go_wp2
      go_ret
      obtain rfl : k = ax1.length := by omega
      exact ⟨ret_bool (by rw [eq_comm, decide_eq_true_iff]; exact Prod.ext E0.out (eq_of_take HL.out Ht.out)), hS.below⟩
set_option maxHeartbeats 1000000 in
theorem EqualFactorizations_spec {w wA wB : World} {av0 av1 bv0 bv1 : Value} {ax0 bx0 : List Int} {ax1 bx1 : List (List Int × List Int)} (ah0 : (rIntS).rd wA [av0] ax0) (ah1 : (rFactorNodeS).rd wA [av1] ax1) (bh0 : (rIntS).rd wB [bv0] bx0) (bh1 : (rFactorNodeS).rd wB [bv1] bx1) (hA : Ext wA w) (hB : Ext wB w) :
    Calls Try.prog 10 #[.agg #[av0, av1], .agg #[bv0, bv1]] w fun e w' => e = .returned (.bool (decide ((ax0, ax1) = (bx0, bx1)))) ∧ Ext w w' := by
  have hS := Sat.start w
  have hl := rd_len_le ah1
  have hl2 := rd_len_le bh1
  obtain ⟨ao, cap, rfl⟩ := sliceR_shape ah1
  obtain ⟨ao2, cap2, rfl⟩ := sliceR_shape bh1
  go_enter Try.func10, Try.ntmps10
  go_wp2_with (first | (refine wpl_box (cs := [av0, .slice ao ax1.length cap]) rfl rfl rfl hS ?_; clear hS; intro w1 b1 hS hx1) | (refine wpl_box (cs := [bv0, .slice ao2 bx1.length cap2]) rfl rfl rfl hS ?_; clear hS; intro w1 b2 hS hx1) | (refine wpl_load1 rfl rfl hS rfl (by rfl) ?_) | (refine wpl_loadn rfl rfl hS rfl (by rfl) (by rfl) ?_))
  refine (CompareRows_spec ah0 bh0 (hA.trans hS.below) (hB.trans hS.below)).mono ?_
  rintro e w2 ⟨rfl, hx2⟩
  replace hS := hS.ext hx2
  generalize hd : cmpR ax0 bx0 = d
  by_cases hz : d = 0
  case neg =>
    have hb : (d != 0) = true := by simpa using hz
    go_wp2_with (first | (refine wpl_load1 rfl rfl hS rfl (by rfl) ?_) | (refine wpl_loadn rfl rfl hS rfl (by rfl) (by rfl) ?_))
    go_ret
    exact ⟨ret_bool (by rw [eq_comm, decide_eq_false_iff_not]; intro e; exact hz (hd ▸ cmpR_zero.2 (congrArg Prod.fst e))), hS.below⟩
  have hb : (d != 0) = false := by simpa using hz
  have e0 := cmpR_zero.1 (hd.trans hz)
  clear hd hz
  have E0 := Lib.hid e0
  clear e0
  have m1 := hS.boxCell 1 _ rfl (b := b1)
  have m2 := hS.boxCell 1 _ rfl (b := b2)
  by_cases hlen : ax1.length = bx1.length
  case neg =>
    have hne : ((ax1.length : Int) != (bx1.length : Int)) = true := by simp only [bne_iff_ne]; omega
    go_wp2
    go_ret
    exact ⟨ret_bool (by rw [eq_comm, decide_eq_false_iff_not]; intro e; exact hlen (congrArg (fun p => p.2.length) e)), hS.below⟩
  have hne : ((ax1.length : Int) != (bx1.length : Int)) = false := by simp [hlen]
  have HL := Lib.hid hlen
  clear hlen
  go_wp2
  clear m1 m2
  go_loopw [5] (fun i wr => ∃ k : Nat, k ≤ ax1.length ∧ i = .int .i64 k ∧ ax1.take k = bx1.take k ∧ Sat w wr [Box b2 30 [bv0, .slice ao2 bx1.length cap2], Box b1 30 [av0, .slice ao ax1.length cap]]) (fun i _ => ax1.length - (intOf i).toNat)
  case atStart => exact ⟨0, Nat.zero_le _, rfl, rfl, hS⟩
  case round =>
    clear hS
    obtain ⟨k, hk, rfl, ht, hS⟩ := hrel
    have Ht := Lib.hid ht
    clear ht
    by_cases hlt : k < ax1.length
    · have hlt2 : k < bx1.length := by have := HL.out; omega
      obtain ⟨b, off, cap', c0, c1, e, hcap, hr, hc0, hc1⟩ := slice_at2 ah1 rfl (hA.trans hS.below) k hlt
      obtain ⟨b', off2, cap2', d0, d1, e', hcap2, hs, hd0, hd1⟩ := slice_at2 bh1 rfl (hB.trans hS.below) k hlt2
      simp only [Value.slice.injEq] at e e'
      obtain ⟨rfl, _, rfl⟩ := e
      obtain ⟨rfl, _, rfl⟩ := e'
      obtain ⟨q0, q1⟩ := cellsFactorNode hr
      obtain ⟨p0, p1⟩ := cellsFactorNode hs
      clear ah1 bh1
      have hSd := hS.ext (Below.drew (Ext.refl _))
      have hA1 := (hA.trans hS.below).drew
      have hB1 := (hB.trans hS.below).drew
      have m1 := hS.boxCell 1 _ rfl (b := b1)
      have m2 := hS.boxCell 1 _ rfl (b := b2)
      generalize hf0 : cmpR ax1[k].1 bx1[k].1 = r0
      generalize hf1 : cmpR ax1[k].2 bx1[k].2 = r1
      have F0 := Lib.hid hf0
      have F1 := Lib.hid hf1
      clear hf0 hf1
      have hE : ∀ n, Ext wA (wr.drewN n) := fun n => (hA.trans hS.below).trans (ext_drewN _ _)
      have hE' : ∀ n, Ext wB (wr.drewN n) := fun n => (hB.trans hS.below).trans (ext_drewN _ _)
      by_cases hr0 : r0 = 0
      case neg =>
        have hb0 : (r0 != 0) = true := by simpa using hr0
        go_wp2
        go_quiet (go_must (go_at_call 46; first | exact quiet_drw2 (F0.out ▸ CompareRows_specD q0 p0 (hE _) (hE' _)) | exact quiet_drw (F0.out ▸ CompareRows_specD q0 p0 (hE _) (hE' _))))
        go_wp2
        go_ret
        exact ⟨ret_bool (by rw [eq_comm, decide_eq_false_iff_not]; intro e; simp only [Prod.mk.injEq] at e; obtain ⟨_, rfl⟩ := e; exact hr0 (F0.out ▸ cmpR_zero.2 rfl)), (hS.ext (ext_drewN _ _)).below⟩
      have hb0 : (r0 != 0) = false := by simpa using hr0
      have e1 := cmpR_zero.1 (F0.out.trans hr0)
      have E1 := Lib.hid e1
      clear e1
      by_cases hr1 : r1 = 0
      case neg =>
        have hb1 : (r1 != 0) = true := by simpa using hr1
        go_wp2
        go_quiet (go_must (first | (go_at_call_of 46 (c0); first | exact quiet_drw2 (F0.out ▸ CompareRows_specD q0 p0 (hE _) (hE' _)) | exact quiet_drw (F0.out ▸ CompareRows_specD q0 p0 (hE _) (hE' _))) | (go_at_call_of 46 (c1); first | exact quiet_drw2 (F1.out ▸ CompareRows_specD q1 p1 (hE _) (hE' _)) | exact quiet_drw (F1.out ▸ CompareRows_specD q1 p1 (hE _) (hE' _)))))
        go_wp2
        go_ret
        exact ⟨ret_bool (by rw [eq_comm, decide_eq_false_iff_not]; intro e; simp only [Prod.mk.injEq] at e; obtain ⟨_, rfl⟩ := e; exact hr1 (F1.out ▸ cmpR_zero.2 rfl)), (hS.ext (ext_drewN _ _)).below⟩
      have hb1 : (r1 != 0) = false := by simpa using hr1
      have e2 := cmpR_zero.1 (F1.out.trans hr1)
      have E2 := Lib.hid e2
      clear e2
      go_wp2
      go_quiet (go_must (first | (go_at_call_of 46 (c0); first | exact quiet_drw2 (F0.out ▸ CompareRows_specD q0 p0 (hE _) (hE' _)) | exact quiet_drw (F0.out ▸ CompareRows_specD q0 p0 (hE _) (hE' _))) | (go_at_call_of 46 (c1); first | exact quiet_drw2 (F1.out ▸ CompareRows_specD q1 p1 (hE _) (hE' _)) | exact quiet_drw (F1.out ▸ CompareRows_specD q1 p1 (hE _) (hE' _)))))
      go_wp2
      go_roundw
      case rel => exact ⟨k + 1, by omega, by go_num, take_eq_succ hlt hlt2 Ht.out (Prod.ext E1.out E2.out), hS.ext (ext_drewN _ _)⟩
      case measure => simp [intOf]; omega
    · have m1 := hS.boxCell 1 _ rfl (b := b1)
      go_wp2
      go_ret
      obtain rfl : k = ax1.length := by omega
      exact ⟨ret_bool (by rw [eq_comm, decide_eq_true_iff]; exact Prod.ext E0.out (eq_of_take HL.out Ht.out)), hS.below⟩
end Go.Proofs.Ytobjjdfgnaanjaa
