/- Equality of relations and of deltas: the program's and the reference's. -/
import Derived.Test.YtobjjdfgnaanjaaFEq
namespace Go.Proofs.Ytobjjdfgnaanjaa
open Go.RowKit

theorem sameRows_impl {w wA wB : World} {v u : Value} {xs ys : List (List Int)} (hv : rIntSS.rd wA [v] xs) (hu : rIntSS.rd wB [u] ys) (hA : Ext wA w) (hB : Ext wB w) :
    Calls Try.prog 82 #[v, u] w fun e w' => e = .returned (.bool (decide (xs = ys))) ∧ Ext w w' := by
  have hl := rd_len_le hv
  have hl2 := rd_len_le hu
  obtain ⟨ao, cap, rfl⟩ := sliceR_shape hv
  obtain ⟨ao2, cap2, rfl⟩ := sliceR_shape hu
  by_cases hlen : xs.length = ys.length
  case neg =>
    have hne : ((xs.length : Int) != (ys.length : Int)) = true := by simp only [bne_iff_ne]; omega
    go_enter Try.func82, Try.ntmps82
    go_wp2
    go_ret
    exact ⟨ret_bool (by rw [eq_comm, decide_eq_false_iff_not]; intro e; subst e; exact hlen rfl), Ext.refl _⟩
  have hne : ((xs.length : Int) != (ys.length : Int)) = false := by simp [hlen]
  have HL := Lib.hid hlen
  clear hlen
  go_enter Try.func82, Try.ntmps82
  go_wp2
  go_loopw [13] (fun i wr => ∃ k : Nat, k ≤ xs.length ∧ i = .int .i64 k ∧ xs.take k = ys.take k ∧ Ext w wr) (fun i _ => xs.length - (intOf i).toNat)
  case atStart => exact ⟨0, Nat.zero_le _, rfl, rfl, Ext.refl _⟩
  case round =>
    obtain ⟨k, hk, rfl, ht, hw⟩ := hrel
    have Ht := Lib.hid ht
    clear ht
    by_cases hlt : k < xs.length
    · have hlt2 : k < ys.length := by have := HL.out; omega
      obtain ⟨b, off, cap', r, e, hcap, q0, c1⟩ := slice_at hv rfl (hA.trans hw) k hlt
      obtain ⟨b2, off2, cap2', s, e2, hcap2, p0, c2⟩ := slice_at hu rfl (hB.trans hw) k hlt2
      clear hv hu
      simp only [Value.slice.injEq] at e e2
      obtain ⟨rfl, _, rfl⟩ := e
      obtain ⟨rfl, _, rfl⟩ := e2
      have hE : ∀ n, Ext wA (wr.drewN n) := fun n => (hA.trans hw).trans (ext_drewN _ _)
      have hE' : ∀ n, Ext wB (wr.drewN n) := fun n => (hB.trans hw).trans (ext_drewN _ _)
      generalize hd : decide (xs[k] = ys[k]) = d
      have H1 := Lib.hid hd
      clear hd
      cases d
      · go_wp2
        go_quiet (go_must (go_at_call 49; first | exact quiet_drw2 (H1.out ▸ sameInts_implD q0 p0 (hE _) (hE' _)) | exact quiet_drw (H1.out ▸ sameInts_implD q0 p0 (hE _) (hE' _))))
        go_wp2
        go_ret
        exact ⟨ret_bool (by rw [eq_comm, decide_eq_false_iff_not]; intro e; subst e; exact of_decide_eq_false H1.out rfl), hw.trans (ext_drewN _ _)⟩
      · go_wp2
        go_quiet (go_must (go_at_call 49; first | exact quiet_drw2 (H1.out ▸ sameInts_implD q0 p0 (hE _) (hE' _)) | exact quiet_drw (H1.out ▸ sameInts_implD q0 p0 (hE _) (hE' _))))
        go_wp2
        go_roundw
        case rel => exact ⟨k + 1, by omega, by go_num, take_eq_succ hlt hlt2 Ht.out (of_decide_eq_true H1.out), hw.trans (ext_drewN _ _)⟩
        case measure => simp [intOf]; omega
    · go_wp2
      go_ret
      obtain rfl : k = xs.length := by omega
      exact ⟨ret_bool (by rw [eq_comm, decide_eq_true_iff]; exact eq_of_take HL.out Ht.out), hw⟩

theorem EqualRelations_impl {w wA wB : World} {an0 bn0 : Int} {av1 bv1 : Value} {ax1 bx1 : List (List Int)} (ah1 : (rIntSS).rd wA [av1] ax1) (bh1 : (rIntSS).rd wB [bv1] bx1) (hA : Ext wA w) (hB : Ext wB w) :
    Calls Try.prog 54 #[.agg #[.int .i64 an0, av1], .agg #[.int .i64 bn0, bv1]] w fun e w' => e = .returned (.bool (decide ((an0, ax1) = (bn0, bx1)))) ∧ Ext w w' := by
  have hS := Sat.start w
  cases hd : (an0 == bn0)
  all_goals
    have H0 := Lib.hid hd
    go_enter Try.func54, Try.ntmps54
    go_wp2_with (first | (refine wpl_box (cs := [.int .i64 an0, av1]) rfl rfl rfl hS ?_; clear hS; intro w1 b1 hS hx1; have m1 := hS.boxCell 1 _ rfl (b := b1)) | (refine wpl_box (cs := [.int .i64 bn0, bv1]) rfl rfl rfl hS ?_; clear hS; intro w2 b2 hS hx2; have m2 := hS.boxCell 1 _ rfl (b := b2); have m1' := cell_up hx2 m1) | (refine wpl_load1 rfl rfl hS rfl (by rfl) ?_) | (refine wpl_loadn rfl rfl hS rfl (by rfl) (by rfl) ?_) | (go_at_call 82; refine Calls.mono (R := fun e w' => e = .returned (.bool (decide (ax1 = bx1))) ∧ Ext _ w') (sameRows_impl ah1 bh1 (hA.trans hS.below) (hB.trans hS.below)) ?_; rintro e w3 ⟨rfl, hx3⟩))
    go_ret
  · exact ⟨ret_bool (by have := H0.out; rw [eq_comm, decide_eq_false_iff_not]; intro e; simp only [Prod.mk.injEq] at e; simp_all), hS.below⟩
  · exact ⟨ret_bool (by have := H0.out; rw [decide_eq_decide]; simp only [Prod.mk.injEq]; simp_all), (hS.ext hx3).below⟩
set_option maxHeartbeats 2000000 in
theorem EqualRelations_spec {w wA wB : World} {an0 bn0 : Int} {av1 bv1 : Value} {ax1 bx1 : List (List Int)} (ah1 : (rIntSS).rd wA [av1] ax1) (bh1 : (rIntSS).rd wB [bv1] bx1) (hA : Ext wA w) (hB : Ext wB w) :
    Calls Try.prog 53 #[.agg #[.int .i64 an0, av1], .agg #[.int .i64 bn0, bv1]] w fun e w' => e = .returned (.bool (decide ((an0, ax1) = (bn0, bx1)))) ∧ Ext w w' := by
  have hS := Sat.start w
  have hl := rd_len_le ah1
  have hl2 := rd_len_le bh1
  obtain ⟨ao, cap, rfl⟩ := sliceR_shape ah1
  obtain ⟨ao2, cap2, rfl⟩ := sliceR_shape bh1
  by_cases hn : an0 = bn0
  case neg =>
    have hb : (an0 != bn0) = true := by simpa using hn
    go_enter Try.func53, Try.ntmps53
    go_wp2_with (first | (refine wpl_box (cs := [.int .i64 an0, .slice ao ax1.length cap]) rfl rfl rfl hS ?_; clear hS; intro w1 b1 hS hx1) | (refine wpl_box (cs := [.int .i64 bn0, .slice ao2 bx1.length cap2]) rfl rfl rfl hS ?_; clear hS; intro w1 b2 hS hx1) | (refine wpl_load1 rfl rfl hS rfl (by rfl) ?_) | (refine wpl_loadn rfl rfl hS rfl (by rfl) (by rfl) ?_))
    go_ret
    exact ⟨ret_bool (by rw [eq_comm, decide_eq_false_iff_not]; intro e; exact hn (congrArg Prod.fst e)), hS.below⟩
  have hb : (an0 != bn0) = false := by simpa using hn
  have E0 := Lib.hid hn
  clear hn
  by_cases hlen : ax1.length = bx1.length
  case neg =>
    have hne : ((ax1.length : Int) != (bx1.length : Int)) = true := by simp only [bne_iff_ne]; omega
    go_enter Try.func53, Try.ntmps53
    go_wp2_with (first | (refine wpl_box (cs := [.int .i64 an0, .slice ao ax1.length cap]) rfl rfl rfl hS ?_; clear hS; intro w1 b1 hS hx1; have m1 := hS.boxCell 1 _ rfl (b := b1)) | (refine wpl_box (cs := [.int .i64 bn0, .slice ao2 bx1.length cap2]) rfl rfl rfl hS ?_; clear hS; intro w2 b2 hS hx2; have m2 := hS.boxCell 1 _ rfl (b := b2); have m1' := cell_up hx2 m1) | (refine wpl_load1 rfl rfl hS rfl (by rfl) ?_) | (refine wpl_loadn rfl rfl hS rfl (by rfl) (by rfl) ?_))
    go_ret
    exact ⟨ret_bool (by rw [eq_comm, decide_eq_false_iff_not]; intro e; exact hlen (congrArg (fun p => p.2.length) e)), hS.below⟩
  have hne : ((ax1.length : Int) != (bx1.length : Int)) = false := by simp [hlen]
  have HL := Lib.hid hlen
  clear hlen
  go_enter Try.func53, Try.ntmps53
  go_wp2_with (first | (refine wpl_box (cs := [.int .i64 an0, .slice ao ax1.length cap]) rfl rfl rfl hS ?_; clear hS; intro w1 b1 hS hx1; have m1 := hS.boxCell 1 _ rfl (b := b1)) | (refine wpl_box (cs := [.int .i64 bn0, .slice ao2 bx1.length cap2]) rfl rfl rfl hS ?_; clear hS; intro w2 b2 hS hx2; have m2 := hS.boxCell 1 _ rfl (b := b2); have m1' := cell_up hx2 m1) | (refine wpl_load1 rfl rfl hS rfl (by rfl) ?_) | (refine wpl_loadn rfl rfl hS rfl (by rfl) (by rfl) ?_))
  clear m1 m1' m2
  go_loopw [5] (fun i wr => ∃ k : Nat, k ≤ ax1.length ∧ i = .int .i64 k ∧ ax1.take k = bx1.take k ∧ Sat w wr [Box b2 40 [.int .i64 bn0, .slice ao2 bx1.length cap2], Box b1 40 [.int .i64 an0, .slice ao ax1.length cap]]) (fun i _ => ax1.length - (intOf i).toNat)
  case atStart => exact ⟨0, Nat.zero_le _, rfl, rfl, hS⟩
  case round =>
    clear hS
    obtain ⟨k, hk, rfl, ht, hS⟩ := hrel
    have Ht := Lib.hid ht
    clear ht
    have m1 := hS.boxCell 1 _ rfl (b := b1)
    have m2 := hS.boxCell 1 _ rfl (b := b2)
    by_cases hlt : k < ax1.length
    · have hlt2 : k < bx1.length := by have := HL.out; omega
      obtain ⟨b, off, cap', r, e, hcap, q0, c1⟩ := slice_at ah1 rfl (hA.trans hS.below) k hlt
      obtain ⟨b', off2, cap2', s, e2, hcap2, p0, c2⟩ := slice_at bh1 rfl (hB.trans hS.below) k hlt2
      clear ah1 bh1
      simp only [Value.slice.injEq] at e e2
      obtain ⟨rfl, _, rfl⟩ := e
      obtain ⟨rfl, _, rfl⟩ := e2
      have hE : ∀ n, Ext wA (wr.drewN n) := fun n => (hA.trans hS.below).trans (ext_drewN _ _)
      have hE' : ∀ n, Ext wB (wr.drewN n) := fun n => (hB.trans hS.below).trans (ext_drewN _ _)
      generalize hf0 : cmpR ax1[k] bx1[k] = r0
      have F0 := Lib.hid hf0
      clear hf0
      by_cases hr0 : r0 = 0
      case neg =>
        have hb0 : (r0 != 0) = true := by simpa using hr0
        go_wp2
        go_quiet (go_must (go_at_call 46; first | exact quiet_drw2 (F0.out ▸ CompareRows_specD q0 p0 (hE _) (hE' _)) | exact quiet_drw (F0.out ▸ CompareRows_specD q0 p0 (hE _) (hE' _))))
        go_wp2
        go_ret
        exact ⟨ret_bool (by rw [eq_comm, decide_eq_false_iff_not]; intro e; simp only [Prod.mk.injEq] at e; obtain ⟨_, rfl⟩ := e; exact hr0 (F0.out ▸ cmpR_zero.2 rfl)), (hS.ext (ext_drewN _ _)).below⟩
      have hb0 : (r0 != 0) = false := by simpa using hr0
      have e1 := cmpR_zero.1 (F0.out.trans hr0)
      have E1 := Lib.hid e1
      clear e1
      go_wp2
      go_quiet (go_must (go_at_call 46; first | exact quiet_drw2 (F0.out ▸ CompareRows_specD q0 p0 (hE _) (hE' _)) | exact quiet_drw (F0.out ▸ CompareRows_specD q0 p0 (hE _) (hE' _))))
      go_wp2
      go_roundw
      case rel => exact ⟨k + 1, by omega, by go_num, take_eq_succ hlt hlt2 Ht.out E1.out, hS.ext (ext_drewN _ _)⟩
      case measure => simp [intOf]; omega
    · go_wp2
      go_ret
      obtain rfl : k = ax1.length := by omega
      exact ⟨ret_bool (by rw [eq_comm, decide_eq_true_iff]; exact Prod.ext E0.out (eq_of_take HL.out Ht.out)), hS.below⟩
set_option maxHeartbeats 2000000 in
theorem EqualDeltas_impl {w wA wB : World} {as0 bs0 : ByteArray} {an1 an3 bn1 bn3 : Int} {av2 av4 bv2 bv4 : Value} {ax2 ax4 bx2 bx4 : List (List Int)} (ah2 : (rIntSS).rd wA [av2] ax2) (ah4 : (rIntSS).rd wA [av4] ax4) (bh2 : (rIntSS).rd wB [bv2] bx2) (bh4 : (rIntSS).rd wB [bv4] bx4) (hA : Ext wA w) (hB : Ext wB w) :
    Calls Try.prog 17 #[.agg #[.string as0, .int .i64 an1, av2, .int .i64 an3, av4], .agg #[.string bs0, .int .i64 bn1, bv2, .int .i64 bn3, bv4]] w fun e w' => e = .returned (.bool (decide ((as0, (an1, ax2), (an3, ax4)) = (bs0, (bn1, bx2), (bn3, bx4))))) ∧ Ext w w' := by
  have hS := Sat.start w
  cases hs : (as0.toList == bs0.toList)
  all_goals
    have Hs := Lib.hid hs
    generalize hd1 : decide ((an1, ax2) = (bn1, bx2)) = d1
    have H1 := Lib.hid hd1
    clear hd1
    cases d1
  all_goals
    go_enter Try.func17, Try.ntmps17
    go_wp2_with (first | (refine wpl_box (cs := [.string as0, .int .i64 an1, av2, .int .i64 an3, av4]) rfl rfl rfl hS ?_; clear hS; intro w1 b1 hS hx1) | (refine wpl_box (cs := [.string bs0, .int .i64 bn1, bv2, .int .i64 bn3, bv4]) rfl rfl rfl hS ?_; clear hS; intro w2 b2 hS hx2; have m1 := hS.boxCell 1 _ rfl (b := b1); have m2 := hS.boxCell 2 _ rfl (b := b1); have m3 := hS.boxCell 3 _ rfl (b := b1); have m4 := hS.boxCell 4 _ rfl (b := b1); have l1 := hS.boxCell 1 _ rfl (b := b2); have l2 := hS.boxCell 2 _ rfl (b := b2); have l3 := hS.boxCell 3 _ rfl (b := b2); have l4 := hS.boxCell 4 _ rfl (b := b2)) | (refine wpl_load1 rfl rfl hS rfl (by rfl) ?_) | (refine wpl_loadn rfl rfl hS rfl (by rfl) (by rfl) ?_) | (go_at_call_of 54 (av2); refine Calls.mono (R := fun e w' => e = .returned (.bool (decide ((an1, ax2) = (bn1, bx2)))) ∧ Ext _ w') (EqualRelations_impl ah2 bh2 (hA.trans hS.below) (hB.trans hS.below)) ?_; rintro e w3 ⟨rfl, hx3⟩; rw [H1.out]; replace hS := hS.ext hx3; have m3' := hS.boxCell 3 _ rfl (b := b1); have m4' := hS.boxCell 4 _ rfl (b := b1); have l3' := hS.boxCell 3 _ rfl (b := b2); have l4' := hS.boxCell 4 _ rfl (b := b2)) | (go_at_call_of 54 (av4); refine Calls.mono (R := fun e w' => e = .returned (.bool (decide ((an3, ax4) = (bn3, bx4)))) ∧ Ext _ w') (EqualRelations_impl ah4 bh4 (hA.trans hS.below) (hB.trans hS.below)) ?_; rintro e w4 ⟨rfl, hx4⟩; replace hS := hS.ext hx4))
    go_ret
  · exact ⟨ret_bool (by rw [eq_comm, decide_eq_false_iff_not]; intro e; rw [Prod.mk.injEq] at e; have := Hs.out; simp [e.1] at this), hS.below⟩
  · exact ⟨ret_bool (by rw [eq_comm, decide_eq_false_iff_not]; intro e; rw [Prod.mk.injEq] at e; have := Hs.out; simp [e.1] at this), hS.below⟩
  · exact ⟨ret_bool (by rw [eq_comm, decide_eq_false_iff_not]; intro e; exact of_decide_eq_false H1.out (congrArg Prod.fst (congrArg Prod.snd e))), hS.below⟩
  · exact ⟨ret_bool (by have e0 := str_eq (by simpa using Hs.out : as0.toList = bs0.toList); have e1 := of_decide_eq_true H1.out; clear Hs H1 hs; subst e0; rw [Prod.mk.injEq] at e1; obtain ⟨rfl, rfl⟩ := e1; rw [Bool.eq_iff_iff]; simp), hS.below⟩
set_option maxHeartbeats 2000000 in
theorem EqualDeltas_spec {w wA wB : World} {as0 bs0 : ByteArray} {an1 an3 bn1 bn3 : Int} {av2 av4 bv2 bv4 : Value} {ax2 ax4 bx2 bx4 : List (List Int)} (ah2 : (rIntSS).rd wA [av2] ax2) (ah4 : (rIntSS).rd wA [av4] ax4) (bh2 : (rIntSS).rd wB [bv2] bx2) (bh4 : (rIntSS).rd wB [bv4] bx4) (hA : Ext wA w) (hB : Ext wB w) :
    Calls Try.prog 15 #[.agg #[.string as0, .int .i64 an1, av2, .int .i64 an3, av4], .agg #[.string bs0, .int .i64 bn1, bv2, .int .i64 bn3, bv4]] w fun e w' => e = .returned (.bool (decide ((as0, (an1, ax2), (an3, ax4)) = (bs0, (bn1, bx2), (bn3, bx4))))) ∧ Ext w w' := by
  have hS := Sat.start w
  cases hs : (as0.toList == bs0.toList)
  all_goals
    have Hs := Lib.hid hs
    generalize hd1 : decide ((an1, ax2) = (bn1, bx2)) = d1
    have H1 := Lib.hid hd1
    clear hd1
    cases d1
  all_goals
    go_enter Try.func15, Try.ntmps15
    go_wp2_with (first | (refine wpl_box (cs := [.string as0, .int .i64 an1, av2, .int .i64 an3, av4]) rfl rfl rfl hS ?_; clear hS; intro w1 b1 hS hx1) | (refine wpl_box (cs := [.string bs0, .int .i64 bn1, bv2, .int .i64 bn3, bv4]) rfl rfl rfl hS ?_; clear hS; intro w2 b2 hS hx2; have m1 := hS.boxCell 1 _ rfl (b := b1); have m2 := hS.boxCell 2 _ rfl (b := b1); have m3 := hS.boxCell 3 _ rfl (b := b1); have m4 := hS.boxCell 4 _ rfl (b := b1); have l1 := hS.boxCell 1 _ rfl (b := b2); have l2 := hS.boxCell 2 _ rfl (b := b2); have l3 := hS.boxCell 3 _ rfl (b := b2); have l4 := hS.boxCell 4 _ rfl (b := b2)) | (refine wpl_load1 rfl rfl hS rfl (by rfl) ?_) | (refine wpl_loadn rfl rfl hS rfl (by rfl) (by rfl) ?_) | (go_at_call_of 53 (av2); refine Calls.mono (R := fun e w' => e = .returned (.bool (decide ((an1, ax2) = (bn1, bx2)))) ∧ Ext _ w') (EqualRelations_spec ah2 bh2 (hA.trans hS.below) (hB.trans hS.below)) ?_; rintro e w3 ⟨rfl, hx3⟩; rw [H1.out]; replace hS := hS.ext hx3; have m3' := hS.boxCell 3 _ rfl (b := b1); have m4' := hS.boxCell 4 _ rfl (b := b1); have l3' := hS.boxCell 3 _ rfl (b := b2); have l4' := hS.boxCell 4 _ rfl (b := b2)) | (go_at_call_of 53 (av4); refine Calls.mono (R := fun e w' => e = .returned (.bool (decide ((an3, ax4) = (bn3, bx4)))) ∧ Ext _ w') (EqualRelations_spec ah4 bh4 (hA.trans hS.below) (hB.trans hS.below)) ?_; rintro e w4 ⟨rfl, hx4⟩; replace hS := hS.ext hx4))
    go_ret
  · exact ⟨ret_bool (by rw [eq_comm, decide_eq_false_iff_not]; intro e; rw [Prod.mk.injEq] at e; have := Hs.out; simp [e.1] at this), hS.below⟩
  · exact ⟨ret_bool (by rw [eq_comm, decide_eq_false_iff_not]; intro e; rw [Prod.mk.injEq] at e; have := Hs.out; simp [e.1] at this), hS.below⟩
  · exact ⟨ret_bool (by rw [eq_comm, decide_eq_false_iff_not]; intro e; exact of_decide_eq_false H1.out (congrArg Prod.fst (congrArg Prod.snd e))), hS.below⟩
  · exact ⟨ret_bool (by have e0 := str_eq (by simpa using Hs.out : as0.toList = bs0.toList); have e1 := of_decide_eq_true H1.out; clear Hs H1 hs; subst e0; rw [Prod.mk.injEq] at e1; obtain ⟨rfl, rfl⟩ := e1; rw [Bool.eq_iff_iff]; simp), hS.below⟩
end Go.Proofs.Ytobjjdfgnaanjaa
