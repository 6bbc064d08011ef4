/- The walks through functions of the program: each hands back what it comes to. No condition but that it comes to something. -/
import Derived.Test.YtobjjdfgnaanjaaW0
import Derived.Test.YtobjjdfgnaanjaaW1D
namespace Go.Proofs.Ytobjjdfgnaanjaa
open Go.RowKit
set_option maxRecDepth 100000
theorem impl_EqualFactorizations_ok {w0 : World} {u0 : Value} {a0 : List Int} {u1 : Value} {a1 : List (List Int × List Int)} {u2 : Value} {a2 : List Int} {u3 : Value} {a3 : List (List Int × List Int)} (ha0 : (sliceR intR 3).rd w0 [u0] a0) (ha1 : (sliceR (pairR (sliceR intR 3) (sliceR intR 3)) 67).rd w0 [u1] a1) (ha2 : (sliceR intR 3).rd w0 [u2] a2) (ha3 : (sliceR (pairR (sliceR intR 3) (sliceR intR 3)) 67).rd w0 [u3] a3) {N : Nat} {r : Bool} (hF : impl_EqualFactorizations N a0 a1 a2 a3 = some r) :
    Calls Try.prog 12 #[.agg #[u0, u1], .agg #[u2, u3]] w0 fun e w' => e = .returned (.bool r) ∧ Ext w0 w' := by
  unfold impl_EqualFactorizations at hF
  refine calls_E Try.func12 rfl rfl (of_decide_eq_true rfl) ?_
  have hS := Sat.start w0
  refine cw_seq ?_
  refine cw_reg ?_
  refine el_box [u0, u1] rfl hS (by decide) ?_
  intro w101 b102 hS hx103
  refine el_box [u2, u3] rfl hS (by decide) ?_
  intro w105 b106 hS hx107
  refine el_pv (pv_assign rfl) (by decide) ?_
  refine el_nil ?_
  refine thn_n ?_
  refine cw_seq ?_
  refine cw_seq ?_
  refine cw_reg ?_
  refine el_pv (pv_fieldAddr rfl) (by decide) ?_
  refine el_pv (pv_loadc rfl ((hS.boxAt 1 rfl) 0 _ rfl)) (by decide) ?_
  refine el_pv (pv_fieldAddr rfl) (by decide) ?_
  refine el_pv (pv_loadc rfl ((hS.boxAt 0 rfl) 0 _ rfl)) (by decide) ?_
  obtain ⟨r109, hr109, hF⟩ := ob hF
  refine el_call goes49 (impl_sameInts_ok (hS.up ha0) (hS.up ha2) hr109) (congrArg List.toArray (mapc rfl (mapc rfl rfl))) (by decide) ?_
  rintro _ w110 ⟨rfl, hx111⟩
  refine ⟨_, rfl, ?_⟩
  have hS := hS.ext hx111
  refine el_pv (pv_not rfl) (by decide) ?_
  refine el_pv (pv_move rfl) (by decide) ?_
  rcases oif hF with ⟨hb112, hF⟩ | ⟨hb112, hF⟩
  · refine el_on rfl (bnot_t hb112) ?_
    refine el_pv (pv_fieldAddr rfl) (by decide) ?_
    refine el_on rfl (bnot_t hb112) ?_
    refine el_pv (pv_loadc rfl ((hS.boxAt 1 rfl) 1 _ rfl)) (by decide) ?_
    refine el_on rfl (bnot_t hb112) ?_
    refine el_pv (pv_len rfl ha1) (by decide) ?_
    refine el_on rfl (bnot_t hb112) ?_
    refine el_pv (pv_fieldAddr rfl) (by decide) ?_
    refine el_on rfl (bnot_t hb112) ?_
    refine el_pv (pv_loadc rfl ((hS.boxAt 0 rfl) 1 _ rfl)) (by decide) ?_
    refine el_on rfl (bnot_t hb112) ?_
    refine el_pv (pv_len rfl ha3) (by decide) ?_
    refine el_on rfl (bnot_t hb112) ?_
    refine el_pv (pv_neq rfl rfl) (by decide) ?_
    refine el_pv (pv_pick_f rfl (bnot_t hb112) rfl) (by decide) ?_
    refine el_nil ?_
    refine thn_n ?_
    rcases oif hF with ⟨hb113, hF⟩ | ⟨hb113, hF⟩
    · refine cw_cond_t rfl hb113 ?_
      refine cw_seq ?_
      refine cw_reg ?_
      refine el_pv (pv_assign rfl) (by decide) ?_
      refine el_nil ?_
      refine thn_n ?_
      refine cw_ret ?_
      refine thn_r ?_
      obtain rfl := Option.some.inj hF
      refine fin1 rfl rfl ?_
      exact ⟨rfl, hS.below⟩
    · refine cw_cond_f rfl hb113 ?_
      refine cw_skip ?_
      refine thn_n ?_
      refine cw_seq ?_
      refine cw_seq ?_
      refine cw_reg ?_
      refine el_pv (pv_fieldAddr rfl) (by decide) ?_
      refine el_pv (pv_loadc rfl ((hS.boxAt 1 rfl) 1 _ rfl)) (by decide) ?_
      refine el_pv (pv_len rfl ha1) (by decide) ?_
      refine el_pv (pv_move rfl) (by decide) ?_
      refine el_nil ?_
      refine thn_n ?_
      refine cw_block ?_
      obtain ⟨s114, hL, hK115⟩ := ob hF
      refine cw_loopS (fun k e w => ∃ (x116 : Int), e 2 = .pointer (some ⟨b102, 0, none⟩) ∧ e 3 = .pointer (some ⟨b106, 0, none⟩) ∧ e 23 = .int .i64 (a1.length : Int) ∧ e 24 = .int .i64 x116 ∧ Sat w0 w [Box b106 30 [u2, u3], Box b102 30 [u0, u1]] ∧ impl_EqualFactorizations_L1 N k a0 a1 a2 a3 (a1.length : Int) x116 = some s114) N ?_ ?_ ?_
      · exact ⟨0, rfl, rfl, rfl, rfl, hS, hL⟩
      · rintro e w ⟨_, _, _, _, _, _, hz⟩; exact nomatch (show none = some _ from hz)
      · rintro k e122 w121 ⟨x116, he117, he118, he119, he120, hS, hF⟩
        refine cw_seq ?_
        refine cw_reg ?_
        refine el_pv (pv_lss he120 he119) (by decide) ?_
        refine el_nil ?_
        refine thn_n ?_
        refine cw_seq ?_
        rcases oif hF with ⟨hb123, hF⟩ | ⟨hb123, hF⟩
        · refine cw_cond_t rfl hb123 ?_
          refine cw_skip ?_
          refine thn_n ?_
          refine cw_seq ?_
          refine cw_block ?_
          refine cw_seq ?_
          refine cw_reg ?_
          refine el_pv (pv_move he120) (by decide) ?_
          refine el_pv (pv_assign rfl) (by decide) ?_
          refine el_nil ?_
          refine thn_n ?_
          refine cw_seq ?_
          refine cw_regq (by kernel_rfl) (by kernel_rfl) ?_
          refine ql_pv (pv_fieldAddr he117) (by decide) ?_
          refine ql_pv (pv_loadc rfl ((hS.boxAt 1 rfl) 1 _ rfl)) (by decide) ?_
          refine ql_pv (pv_move rfl) (by decide) ?_
          obtain ⟨x124, hx124, hF⟩ := ob hF
          refine ql_index (wA := w0) rfl ha1 rfl (by decide) rfl hx124 (by decide) ?_
          intro b125 of126 c127 hr128 hm129
          obtain ⟨_, _, rfl, hr130, hr131⟩ := hr128
          obtain ⟨v132, rfl⟩ := slice_one hr130
          obtain ⟨v133, rfl⟩ := slice_one hr131
          refine ql_pv (pv_loada (cs := [v132, v133]) rfl rfl (cells_up hS.below hm129)) (by decide) ?_
          refine ql_pv (pv_fieldAddr he118) (by decide) ?_
          refine ql_pv (pv_loadc rfl ((hS.boxAt 0 rfl) 1 _ rfl)) (by decide) ?_
          refine ql_pv (pv_move rfl) (by decide) ?_
          obtain ⟨x134, hx134, hF⟩ := ob hF
          refine ql_index (wA := w0) rfl ha3 rfl (by decide) rfl hx134 (by decide) ?_
          intro b135 of136 c137 hr138 hm139
          obtain ⟨_, _, rfl, hr140, hr141⟩ := hr138
          obtain ⟨v142, rfl⟩ := slice_one hr140
          obtain ⟨v143, rfl⟩ := slice_one hr141
          refine ql_pv (pv_loada (cs := [v142, v143]) rfl rfl (cells_up hS.below hm139)) (by decide) ?_
          obtain ⟨r144, hr144, hF⟩ := ob hF
          refine ql_call (.bool r144) goes50 (fun w' hw' => impl_sameNode_ok (rd_up (hS.up hr130) hw') (rd_up (hS.up hr131) hw') (rd_up (hS.up hr140) hw') (rd_up (hS.up hr141) hw') hr144) (congrArg List.toArray (mapc rfl (mapc rfl rfl))) (by decide) ?_
          refine ql_pv (pv_not rfl) (by decide) ?_
          refine ql_nil ?_
          intro w145 hx146
          have hS := hS.ext hx146
          refine thn_n ?_
          rcases oif hF with ⟨hb147, hF⟩ | ⟨hb147, hF⟩
          · refine cw_cond_f rfl (bnot_t hb147) ?_
            refine cw_skip ?_
            refine inb_n ?_
            refine thn_n ?_
            refine cw_reg ?_
            obtain ⟨x148, hx148, hF⟩ := ob hF
            refine el_pv (pv_add he120 rfl hx148) (by decide) ?_
            refine el_pv (pv_move rfl) (by decide) ?_
            refine el_nil ?_
            refine thn_n ?_
            have hS := hS.top 1 rfl
            have hS := hS.top 1 rfl
            have hS := hS.keep 2
            exact ⟨x148, he117, he118, he119, rfl, hS, hF⟩
          · refine cw_cond_t rfl (bnot_f hb147) ?_
            refine cw_seq ?_
            refine cw_reg ?_
            refine el_pv (pv_assign rfl) (by decide) ?_
            refine el_nil ?_
            refine thn_n ?_
            refine cw_ret ?_
            refine inb_r ?_
            refine thn_r ?_
            refine thn_r ?_
            refine inb_r ?_
            refine thn_r ?_
            obtain rfl := Option.some.inj hF
            have hF := hK115
            obtain rfl := Option.some.inj hF
            refine fin1 rfl rfl ?_
            exact ⟨rfl, hS.below⟩
        · refine cw_cond_f rfl hb123 ?_
          refine cw_exit ?_
          refine thn_x ?_
          refine thn_x ?_
          obtain rfl := Option.some.inj hF
          have hF := hK115
          refine inb_s ?_
          refine thn_n ?_
          refine cw_seq ?_
          refine cw_reg ?_
          refine el_pv (pv_assign rfl) (by decide) ?_
          refine el_nil ?_
          refine thn_n ?_
          refine cw_ret ?_
          obtain rfl := Option.some.inj hF
          refine fin1 rfl rfl ?_
          exact ⟨rfl, hS.below⟩
  · refine el_off rfl (bnot_f hb112) rfl (by decide) ?_
    refine el_off rfl (bnot_f hb112) rfl (by decide) ?_
    refine el_off rfl (bnot_f hb112) rfl (by decide) ?_
    refine el_off rfl (bnot_f hb112) rfl (by decide) ?_
    refine el_off rfl (bnot_f hb112) rfl (by decide) ?_
    refine el_off rfl (bnot_f hb112) rfl (by decide) ?_
    refine el_off rfl (bnot_f hb112) rfl (by decide) ?_
    refine el_pv (pv_pick_t rfl (bnot_f hb112) rfl) (by decide) ?_
    refine el_nil ?_
    refine thn_n ?_
    refine cw_cond_t rfl rfl ?_
    refine cw_seq ?_
    refine cw_reg ?_
    refine el_pv (pv_assign rfl) (by decide) ?_
    refine el_nil ?_
    refine thn_n ?_
    refine cw_ret ?_
    refine thn_r ?_
    obtain rfl := Option.some.inj hF
    refine fin1 rfl rfl ?_
    exact ⟨rfl, hS.below⟩
theorem laws_eqIntS_ok {w0 : World} {u0 : Value} {a0 : List Int} {u1 : Value} {a1 : List Int} (ha0 : (sliceR intR 3).rd w0 [u0] a0) (ha1 : (sliceR intR 3).rd w0 [u1] a1) {N : Nat} {r : Bool} (hF : laws_eqIntS N a0 a1 = some r) :
    Calls Try.prog 51 #[u0, u1] w0 fun e w' => e = .returned (.bool r) ∧ Ext w0 w' := by
  unfold laws_eqIntS at hF
  refine calls_E Try.func51 rfl rfl (of_decide_eq_true rfl) ?_
  have hS := Sat.start w0
  refine cw_seq ?_
  refine cw_reg ?_
  refine el_pv (pv_assign rfl) (by decide) ?_
  refine el_nil ?_
  refine thn_n ?_
  refine cw_seq ?_
  refine cw_seq ?_
  refine cw_reg ?_
  refine el_pv (pv_move rfl) (by decide) ?_
  refine el_pv (pv_len rfl ha0) (by decide) ?_
  refine el_pv (pv_move rfl) (by decide) ?_
  refine el_pv (pv_len rfl ha1) (by decide) ?_
  refine el_pv (pv_neq rfl rfl) (by decide) ?_
  refine el_nil ?_
  refine thn_n ?_
  rcases oif hF with ⟨hb101, hF⟩ | ⟨hb101, hF⟩
  · refine cw_cond_t rfl hb101 ?_
    refine cw_seq ?_
    refine cw_reg ?_
    refine el_pv (pv_assign rfl) (by decide) ?_
    refine el_nil ?_
    refine thn_n ?_
    refine cw_ret ?_
    refine thn_r ?_
    obtain rfl := Option.some.inj hF
    refine fin1 rfl rfl ?_
    exact ⟨rfl, hS.below⟩
  · refine cw_cond_f rfl hb101 ?_
    refine cw_skip ?_
    refine thn_n ?_
    refine cw_seq ?_
    refine cw_seq ?_
    refine cw_reg ?_
    refine el_pv (pv_assign rfl) (by decide) ?_
    refine el_nil ?_
    refine thn_n ?_
    refine cw_block ?_
    obtain ⟨s102, hL, hK103⟩ := ob hF
    refine cw_loopS (fun k e w => ∃ (x104 : Int), e 0 = u0 ∧ e 1 = u1 ∧ e 5 = .int .i64 x104 ∧ Sat w0 w [] ∧ laws_eqIntS_L1 N k a0 a1 x104 = some s102) N ?_ ?_ ?_
    · exact ⟨0, rfl, rfl, rfl, hS, hL⟩
    · rintro e w ⟨_, _, _, _, _, hz⟩; exact nomatch (show none = some _ from hz)
    · rintro k e109 w108 ⟨x104, he105, he106, he107, hS, hF⟩
      refine cw_seq ?_
      refine cw_seq ?_
      refine cw_reg ?_
      refine el_pv (pv_move he107) (by decide) ?_
      refine el_pv (pv_move he105) (by decide) ?_
      refine el_pv (pv_len rfl ha0) (by decide) ?_
      refine el_pv (pv_lss rfl rfl) (by decide) ?_
      refine el_nil ?_
      refine thn_n ?_
      rcases oif hF with ⟨hb110, hF⟩ | ⟨hb110, hF⟩
      · refine cw_cond_t rfl hb110 ?_
        refine cw_skip ?_
        refine thn_n ?_
        refine cw_seq ?_
        refine cw_block ?_
        refine cw_seq ?_
        refine cw_regq (by kernel_rfl) (by kernel_rfl) ?_
        refine ql_pv (pv_move he105) (by decide) ?_
        refine ql_pv (pv_move he107) (by decide) ?_
        obtain ⟨x111, hx111, hF⟩ := ob hF
        refine ql_index (wA := w0) rfl ha0 rfl (by decide) rfl hx111 (by decide) ?_
        intro b112 of113 c114 hr115 hm116
        obtain rfl := hr115
        refine ql_pv (pv_loadc rfl ((cells_up hS.below hm116) 0 _ rfl)) (by decide) ?_
        refine ql_pv (pv_move he106) (by decide) ?_
        refine ql_pv (pv_move he107) (by decide) ?_
        obtain ⟨x117, hx117, hF⟩ := ob hF
        refine ql_index (wA := w0) rfl ha1 rfl (by decide) rfl hx117 (by decide) ?_
        intro b118 of119 c120 hr121 hm122
        obtain rfl := hr121
        refine ql_pv (pv_loadc rfl ((cells_up hS.below hm122) 0 _ rfl)) (by decide) ?_
        refine ql_pv (pv_neq rfl rfl) (by decide) ?_
        refine ql_nil ?_
        intro w123 hx124
        have hS := hS.ext hx124
        refine thn_n ?_
        rcases oif hF with ⟨hb125, hF⟩ | ⟨hb125, hF⟩
        · refine cw_cond_t rfl hb125 ?_
          refine cw_seq ?_
          refine cw_reg ?_
          refine el_pv (pv_assign rfl) (by decide) ?_
          refine el_nil ?_
          refine thn_n ?_
          refine cw_ret ?_
          refine inb_r ?_
          refine thn_r ?_
          refine thn_r ?_
          refine inb_r ?_
          refine thn_r ?_
          obtain rfl := Option.some.inj hF
          have hF := hK103
          obtain rfl := Option.some.inj hF
          refine fin1 rfl rfl ?_
          exact ⟨rfl, hS.below⟩
        · refine cw_cond_f rfl hb125 ?_
          refine cw_skip ?_
          refine inb_n ?_
          refine thn_n ?_
          refine cw_reg ?_
          refine el_pv (pv_move he107) (by decide) ?_
          obtain ⟨x126, hx126, hF⟩ := ob hF
          refine el_pv (pv_add rfl rfl hx126) (by decide) ?_
          refine el_pv (pv_assign rfl) (by decide) ?_
          refine el_nil ?_
          refine thn_n ?_
          have hS := hS.keep 0
          exact ⟨x126, he105, he106, rfl, hS, hF⟩
      · refine cw_cond_f rfl hb110 ?_
        refine cw_exit ?_
        refine thn_x ?_
        refine thn_x ?_
        obtain rfl := Option.some.inj hF
        have hF := hK103
        refine inb_s ?_
        refine thn_n ?_
        refine cw_seq ?_
        refine cw_reg ?_
        refine el_pv (pv_assign rfl) (by decide) ?_
        refine el_nil ?_
        refine thn_n ?_
        refine cw_ret ?_
        obtain rfl := Option.some.inj hF
        refine fin1 rfl rfl ?_
        exact ⟨rfl, hS.below⟩
theorem laws_eqFactorNode_ok {w0 : World} {u0 : Value} {a0 : List Int} {u1 : Value} {a1 : List Int} {u2 : Value} {a2 : List Int} {u3 : Value} {a3 : List Int} (ha0 : (sliceR intR 3).rd w0 [u0] a0) (ha1 : (sliceR intR 3).rd w0 [u1] a1) (ha2 : (sliceR intR 3).rd w0 [u2] a2) (ha3 : (sliceR intR 3).rd w0 [u3] a3) {N : Nat} {r : Bool} (hF : laws_eqFactorNode N a0 a1 a2 a3 = some r) :
    Calls Try.prog 81 #[.agg #[u0, u1], .agg #[u2, u3]] w0 fun e w' => e = .returned (.bool r) ∧ Ext w0 w' := by
  unfold laws_eqFactorNode at hF
  refine calls_E Try.func81 rfl rfl (of_decide_eq_true rfl) ?_
  have hS := Sat.start w0
  refine cw_seq ?_
  refine cw_reg ?_
  refine el_box [u0, u1] rfl hS (by decide) ?_
  intro w101 b102 hS hx103
  refine el_box [u2, u3] rfl hS (by decide) ?_
  intro w105 b106 hS hx107
  refine el_pv (pv_assign rfl) (by decide) ?_
  refine el_nil ?_
  refine thn_n ?_
  refine cw_seq ?_
  refine cw_seq ?_
  refine cw_reg ?_
  refine el_pv (pv_fieldAddr rfl) (by decide) ?_
  refine el_pv (pv_loadc rfl ((hS.boxAt 1 rfl) 0 _ rfl)) (by decide) ?_
  refine el_pv (pv_fieldAddr rfl) (by decide) ?_
  refine el_pv (pv_loadc rfl ((hS.boxAt 0 rfl) 0 _ rfl)) (by decide) ?_
  obtain ⟨r109, hr109, hF⟩ := ob hF
  refine el_call goes51 (laws_eqIntS_ok (hS.up ha0) (hS.up ha2) hr109) (congrArg List.toArray (mapc rfl (mapc rfl rfl))) (by decide) ?_
  rintro _ w110 ⟨rfl, hx111⟩
  refine ⟨_, rfl, ?_⟩
  have hS := hS.ext hx111
  refine el_pv (pv_not rfl) (by decide) ?_
  refine el_nil ?_
  refine thn_n ?_
  rcases oif hF with ⟨hb112, hF⟩ | ⟨hb112, hF⟩
  · refine cw_cond_f rfl (bnot_t hb112) ?_
    refine cw_skip ?_
    refine thn_n ?_
    refine cw_seq ?_
    refine cw_seq ?_
    refine cw_reg ?_
    refine el_pv (pv_fieldAddr rfl) (by decide) ?_
    refine el_pv (pv_loadc rfl ((hS.boxAt 1 rfl) 1 _ rfl)) (by decide) ?_
    refine el_pv (pv_fieldAddr rfl) (by decide) ?_
    refine el_pv (pv_loadc rfl ((hS.boxAt 0 rfl) 1 _ rfl)) (by decide) ?_
    obtain ⟨r113, hr113, hF⟩ := ob hF
    refine el_call goes51 (laws_eqIntS_ok (hS.up ha1) (hS.up ha3) hr113) (congrArg List.toArray (mapc rfl (mapc rfl rfl))) (by decide) ?_
    rintro _ w114 ⟨rfl, hx115⟩
    refine ⟨_, rfl, ?_⟩
    have hS := hS.ext hx115
    refine el_pv (pv_not rfl) (by decide) ?_
    refine el_nil ?_
    refine thn_n ?_
    rcases oif hF with ⟨hb116, hF⟩ | ⟨hb116, hF⟩
    · refine cw_cond_f rfl (bnot_t hb116) ?_
      refine cw_skip ?_
      refine thn_n ?_
      refine cw_seq ?_
      refine cw_reg ?_
      refine el_pv (pv_assign rfl) (by decide) ?_
      refine el_nil ?_
      refine thn_n ?_
      refine cw_ret ?_
      obtain rfl := Option.some.inj hF
      refine fin1 rfl rfl ?_
      exact ⟨rfl, hS.below⟩
    · refine cw_cond_t rfl (bnot_f hb116) ?_
      refine cw_seq ?_
      refine cw_reg ?_
      refine el_pv (pv_assign rfl) (by decide) ?_
      refine el_nil ?_
      refine thn_n ?_
      refine cw_ret ?_
      refine thn_r ?_
      obtain rfl := Option.some.inj hF
      refine fin1 rfl rfl ?_
      exact ⟨rfl, hS.below⟩
  · refine cw_cond_t rfl (bnot_f hb112) ?_
    refine cw_seq ?_
    refine cw_reg ?_
    refine el_pv (pv_assign rfl) (by decide) ?_
    refine el_nil ?_
    refine thn_n ?_
    refine cw_ret ?_
    refine thn_r ?_
    obtain rfl := Option.some.inj hF
    refine fin1 rfl rfl ?_
    exact ⟨rfl, hS.below⟩
theorem laws_eqFactorNodeS_ok {w0 : World} {u0 : Value} {a0 : List (List Int × List Int)} {u1 : Value} {a1 : List (List Int × List Int)} (ha0 : (sliceR (pairR (sliceR intR 3) (sliceR intR 3)) 67).rd w0 [u0] a0) (ha1 : (sliceR (pairR (sliceR intR 3) (sliceR intR 3)) 67).rd w0 [u1] a1) {N : Nat} {r : Bool} (hF : laws_eqFactorNodeS N a0 a1 = some r) :
    Calls Try.prog 52 #[u0, u1] w0 fun e w' => e = .returned (.bool r) ∧ Ext w0 w' := by
  unfold laws_eqFactorNodeS at hF
  refine calls_E Try.func52 rfl rfl (of_decide_eq_true rfl) ?_
  have hS := Sat.start w0
  refine cw_seq ?_
  refine cw_reg ?_
  refine el_pv (pv_assign rfl) (by decide) ?_
  refine el_nil ?_
  refine thn_n ?_
  refine cw_seq ?_
  refine cw_seq ?_
  refine cw_reg ?_
  refine el_pv (pv_move rfl) (by decide) ?_
  refine el_pv (pv_len rfl ha0) (by decide) ?_
  refine el_pv (pv_move rfl) (by decide) ?_
  refine el_pv (pv_len rfl ha1) (by decide) ?_
  refine el_pv (pv_neq rfl rfl) (by decide) ?_
  refine el_nil ?_
  refine thn_n ?_
  rcases oif hF with ⟨hb101, hF⟩ | ⟨hb101, hF⟩
  · refine cw_cond_t rfl hb101 ?_
    refine cw_seq ?_
    refine cw_reg ?_
    refine el_pv (pv_assign rfl) (by decide) ?_
    refine el_nil ?_
    refine thn_n ?_
    refine cw_ret ?_
    refine thn_r ?_
    obtain rfl := Option.some.inj hF
    refine fin1 rfl rfl ?_
    exact ⟨rfl, hS.below⟩
  · refine cw_cond_f rfl hb101 ?_
    refine cw_skip ?_
    refine thn_n ?_
    refine cw_seq ?_
    refine cw_seq ?_
    refine cw_reg ?_
    refine el_pv (pv_assign rfl) (by decide) ?_
    refine el_nil ?_
    refine thn_n ?_
    refine cw_block ?_
    obtain ⟨s102, hL, hK103⟩ := ob hF
    refine cw_loopS (fun k e w => ∃ (x104 : Int), e 0 = u0 ∧ e 1 = u1 ∧ e 5 = .int .i64 x104 ∧ Sat w0 w [] ∧ laws_eqFactorNodeS_L1 N k a0 a1 x104 = some s102) N ?_ ?_ ?_
    · exact ⟨0, rfl, rfl, rfl, hS, hL⟩
    · rintro e w ⟨_, _, _, _, _, hz⟩; exact nomatch (show none = some _ from hz)
    · rintro k e109 w108 ⟨x104, he105, he106, he107, hS, hF⟩
      refine cw_seq ?_
      refine cw_seq ?_
      refine cw_reg ?_
      refine el_pv (pv_move he107) (by decide) ?_
      refine el_pv (pv_move he105) (by decide) ?_
      refine el_pv (pv_len rfl ha0) (by decide) ?_
      refine el_pv (pv_lss rfl rfl) (by decide) ?_
      refine el_nil ?_
      refine thn_n ?_
      rcases oif hF with ⟨hb110, hF⟩ | ⟨hb110, hF⟩
      · refine cw_cond_t rfl hb110 ?_
        refine cw_skip ?_
        refine thn_n ?_
        refine cw_seq ?_
        refine cw_block ?_
        refine cw_seq ?_
        refine cw_regq (by kernel_rfl) (by kernel_rfl) ?_
        refine ql_pv (pv_move he105) (by decide) ?_
        refine ql_pv (pv_move he107) (by decide) ?_
        obtain ⟨x111, hx111, hF⟩ := ob hF
        refine ql_index (wA := w0) rfl ha0 rfl (by decide) rfl hx111 (by decide) ?_
        intro b112 of113 c114 hr115 hm116
        obtain ⟨_, _, rfl, hr117, hr118⟩ := hr115
        obtain ⟨v119, rfl⟩ := slice_one hr117
        obtain ⟨v120, rfl⟩ := slice_one hr118
        refine ql_pv (pv_loada (cs := [v119, v120]) rfl rfl (cells_up hS.below hm116)) (by decide) ?_
        refine ql_pv (pv_move he106) (by decide) ?_
        refine ql_pv (pv_move he107) (by decide) ?_
        obtain ⟨x121, hx121, hF⟩ := ob hF
        refine ql_index (wA := w0) rfl ha1 rfl (by decide) rfl hx121 (by decide) ?_
        intro b122 of123 c124 hr125 hm126
        obtain ⟨_, _, rfl, hr127, hr128⟩ := hr125
        obtain ⟨v129, rfl⟩ := slice_one hr127
        obtain ⟨v130, rfl⟩ := slice_one hr128
        refine ql_pv (pv_loada (cs := [v129, v130]) rfl rfl (cells_up hS.below hm126)) (by decide) ?_
        obtain ⟨r131, hr131, hF⟩ := ob hF
        refine ql_call (.bool r131) goes81 (fun w' hw' => laws_eqFactorNode_ok (rd_up (hS.up hr117) hw') (rd_up (hS.up hr118) hw') (rd_up (hS.up hr127) hw') (rd_up (hS.up hr128) hw') hr131) (congrArg List.toArray (mapc rfl (mapc rfl rfl))) (by decide) ?_
        refine ql_pv (pv_not rfl) (by decide) ?_
        refine ql_nil ?_
        intro w132 hx133
        have hS := hS.ext hx133
        refine thn_n ?_
        rcases oif hF with ⟨hb134, hF⟩ | ⟨hb134, hF⟩
        · refine cw_cond_f rfl (bnot_t hb134) ?_
          refine cw_skip ?_
          refine inb_n ?_
          refine thn_n ?_
          refine cw_reg ?_
          refine el_pv (pv_move he107) (by decide) ?_
          obtain ⟨x135, hx135, hF⟩ := ob hF
          refine el_pv (pv_add rfl rfl hx135) (by decide) ?_
          refine el_pv (pv_assign rfl) (by decide) ?_
          refine el_nil ?_
          refine thn_n ?_
          have hS := hS.keep 0
          exact ⟨x135, he105, he106, rfl, hS, hF⟩
        · refine cw_cond_t rfl (bnot_f hb134) ?_
          refine cw_seq ?_
          refine cw_reg ?_
          refine el_pv (pv_assign rfl) (by decide) ?_
          refine el_nil ?_
          refine thn_n ?_
          refine cw_ret ?_
          refine inb_r ?_
          refine thn_r ?_
          refine thn_r ?_
          refine inb_r ?_
          refine thn_r ?_
          obtain rfl := Option.some.inj hF
          have hF := hK103
          obtain rfl := Option.some.inj hF
          refine fin1 rfl rfl ?_
          exact ⟨rfl, hS.below⟩
      · refine cw_cond_f rfl hb110 ?_
        refine cw_exit ?_
        refine thn_x ?_
        refine thn_x ?_
        obtain rfl := Option.some.inj hF
        have hF := hK103
        refine inb_s ?_
        refine thn_n ?_
        refine cw_seq ?_
        refine cw_reg ?_
        refine el_pv (pv_assign rfl) (by decide) ?_
        refine el_nil ?_
        refine thn_n ?_
        refine cw_ret ?_
        obtain rfl := Option.some.inj hF
        refine fin1 rfl rfl ?_
        exact ⟨rfl, hS.below⟩
theorem laws_eqFactorization_ok {w0 : World} {u0 : Value} {a0 : List Int} {u1 : Value} {a1 : List (List Int × List Int)} {u2 : Value} {a2 : List Int} {u3 : Value} {a3 : List (List Int × List Int)} (ha0 : (sliceR intR 3).rd w0 [u0] a0) (ha1 : (sliceR (pairR (sliceR intR 3) (sliceR intR 3)) 67).rd w0 [u1] a1) (ha2 : (sliceR intR 3).rd w0 [u2] a2) (ha3 : (sliceR (pairR (sliceR intR 3) (sliceR intR 3)) 67).rd w0 [u3] a3) {N : Nat} {r : Bool} (hF : laws_eqFactorization N a0 a1 a2 a3 = some r) :
    Calls Try.prog 13 #[.agg #[u0, u1], .agg #[u2, u3]] w0 fun e w' => e = .returned (.bool r) ∧ Ext w0 w' := by
  unfold laws_eqFactorization at hF
  refine calls_E Try.func13 rfl rfl (of_decide_eq_true rfl) ?_
  have hS := Sat.start w0
  refine cw_seq ?_
  refine cw_reg ?_
  refine el_box [u0, u1] rfl hS (by decide) ?_
  intro w101 b102 hS hx103
  refine el_box [u2, u3] rfl hS (by decide) ?_
  intro w105 b106 hS hx107
  refine el_pv (pv_assign rfl) (by decide) ?_
  refine el_nil ?_
  refine thn_n ?_
  refine cw_seq ?_
  refine cw_seq ?_
  refine cw_reg ?_
  refine el_pv (pv_fieldAddr rfl) (by decide) ?_
  refine el_pv (pv_loadc rfl ((hS.boxAt 1 rfl) 0 _ rfl)) (by decide) ?_
  refine el_pv (pv_fieldAddr rfl) (by decide) ?_
  refine el_pv (pv_loadc rfl ((hS.boxAt 0 rfl) 0 _ rfl)) (by decide) ?_
  obtain ⟨r109, hr109, hF⟩ := ob hF
  refine el_call goes51 (laws_eqIntS_ok (hS.up ha0) (hS.up ha2) hr109) (congrArg List.toArray (mapc rfl (mapc rfl rfl))) (by decide) ?_
  rintro _ w110 ⟨rfl, hx111⟩
  refine ⟨_, rfl, ?_⟩
  have hS := hS.ext hx111
  refine el_pv (pv_not rfl) (by decide) ?_
  refine el_nil ?_
  refine thn_n ?_
  rcases oif hF with ⟨hb112, hF⟩ | ⟨hb112, hF⟩
  · refine cw_cond_f rfl (bnot_t hb112) ?_
    refine cw_skip ?_
    refine thn_n ?_
    refine cw_seq ?_
    refine cw_seq ?_
    refine cw_reg ?_
    refine el_pv (pv_fieldAddr rfl) (by decide) ?_
    refine el_pv (pv_loadc rfl ((hS.boxAt 1 rfl) 1 _ rfl)) (by decide) ?_
    refine el_pv (pv_fieldAddr rfl) (by decide) ?_
    refine el_pv (pv_loadc rfl ((hS.boxAt 0 rfl) 1 _ rfl)) (by decide) ?_
    obtain ⟨r113, hr113, hF⟩ := ob hF
    refine el_call goes52 (laws_eqFactorNodeS_ok (hS.up ha1) (hS.up ha3) hr113) (congrArg List.toArray (mapc rfl (mapc rfl rfl))) (by decide) ?_
    rintro _ w114 ⟨rfl, hx115⟩
    refine ⟨_, rfl, ?_⟩
    have hS := hS.ext hx115
    refine el_pv (pv_not rfl) (by decide) ?_
    refine el_nil ?_
    refine thn_n ?_
    rcases oif hF with ⟨hb116, hF⟩ | ⟨hb116, hF⟩
    · refine cw_cond_f rfl (bnot_t hb116) ?_
      refine cw_skip ?_
      refine thn_n ?_
      refine cw_seq ?_
      refine cw_reg ?_
      refine el_pv (pv_assign rfl) (by decide) ?_
      refine el_nil ?_
      refine thn_n ?_
      refine cw_ret ?_
      obtain rfl := Option.some.inj hF
      refine fin1 rfl rfl ?_
      exact ⟨rfl, hS.below⟩
    · refine cw_cond_t rfl (bnot_f hb116) ?_
      refine cw_seq ?_
      refine cw_reg ?_
      refine el_pv (pv_assign rfl) (by decide) ?_
      refine el_nil ?_
      refine thn_n ?_
      refine cw_ret ?_
      refine thn_r ?_
      obtain rfl := Option.some.inj hF
      refine fin1 rfl rfl ?_
      exact ⟨rfl, hS.below⟩
  · refine cw_cond_t rfl (bnot_f hb112) ?_
    refine cw_seq ?_
    refine cw_reg ?_
    refine el_pv (pv_assign rfl) (by decide) ?_
    refine el_nil ?_
    refine thn_n ?_
    refine cw_ret ?_
    refine thn_r ?_
    obtain rfl := Option.some.inj hF
    refine fin1 rfl rfl ?_
    exact ⟨rfl, hS.below⟩
theorem laws_FnExactEqualFactorizations_ok {w0 : World} {u0 : Value} {a0 : List Int} {u1 : Value} {a1 : List (List Int × List Int)} {u2 : Value} {a2 : List Int} {u3 : Value} {a3 : List (List Int × List Int)} (ha0 : (sliceR intR 3).rd w0 [u0] a0) (ha1 : (sliceR (pairR (sliceR intR 3) (sliceR intR 3)) 89).rd w0 [u1] a1) (ha2 : (sliceR intR 3).rd w0 [u2] a2) (ha3 : (sliceR (pairR (sliceR intR 3) (sliceR intR 3)) 89).rd w0 [u3] a3) {N : Nat} {r : Bool} (hF : laws_FnExactEqualFactorizations N a0 a1 a2 a3 = some r) :
    Calls Try.prog 3 #[.agg #[u0, u1], .agg #[u2, u3]] w0 fun e w' => e = .returned (.bool r) ∧ Ext w0 w' := by
  unfold laws_FnExactEqualFactorizations at hF
  refine calls_E Try.func3 rfl rfl (of_decide_eq_true rfl) ?_
  have hS := Sat.start w0
  refine cw_seq ?_
  refine cw_reg ?_
  refine el_box [u0, u1] rfl hS (by decide) ?_
  intro w101 b102 hS hx103
  refine el_box [u2, u3] rfl hS (by decide) ?_
  intro w105 b106 hS hx107
  refine el_pv (pv_assign rfl) (by decide) ?_
  refine el_nil ?_
  refine thn_n ?_
  refine cw_seq ?_
  refine cw_reg ?_
  refine el_pv (pv_assign rfl) (by decide) ?_
  refine el_nil ?_
  refine thn_n ?_
  refine cw_seq ?_
  refine cw_reg ?_
  refine el_pv (pv_loada (cs := [u0, u1]) rfl rfl (boxc0 (hS.boxAt 1 rfl))) (by decide) ?_
  refine el_pv (pv_move rfl) (by decide) ?_
  obtain ⟨r109, hr109, hF⟩ := ob hF
  refine el_call goes9 (laws_szFactorization_ok (hS.up ha0) (hS.up ha1) hr109) (congrArg List.toArray (mapc rfl (mapc rfl rfl))) (by decide) ?_
  rintro _ w110 ⟨rfl, hx111⟩
  refine ⟨_, rfl, ?_⟩
  have hS := hS.ext hx111
  refine el_pv (pv_assign rfl) (by decide) ?_
  refine el_nil ?_
  refine thn_n ?_
  refine cw_seq ?_
  refine cw_seq ?_
  refine cw_reg ?_
  refine el_pv (pv_move rfl) (by decide) ?_
  refine el_pv (pv_lss rfl rfl) (by decide) ?_
  refine el_nil ?_
  refine thn_n ?_
  rcases oif hF with ⟨hb112, hF⟩ | ⟨hb112, hF⟩
  · refine cw_cond_t rfl hb112 ?_
    refine cw_seq ?_
    refine cw_reg ?_
    refine el_pv (pv_assign rfl) (by decide) ?_
    refine el_nil ?_
    refine thn_n ?_
    refine cw_ret ?_
    refine thn_r ?_
    obtain rfl := Option.some.inj hF
    refine fin1 rfl rfl ?_
    exact ⟨rfl, hS.below⟩
  · refine cw_cond_f rfl hb112 ?_
    refine cw_skip ?_
    refine thn_n ?_
    refine cw_seq ?_
    refine cw_reg ?_
    refine el_pv (pv_loada (cs := [u2, u3]) rfl rfl (boxc0 (hS.boxAt 0 rfl))) (by decide) ?_
    refine el_pv (pv_move rfl) (by decide) ?_
    obtain ⟨r113, hr113, hF⟩ := ob hF
    refine el_call goes9 (laws_szFactorization_ok (hS.up ha2) (hS.up ha3) hr113) (congrArg List.toArray (mapc rfl (mapc rfl rfl))) (by decide) ?_
    rintro _ w114 ⟨rfl, hx115⟩
    refine ⟨_, rfl, ?_⟩
    have hS := hS.ext hx115
    refine el_pv (pv_assign rfl) (by decide) ?_
    refine el_nil ?_
    refine thn_n ?_
    refine cw_seq ?_
    refine cw_seq ?_
    refine cw_reg ?_
    refine el_pv (pv_move rfl) (by decide) ?_
    refine el_pv (pv_lss rfl rfl) (by decide) ?_
    refine el_nil ?_
    refine thn_n ?_
    rcases oif hF with ⟨hb116, hF⟩ | ⟨hb116, hF⟩
    · refine cw_cond_t rfl hb116 ?_
      refine cw_seq ?_
      refine cw_reg ?_
      refine el_pv (pv_assign rfl) (by decide) ?_
      refine el_nil ?_
      refine thn_n ?_
      refine cw_ret ?_
      refine thn_r ?_
      obtain rfl := Option.some.inj hF
      refine fin1 rfl rfl ?_
      exact ⟨rfl, hS.below⟩
    · refine cw_cond_f rfl hb116 ?_
      refine cw_skip ?_
      refine thn_n ?_
      refine cw_seq ?_
      obtain ⟨C, hCd⟩ : ∃ C : World → Prop, ∀ w, C w ↔ ∃ G, Sat w0 w ([Box b106 25 [u2, u3], Box b102 25 [u0, u1]] ++ G) := ⟨_, fun _ => Iff.rfl⟩
      refine cw_regb [0, 1, 2, 3, 4, 5] C (by kernel_rfl) ?_
      intro w117 hx118
      have hS := hS.ext hx118
      have hS := hS.top 1 rfl
      have hS := hS.top 1 rfl
      have hC := (hCd _).2 ⟨_, hS⟩
      refine al_p (by kernel_rfl) 0 rfl rfl (by decide) hC (by kernel_rfl) (by kernel_rfl) (sv_on rfl (fun w' hw' => by obtain ⟨_, hS⟩ := (hCd _).1 hw'; exact (pv_loada (cs := [u0, u1]) rfl rfl (boxc0 (hS.boxAt 1 rfl))))) ?_
      refine al_p (by kernel_rfl) 2 rfl rfl (by decide) hC (by kernel_rfl) (by kernel_rfl) (sv_on rfl (fun w' hw' => by obtain ⟨_, hS⟩ := (hCd _).1 hw'; exact (pv_loada (cs := [u2, u3]) rfl rfl (boxc0 (hS.boxAt 0 rfl))))) ?_
      refine al_one 1 (by kernel_rfl) rfl ?_
      obtain ⟨r119, hr119, hF⟩ := ob hF
      refine el_call goes11 (laws_toFactorization_ok (hS.up ha0) (hS.up ha1) hr119) (congrArg List.toArray (mapc rfl rfl)) (by decide) ?_
      rintro _ w124 ⟨v120, v122, rfl, hS'⟩
      refine ⟨_, rfl, ?_⟩
      have hx125 := hS'.below
      have hS := hS.call2 hS'
      refine el_nil ?_
      have hS := hS.top 3 rfl
      have hS := hS.top 3 rfl
      have hC := (hCd _).2 ⟨_, hS⟩
      have hoc126 := oc (hS.rdAt (R := (sliceR intR 3)) 2 rfl)
      have hoc127 := oc (hS.rdAt (R := (sliceR (pairR (sliceR intR 3) (sliceR intR 3)) 67)) 3 rfl)
      refine ⟨fun _ => hC, ?_⟩
      refine al_one 3 (by kernel_rfl) rfl ?_
      obtain ⟨r128, hr128, hF⟩ := ob hF
      refine el_call goes11 (laws_toFactorization_ok (hS.up ha2) (hS.up ha3) hr128) (congrArg List.toArray (mapc rfl rfl)) (by decide) ?_
      rintro _ w133 ⟨v129, v131, rfl, hS'⟩
      refine ⟨_, rfl, ?_⟩
      have hx134 := hS'.below
      have hS := hS.call2 hS'
      refine el_nil ?_
      have hS := hS.top 3 rfl
      have hS := hS.top 3 rfl
      have hC := (hCd _).2 ⟨_, hS⟩
      have hoc135 := oc (hS.rdAt (R := (sliceR intR 3)) 2 rfl)
      have hoc136 := oc (hS.rdAt (R := (sliceR (pairR (sliceR intR 3) (sliceR intR 3)) 67)) 3 rfl)
      refine ⟨fun _ => hC, ?_⟩
      refine al_one 4 (by kernel_rfl) rfl ?_
      obtain ⟨r137, hr137, hF⟩ := ob hF
      refine el_call goes10 (spec_EqualFactorizations_ok (hS.rdAt (R := (sliceR intR 3)) 4 rfl) (hS.rdAt (R := (sliceR (pairR (sliceR intR 3) (sliceR intR 3)) 67)) 5 rfl) (hS.rdAt (R := (sliceR intR 3)) 2 rfl) (hS.rdAt (R := (sliceR (pairR (sliceR intR 3) (sliceR intR 3)) 67)) 3 rfl) hr137) (congrArg List.toArray (mapc rfl (mapc rfl rfl))) (by decide) ?_
      rintro _ w138 ⟨rfl, hx139⟩
      refine ⟨_, rfl, ?_⟩
      have hS := hS.ext hx139
      refine el_nil ?_
      have hS := hS.top 1 rfl
      have hS := hS.top 1 rfl
      have hC := (hCd _).2 ⟨_, hS⟩
      refine ⟨fun _ => hC, ?_⟩
      refine al_p (by kernel_rfl) 5 rfl rfl (by decide) hC (by kernel_rfl) (by kernel_rfl) (sv_on rfl (fun w' hw' => by obtain ⟨_, hS⟩ := (hCd _).1 hw'; exact (pv_assign rfl))) ?_
      refine al_nil (by kernel_rfl) ?_
      refine thn_n ?_
      refine cw_seq ?_
      refine cw_reg ?_
      refine el_pv (pv_loada (cs := [u0, u1]) rfl rfl (boxc0 (hS.boxAt 1 rfl))) (by decide) ?_
      obtain ⟨r140, hr140, hF⟩ := ob hF
      refine el_call goes11 (laws_toFactorization_ok (hS.up ha0) (hS.up ha1) hr140) (congrArg List.toArray (mapc rfl rfl)) (by decide) ?_
      rintro _ w145 ⟨v141, v143, rfl, hS'⟩
      refine ⟨_, rfl, ?_⟩
      have hx146 := hS'.below
      have hS := hS.call2 hS'
      refine el_alloc hS (by decide) ?_
      intro w147 b148 hS hx149
      refine el_storev (hS.top 0 rfl) rfl [v141, v143] rfl rfl (of_decide_eq_true rfl) (all_cons (oc (hS.rdAt (R := (sliceR intR 3)) 1 rfl)) (all_cons (oc (hS.rdAt (R := (sliceR (pairR (sliceR intR 3) (sliceR intR 3)) 67)) 2 rfl)) rfl)) ?_
      intro w151 hS
      replace hS : Sat w0 w151 (Box b148 30 [v141, v143] :: _) := hS
      refine el_nil ?_
      refine thn_n ?_
      refine cw_seq ?_
      refine cw_reg ?_
      refine el_pv (pv_loada (cs := [u2, u3]) rfl rfl (boxc0 (hS.boxAt 3 rfl))) (by decide) ?_
      obtain ⟨r152, hr152, hF⟩ := ob hF
      refine el_call goes11 (laws_toFactorization_ok (hS.up ha2) (hS.up ha3) hr152) (congrArg List.toArray (mapc rfl rfl)) (by decide) ?_
      rintro _ w157 ⟨v153, v155, rfl, hS'⟩
      refine ⟨_, rfl, ?_⟩
      have hx158 := hS'.below
      have hS := hS.call2 hS'
      refine el_alloc hS (by decide) ?_
      intro w159 b160 hS hx161
      refine el_storev (hS.top 0 rfl) rfl [v153, v155] rfl rfl (of_decide_eq_true rfl) (all_cons (oc (hS.rdAt (R := (sliceR intR 3)) 1 rfl)) (all_cons (oc (hS.rdAt (R := (sliceR (pairR (sliceR intR 3) (sliceR intR 3)) 67)) 2 rfl)) rfl)) ?_
      intro w163 hS
      replace hS : Sat w0 w163 (Box b160 30 [v153, v155] :: _) := hS
      refine el_nil ?_
      refine thn_n ?_
      refine cw_seq ?_
      refine cw_reg ?_
      refine el_pv (pv_loada (cs := [v141, v143]) rfl rfl (boxc0 (hS.boxAt 3 rfl))) (by decide) ?_
      refine el_pv (pv_loada (cs := [v153, v155]) rfl rfl (boxc0 (hS.boxAt 0 rfl))) (by decide) ?_
      obtain ⟨r164, hr164, hF⟩ := ob hF
      refine el_call goes12 (impl_EqualFactorizations_ok (hS.rdAt (R := (sliceR intR 3)) 4 rfl) (hS.rdAt (R := (sliceR (pairR (sliceR intR 3) (sliceR intR 3)) 67)) 5 rfl) (hS.rdAt (R := (sliceR intR 3)) 1 rfl) (hS.rdAt (R := (sliceR (pairR (sliceR intR 3) (sliceR intR 3)) 67)) 2 rfl) hr164) (congrArg List.toArray (mapc rfl (mapc rfl rfl))) (by decide) ?_
      rintro _ w165 ⟨rfl, hx166⟩
      refine ⟨_, rfl, ?_⟩
      have hS := hS.ext hx166
      refine el_pv (pv_assign rfl) (by decide) ?_
      refine el_nil ?_
      refine thn_n ?_
      refine cw_seq ?_
      refine cw_seq ?_
      refine cw_reg ?_
      refine el_pv (pv_move rfl) (by decide) ?_
      refine el_pv (pv_move rfl) (by decide) ?_
      refine el_pv (pv_neqB Try.underlying4 rfl rfl) (by decide) ?_
      refine el_nil ?_
      refine thn_n ?_
      rcases oif hF with ⟨hb167, hF⟩ | ⟨hb167, hF⟩
      · refine cw_cond_t rfl hb167 ?_
        refine cw_seq ?_
        refine cw_reg ?_
        refine el_pv (pv_assign rfl) (by decide) ?_
        refine el_nil ?_
        refine thn_n ?_
        refine cw_ret ?_
        refine thn_r ?_
        obtain rfl := Option.some.inj hF
        refine fin1 rfl rfl ?_
        exact ⟨rfl, hS.below⟩
      · refine cw_cond_f rfl hb167 ?_
        refine cw_skip ?_
        refine thn_n ?_
        refine cw_seq ?_
        refine cw_seq ?_
        obtain ⟨C, hCd⟩ : ∃ C : World → Prop, ∀ w, C w ↔ ∃ G, Sat w0 w ([Box b160 30 [v153, v155], Box b148 30 [v141, v143], Box b106 25 [u2, u3], Box b102 25 [u0, u1]] ++ G) := ⟨_, fun _ => Iff.rfl⟩
        refine cw_regb [0, 1, 2, 3, 4] C (by kernel_rfl) ?_
        intro w168 hx169
        have hS := hS.ext hx169
        have hS := hS.top 7 rfl
        have hS := hS.top 7 rfl
        have hS := hS.top 5 rfl
        have hS := hS.top 3 rfl
        have hC := (hCd _).2 ⟨_, hS⟩
        refine al_p (by kernel_rfl) 0 rfl rfl (by decide) hC (by kernel_rfl) (by kernel_rfl) (sv_on rfl (fun w' hw' => by obtain ⟨_, hS⟩ := (hCd _).1 hw'; exact (pv_loada (cs := [v141, v143]) rfl rfl (boxc0 (hS.boxAt 1 rfl))))) ?_
        refine al_p (by kernel_rfl) 1 rfl rfl (by decide) hC (by kernel_rfl) (by kernel_rfl) (sv_on rfl (fun w' hw' => by obtain ⟨_, hS⟩ := (hCd _).1 hw'; exact (pv_loada (cs := [u0, u1]) rfl rfl (boxc0 (hS.boxAt 3 rfl))))) ?_
        refine al_one 2 (by kernel_rfl) rfl ?_
        obtain ⟨r170, hr170, hF⟩ := ob hF
        refine el_call goes11 (laws_toFactorization_ok (hS.up ha0) (hS.up ha1) hr170) (congrArg List.toArray (mapc rfl rfl)) (by decide) ?_
        rintro _ w175 ⟨v171, v173, rfl, hS'⟩
        refine ⟨_, rfl, ?_⟩
        have hx176 := hS'.below
        have hS := hS.call2 hS'
        refine el_nil ?_
        have hS := hS.top 5 rfl
        have hS := hS.top 5 rfl
        have hS := hS.top 5 rfl
        have hS := hS.top 5 rfl
        have hC := (hCd _).2 ⟨_, hS⟩
        have hoc177 := oc (hS.rdAt (R := (sliceR intR 3)) 4 rfl)
        have hoc178 := oc (hS.rdAt (R := (sliceR (pairR (sliceR intR 3) (sliceR intR 3)) 67)) 5 rfl)
        have hoc179 := oc (hS.rdAt (R := (sliceR intR 3)) 6 rfl)
        have hoc180 := oc (hS.rdAt (R := (sliceR (pairR (sliceR intR 3) (sliceR intR 3)) 67)) 7 rfl)
        have hoc181 := oc (hS.rdAt (R := (sliceR intR 3)) 8 rfl)
        have hoc182 := oc (hS.rdAt (R := (sliceR (pairR (sliceR intR 3) (sliceR intR 3)) 67)) 9 rfl)
        have hoc183 := oc (hS.rdAt (R := (sliceR intR 3)) 10 rfl)
        have hoc184 := oc (hS.rdAt (R := (sliceR (pairR (sliceR intR 3) (sliceR intR 3)) 67)) 11 rfl)
        have hoc185 := oc (hS.rdAt (R := (sliceR intR 3)) 12 rfl)
        have hoc186 := oc (hS.rdAt (R := (sliceR (pairR (sliceR intR 3) (sliceR intR 3)) 67)) 13 rfl)
        refine ⟨fun _ => hC, ?_⟩
        refine al_one 3 (by kernel_rfl) rfl ?_
        obtain ⟨r187, hr187, hF⟩ := ob hF
        refine el_call goes13 (laws_eqFactorization_ok (hS.rdAt (R := (sliceR intR 3)) 8 rfl) (hS.rdAt (R := (sliceR (pairR (sliceR intR 3) (sliceR intR 3)) 67)) 9 rfl) (hS.rdAt (R := (sliceR intR 3)) 4 rfl) (hS.rdAt (R := (sliceR (pairR (sliceR intR 3) (sliceR intR 3)) 67)) 5 rfl) hr187) (congrArg List.toArray (mapc rfl (mapc rfl rfl))) (by decide) ?_
        rintro _ w188 ⟨rfl, hx189⟩
        refine ⟨_, rfl, ?_⟩
        have hS := hS.ext hx189
        refine el_nil ?_
        have hS := hS.top 3 rfl
        have hS := hS.top 3 rfl
        have hS := hS.top 3 rfl
        have hS := hS.top 3 rfl
        have hC := (hCd _).2 ⟨_, hS⟩
        refine ⟨fun _ => hC, ?_⟩
        refine al_p (by kernel_rfl) 4 rfl rfl (by decide) hC (by kernel_rfl) (by kernel_rfl) (sv_on rfl (fun w' hw' => by obtain ⟨_, hS⟩ := (hCd _).1 hw'; exact (pv_not rfl))) ?_
        refine al_nil (by kernel_rfl) ?_
        refine thn_n ?_
        rcases oif hF with ⟨hb190, hF⟩ | ⟨hb190, hF⟩
        · refine cw_cond_f rfl (bnot_t hb190) ?_
          refine cw_skip ?_
          refine thn_n ?_
          refine cw_seq ?_
          refine cw_seq ?_
          obtain ⟨C, hCd⟩ : ∃ C : World → Prop, ∀ w, C w ↔ ∃ G, Sat w0 w ([Box b160 30 [v153, v155], Box b148 30 [v141, v143], Box b106 25 [u2, u3], Box b102 25 [u0, u1]] ++ G) := ⟨_, fun _ => Iff.rfl⟩
          refine cw_regb [0, 1, 2, 3, 4] C (by kernel_rfl) ?_
          intro w191 hx192
          have hS := hS.ext hx192
          have hS := hS.top 3 rfl
          have hS := hS.top 3 rfl
          have hS := hS.top 3 rfl
          have hS := hS.top 3 rfl
          have hC := (hCd _).2 ⟨_, hS⟩
          refine al_p (by kernel_rfl) 0 rfl rfl (by decide) hC (by kernel_rfl) (by kernel_rfl) (sv_on rfl (fun w' hw' => by obtain ⟨_, hS⟩ := (hCd _).1 hw'; exact (pv_loada (cs := [v153, v155]) rfl rfl (boxc0 (hS.boxAt 0 rfl))))) ?_
          refine al_p (by kernel_rfl) 1 rfl rfl (by decide) hC (by kernel_rfl) (by kernel_rfl) (sv_on rfl (fun w' hw' => by obtain ⟨_, hS⟩ := (hCd _).1 hw'; exact (pv_loada (cs := [u2, u3]) rfl rfl (boxc0 (hS.boxAt 2 rfl))))) ?_
          refine al_one 2 (by kernel_rfl) rfl ?_
          obtain ⟨r193, hr193, hF⟩ := ob hF
          refine el_call goes11 (laws_toFactorization_ok (hS.up ha2) (hS.up ha3) hr193) (congrArg List.toArray (mapc rfl rfl)) (by decide) ?_
          rintro _ w198 ⟨v194, v196, rfl, hS'⟩
          refine ⟨_, rfl, ?_⟩
          have hx199 := hS'.below
          have hS := hS.call2 hS'
          refine el_nil ?_
          have hS := hS.top 5 rfl
          have hS := hS.top 5 rfl
          have hS := hS.top 5 rfl
          have hS := hS.top 5 rfl
          have hC := (hCd _).2 ⟨_, hS⟩
          have hoc200 := oc (hS.rdAt (R := (sliceR intR 3)) 4 rfl)
          have hoc201 := oc (hS.rdAt (R := (sliceR (pairR (sliceR intR 3) (sliceR intR 3)) 67)) 5 rfl)
          have hoc202 := oc (hS.rdAt (R := (sliceR intR 3)) 6 rfl)
          have hoc203 := oc (hS.rdAt (R := (sliceR (pairR (sliceR intR 3) (sliceR intR 3)) 67)) 7 rfl)
          have hoc204 := oc (hS.rdAt (R := (sliceR intR 3)) 8 rfl)
          have hoc205 := oc (hS.rdAt (R := (sliceR (pairR (sliceR intR 3) (sliceR intR 3)) 67)) 9 rfl)
          have hoc206 := oc (hS.rdAt (R := (sliceR intR 3)) 10 rfl)
          have hoc207 := oc (hS.rdAt (R := (sliceR (pairR (sliceR intR 3) (sliceR intR 3)) 67)) 11 rfl)
          have hoc208 := oc (hS.rdAt (R := (sliceR intR 3)) 12 rfl)
          have hoc209 := oc (hS.rdAt (R := (sliceR (pairR (sliceR intR 3) (sliceR intR 3)) 67)) 13 rfl)
          have hoc210 := oc (hS.rdAt (R := (sliceR intR 3)) 14 rfl)
          have hoc211 := oc (hS.rdAt (R := (sliceR (pairR (sliceR intR 3) (sliceR intR 3)) 67)) 15 rfl)
          refine ⟨fun _ => hC, ?_⟩
          refine al_one 3 (by kernel_rfl) rfl ?_
          obtain ⟨r212, hr212, hF⟩ := ob hF
          refine el_call goes13 (laws_eqFactorization_ok (hS.rdAt (R := (sliceR intR 3)) 8 rfl) (hS.rdAt (R := (sliceR (pairR (sliceR intR 3) (sliceR intR 3)) 67)) 9 rfl) (hS.rdAt (R := (sliceR intR 3)) 4 rfl) (hS.rdAt (R := (sliceR (pairR (sliceR intR 3) (sliceR intR 3)) 67)) 5 rfl) hr212) (congrArg List.toArray (mapc rfl (mapc rfl rfl))) (by decide) ?_
          rintro _ w213 ⟨rfl, hx214⟩
          refine ⟨_, rfl, ?_⟩
          have hS := hS.ext hx214
          refine el_nil ?_
          have hS := hS.top 3 rfl
          have hS := hS.top 3 rfl
          have hS := hS.top 3 rfl
          have hS := hS.top 3 rfl
          have hC := (hCd _).2 ⟨_, hS⟩
          refine ⟨fun _ => hC, ?_⟩
          refine al_p (by kernel_rfl) 4 rfl rfl (by decide) hC (by kernel_rfl) (by kernel_rfl) (sv_on rfl (fun w' hw' => by obtain ⟨_, hS⟩ := (hCd _).1 hw'; exact (pv_not rfl))) ?_
          refine al_nil (by kernel_rfl) ?_
          refine thn_n ?_
          rcases oif hF with ⟨hb215, hF⟩ | ⟨hb215, hF⟩
          · refine cw_cond_f rfl (bnot_t hb215) ?_
            refine cw_skip ?_
            refine thn_n ?_
            refine cw_seq ?_
            refine cw_reg ?_
            refine el_pv (pv_assign rfl) (by decide) ?_
            refine el_nil ?_
            refine thn_n ?_
            refine cw_ret ?_
            obtain rfl := Option.some.inj hF
            refine fin1 rfl rfl ?_
            exact ⟨rfl, hS.below⟩
          · refine cw_cond_t rfl (bnot_f hb215) ?_
            refine cw_seq ?_
            refine cw_reg ?_
            refine el_pv (pv_assign rfl) (by decide) ?_
            refine el_nil ?_
            refine thn_n ?_
            refine cw_ret ?_
            refine thn_r ?_
            obtain rfl := Option.some.inj hF
            refine fin1 rfl rfl ?_
            exact ⟨rfl, hS.below⟩
        · refine cw_cond_t rfl (bnot_f hb190) ?_
          refine cw_seq ?_
          refine cw_reg ?_
          refine el_pv (pv_assign rfl) (by decide) ?_
          refine el_nil ?_
          refine thn_n ?_
          refine cw_ret ?_
          refine thn_r ?_
          obtain rfl := Option.some.inj hF
          refine fin1 rfl rfl ?_
          exact ⟨rfl, hS.below⟩
theorem laws_szIntSS_ok {w0 : World} {u0 : Value} {a0 : List (List Int)} {a1 : Int} (ha0 : (sliceR (sliceR intR 3) 22).rd w0 [u0] a0) {N : Nat} {r : Int} (hF : laws_szIntSS N a0 a1 = some r) :
    Calls Try.prog 66 #[u0, .int .i64 a1] w0 fun e w' => e = .returned (.int .i64 r) ∧ Ext w0 w' := by
  unfold laws_szIntSS at hF
  refine calls_E Try.func66 rfl rfl (of_decide_eq_true rfl) ?_
  have hS := Sat.start w0
  refine cw_seq ?_
  refine cw_reg ?_
  refine el_pv (pv_assign rfl) (by decide) ?_
  refine el_nil ?_
  refine thn_n ?_
  refine cw_seq ?_
  refine cw_reg ?_
  refine el_pv (pv_move rfl) (by decide) ?_
  refine el_pv (pv_move rfl) (by decide) ?_
  refine el_pv (pv_len rfl ha0) (by decide) ?_
  obtain ⟨x101, hx101, hF⟩ := ob hF
  refine el_pv (pv_sub rfl rfl hx101) (by decide) ?_
  refine el_pv (pv_assign rfl) (by decide) ?_
  refine el_nil ?_
  refine thn_n ?_
  refine cw_seq ?_
  refine cw_seq ?_
  refine cw_reg ?_
  refine el_pv (pv_move rfl) (by decide) ?_
  refine el_pv (pv_lss rfl rfl) (by decide) ?_
  refine el_nil ?_
  refine thn_n ?_
  rcases oif hF with ⟨hb102, hF⟩ | ⟨hb102, hF⟩
  · refine cw_cond_t rfl hb102 ?_
    refine cw_seq ?_
    refine cw_reg ?_
    refine el_pv (pv_assign rfl) (by decide) ?_
    refine el_nil ?_
    refine thn_n ?_
    refine cw_ret ?_
    refine thn_r ?_
    obtain rfl := Option.some.inj hF
    refine fin1 rfl rfl ?_
    exact ⟨rfl, hS.below⟩
  · refine cw_cond_f rfl hb102 ?_
    refine cw_skip ?_
    refine thn_n ?_
    refine cw_seq ?_
    refine cw_seq ?_
    refine cw_reg ?_
    refine el_pv (pv_assign rfl) (by decide) ?_
    refine el_nil ?_
    refine thn_n ?_
    refine cw_block ?_
    obtain ⟨s103, hL, hK104⟩ := ob hF
    refine cw_loopS (fun k e w => ∃ (x105 : Int), ∃ (x106 : Int), e 0 = u0 ∧ e 1 = .int .i64 x105 ∧ e 5 = .int .i64 x106 ∧ Sat w0 w [] ∧ laws_szIntSS_L1 N k a0 x105 x106 = some s103) N ?_ ?_ ?_
    · exact ⟨x101, 0, rfl, rfl, rfl, hS, hL⟩
    · rintro e w ⟨_, _, _, _, _, _, hz⟩; exact nomatch (show none = some _ from hz)
    · rintro k e111 w110 ⟨x105, x106, he107, he108, he109, hS, hF⟩
      refine cw_seq ?_
      refine cw_seq ?_
      refine cw_reg ?_
      refine el_pv (pv_move he109) (by decide) ?_
      refine el_pv (pv_move he107) (by decide) ?_
      refine el_pv (pv_len rfl ha0) (by decide) ?_
      refine el_pv (pv_lss rfl rfl) (by decide) ?_
      refine el_nil ?_
      refine thn_n ?_
      rcases oif hF with ⟨hb112, hF⟩ | ⟨hb112, hF⟩
      · refine cw_cond_t rfl hb112 ?_
        refine cw_skip ?_
        refine thn_n ?_
        refine cw_seq ?_
        refine cw_block ?_
        refine cw_seq ?_
        refine cw_reg ?_
        refine el_pv (pv_move he107) (by decide) ?_
        refine el_pv (pv_move he109) (by decide) ?_
        obtain ⟨x113, hx113, hF⟩ := ob hF
        refine el_index (wA := w0) rfl ha0 rfl (by decide) rfl hx113 (by decide) ?_
        intro b114 of115 c116 hr117 hm118
        obtain ⟨v119, rfl⟩ := slice_one hr117
        refine el_pv (pv_loadc rfl ((cells_up hS.below hm118) 0 _ rfl)) (by decide) ?_
        refine el_pv (pv_move he108) (by decide) ?_
        obtain ⟨r120, hr120, hF⟩ := ob hF
        refine el_call goes44 (laws_szIntS_ok (hS.up hr117) hr120) (congrArg List.toArray (mapc rfl (mapc rfl rfl))) (by decide) ?_
        rintro _ w121 ⟨rfl, hx122⟩
        refine ⟨_, rfl, ?_⟩
        have hS := hS.ext hx122
        refine el_pv (pv_assign rfl) (by decide) ?_
        refine el_nil ?_
        refine thn_n ?_
        refine cw_seq ?_
        refine cw_reg ?_
        refine el_pv (pv_move rfl) (by decide) ?_
        refine el_pv (pv_lss rfl rfl) (by decide) ?_
        refine el_nil ?_
        refine thn_n ?_
        rcases oif hF with ⟨hb123, hF⟩ | ⟨hb123, hF⟩
        · refine cw_cond_t rfl hb123 ?_
          refine cw_seq ?_
          refine cw_reg ?_
          refine el_pv (pv_assign rfl) (by decide) ?_
          refine el_nil ?_
          refine thn_n ?_
          refine cw_ret ?_
          refine inb_r ?_
          refine thn_r ?_
          refine thn_r ?_
          refine inb_r ?_
          refine thn_r ?_
          obtain rfl := Option.some.inj hF
          have hF := hK104
          obtain rfl := Option.some.inj hF
          refine fin1 rfl rfl ?_
          exact ⟨rfl, hS.below⟩
        · refine cw_cond_f rfl hb123 ?_
          refine cw_skip ?_
          refine inb_n ?_
          refine thn_n ?_
          refine cw_reg ?_
          refine el_pv (pv_move he109) (by decide) ?_
          obtain ⟨x124, hx124, hF⟩ := ob hF
          refine el_pv (pv_add rfl rfl hx124) (by decide) ?_
          refine el_pv (pv_assign rfl) (by decide) ?_
          refine el_nil ?_
          refine thn_n ?_
          have hS := hS.keep 0
          exact ⟨r120, x124, he107, rfl, rfl, hS, hF⟩
      · refine cw_cond_f rfl hb112 ?_
        refine cw_exit ?_
        refine thn_x ?_
        refine thn_x ?_
        obtain rfl := Option.some.inj hF
        have hF := hK104
        refine inb_s ?_
        refine thn_n ?_
        refine cw_seq ?_
        refine cw_reg ?_
        refine el_pv (pv_move he108) (by decide) ?_
        refine el_pv (pv_assign rfl) (by decide) ?_
        refine el_nil ?_
        refine thn_n ?_
        refine cw_ret ?_
        obtain rfl := Option.some.inj hF
        refine fin1 rfl rfl ?_
        exact ⟨rfl, hS.below⟩
theorem laws_szRelation_ok {w0 : World} {a0 : Int} {u1 : Value} {a1 : List (List Int)} {a2 : Int} (ha1 : (sliceR (sliceR intR 3) 22).rd w0 [u1] a1) {N : Nat} {r : Int} (hF : laws_szRelation N a0 a1 a2 = some r) :
    Calls Try.prog 25 #[.agg #[.int .i64 a0, u1], .int .i64 a2] w0 fun e w' => e = .returned (.int .i64 r) ∧ Ext w0 w' := by
  unfold laws_szRelation at hF
  refine calls_E Try.func25 rfl rfl (of_decide_eq_true rfl) ?_
  have hS := Sat.start w0
  refine cw_seq ?_
  refine cw_reg ?_
  refine el_box [.int .i64 a0, u1] rfl hS (by decide) ?_
  intro w101 b102 hS hx103
  refine el_pv (pv_assign rfl) (by decide) ?_
  refine el_nil ?_
  refine thn_n ?_
  refine cw_seq ?_
  refine cw_reg ?_
  refine el_pv (pv_fieldAddr rfl) (by decide) ?_
  refine el_pv (pv_loadc rfl ((hS.boxAt 0 rfl) 1 _ rfl)) (by decide) ?_
  refine el_pv (pv_move rfl) (by decide) ?_
  obtain ⟨r105, hr105, hF⟩ := ob hF
  refine el_call goes66 (laws_szIntSS_ok (hS.up ha1) hr105) (congrArg List.toArray (mapc rfl (mapc rfl rfl))) (by decide) ?_
  rintro _ w106 ⟨rfl, hx107⟩
  refine ⟨_, rfl, ?_⟩
  have hS := hS.ext hx107
  refine el_pv (pv_assign rfl) (by decide) ?_
  refine el_nil ?_
  refine thn_n ?_
  refine cw_seq ?_
  refine cw_seq ?_
  refine cw_reg ?_
  refine el_pv (pv_move rfl) (by decide) ?_
  refine el_pv (pv_lss rfl rfl) (by decide) ?_
  refine el_nil ?_
  refine thn_n ?_
  rcases oif hF with ⟨hb108, hF⟩ | ⟨hb108, hF⟩
  · refine cw_cond_t rfl hb108 ?_
    refine cw_seq ?_
    refine cw_reg ?_
    refine el_pv (pv_assign rfl) (by decide) ?_
    refine el_nil ?_
    refine thn_n ?_
    refine cw_ret ?_
    refine thn_r ?_
    obtain rfl := Option.some.inj hF
    refine fin1 rfl rfl ?_
    exact ⟨rfl, hS.below⟩
  · refine cw_cond_f rfl hb108 ?_
    refine cw_skip ?_
    refine thn_n ?_
    refine cw_seq ?_
    refine cw_reg ?_
    refine el_pv (pv_move rfl) (by decide) ?_
    refine el_pv (pv_assign rfl) (by decide) ?_
    refine el_nil ?_
    refine thn_n ?_
    refine cw_ret ?_
    obtain rfl := Option.some.inj hF
    refine fin1 rfl rfl ?_
    exact ⟨rfl, hS.below⟩
theorem laws_szDelta_ok {w0 : World} {a0 : ByteArray} {a1 : Int} {u2 : Value} {a2 : List (List Int)} {a3 : Int} {u4 : Value} {a4 : List (List Int)} {a5 : Int} (ha2 : (sliceR (sliceR intR 3) 22).rd w0 [u2] a2) (ha4 : (sliceR (sliceR intR 3) 22).rd w0 [u4] a4) {N : Nat} {r : Int} (hF : laws_szDelta N a0 a1 a2 a3 a4 a5 = some r) :
    Calls Try.prog 14 #[.agg #[.string a0, .int .i64 a1, u2, .int .i64 a3, u4], .int .i64 a5] w0 fun e w' => e = .returned (.int .i64 r) ∧ Ext w0 w' := by
  unfold laws_szDelta at hF
  refine calls_E Try.func14 rfl rfl (of_decide_eq_true rfl) ?_
  have hS := Sat.start w0
  refine cw_seq ?_
  refine cw_reg ?_
  refine el_box [.string a0, .int .i64 a1, u2, .int .i64 a3, u4] rfl hS (by decide) ?_
  intro w101 b102 hS hx103
  refine el_pv (pv_assign rfl) (by decide) ?_
  refine el_nil ?_
  refine thn_n ?_
  refine cw_seq ?_
  refine cw_reg ?_
  refine el_pv (pv_move rfl) (by decide) ?_
  refine el_pv (pv_fieldAddr rfl) (by decide) ?_
  refine el_pv (pv_loadc rfl ((hS.boxAt 0 rfl) 0 _ rfl)) (by decide) ?_
  refine el_pv (pv_lenS Try.underlying9 rfl) (by decide) ?_
  obtain ⟨x105, hx105, hF⟩ := ob hF
  refine el_pv (pv_sub rfl rfl hx105) (by decide) ?_
  refine el_pv (pv_assign rfl) (by decide) ?_
  refine el_nil ?_
  refine thn_n ?_
  refine cw_seq ?_
  refine cw_seq ?_
  refine cw_reg ?_
  refine el_pv (pv_move rfl) (by decide) ?_
  refine el_pv (pv_lss rfl rfl) (by decide) ?_
  refine el_nil ?_
  refine thn_n ?_
  rcases oif hF with ⟨hb106, hF⟩ | ⟨hb106, hF⟩
  · refine cw_cond_t rfl hb106 ?_
    refine cw_seq ?_
    refine cw_reg ?_
    refine el_pv (pv_assign rfl) (by decide) ?_
    refine el_nil ?_
    refine thn_n ?_
    refine cw_ret ?_
    refine thn_r ?_
    obtain rfl := Option.some.inj hF
    refine fin1 rfl rfl ?_
    exact ⟨rfl, hS.below⟩
  · refine cw_cond_f rfl hb106 ?_
    refine cw_skip ?_
    refine thn_n ?_
    refine cw_seq ?_
    refine cw_reg ?_
    refine el_pv (pv_fieldAddr rfl) (by decide) ?_
    refine el_pv (pv_loada (cs := [.int .i64 a1, u2]) rfl rfl (boxc (hS.boxAt 0 rfl) 1 2)) (by decide) ?_
    refine el_pv (pv_move rfl) (by decide) ?_
    obtain ⟨r107, hr107, hF⟩ := ob hF
    refine el_call goes25 (laws_szRelation_ok (hS.up ha2) hr107) (congrArg List.toArray (mapc rfl (mapc rfl rfl))) (by decide) ?_
    rintro _ w108 ⟨rfl, hx109⟩
    refine ⟨_, rfl, ?_⟩
    have hS := hS.ext hx109
    refine el_pv (pv_assign rfl) (by decide) ?_
    refine el_nil ?_
    refine thn_n ?_
    refine cw_seq ?_
    refine cw_seq ?_
    refine cw_reg ?_
    refine el_pv (pv_move rfl) (by decide) ?_
    refine el_pv (pv_lss rfl rfl) (by decide) ?_
    refine el_nil ?_
    refine thn_n ?_
    rcases oif hF with ⟨hb110, hF⟩ | ⟨hb110, hF⟩
    · refine cw_cond_t rfl hb110 ?_
      refine cw_seq ?_
      refine cw_reg ?_
      refine el_pv (pv_assign rfl) (by decide) ?_
      refine el_nil ?_
      refine thn_n ?_
      refine cw_ret ?_
      refine thn_r ?_
      obtain rfl := Option.some.inj hF
      refine fin1 rfl rfl ?_
      exact ⟨rfl, hS.below⟩
    · refine cw_cond_f rfl hb110 ?_
      refine cw_skip ?_
      refine thn_n ?_
      refine cw_seq ?_
      refine cw_reg ?_
      refine el_pv (pv_fieldAddr rfl) (by decide) ?_
      refine el_pv (pv_loada (cs := [.int .i64 a3, u4]) rfl rfl (boxc (hS.boxAt 0 rfl) 3 2)) (by decide) ?_
      refine el_pv (pv_move rfl) (by decide) ?_
      obtain ⟨r111, hr111, hF⟩ := ob hF
      refine el_call goes25 (laws_szRelation_ok (hS.up ha4) hr111) (congrArg List.toArray (mapc rfl (mapc rfl rfl))) (by decide) ?_
      rintro _ w112 ⟨rfl, hx113⟩
      refine ⟨_, rfl, ?_⟩
      have hS := hS.ext hx113
      refine el_pv (pv_assign rfl) (by decide) ?_
      refine el_nil ?_
      refine thn_n ?_
      refine cw_seq ?_
      refine cw_seq ?_
      refine cw_reg ?_
      refine el_pv (pv_move rfl) (by decide) ?_
      refine el_pv (pv_lss rfl rfl) (by decide) ?_
      refine el_nil ?_
      refine thn_n ?_
      rcases oif hF with ⟨hb114, hF⟩ | ⟨hb114, hF⟩
      · refine cw_cond_t rfl hb114 ?_
        refine cw_seq ?_
        refine cw_reg ?_
        refine el_pv (pv_assign rfl) (by decide) ?_
        refine el_nil ?_
        refine thn_n ?_
        refine cw_ret ?_
        refine thn_r ?_
        obtain rfl := Option.some.inj hF
        refine fin1 rfl rfl ?_
        exact ⟨rfl, hS.below⟩
      · refine cw_cond_f rfl hb114 ?_
        refine cw_skip ?_
        refine thn_n ?_
        refine cw_seq ?_
        refine cw_reg ?_
        refine el_pv (pv_move rfl) (by decide) ?_
        refine el_pv (pv_assign rfl) (by decide) ?_
        refine el_nil ?_
        refine thn_n ?_
        refine cw_ret ?_
        obtain rfl := Option.some.inj hF
        refine fin1 rfl rfl ?_
        exact ⟨rfl, hS.below⟩
theorem spec_EqualRelations_ok {w0 : World} {a0 : Int} {u1 : Value} {a1 : List (List Int)} {a2 : Int} {u3 : Value} {a3 : List (List Int)} (ha1 : (sliceR (sliceR intR 3) 22).rd w0 [u1] a1) (ha3 : (sliceR (sliceR intR 3) 22).rd w0 [u3] a3) {N : Nat} {r : Bool} (hF : spec_EqualRelations N a0 a1 a2 a3 = some r) :
    Calls Try.prog 53 #[.agg #[.int .i64 a0, u1], .agg #[.int .i64 a2, u3]] w0 fun e w' => e = .returned (.bool r) ∧ Ext w0 w' := by
  unfold spec_EqualRelations at hF
  refine calls_E Try.func53 rfl rfl (of_decide_eq_true rfl) ?_
  have hS := Sat.start w0
  refine cw_seq ?_
  refine cw_reg ?_
  refine el_box [.int .i64 a0, u1] rfl hS (by decide) ?_
  intro w101 b102 hS hx103
  refine el_box [.int .i64 a2, u3] rfl hS (by decide) ?_
  intro w105 b106 hS hx107
  refine el_pv (pv_assign rfl) (by decide) ?_
  refine el_nil ?_
  refine thn_n ?_
  refine cw_seq ?_
  refine cw_seq ?_
  refine cw_reg ?_
  refine el_pv (pv_fieldAddr rfl) (by decide) ?_
  refine el_pv (pv_loadc rfl ((hS.boxAt 1 rfl) 0 _ rfl)) (by decide) ?_
  refine el_pv (pv_fieldAddr rfl) (by decide) ?_
  refine el_pv (pv_loadc rfl ((hS.boxAt 0 rfl) 0 _ rfl)) (by decide) ?_
  refine el_pv (pv_neq rfl rfl) (by decide) ?_
  refine el_pv (pv_move rfl) (by decide) ?_
  rcases oif hF with ⟨hb109, hF⟩ | ⟨hb109, hF⟩
  · refine el_off rfl hb109 rfl (by decide) ?_
    refine el_off rfl hb109 rfl (by decide) ?_
    refine el_off rfl hb109 rfl (by decide) ?_
    refine el_off rfl hb109 rfl (by decide) ?_
    refine el_off rfl hb109 rfl (by decide) ?_
    refine el_off rfl hb109 rfl (by decide) ?_
    refine el_off rfl hb109 rfl (by decide) ?_
    refine el_pv (pv_pick_t rfl hb109 rfl) (by decide) ?_
    refine el_nil ?_
    refine thn_n ?_
    refine cw_cond_t rfl rfl ?_
    refine cw_seq ?_
    refine cw_reg ?_
    refine el_pv (pv_assign rfl) (by decide) ?_
    refine el_nil ?_
    refine thn_n ?_
    refine cw_ret ?_
    refine thn_r ?_
    obtain rfl := Option.some.inj hF
    refine fin1 rfl rfl ?_
    exact ⟨rfl, hS.below⟩
  · refine el_on rfl hb109 ?_
    refine el_pv (pv_fieldAddr rfl) (by decide) ?_
    refine el_on rfl hb109 ?_
    refine el_pv (pv_loadc rfl ((hS.boxAt 1 rfl) 1 _ rfl)) (by decide) ?_
    refine el_on rfl hb109 ?_
    refine el_pv (pv_len rfl ha1) (by decide) ?_
    refine el_on rfl hb109 ?_
    refine el_pv (pv_fieldAddr rfl) (by decide) ?_
    refine el_on rfl hb109 ?_
    refine el_pv (pv_loadc rfl ((hS.boxAt 0 rfl) 1 _ rfl)) (by decide) ?_
    refine el_on rfl hb109 ?_
    refine el_pv (pv_len rfl ha3) (by decide) ?_
    refine el_on rfl hb109 ?_
    refine el_pv (pv_neq rfl rfl) (by decide) ?_
    refine el_pv (pv_pick_f rfl hb109 rfl) (by decide) ?_
    refine el_nil ?_
    refine thn_n ?_
    rcases oif hF with ⟨hb110, hF⟩ | ⟨hb110, hF⟩
    · refine cw_cond_t rfl hb110 ?_
      refine cw_seq ?_
      refine cw_reg ?_
      refine el_pv (pv_assign rfl) (by decide) ?_
      refine el_nil ?_
      refine thn_n ?_
      refine cw_ret ?_
      refine thn_r ?_
      obtain rfl := Option.some.inj hF
      refine fin1 rfl rfl ?_
      exact ⟨rfl, hS.below⟩
    · refine cw_cond_f rfl hb110 ?_
      refine cw_skip ?_
      refine thn_n ?_
      refine cw_seq ?_
      refine cw_seq ?_
      refine cw_reg ?_
      refine el_pv (pv_assign rfl) (by decide) ?_
      refine el_nil ?_
      refine thn_n ?_
      refine cw_block ?_
      obtain ⟨s111, hL, hK112⟩ := ob hF
      refine cw_loopS (fun k e w => ∃ (x113 : Int), e 2 = .pointer (some ⟨b102, 0, none⟩) ∧ e 3 = .pointer (some ⟨b106, 0, none⟩) ∧ e 5 = .int .i64 x113 ∧ Sat w0 w [Box b106 40 [.int .i64 a2, u3], Box b102 40 [.int .i64 a0, u1]] ∧ spec_EqualRelations_L1 N k a0 a1 a2 a3 x113 = some s111) N ?_ ?_ ?_
      · exact ⟨0, rfl, rfl, rfl, hS, hL⟩
      · rintro e w ⟨_, _, _, _, _, hz⟩; exact nomatch (show none = some _ from hz)
      · rintro k e118 w117 ⟨x113, he114, he115, he116, hS, hF⟩
        refine cw_seq ?_
        refine cw_seq ?_
        refine cw_reg ?_
        refine el_pv (pv_move he116) (by decide) ?_
        refine el_pv (pv_fieldAddr he114) (by decide) ?_
        refine el_pv (pv_loadc rfl ((hS.boxAt 1 rfl) 1 _ rfl)) (by decide) ?_
        refine el_pv (pv_len rfl ha1) (by decide) ?_
        refine el_pv (pv_lss rfl rfl) (by decide) ?_
        refine el_nil ?_
        refine thn_n ?_
        rcases oif hF with ⟨hb119, hF⟩ | ⟨hb119, hF⟩
        · refine cw_cond_t rfl hb119 ?_
          refine cw_skip ?_
          refine thn_n ?_
          refine cw_seq ?_
          refine cw_block ?_
          refine cw_seq ?_
          refine cw_regq (by kernel_rfl) (by kernel_rfl) ?_
          refine ql_pv (pv_fieldAddr he114) (by decide) ?_
          refine ql_pv (pv_loadc rfl ((hS.boxAt 1 rfl) 1 _ rfl)) (by decide) ?_
          refine ql_pv (pv_move he116) (by decide) ?_
          obtain ⟨x120, hx120, hF⟩ := ob hF
          refine ql_index (wA := w0) rfl ha1 rfl (by decide) rfl hx120 (by decide) ?_
          intro b121 of122 c123 hr124 hm125
          obtain ⟨v126, rfl⟩ := slice_one hr124
          refine ql_pv (pv_loadc rfl ((cells_up hS.below hm125) 0 _ rfl)) (by decide) ?_
          refine ql_pv (pv_fieldAddr he115) (by decide) ?_
          refine ql_pv (pv_loadc rfl ((hS.boxAt 0 rfl) 1 _ rfl)) (by decide) ?_
          refine ql_pv (pv_move he116) (by decide) ?_
          obtain ⟨x127, hx127, hF⟩ := ob hF
          refine ql_index (wA := w0) rfl ha3 rfl (by decide) rfl hx127 (by decide) ?_
          intro b128 of129 c130 hr131 hm132
          obtain ⟨v133, rfl⟩ := slice_one hr131
          refine ql_pv (pv_loadc rfl ((cells_up hS.below hm132) 0 _ rfl)) (by decide) ?_
          obtain ⟨r134, hr134, hF⟩ := ob hF
          refine ql_call (.int .i64 r134) goes46 (fun w' hw' => spec_CompareRows_ok (rd_up (hS.up hr124) hw') (rd_up (hS.up hr131) hw') hr134) (congrArg List.toArray (mapc rfl (mapc rfl rfl))) (by decide) ?_
          refine ql_pv (pv_neq rfl rfl) (by decide) ?_
          refine ql_nil ?_
          intro w135 hx136
          have hS := hS.ext hx136
          refine thn_n ?_
          rcases oif hF with ⟨hb137, hF⟩ | ⟨hb137, hF⟩
          · refine cw_cond_t rfl hb137 ?_
            refine cw_seq ?_
            refine cw_reg ?_
            refine el_pv (pv_assign rfl) (by decide) ?_
            refine el_nil ?_
            refine thn_n ?_
            refine cw_ret ?_
            refine inb_r ?_
            refine thn_r ?_
            refine thn_r ?_
            refine inb_r ?_
            refine thn_r ?_
            obtain rfl := Option.some.inj hF
            have hF := hK112
            obtain rfl := Option.some.inj hF
            refine fin1 rfl rfl ?_
            exact ⟨rfl, hS.below⟩
          · refine cw_cond_f rfl hb137 ?_
            refine cw_skip ?_
            refine inb_n ?_
            refine thn_n ?_
            refine cw_reg ?_
            refine el_pv (pv_move he116) (by decide) ?_
            obtain ⟨x138, hx138, hF⟩ := ob hF
            refine el_pv (pv_add rfl rfl hx138) (by decide) ?_
            refine el_pv (pv_assign rfl) (by decide) ?_
            refine el_nil ?_
            refine thn_n ?_
            have hS := hS.top 1 rfl
            have hS := hS.top 1 rfl
            have hS := hS.keep 2
            exact ⟨x138, he114, he115, rfl, hS, hF⟩
        · refine cw_cond_f rfl hb119 ?_
          refine cw_exit ?_
          refine thn_x ?_
          refine thn_x ?_
          obtain rfl := Option.some.inj hF
          have hF := hK112
          refine inb_s ?_
          refine thn_n ?_
          refine cw_seq ?_
          refine cw_reg ?_
          refine el_pv (pv_assign rfl) (by decide) ?_
          refine el_nil ?_
          refine thn_n ?_
          refine cw_ret ?_
          obtain rfl := Option.some.inj hF
          refine fin1 rfl rfl ?_
          exact ⟨rfl, hS.below⟩
theorem spec_EqualDeltas_ok {w0 : World} {a0 : ByteArray} {a1 : Int} {u2 : Value} {a2 : List (List Int)} {a3 : Int} {u4 : Value} {a4 : List (List Int)} {a5 : ByteArray} {a6 : Int} {u7 : Value} {a7 : List (List Int)} {a8 : Int} {u9 : Value} {a9 : List (List Int)} (ha2 : (sliceR (sliceR intR 3) 22).rd w0 [u2] a2) (ha4 : (sliceR (sliceR intR 3) 22).rd w0 [u4] a4) (ha7 : (sliceR (sliceR intR 3) 22).rd w0 [u7] a7) (ha9 : (sliceR (sliceR intR 3) 22).rd w0 [u9] a9) {N : Nat} {r : Bool} (hF : spec_EqualDeltas N a0 a1 a2 a3 a4 a5 a6 a7 a8 a9 = some r) :
    Calls Try.prog 15 #[.agg #[.string a0, .int .i64 a1, u2, .int .i64 a3, u4], .agg #[.string a5, .int .i64 a6, u7, .int .i64 a8, u9]] w0 fun e w' => e = .returned (.bool r) ∧ Ext w0 w' := by
  unfold spec_EqualDeltas at hF
  refine calls_E Try.func15 rfl rfl (of_decide_eq_true rfl) ?_
  have hS := Sat.start w0
  refine cw_seq ?_
  refine cw_reg ?_
  refine el_box [.string a0, .int .i64 a1, u2, .int .i64 a3, u4] rfl hS (by decide) ?_
  intro w101 b102 hS hx103
  refine el_box [.string a5, .int .i64 a6, u7, .int .i64 a8, u9] rfl hS (by decide) ?_
  intro w105 b106 hS hx107
  refine el_pv (pv_assign rfl) (by decide) ?_
  refine el_nil ?_
  refine thn_n ?_
  refine cw_seq ?_
  refine cw_reg ?_
  refine el_pv (pv_fieldAddr rfl) (by decide) ?_
  refine el_pv (pv_loadc rfl ((hS.boxAt 1 rfl) 0 _ rfl)) (by decide) ?_
  refine el_pv (pv_fieldAddr rfl) (by decide) ?_
  refine el_pv (pv_loadc rfl ((hS.boxAt 0 rfl) 0 _ rfl)) (by decide) ?_
  refine el_pv (pv_eqlS rfl rfl) (by decide) ?_
  refine el_pv (pv_move rfl) (by decide) ?_
  rcases oif hF with ⟨hb109, hF⟩ | ⟨hb109, hF⟩
  · refine el_on rfl hb109 ?_
    refine el_pv (pv_fieldAddr rfl) (by decide) ?_
    refine el_on rfl hb109 ?_
    refine el_pv (pv_loada (cs := [.int .i64 a1, u2]) rfl rfl (boxc (hS.boxAt 1 rfl) 1 2)) (by decide) ?_
    refine el_on rfl hb109 ?_
    refine el_pv (pv_fieldAddr rfl) (by decide) ?_
    refine el_on rfl hb109 ?_
    refine el_pv (pv_loada (cs := [.int .i64 a6, u7]) rfl rfl (boxc (hS.boxAt 0 rfl) 1 2)) (by decide) ?_
    refine el_on rfl hb109 ?_
    obtain ⟨r110, hr110, hF⟩ := ob hF
    refine el_call goes53 (spec_EqualRelations_ok (hS.up ha2) (hS.up ha7) hr110) (congrArg List.toArray (mapc rfl (mapc rfl rfl))) (by decide) ?_
    rintro _ w111 ⟨rfl, hx112⟩
    refine ⟨_, rfl, ?_⟩
    have hS := hS.ext hx112
    refine el_pv (pv_pick_t rfl hb109 rfl) (by decide) ?_
    refine el_pv (pv_move rfl) (by decide) ?_
    rcases oif hF with ⟨hb113, hF⟩ | ⟨hb113, hF⟩
    · refine el_on rfl hb113 ?_
      refine el_pv (pv_fieldAddr rfl) (by decide) ?_
      refine el_on rfl hb113 ?_
      refine el_pv (pv_loada (cs := [.int .i64 a3, u4]) rfl rfl (boxc (hS.boxAt 1 rfl) 3 2)) (by decide) ?_
      refine el_on rfl hb113 ?_
      refine el_pv (pv_fieldAddr rfl) (by decide) ?_
      refine el_on rfl hb113 ?_
      refine el_pv (pv_loada (cs := [.int .i64 a8, u9]) rfl rfl (boxc (hS.boxAt 0 rfl) 3 2)) (by decide) ?_
      refine el_on rfl hb113 ?_
      obtain ⟨r114, hr114, hF⟩ := ob hF
      refine el_call goes53 (spec_EqualRelations_ok (hS.up ha4) (hS.up ha9) hr114) (congrArg List.toArray (mapc rfl (mapc rfl rfl))) (by decide) ?_
      rintro _ w115 ⟨rfl, hx116⟩
      refine ⟨_, rfl, ?_⟩
      have hS := hS.ext hx116
      refine el_pv (pv_pick_t rfl hb113 rfl) (by decide) ?_
      refine el_pv (pv_assign rfl) (by decide) ?_
      refine el_nil ?_
      refine thn_n ?_
      refine cw_ret ?_
      obtain rfl := Option.some.inj hF
      refine fin1 rfl rfl ?_
      exact ⟨rfl, hS.below⟩
    · refine el_off rfl hb113 rfl (by decide) ?_
      refine el_off rfl hb113 rfl (by decide) ?_
      refine el_off rfl hb113 rfl (by decide) ?_
      refine el_off rfl hb113 rfl (by decide) ?_
      refine el_off rfl hb113 rfl (by decide) ?_
      refine el_pv (pv_pick_f rfl hb113 rfl) (by decide) ?_
      refine el_pv (pv_assign rfl) (by decide) ?_
      refine el_nil ?_
      refine thn_n ?_
      refine cw_ret ?_
      obtain rfl := Option.some.inj hF
      refine fin1 rfl rfl ?_
      exact ⟨rfl, hS.below⟩
  · refine el_off rfl hb109 rfl (by decide) ?_
    refine el_off rfl hb109 rfl (by decide) ?_
    refine el_off rfl hb109 rfl (by decide) ?_
    refine el_off rfl hb109 rfl (by decide) ?_
    refine el_off rfl hb109 rfl (by decide) ?_
    refine el_pv (pv_pick_f rfl hb109 rfl) (by decide) ?_
    refine el_pv (pv_move rfl) (by decide) ?_
    refine el_off rfl rfl rfl (by decide) ?_
    refine el_off rfl rfl rfl (by decide) ?_
    refine el_off rfl rfl rfl (by decide) ?_
    refine el_off rfl rfl rfl (by decide) ?_
    refine el_off rfl rfl rfl (by decide) ?_
    refine el_pv (pv_pick_f rfl rfl rfl) (by decide) ?_
    refine el_pv (pv_assign rfl) (by decide) ?_
    refine el_nil ?_
    refine thn_n ?_
    refine cw_ret ?_
    obtain rfl := Option.some.inj hF
    refine fin1 rfl rfl ?_
    exact ⟨rfl, hS.below⟩
theorem laws_toIntSS_ok {w0 : World} {u0 : Value} {a0 : List (List Int)} (ha0 : (sliceR (sliceR intR 3) 22).rd w0 [u0] a0) {N : Nat} {r : (List (List Int))} (hF : laws_toIntSS N a0 = some r) :
    Calls Try.prog 69 #[u0] w0 fun e w' => ∃ q0, e = .returned (q0) ∧ Sat w0 w' [Own (sliceR (sliceR intR 3) 22) [q0] r] := by
  unfold laws_toIntSS at hF
  refine calls_E Try.func69 rfl rfl (of_decide_eq_true rfl) ?_
  have hS := Sat.start w0
  refine cw_seq ?_
  refine cw_reg ?_
  refine el_pv (pv_assign rfl) (by decide) ?_
  refine el_nil ?_
  refine thn_n ?_
  refine cw_seq ?_
  refine cw_reg ?_
  refine el_pv (pv_move rfl) (by decide) ?_
  refine el_pv (pv_len rfl ha0) (by decide) ?_
  obtain ⟨x104, hx104, hF⟩ := ob hF
  refine el_make (R := (sliceR intR 3)) (x0 := []) rfl (by decide) rfl (fun _ => .inl ⟨rfl, rfl, rfl⟩) rfl rfl hx104 hS (by decide) ?_
  intro w101 g102 k103 hS hx105 hlx104
  refine el_pv (pv_assign rfl) (by decide) ?_
  refine el_nil ?_
  refine thn_n ?_
  refine cw_seq ?_
  refine cw_seq ?_
  refine cw_reg ?_
  refine el_pv (pv_assign rfl) (by decide) ?_
  refine el_nil ?_
  refine thn_n ?_
  refine cw_block ?_
  obtain ⟨s107, hL, hK108⟩ := ob hF
  refine cw_loopS (fun k e w => ∃ (v110 : Value), ∃ (x109 : List (List Int)), ∃ (x111 : Int), e 0 = u0 ∧ e 3 = v110 ∧ e 4 = .int .i64 x111 ∧ Sat w0 w [Own (sliceR (sliceR intR 3) 22) [v110] x109] ∧ laws_toIntSS_L1 N k a0 x109 x111 = some s107) N ?_ ?_ ?_
  · exact ⟨(.slice (some ⟨g102, 0, none⟩) k103 k103), x104, 0, rfl, rfl, rfl, hS, hL⟩
  · rintro e w ⟨_, _, _, _, _, _, _, hz⟩; exact nomatch (show none = some _ from hz)
  · rintro k e116 w115 ⟨v110, x109, x111, he112, he113, he114, hS, hF⟩
    refine cw_seq ?_
    refine cw_seq ?_
    refine cw_reg ?_
    refine el_pv (pv_move he114) (by decide) ?_
    refine el_pv (pv_move he112) (by decide) ?_
    refine el_pv (pv_len rfl ha0) (by decide) ?_
    refine el_pv (pv_lss rfl rfl) (by decide) ?_
    refine el_nil ?_
    refine thn_n ?_
    rcases oif hF with ⟨hb117, hF⟩ | ⟨hb117, hF⟩
    · refine cw_cond_t rfl hb117 ?_
      refine cw_skip ?_
      refine thn_n ?_
      refine cw_seq ?_
      refine cw_block ?_
      refine cw_reg ?_
      refine el_pv (pv_move he113) (by decide) ?_
      refine el_pv (pv_move he114) (by decide) ?_
      refine el_pv (pv_move he112) (by decide) ?_
      refine el_pv (pv_move he114) (by decide) ?_
      obtain ⟨x118, hx118, hF⟩ := ob hF
      refine el_index (wA := w0) rfl ha0 rfl (by decide) rfl hx118 (by decide) ?_
      intro b119 of120 c121 hr122 hm123
      obtain ⟨v124, rfl⟩ := slice_one hr122
      refine el_pv (pv_loadc rfl ((cells_up hS.below hm123) 0 _ rfl)) (by decide) ?_
      obtain ⟨r125, hr125, hF⟩ := ob hF
      refine el_call goes47 (laws_toIntS_ok (hS.up hr122) hr125) (congrArg List.toArray (mapc rfl rfl)) (by decide) ?_
      rintro _ w128 ⟨v126, rfl, hS'⟩
      refine ⟨_, rfl, ?_⟩
      have hx129 := hS'.below
      have hS := hS.call1 hS'
      obtain ⟨x130, hx130, hF⟩ := ob hF
      have hS := hS.top 1 rfl
      refine el_indexO hS rfl rfl (by decide) rfl hx130 (by decide) ?_
      intro b131 of132 c133 hv136 hr134 hm135
      obtain ⟨v137, rfl⟩ := slice_one hr134
      obtain ⟨x139, hx139, hF⟩ := ob hF
      have hoc140 : Value.oneCell' v126 = true := (oc (hS.rdAt (R := (sliceR intR 3)) 1 rfl))
      have hS := hS.top 1 rfl
      refine el_storeO rfl hv136 hS hx139 rfl (cells_of rfl hoc140) ?_
      intro w138 hS
      refine el_nil ?_
      refine inb_n ?_
      refine thn_n ?_
      refine cw_reg ?_
      refine el_pv (pv_move he114) (by decide) ?_
      obtain ⟨x141, hx141, hF⟩ := ob hF
      refine el_pv (pv_add rfl rfl hx141) (by decide) ?_
      refine el_pv (pv_assign rfl) (by decide) ?_
      refine el_nil ?_
      refine thn_n ?_
      have hS := hS.keep 1
      exact ⟨v110, x139, x141, he112, he113, rfl, hS, hF⟩
    · refine cw_cond_f rfl hb117 ?_
      refine cw_exit ?_
      refine thn_x ?_
      refine thn_x ?_
      obtain rfl := Option.some.inj hF
      have hF := hK108
      refine inb_s ?_
      refine thn_n ?_
      refine cw_seq ?_
      refine cw_reg ?_
      refine el_pv (pv_move he113) (by decide) ?_
      refine el_pv (pv_assign rfl) (by decide) ?_
      refine el_nil ?_
      refine thn_n ?_
      refine cw_ret ?_
      obtain rfl := Option.some.inj hF
      refine fin1 rfl rfl ?_
      exact ⟨_, rfl, hS.keep 1⟩
end Go.Proofs.Ytobjjdfgnaanjaa
