/- The walks through functions of the program: each hands back what it comes to. No condition but that it comes to something. -/
import Derived.Test.YtobjjdfgnaanjaaW0
import Derived.Test.YtobjjdfgnaanjaaW1D
namespace Go.Proofs.Ytobjjdfgnaanjaa
open Go.RowKit
set_option maxRecDepth 100000
set_option maxHeartbeats 4000000 in
theorem impl_EqualFactorizations_ok {w0 : World} {u0 : Value} {a0 : List Int} {u1 : Value} {a1 : List (List Int × List Int)} {u2 : Value} {a2 : List Int} {u3 : Value} {a3 : List (List Int × List Int)} (ha0 : (sliceR intR 3).rd w0 [u0] a0) (ha1 : (sliceR (pairR (sliceR intR 3) (sliceR intR 3)) 67).rd w0 [u1] a1) (ha2 : (sliceR intR 3).rd w0 [u2] a2) (ha3 : (sliceR (pairR (sliceR intR 3) (sliceR intR 3)) 67).rd w0 [u3] a3) {N : Nat} {r : Bool} (hF : impl_EqualFactorizations N a0 a1 a2 a3 = some r) :
    Calls Try.prog 12 #[.agg #[u0, u1], .agg #[u2, u3]] w0 fun e w' => e = .returned (.bool r) ∧ Ext w0 w' := by
  unfold impl_EqualFactorizations at hF
  refine calls_E Try.func12 rfl rfl (of_decide_eq_true rfl) ?_
  have hS := Sat.start w0
  refine cw_seq ?_
  refine cw_gen ?_
  intro Q101 hQ101
  refine cw_reg ?_
  refine el_box [u0, u1] rfl hS (by decide) ?_
  intro w102 b103 hS hx104
  refine el_box [u2, u3] rfl hS (by decide) ?_
  intro w106 b107 hS hx108
  refine el_pv (v := .bool false) (pv_assign rfl) (by decide) ?_
  refine el_nil ?_
  refine hQ101 _ _ _ ?_
  refine thn_n ?_
  refine cw_seq ?_
  refine cw_gen ?_
  intro Q110 hQ110
  refine cw_seq ?_
  refine cw_gen ?_
  intro Q111 hQ111
  refine cw_reg ?_
  refine el_pv (v := .pointer (some ⟨b103, 0 + 0, none⟩)) (pv_fieldAddr rfl) (by decide) ?_
  refine el_pv (v := u0) (pv_loadc rfl ((hS.boxAt 1 rfl) 0 _ rfl)) (by decide) ?_
  refine el_pv (v := .pointer (some ⟨b107, 0 + 0, none⟩)) (pv_fieldAddr rfl) (by decide) ?_
  refine el_pv (v := u2) (pv_loadc rfl ((hS.boxAt 0 rfl) 0 _ rfl)) (by decide) ?_
  replace hF := ob hF
  obtain ⟨r112, hr112, hF⟩ := hF
  refine el_call goes49 (impl_sameInts_ok (hS.up ha0) (hS.up ha2) hr112) (congrArg List.toArray (mapc rfl (mapc rfl rfl))) (by decide) ?_
  rintro _ w113 ⟨rfl, hx114⟩
  refine ⟨_, rfl, ?_⟩
  replace hS := hS.ext hx114
  refine el_pv (v := .bool (!r112)) (pv_not rfl) (by decide) ?_
  refine el_pv (v := .bool (!r112)) (pv_move rfl) (by decide) ?_
  replace hF := oif hF
  rcases hF with ⟨hb115, hF⟩ | ⟨hb115, hF⟩
  · refine el_on rfl (bnot_t hb115) ?_
    refine el_pv (v := .pointer (some ⟨b103, 0 + 1, none⟩)) (pv_fieldAddr rfl) (by decide) ?_
    refine el_on rfl (bnot_t hb115) ?_
    refine el_pv (v := u1) (pv_loadc rfl ((hS.boxAt 1 rfl) 1 _ rfl)) (by decide) ?_
    refine el_on rfl (bnot_t hb115) ?_
    refine el_pv (v := .int .i64 (a1.length : Int)) (pv_len rfl ha1) (by decide) ?_
    refine el_on rfl (bnot_t hb115) ?_
    refine el_pv (v := .pointer (some ⟨b107, 0 + 1, none⟩)) (pv_fieldAddr rfl) (by decide) ?_
    refine el_on rfl (bnot_t hb115) ?_
    refine el_pv (v := u3) (pv_loadc rfl ((hS.boxAt 0 rfl) 1 _ rfl)) (by decide) ?_
    refine el_on rfl (bnot_t hb115) ?_
    refine el_pv (v := .int .i64 (a3.length : Int)) (pv_len rfl ha3) (by decide) ?_
    refine el_on rfl (bnot_t hb115) ?_
    refine el_pv (v := .bool ((a1.length : Int) != (a3.length : Int))) (pv_neq rfl rfl) (by decide) ?_
    refine el_pv (v := .bool ((a1.length : Int) != (a3.length : Int))) (pv_pick_f rfl (bnot_t hb115) rfl) (by decide) ?_
    refine el_nil ?_
    refine hQ111 _ _ _ ?_
    refine thn_n ?_
    replace hF := oif hF
    rcases hF with ⟨hb116, hF⟩ | ⟨hb116, hF⟩
    · refine cw_cond_t rfl hb116 ?_
      refine cw_seq ?_
      refine cw_gen ?_
      intro Q117 hQ117
      refine cw_reg ?_
      refine el_pv (v := .bool false) (pv_assign rfl) (by decide) ?_
      refine el_nil ?_
      refine hQ117 _ _ _ ?_
      refine thn_n ?_
      refine cw_ret ?_
      refine hQ110 _ _ _ ?_
      refine thn_r ?_
      refine fin1 rfl rfl ?_
      have hr := Option.some.inj hF
      exact ⟨congrArg (fun (r : Bool) => Ending.returned (.bool r)) hr, hS.below⟩
    · refine cw_cond_f rfl hb116 ?_
      refine cw_skip ?_
      refine hQ110 _ _ _ ?_
      refine thn_n ?_
      refine cw_seq ?_
      refine cw_gen ?_
      intro Q118 hQ118
      refine cw_seq ?_
      refine cw_gen ?_
      intro Q119 hQ119
      refine cw_reg ?_
      refine el_pv (v := .pointer (some ⟨b103, 0 + 1, none⟩)) (pv_fieldAddr rfl) (by decide) ?_
      refine el_pv (v := u1) (pv_loadc rfl ((hS.boxAt 1 rfl) 1 _ rfl)) (by decide) ?_
      refine el_pv (v := .int .i64 (a1.length : Int)) (pv_len rfl ha1) (by decide) ?_
      refine el_pv (v := .int .i64 0) (pv_move rfl) (by decide) ?_
      refine el_nil ?_
      refine hQ119 _ _ _ ?_
      refine thn_n ?_
      refine cw_block ?_
      refine cw_gen ?_
      intro Q120 hQ120
      obtain ⟨s121, hL, hK122⟩ := ob hF
      refine cw_loopS (fun k e w => ∃ (x123 : Int), e 2 = .pointer (some ⟨b103, 0, none⟩) ∧ e 3 = .pointer (some ⟨b107, 0, none⟩) ∧ e 23 = .int .i64 (a1.length : Int) ∧ e 24 = .int .i64 x123 ∧ Sat w0 w [Box b107 30 [u2, u3], Box b103 30 [u0, u1]] ∧ impl_EqualFactorizations_L1 N k a0 a1 a2 a3 (a1.length : Int) x123 = some s121) N ?_ ?_ ?_
      · exact ⟨0, rfl, rfl, rfl, rfl, hS, hL⟩
      · rintro e w ⟨_, _, _, _, _, _, hz⟩; exact nomatch (show none = some _ from hz)
      · rintro k e129 w128 ⟨x123, he124, he125, he126, he127, hS, hF⟩
        refine cw_gen ?_
        intro Q130 hQ130
        refine cw_seq ?_
        refine cw_gen ?_
        intro Q131 hQ131
        refine cw_reg ?_
        refine el_pv (v := .bool (decide (x123 < (a1.length : Int)))) (pv_lss he127 he126) (by decide) ?_
        refine el_nil ?_
        refine hQ131 _ _ _ ?_
        refine thn_n ?_
        refine cw_seq ?_
        refine cw_gen ?_
        intro Q132 hQ132
        replace hF := oif hF
        rcases hF with ⟨hb133, hF⟩ | ⟨hb133, hF⟩
        · refine cw_cond_t rfl hb133 ?_
          refine cw_skip ?_
          refine hQ132 _ _ _ ?_
          refine thn_n ?_
          refine cw_seq ?_
          refine cw_gen ?_
          intro Q134 hQ134
          refine cw_block ?_
          refine cw_gen ?_
          intro Q135 hQ135
          refine cw_seq ?_
          refine cw_gen ?_
          intro Q136 hQ136
          refine cw_reg ?_
          refine el_pv (v := .int .i64 x123) (pv_move he127) (by decide) ?_
          refine el_pv (v := .int .i64 x123) (pv_assign rfl) (by decide) ?_
          refine el_nil ?_
          refine hQ136 _ _ _ ?_
          refine thn_n ?_
          refine cw_seq ?_
          refine cw_gen ?_
          intro Q137 hQ137
          refine cw_regq (by kernel_rfl) (by kernel_rfl) ?_
          refine ql_pv (v := .pointer (some ⟨b103, 0 + 1, none⟩)) (pv_fieldAddr he124) (by decide) ?_
          refine ql_pv (v := u1) (pv_loadc rfl ((hS.boxAt 1 rfl) 1 _ rfl)) (by decide) ?_
          refine ql_pv (v := .int .i64 x123) (pv_move rfl) (by decide) ?_
          replace hF := ob hF
          obtain ⟨x138, hx138, hF⟩ := hF
          refine ql_index (wA := w0) rfl ha1 rfl (by decide) rfl hx138 (by decide) ?_
          intro b139 of140 c141 hr142 hm143
          obtain ⟨_, _, rfl, hr144, hr145⟩ := hr142
          obtain ⟨v146, rfl⟩ := slice_one hr144
          obtain ⟨v147, rfl⟩ := slice_one hr145
          refine ql_pv (v := .agg #[v146, v147]) (pv_loada (cs := [v146, v147]) rfl rfl (cells_up hS.below hm143)) (by decide) ?_
          refine ql_pv (v := .pointer (some ⟨b107, 0 + 1, none⟩)) (pv_fieldAddr he125) (by decide) ?_
          refine ql_pv (v := u3) (pv_loadc rfl ((hS.boxAt 0 rfl) 1 _ rfl)) (by decide) ?_
          refine ql_pv (v := .int .i64 x123) (pv_move rfl) (by decide) ?_
          replace hF := ob hF
          obtain ⟨x148, hx148, hF⟩ := hF
          refine ql_index (wA := w0) rfl ha3 rfl (by decide) rfl hx148 (by decide) ?_
          intro b149 of150 c151 hr152 hm153
          obtain ⟨_, _, rfl, hr154, hr155⟩ := hr152
          obtain ⟨v156, rfl⟩ := slice_one hr154
          obtain ⟨v157, rfl⟩ := slice_one hr155
          refine ql_pv (v := .agg #[v156, v157]) (pv_loada (cs := [v156, v157]) rfl rfl (cells_up hS.below hm153)) (by decide) ?_
          replace hF := ob hF
          obtain ⟨r158, hr158, hF⟩ := hF
          refine ql_call (.bool r158) goes50 (fun w' hw' => impl_sameNode_ok (rd_up (hS.up hr144) hw') (rd_up (hS.up hr145) hw') (rd_up (hS.up hr154) hw') (rd_up (hS.up hr155) hw') hr158) (congrArg List.toArray (mapc rfl (mapc rfl rfl))) (by decide) ?_
          refine ql_pv (v := .bool (!r158)) (pv_not rfl) (by decide) ?_
          refine ql_nil ?_
          intro w159 hx160
          replace hS := hS.ext hx160
          refine hQ137 _ _ _ ?_
          refine thn_n ?_
          replace hF := oif hF
          rcases hF with ⟨hb161, hF⟩ | ⟨hb161, hF⟩
          · refine cw_cond_f rfl (bnot_t hb161) ?_
            refine cw_skip ?_
            refine hQ135 _ _ _ ?_
            refine inb_n ?_
            refine hQ134 _ _ _ ?_
            refine thn_n ?_
            refine cw_reg ?_
            replace hF := ob hF
            obtain ⟨x162, hx162, hF⟩ := hF
            refine el_pv (v := .int .i64 x162) (pv_add he127 rfl hx162) (by decide) ?_
            refine el_pv (v := .int .i64 x162) (pv_move rfl) (by decide) ?_
            refine el_nil ?_
            refine hQ130 _ _ _ ?_
            refine thn_n ?_
            replace hS : Sat w0 w159 [Box b103 30 [u0, u1], Box b107 30 [u2, u3]] := hS.top 1 rfl
            replace hS : Sat w0 w159 [Box b107 30 [u2, u3], Box b103 30 [u0, u1]] := hS.top 1 rfl
            replace hS := hS.keep 2
            exact ⟨x162, he124, he125, he126, rfl, hS, hF⟩
          · refine cw_cond_t rfl (bnot_f hb161) ?_
            refine cw_seq ?_
            refine cw_gen ?_
            intro Q163 hQ163
            refine cw_reg ?_
            refine el_pv (v := .bool false) (pv_assign rfl) (by decide) ?_
            refine el_nil ?_
            refine hQ163 _ _ _ ?_
            refine thn_n ?_
            refine cw_ret ?_
            refine hQ135 _ _ _ ?_
            refine inb_r ?_
            refine hQ134 _ _ _ ?_
            refine thn_r ?_
            refine hQ130 _ _ _ ?_
            refine thn_r ?_
            refine hQ120 _ _ _ ?_
            refine inb_r ?_
            refine hQ118 _ _ _ ?_
            refine thn_r ?_
            replace hF := exL hF hK122
            refine fin1 rfl rfl ?_
            have hr := Option.some.inj hF
            exact ⟨congrArg (fun (r : Bool) => Ending.returned (.bool r)) hr, hS.below⟩
        · refine cw_cond_f rfl hb133 ?_
          refine cw_exit ?_
          refine hQ132 _ _ _ ?_
          refine thn_x ?_
          refine hQ130 _ _ _ ?_
          refine thn_x ?_
          replace hF := exA hF hK122
          refine hQ120 _ _ _ ?_
          refine inb_s ?_
          refine hQ118 _ _ _ ?_
          refine thn_n ?_
          refine cw_seq ?_
          refine cw_gen ?_
          intro Q164 hQ164
          refine cw_reg ?_
          refine el_pv (v := .bool true) (pv_assign rfl) (by decide) ?_
          refine el_nil ?_
          refine hQ164 _ _ _ ?_
          refine thn_n ?_
          refine cw_ret ?_
          refine fin1 rfl rfl ?_
          have hr := Option.some.inj hF
          exact ⟨congrArg (fun (r : Bool) => Ending.returned (.bool r)) hr, hS.below⟩
  · refine el_off rfl (bnot_f hb115) rfl (by decide) ?_
    refine el_off rfl (bnot_f hb115) rfl (by decide) ?_
    refine el_off rfl (bnot_f hb115) rfl (by decide) ?_
    refine el_off rfl (bnot_f hb115) rfl (by decide) ?_
    refine el_off rfl (bnot_f hb115) rfl (by decide) ?_
    refine el_off rfl (bnot_f hb115) rfl (by decide) ?_
    refine el_off rfl (bnot_f hb115) rfl (by decide) ?_
    refine el_pv (v := .bool true) (pv_pick_t rfl (bnot_f hb115) rfl) (by decide) ?_
    refine el_nil ?_
    refine hQ111 _ _ _ ?_
    refine thn_n ?_
    refine cw_cond_t rfl rfl ?_
    refine cw_seq ?_
    refine cw_gen ?_
    intro Q165 hQ165
    refine cw_reg ?_
    refine el_pv (v := .bool false) (pv_assign rfl) (by decide) ?_
    refine el_nil ?_
    refine hQ165 _ _ _ ?_
    refine thn_n ?_
    refine cw_ret ?_
    refine hQ110 _ _ _ ?_
    refine thn_r ?_
    refine fin1 rfl rfl ?_
    have hr := Option.some.inj hF
    exact ⟨congrArg (fun (r : Bool) => Ending.returned (.bool r)) hr, hS.below⟩
set_option maxHeartbeats 4000000 in
theorem laws_eqIntS_ok {w0 : World} {u0 : Value} {a0 : List Int} {u1 : Value} {a1 : List Int} (ha0 : (sliceR intR 3).rd w0 [u0] a0) (ha1 : (sliceR intR 3).rd w0 [u1] a1) {N : Nat} {r : Bool} (hF : laws_eqIntS N a0 a1 = some r) :
    Calls Try.prog 51 #[u0, u1] w0 fun e w' => e = .returned (.bool r) ∧ Ext w0 w' := by
  unfold laws_eqIntS at hF
  refine calls_E Try.func51 rfl rfl (of_decide_eq_true rfl) ?_
  have hS := Sat.start w0
  refine cw_seq ?_
  refine cw_gen ?_
  intro Q101 hQ101
  refine cw_reg ?_
  refine el_pv (v := .bool false) (pv_assign rfl) (by decide) ?_
  refine el_nil ?_
  refine hQ101 _ _ _ ?_
  refine thn_n ?_
  refine cw_seq ?_
  refine cw_gen ?_
  intro Q102 hQ102
  refine cw_seq ?_
  refine cw_gen ?_
  intro Q103 hQ103
  refine cw_reg ?_
  refine el_pv (v := u0) (pv_move rfl) (by decide) ?_
  refine el_pv (v := .int .i64 (a0.length : Int)) (pv_len rfl ha0) (by decide) ?_
  refine el_pv (v := u1) (pv_move rfl) (by decide) ?_
  refine el_pv (v := .int .i64 (a1.length : Int)) (pv_len rfl ha1) (by decide) ?_
  refine el_pv (v := .bool ((a0.length : Int) != (a1.length : Int))) (pv_neq rfl rfl) (by decide) ?_
  refine el_nil ?_
  refine hQ103 _ _ _ ?_
  refine thn_n ?_
  replace hF := oif hF
  rcases hF with ⟨hb104, hF⟩ | ⟨hb104, hF⟩
  · refine cw_cond_t rfl hb104 ?_
    refine cw_seq ?_
    refine cw_gen ?_
    intro Q105 hQ105
    refine cw_reg ?_
    refine el_pv (v := .bool false) (pv_assign rfl) (by decide) ?_
    refine el_nil ?_
    refine hQ105 _ _ _ ?_
    refine thn_n ?_
    refine cw_ret ?_
    refine hQ102 _ _ _ ?_
    refine thn_r ?_
    refine fin1 rfl rfl ?_
    have hr := Option.some.inj hF
    exact ⟨congrArg (fun (r : Bool) => Ending.returned (.bool r)) hr, hS.below⟩
  · refine cw_cond_f rfl hb104 ?_
    refine cw_skip ?_
    refine hQ102 _ _ _ ?_
    refine thn_n ?_
    refine cw_seq ?_
    refine cw_gen ?_
    intro Q106 hQ106
    refine cw_seq ?_
    refine cw_gen ?_
    intro Q107 hQ107
    refine cw_reg ?_
    refine el_pv (v := .int .i64 0) (pv_assign rfl) (by decide) ?_
    refine el_nil ?_
    refine hQ107 _ _ _ ?_
    refine thn_n ?_
    refine cw_block ?_
    refine cw_gen ?_
    intro Q108 hQ108
    obtain ⟨s109, hL, hK110⟩ := ob hF
    refine cw_loopS (fun k e w => ∃ (x111 : Int), e 0 = u0 ∧ e 1 = u1 ∧ e 5 = .int .i64 x111 ∧ Sat w0 w [] ∧ laws_eqIntS_L1 N k a0 a1 x111 = some s109) N ?_ ?_ ?_
    · exact ⟨0, rfl, rfl, rfl, hS, hL⟩
    · rintro e w ⟨_, _, _, _, _, hz⟩; exact nomatch (show none = some _ from hz)
    · rintro k e116 w115 ⟨x111, he112, he113, he114, hS, hF⟩
      refine cw_gen ?_
      intro Q117 hQ117
      refine cw_seq ?_
      refine cw_gen ?_
      intro Q118 hQ118
      refine cw_seq ?_
      refine cw_gen ?_
      intro Q119 hQ119
      refine cw_reg ?_
      refine el_pv (v := .int .i64 x111) (pv_move he114) (by decide) ?_
      refine el_pv (v := u0) (pv_move he112) (by decide) ?_
      refine el_pv (v := .int .i64 (a0.length : Int)) (pv_len rfl ha0) (by decide) ?_
      refine el_pv (v := .bool (decide (x111 < (a0.length : Int)))) (pv_lss rfl rfl) (by decide) ?_
      refine el_nil ?_
      refine hQ119 _ _ _ ?_
      refine thn_n ?_
      replace hF := oif hF
      rcases hF with ⟨hb120, hF⟩ | ⟨hb120, hF⟩
      · refine cw_cond_t rfl hb120 ?_
        refine cw_skip ?_
        refine hQ118 _ _ _ ?_
        refine thn_n ?_
        refine cw_seq ?_
        refine cw_gen ?_
        intro Q121 hQ121
        refine cw_block ?_
        refine cw_gen ?_
        intro Q122 hQ122
        refine cw_seq ?_
        refine cw_gen ?_
        intro Q123 hQ123
        refine cw_regq (by kernel_rfl) (by kernel_rfl) ?_
        refine ql_pv (v := u0) (pv_move he112) (by decide) ?_
        refine ql_pv (v := .int .i64 x111) (pv_move he114) (by decide) ?_
        replace hF := ob hF
        obtain ⟨x124, hx124, hF⟩ := hF
        refine ql_index (wA := w0) rfl ha0 rfl (by decide) rfl hx124 (by decide) ?_
        intro b125 of126 c127 hr128 hm129
        obtain rfl := hr128
        refine ql_pv (v := .int .i64 x124) (pv_loadc rfl ((cells_up hS.below hm129) 0 _ rfl)) (by decide) ?_
        refine ql_pv (v := u1) (pv_move he113) (by decide) ?_
        refine ql_pv (v := .int .i64 x111) (pv_move he114) (by decide) ?_
        replace hF := ob hF
        obtain ⟨x130, hx130, hF⟩ := hF
        refine ql_index (wA := w0) rfl ha1 rfl (by decide) rfl hx130 (by decide) ?_
        intro b131 of132 c133 hr134 hm135
        obtain rfl := hr134
        refine ql_pv (v := .int .i64 x130) (pv_loadc rfl ((cells_up hS.below hm135) 0 _ rfl)) (by decide) ?_
        refine ql_pv (v := .bool (x124 != x130)) (pv_neq rfl rfl) (by decide) ?_
        refine ql_nil ?_
        intro w136 hx137
        replace hS := hS.ext hx137
        refine hQ123 _ _ _ ?_
        refine thn_n ?_
        replace hF := oif hF
        rcases hF with ⟨hb138, hF⟩ | ⟨hb138, hF⟩
        · refine cw_cond_t rfl hb138 ?_
          refine cw_seq ?_
          refine cw_gen ?_
          intro Q139 hQ139
          refine cw_reg ?_
          refine el_pv (v := .bool false) (pv_assign rfl) (by decide) ?_
          refine el_nil ?_
          refine hQ139 _ _ _ ?_
          refine thn_n ?_
          refine cw_ret ?_
          refine hQ122 _ _ _ ?_
          refine inb_r ?_
          refine hQ121 _ _ _ ?_
          refine thn_r ?_
          refine hQ117 _ _ _ ?_
          refine thn_r ?_
          refine hQ108 _ _ _ ?_
          refine inb_r ?_
          refine hQ106 _ _ _ ?_
          refine thn_r ?_
          replace hF := exL hF hK110
          refine fin1 rfl rfl ?_
          have hr := Option.some.inj hF
          exact ⟨congrArg (fun (r : Bool) => Ending.returned (.bool r)) hr, hS.below⟩
        · refine cw_cond_f rfl hb138 ?_
          refine cw_skip ?_
          refine hQ122 _ _ _ ?_
          refine inb_n ?_
          refine hQ121 _ _ _ ?_
          refine thn_n ?_
          refine cw_reg ?_
          refine el_pv (v := .int .i64 x111) (pv_move he114) (by decide) ?_
          replace hF := ob hF
          obtain ⟨x140, hx140, hF⟩ := hF
          refine el_pv (v := .int .i64 x140) (pv_add rfl rfl hx140) (by decide) ?_
          refine el_pv (v := .int .i64 x140) (pv_assign rfl) (by decide) ?_
          refine el_nil ?_
          refine hQ117 _ _ _ ?_
          refine thn_n ?_
          replace hS := hS.keep 0
          exact ⟨x140, he112, he113, rfl, hS, hF⟩
      · refine cw_cond_f rfl hb120 ?_
        refine cw_exit ?_
        refine hQ118 _ _ _ ?_
        refine thn_x ?_
        refine hQ117 _ _ _ ?_
        refine thn_x ?_
        replace hF := exA hF hK110
        refine hQ108 _ _ _ ?_
        refine inb_s ?_
        refine hQ106 _ _ _ ?_
        refine thn_n ?_
        refine cw_seq ?_
        refine cw_gen ?_
        intro Q141 hQ141
        refine cw_reg ?_
        refine el_pv (v := .bool true) (pv_assign rfl) (by decide) ?_
        refine el_nil ?_
        refine hQ141 _ _ _ ?_
        refine thn_n ?_
        refine cw_ret ?_
        refine fin1 rfl rfl ?_
        have hr := Option.some.inj hF
        exact ⟨congrArg (fun (r : Bool) => Ending.returned (.bool r)) hr, hS.below⟩
set_option maxHeartbeats 4000000 in
theorem laws_eqFactorNode_ok {w0 : World} {u0 : Value} {a0 : List Int} {u1 : Value} {a1 : List Int} {u2 : Value} {a2 : List Int} {u3 : Value} {a3 : List Int} (ha0 : (sliceR intR 3).rd w0 [u0] a0) (ha1 : (sliceR intR 3).rd w0 [u1] a1) (ha2 : (sliceR intR 3).rd w0 [u2] a2) (ha3 : (sliceR intR 3).rd w0 [u3] a3) {N : Nat} {r : Bool} (hF : laws_eqFactorNode N a0 a1 a2 a3 = some r) :
    Calls Try.prog 81 #[.agg #[u0, u1], .agg #[u2, u3]] w0 fun e w' => e = .returned (.bool r) ∧ Ext w0 w' := by
  unfold laws_eqFactorNode at hF
  refine calls_E Try.func81 rfl rfl (of_decide_eq_true rfl) ?_
  have hS := Sat.start w0
  refine cw_seq ?_
  refine cw_gen ?_
  intro Q101 hQ101
  refine cw_reg ?_
  refine el_box [u0, u1] rfl hS (by decide) ?_
  intro w102 b103 hS hx104
  refine el_box [u2, u3] rfl hS (by decide) ?_
  intro w106 b107 hS hx108
  refine el_pv (v := .bool false) (pv_assign rfl) (by decide) ?_
  refine el_nil ?_
  refine hQ101 _ _ _ ?_
  refine thn_n ?_
  refine cw_seq ?_
  refine cw_gen ?_
  intro Q110 hQ110
  refine cw_seq ?_
  refine cw_gen ?_
  intro Q111 hQ111
  refine cw_reg ?_
  refine el_pv (v := .pointer (some ⟨b103, 0 + 0, none⟩)) (pv_fieldAddr rfl) (by decide) ?_
  refine el_pv (v := u0) (pv_loadc rfl ((hS.boxAt 1 rfl) 0 _ rfl)) (by decide) ?_
  refine el_pv (v := .pointer (some ⟨b107, 0 + 0, none⟩)) (pv_fieldAddr rfl) (by decide) ?_
  refine el_pv (v := u2) (pv_loadc rfl ((hS.boxAt 0 rfl) 0 _ rfl)) (by decide) ?_
  replace hF := ob hF
  obtain ⟨r112, hr112, hF⟩ := hF
  refine el_call goes51 (laws_eqIntS_ok (hS.up ha0) (hS.up ha2) hr112) (congrArg List.toArray (mapc rfl (mapc rfl rfl))) (by decide) ?_
  rintro _ w113 ⟨rfl, hx114⟩
  refine ⟨_, rfl, ?_⟩
  replace hS := hS.ext hx114
  refine el_pv (v := .bool (!r112)) (pv_not rfl) (by decide) ?_
  refine el_nil ?_
  refine hQ111 _ _ _ ?_
  refine thn_n ?_
  replace hF := oif hF
  rcases hF with ⟨hb115, hF⟩ | ⟨hb115, hF⟩
  · refine cw_cond_f rfl (bnot_t hb115) ?_
    refine cw_skip ?_
    refine hQ110 _ _ _ ?_
    refine thn_n ?_
    refine cw_seq ?_
    refine cw_gen ?_
    intro Q116 hQ116
    refine cw_seq ?_
    refine cw_gen ?_
    intro Q117 hQ117
    refine cw_reg ?_
    refine el_pv (v := .pointer (some ⟨b103, 0 + 1, none⟩)) (pv_fieldAddr rfl) (by decide) ?_
    refine el_pv (v := u1) (pv_loadc rfl ((hS.boxAt 1 rfl) 1 _ rfl)) (by decide) ?_
    refine el_pv (v := .pointer (some ⟨b107, 0 + 1, none⟩)) (pv_fieldAddr rfl) (by decide) ?_
    refine el_pv (v := u3) (pv_loadc rfl ((hS.boxAt 0 rfl) 1 _ rfl)) (by decide) ?_
    replace hF := ob hF
    obtain ⟨r118, hr118, hF⟩ := hF
    refine el_call goes51 (laws_eqIntS_ok (hS.up ha1) (hS.up ha3) hr118) (congrArg List.toArray (mapc rfl (mapc rfl rfl))) (by decide) ?_
    rintro _ w119 ⟨rfl, hx120⟩
    refine ⟨_, rfl, ?_⟩
    replace hS := hS.ext hx120
    refine el_pv (v := .bool (!r118)) (pv_not rfl) (by decide) ?_
    refine el_nil ?_
    refine hQ117 _ _ _ ?_
    refine thn_n ?_
    replace hF := oif hF
    rcases hF with ⟨hb121, hF⟩ | ⟨hb121, hF⟩
    · refine cw_cond_f rfl (bnot_t hb121) ?_
      refine cw_skip ?_
      refine hQ116 _ _ _ ?_
      refine thn_n ?_
      refine cw_seq ?_
      refine cw_gen ?_
      intro Q122 hQ122
      refine cw_reg ?_
      refine el_pv (v := .bool true) (pv_assign rfl) (by decide) ?_
      refine el_nil ?_
      refine hQ122 _ _ _ ?_
      refine thn_n ?_
      refine cw_ret ?_
      refine fin1 rfl rfl ?_
      have hr := Option.some.inj hF
      exact ⟨congrArg (fun (r : Bool) => Ending.returned (.bool r)) hr, hS.below⟩
    · refine cw_cond_t rfl (bnot_f hb121) ?_
      refine cw_seq ?_
      refine cw_gen ?_
      intro Q123 hQ123
      refine cw_reg ?_
      refine el_pv (v := .bool false) (pv_assign rfl) (by decide) ?_
      refine el_nil ?_
      refine hQ123 _ _ _ ?_
      refine thn_n ?_
      refine cw_ret ?_
      refine hQ116 _ _ _ ?_
      refine thn_r ?_
      refine fin1 rfl rfl ?_
      have hr := Option.some.inj hF
      exact ⟨congrArg (fun (r : Bool) => Ending.returned (.bool r)) hr, hS.below⟩
  · refine cw_cond_t rfl (bnot_f hb115) ?_
    refine cw_seq ?_
    refine cw_gen ?_
    intro Q124 hQ124
    refine cw_reg ?_
    refine el_pv (v := .bool false) (pv_assign rfl) (by decide) ?_
    refine el_nil ?_
    refine hQ124 _ _ _ ?_
    refine thn_n ?_
    refine cw_ret ?_
    refine hQ110 _ _ _ ?_
    refine thn_r ?_
    refine fin1 rfl rfl ?_
    have hr := Option.some.inj hF
    exact ⟨congrArg (fun (r : Bool) => Ending.returned (.bool r)) hr, hS.below⟩
set_option maxHeartbeats 4000000 in
theorem laws_eqFactorNodeS_ok {w0 : World} {u0 : Value} {a0 : List (List Int × List Int)} {u1 : Value} {a1 : List (List Int × List Int)} (ha0 : (sliceR (pairR (sliceR intR 3) (sliceR intR 3)) 67).rd w0 [u0] a0) (ha1 : (sliceR (pairR (sliceR intR 3) (sliceR intR 3)) 67).rd w0 [u1] a1) {N : Nat} {r : Bool} (hF : laws_eqFactorNodeS N a0 a1 = some r) :
    Calls Try.prog 52 #[u0, u1] w0 fun e w' => e = .returned (.bool r) ∧ Ext w0 w' := by
  unfold laws_eqFactorNodeS at hF
  refine calls_E Try.func52 rfl rfl (of_decide_eq_true rfl) ?_
  have hS := Sat.start w0
  refine cw_seq ?_
  refine cw_gen ?_
  intro Q101 hQ101
  refine cw_reg ?_
  refine el_pv (v := .bool false) (pv_assign rfl) (by decide) ?_
  refine el_nil ?_
  refine hQ101 _ _ _ ?_
  refine thn_n ?_
  refine cw_seq ?_
  refine cw_gen ?_
  intro Q102 hQ102
  refine cw_seq ?_
  refine cw_gen ?_
  intro Q103 hQ103
  refine cw_reg ?_
  refine el_pv (v := u0) (pv_move rfl) (by decide) ?_
  refine el_pv (v := .int .i64 (a0.length : Int)) (pv_len rfl ha0) (by decide) ?_
  refine el_pv (v := u1) (pv_move rfl) (by decide) ?_
  refine el_pv (v := .int .i64 (a1.length : Int)) (pv_len rfl ha1) (by decide) ?_
  refine el_pv (v := .bool ((a0.length : Int) != (a1.length : Int))) (pv_neq rfl rfl) (by decide) ?_
  refine el_nil ?_
  refine hQ103 _ _ _ ?_
  refine thn_n ?_
  replace hF := oif hF
  rcases hF with ⟨hb104, hF⟩ | ⟨hb104, hF⟩
  · refine cw_cond_t rfl hb104 ?_
    refine cw_seq ?_
    refine cw_gen ?_
    intro Q105 hQ105
    refine cw_reg ?_
    refine el_pv (v := .bool false) (pv_assign rfl) (by decide) ?_
    refine el_nil ?_
    refine hQ105 _ _ _ ?_
    refine thn_n ?_
    refine cw_ret ?_
    refine hQ102 _ _ _ ?_
    refine thn_r ?_
    refine fin1 rfl rfl ?_
    have hr := Option.some.inj hF
    exact ⟨congrArg (fun (r : Bool) => Ending.returned (.bool r)) hr, hS.below⟩
  · refine cw_cond_f rfl hb104 ?_
    refine cw_skip ?_
    refine hQ102 _ _ _ ?_
    refine thn_n ?_
    refine cw_seq ?_
    refine cw_gen ?_
    intro Q106 hQ106
    refine cw_seq ?_
    refine cw_gen ?_
    intro Q107 hQ107
    refine cw_reg ?_
    refine el_pv (v := .int .i64 0) (pv_assign rfl) (by decide) ?_
    refine el_nil ?_
    refine hQ107 _ _ _ ?_
    refine thn_n ?_
    refine cw_block ?_
    refine cw_gen ?_
    intro Q108 hQ108
    obtain ⟨s109, hL, hK110⟩ := ob hF
    refine cw_loopS (fun k e w => ∃ (x111 : Int), e 0 = u0 ∧ e 1 = u1 ∧ e 5 = .int .i64 x111 ∧ Sat w0 w [] ∧ laws_eqFactorNodeS_L1 N k a0 a1 x111 = some s109) N ?_ ?_ ?_
    · exact ⟨0, rfl, rfl, rfl, hS, hL⟩
    · rintro e w ⟨_, _, _, _, _, hz⟩; exact nomatch (show none = some _ from hz)
    · rintro k e116 w115 ⟨x111, he112, he113, he114, hS, hF⟩
      refine cw_gen ?_
      intro Q117 hQ117
      refine cw_seq ?_
      refine cw_gen ?_
      intro Q118 hQ118
      refine cw_seq ?_
      refine cw_gen ?_
      intro Q119 hQ119
      refine cw_reg ?_
      refine el_pv (v := .int .i64 x111) (pv_move he114) (by decide) ?_
      refine el_pv (v := u0) (pv_move he112) (by decide) ?_
      refine el_pv (v := .int .i64 (a0.length : Int)) (pv_len rfl ha0) (by decide) ?_
      refine el_pv (v := .bool (decide (x111 < (a0.length : Int)))) (pv_lss rfl rfl) (by decide) ?_
      refine el_nil ?_
      refine hQ119 _ _ _ ?_
      refine thn_n ?_
      replace hF := oif hF
      rcases hF with ⟨hb120, hF⟩ | ⟨hb120, hF⟩
      · refine cw_cond_t rfl hb120 ?_
        refine cw_skip ?_
        refine hQ118 _ _ _ ?_
        refine thn_n ?_
        refine cw_seq ?_
        refine cw_gen ?_
        intro Q121 hQ121
        refine cw_block ?_
        refine cw_gen ?_
        intro Q122 hQ122
        refine cw_seq ?_
        refine cw_gen ?_
        intro Q123 hQ123
        refine cw_regq (by kernel_rfl) (by kernel_rfl) ?_
        refine ql_pv (v := u0) (pv_move he112) (by decide) ?_
        refine ql_pv (v := .int .i64 x111) (pv_move he114) (by decide) ?_
        replace hF := ob hF
        obtain ⟨x124, hx124, hF⟩ := hF
        refine ql_index (wA := w0) rfl ha0 rfl (by decide) rfl hx124 (by decide) ?_
        intro b125 of126 c127 hr128 hm129
        obtain ⟨_, _, rfl, hr130, hr131⟩ := hr128
        obtain ⟨v132, rfl⟩ := slice_one hr130
        obtain ⟨v133, rfl⟩ := slice_one hr131
        refine ql_pv (v := .agg #[v132, v133]) (pv_loada (cs := [v132, v133]) rfl rfl (cells_up hS.below hm129)) (by decide) ?_
        refine ql_pv (v := u1) (pv_move he113) (by decide) ?_
        refine ql_pv (v := .int .i64 x111) (pv_move he114) (by decide) ?_
        replace hF := ob hF
        obtain ⟨x134, hx134, hF⟩ := hF
        refine ql_index (wA := w0) rfl ha1 rfl (by decide) rfl hx134 (by decide) ?_
        intro b135 of136 c137 hr138 hm139
        obtain ⟨_, _, rfl, hr140, hr141⟩ := hr138
        obtain ⟨v142, rfl⟩ := slice_one hr140
        obtain ⟨v143, rfl⟩ := slice_one hr141
        refine ql_pv (v := .agg #[v142, v143]) (pv_loada (cs := [v142, v143]) rfl rfl (cells_up hS.below hm139)) (by decide) ?_
        replace hF := ob hF
        obtain ⟨r144, hr144, hF⟩ := hF
        refine ql_call (.bool r144) goes81 (fun w' hw' => laws_eqFactorNode_ok (rd_up (hS.up hr130) hw') (rd_up (hS.up hr131) hw') (rd_up (hS.up hr140) hw') (rd_up (hS.up hr141) hw') hr144) (congrArg List.toArray (mapc rfl (mapc rfl rfl))) (by decide) ?_
        refine ql_pv (v := .bool (!r144)) (pv_not rfl) (by decide) ?_
        refine ql_nil ?_
        intro w145 hx146
        replace hS := hS.ext hx146
        refine hQ123 _ _ _ ?_
        refine thn_n ?_
        replace hF := oif hF
        rcases hF with ⟨hb147, hF⟩ | ⟨hb147, hF⟩
        · refine cw_cond_f rfl (bnot_t hb147) ?_
          refine cw_skip ?_
          refine hQ122 _ _ _ ?_
          refine inb_n ?_
          refine hQ121 _ _ _ ?_
          refine thn_n ?_
          refine cw_reg ?_
          refine el_pv (v := .int .i64 x111) (pv_move he114) (by decide) ?_
          replace hF := ob hF
          obtain ⟨x148, hx148, hF⟩ := hF
          refine el_pv (v := .int .i64 x148) (pv_add rfl rfl hx148) (by decide) ?_
          refine el_pv (v := .int .i64 x148) (pv_assign rfl) (by decide) ?_
          refine el_nil ?_
          refine hQ117 _ _ _ ?_
          refine thn_n ?_
          replace hS := hS.keep 0
          exact ⟨x148, he112, he113, rfl, hS, hF⟩
        · refine cw_cond_t rfl (bnot_f hb147) ?_
          refine cw_seq ?_
          refine cw_gen ?_
          intro Q149 hQ149
          refine cw_reg ?_
          refine el_pv (v := .bool false) (pv_assign rfl) (by decide) ?_
          refine el_nil ?_
          refine hQ149 _ _ _ ?_
          refine thn_n ?_
          refine cw_ret ?_
          refine hQ122 _ _ _ ?_
          refine inb_r ?_
          refine hQ121 _ _ _ ?_
          refine thn_r ?_
          refine hQ117 _ _ _ ?_
          refine thn_r ?_
          refine hQ108 _ _ _ ?_
          refine inb_r ?_
          refine hQ106 _ _ _ ?_
          refine thn_r ?_
          replace hF := exL hF hK110
          refine fin1 rfl rfl ?_
          have hr := Option.some.inj hF
          exact ⟨congrArg (fun (r : Bool) => Ending.returned (.bool r)) hr, hS.below⟩
      · refine cw_cond_f rfl hb120 ?_
        refine cw_exit ?_
        refine hQ118 _ _ _ ?_
        refine thn_x ?_
        refine hQ117 _ _ _ ?_
        refine thn_x ?_
        replace hF := exA hF hK110
        refine hQ108 _ _ _ ?_
        refine inb_s ?_
        refine hQ106 _ _ _ ?_
        refine thn_n ?_
        refine cw_seq ?_
        refine cw_gen ?_
        intro Q150 hQ150
        refine cw_reg ?_
        refine el_pv (v := .bool true) (pv_assign rfl) (by decide) ?_
        refine el_nil ?_
        refine hQ150 _ _ _ ?_
        refine thn_n ?_
        refine cw_ret ?_
        refine fin1 rfl rfl ?_
        have hr := Option.some.inj hF
        exact ⟨congrArg (fun (r : Bool) => Ending.returned (.bool r)) hr, hS.below⟩
set_option maxHeartbeats 4000000 in
theorem laws_eqFactorization_ok {w0 : World} {u0 : Value} {a0 : List Int} {u1 : Value} {a1 : List (List Int × List Int)} {u2 : Value} {a2 : List Int} {u3 : Value} {a3 : List (List Int × List Int)} (ha0 : (sliceR intR 3).rd w0 [u0] a0) (ha1 : (sliceR (pairR (sliceR intR 3) (sliceR intR 3)) 67).rd w0 [u1] a1) (ha2 : (sliceR intR 3).rd w0 [u2] a2) (ha3 : (sliceR (pairR (sliceR intR 3) (sliceR intR 3)) 67).rd w0 [u3] a3) {N : Nat} {r : Bool} (hF : laws_eqFactorization N a0 a1 a2 a3 = some r) :
    Calls Try.prog 13 #[.agg #[u0, u1], .agg #[u2, u3]] w0 fun e w' => e = .returned (.bool r) ∧ Ext w0 w' := by
  unfold laws_eqFactorization at hF
  refine calls_E Try.func13 rfl rfl (of_decide_eq_true rfl) ?_
  have hS := Sat.start w0
  refine cw_seq ?_
  refine cw_gen ?_
  intro Q101 hQ101
  refine cw_reg ?_
  refine el_box [u0, u1] rfl hS (by decide) ?_
  intro w102 b103 hS hx104
  refine el_box [u2, u3] rfl hS (by decide) ?_
  intro w106 b107 hS hx108
  refine el_pv (v := .bool false) (pv_assign rfl) (by decide) ?_
  refine el_nil ?_
  refine hQ101 _ _ _ ?_
  refine thn_n ?_
  refine cw_seq ?_
  refine cw_gen ?_
  intro Q110 hQ110
  refine cw_seq ?_
  refine cw_gen ?_
  intro Q111 hQ111
  refine cw_reg ?_
  refine el_pv (v := .pointer (some ⟨b103, 0 + 0, none⟩)) (pv_fieldAddr rfl) (by decide) ?_
  refine el_pv (v := u0) (pv_loadc rfl ((hS.boxAt 1 rfl) 0 _ rfl)) (by decide) ?_
  refine el_pv (v := .pointer (some ⟨b107, 0 + 0, none⟩)) (pv_fieldAddr rfl) (by decide) ?_
  refine el_pv (v := u2) (pv_loadc rfl ((hS.boxAt 0 rfl) 0 _ rfl)) (by decide) ?_
  replace hF := ob hF
  obtain ⟨r112, hr112, hF⟩ := hF
  refine el_call goes51 (laws_eqIntS_ok (hS.up ha0) (hS.up ha2) hr112) (congrArg List.toArray (mapc rfl (mapc rfl rfl))) (by decide) ?_
  rintro _ w113 ⟨rfl, hx114⟩
  refine ⟨_, rfl, ?_⟩
  replace hS := hS.ext hx114
  refine el_pv (v := .bool (!r112)) (pv_not rfl) (by decide) ?_
  refine el_nil ?_
  refine hQ111 _ _ _ ?_
  refine thn_n ?_
  replace hF := oif hF
  rcases hF with ⟨hb115, hF⟩ | ⟨hb115, hF⟩
  · refine cw_cond_f rfl (bnot_t hb115) ?_
    refine cw_skip ?_
    refine hQ110 _ _ _ ?_
    refine thn_n ?_
    refine cw_seq ?_
    refine cw_gen ?_
    intro Q116 hQ116
    refine cw_seq ?_
    refine cw_gen ?_
    intro Q117 hQ117
    refine cw_reg ?_
    refine el_pv (v := .pointer (some ⟨b103, 0 + 1, none⟩)) (pv_fieldAddr rfl) (by decide) ?_
    refine el_pv (v := u1) (pv_loadc rfl ((hS.boxAt 1 rfl) 1 _ rfl)) (by decide) ?_
    refine el_pv (v := .pointer (some ⟨b107, 0 + 1, none⟩)) (pv_fieldAddr rfl) (by decide) ?_
    refine el_pv (v := u3) (pv_loadc rfl ((hS.boxAt 0 rfl) 1 _ rfl)) (by decide) ?_
    replace hF := ob hF
    obtain ⟨r118, hr118, hF⟩ := hF
    refine el_call goes52 (laws_eqFactorNodeS_ok (hS.up ha1) (hS.up ha3) hr118) (congrArg List.toArray (mapc rfl (mapc rfl rfl))) (by decide) ?_
    rintro _ w119 ⟨rfl, hx120⟩
    refine ⟨_, rfl, ?_⟩
    replace hS := hS.ext hx120
    refine el_pv (v := .bool (!r118)) (pv_not rfl) (by decide) ?_
    refine el_nil ?_
    refine hQ117 _ _ _ ?_
    refine thn_n ?_
    replace hF := oif hF
    rcases hF with ⟨hb121, hF⟩ | ⟨hb121, hF⟩
    · refine cw_cond_f rfl (bnot_t hb121) ?_
      refine cw_skip ?_
      refine hQ116 _ _ _ ?_
      refine thn_n ?_
      refine cw_seq ?_
      refine cw_gen ?_
      intro Q122 hQ122
      refine cw_reg ?_
      refine el_pv (v := .bool true) (pv_assign rfl) (by decide) ?_
      refine el_nil ?_
      refine hQ122 _ _ _ ?_
      refine thn_n ?_
      refine cw_ret ?_
      refine fin1 rfl rfl ?_
      have hr := Option.some.inj hF
      exact ⟨congrArg (fun (r : Bool) => Ending.returned (.bool r)) hr, hS.below⟩
    · refine cw_cond_t rfl (bnot_f hb121) ?_
      refine cw_seq ?_
      refine cw_gen ?_
      intro Q123 hQ123
      refine cw_reg ?_
      refine el_pv (v := .bool false) (pv_assign rfl) (by decide) ?_
      refine el_nil ?_
      refine hQ123 _ _ _ ?_
      refine thn_n ?_
      refine cw_ret ?_
      refine hQ116 _ _ _ ?_
      refine thn_r ?_
      refine fin1 rfl rfl ?_
      have hr := Option.some.inj hF
      exact ⟨congrArg (fun (r : Bool) => Ending.returned (.bool r)) hr, hS.below⟩
  · refine cw_cond_t rfl (bnot_f hb115) ?_
    refine cw_seq ?_
    refine cw_gen ?_
    intro Q124 hQ124
    refine cw_reg ?_
    refine el_pv (v := .bool false) (pv_assign rfl) (by decide) ?_
    refine el_nil ?_
    refine hQ124 _ _ _ ?_
    refine thn_n ?_
    refine cw_ret ?_
    refine hQ110 _ _ _ ?_
    refine thn_r ?_
    refine fin1 rfl rfl ?_
    have hr := Option.some.inj hF
    exact ⟨congrArg (fun (r : Bool) => Ending.returned (.bool r)) hr, hS.below⟩
set_option maxHeartbeats 4000000 in
theorem laws_FnExactEqualFactorizations_ok {w0 : World} {u0 : Value} {a0 : List Int} {u1 : Value} {a1 : List (List Int × List Int)} {u2 : Value} {a2 : List Int} {u3 : Value} {a3 : List (List Int × List Int)} (ha0 : (sliceR intR 3).rd w0 [u0] a0) (ha1 : (sliceR (pairR (sliceR intR 3) (sliceR intR 3)) 89).rd w0 [u1] a1) (ha2 : (sliceR intR 3).rd w0 [u2] a2) (ha3 : (sliceR (pairR (sliceR intR 3) (sliceR intR 3)) 89).rd w0 [u3] a3) {N : Nat} {r : Bool} (hF : laws_FnExactEqualFactorizations N a0 a1 a2 a3 = some r) :
    Calls Try.prog 3 #[.agg #[u0, u1], .agg #[u2, u3]] w0 fun e w' => e = .returned (.bool r) ∧ Ext w0 w' := by
  unfold laws_FnExactEqualFactorizations at hF
  refine calls_E Try.func3 rfl rfl (of_decide_eq_true rfl) ?_
  have hS := Sat.start w0
  refine cw_seq ?_
  refine cw_gen ?_
  intro Q101 hQ101
  refine cw_reg ?_
  refine el_box [u0, u1] rfl hS (by decide) ?_
  intro w102 b103 hS hx104
  refine el_box [u2, u3] rfl hS (by decide) ?_
  intro w106 b107 hS hx108
  refine el_pv (v := .bool false) (pv_assign rfl) (by decide) ?_
  refine el_nil ?_
  refine hQ101 _ _ _ ?_
  refine thn_n ?_
  refine cw_seq ?_
  refine cw_gen ?_
  intro Q110 hQ110
  refine cw_reg ?_
  refine el_pv (v := .int .i64 1048576) (pv_assign rfl) (by decide) ?_
  refine el_nil ?_
  refine hQ110 _ _ _ ?_
  refine thn_n ?_
  refine cw_seq ?_
  refine cw_gen ?_
  intro Q111 hQ111
  refine cw_reg ?_
  refine el_pv (v := .agg #[u0, u1]) (pv_loada (cs := [u0, u1]) rfl rfl (boxc0 (hS.boxAt 1 rfl))) (by decide) ?_
  refine el_pv (v := .int .i64 1048576) (pv_move rfl) (by decide) ?_
  replace hF := ob hF
  obtain ⟨r112, hr112, hF⟩ := hF
  refine el_call goes9 (laws_szFactorization_ok (hS.up ha0) (hS.up ha1) hr112) (congrArg List.toArray (mapc rfl (mapc rfl rfl))) (by decide) ?_
  rintro _ w113 ⟨rfl, hx114⟩
  refine ⟨_, rfl, ?_⟩
  replace hS := hS.ext hx114
  refine el_pv (v := .int .i64 r112) (pv_assign rfl) (by decide) ?_
  refine el_nil ?_
  refine hQ111 _ _ _ ?_
  refine thn_n ?_
  refine cw_seq ?_
  refine cw_gen ?_
  intro Q115 hQ115
  refine cw_seq ?_
  refine cw_gen ?_
  intro Q116 hQ116
  refine cw_reg ?_
  refine el_pv (v := .int .i64 r112) (pv_move rfl) (by decide) ?_
  refine el_pv (v := .bool (decide (r112 < 0))) (pv_lss rfl rfl) (by decide) ?_
  refine el_nil ?_
  refine hQ116 _ _ _ ?_
  refine thn_n ?_
  replace hF := oif hF
  rcases hF with ⟨hb117, hF⟩ | ⟨hb117, hF⟩
  · refine cw_cond_t rfl hb117 ?_
    refine cw_seq ?_
    refine cw_gen ?_
    intro Q118 hQ118
    refine cw_reg ?_
    refine el_pv (v := .bool true) (pv_assign rfl) (by decide) ?_
    refine el_nil ?_
    refine hQ118 _ _ _ ?_
    refine thn_n ?_
    refine cw_ret ?_
    refine hQ115 _ _ _ ?_
    refine thn_r ?_
    refine fin1 rfl rfl ?_
    have hr := Option.some.inj hF
    exact ⟨congrArg (fun (r : Bool) => Ending.returned (.bool r)) hr, hS.below⟩
  · refine cw_cond_f rfl hb117 ?_
    refine cw_skip ?_
    refine hQ115 _ _ _ ?_
    refine thn_n ?_
    refine cw_seq ?_
    refine cw_gen ?_
    intro Q119 hQ119
    refine cw_reg ?_
    refine el_pv (v := .agg #[u2, u3]) (pv_loada (cs := [u2, u3]) rfl rfl (boxc0 (hS.boxAt 0 rfl))) (by decide) ?_
    refine el_pv (v := .int .i64 r112) (pv_move rfl) (by decide) ?_
    replace hF := ob hF
    obtain ⟨r120, hr120, hF⟩ := hF
    refine el_call goes9 (laws_szFactorization_ok (hS.up ha2) (hS.up ha3) hr120) (congrArg List.toArray (mapc rfl (mapc rfl rfl))) (by decide) ?_
    rintro _ w121 ⟨rfl, hx122⟩
    refine ⟨_, rfl, ?_⟩
    replace hS := hS.ext hx122
    refine el_pv (v := .int .i64 r120) (pv_assign rfl) (by decide) ?_
    refine el_nil ?_
    refine hQ119 _ _ _ ?_
    refine thn_n ?_
    refine cw_seq ?_
    refine cw_gen ?_
    intro Q123 hQ123
    refine cw_seq ?_
    refine cw_gen ?_
    intro Q124 hQ124
    refine cw_reg ?_
    refine el_pv (v := .int .i64 r120) (pv_move rfl) (by decide) ?_
    refine el_pv (v := .bool (decide (r120 < 0))) (pv_lss rfl rfl) (by decide) ?_
    refine el_nil ?_
    refine hQ124 _ _ _ ?_
    refine thn_n ?_
    replace hF := oif hF
    rcases hF with ⟨hb125, hF⟩ | ⟨hb125, hF⟩
    · refine cw_cond_t rfl hb125 ?_
      refine cw_seq ?_
      refine cw_gen ?_
      intro Q126 hQ126
      refine cw_reg ?_
      refine el_pv (v := .bool true) (pv_assign rfl) (by decide) ?_
      refine el_nil ?_
      refine hQ126 _ _ _ ?_
      refine thn_n ?_
      refine cw_ret ?_
      refine hQ123 _ _ _ ?_
      refine thn_r ?_
      refine fin1 rfl rfl ?_
      have hr := Option.some.inj hF
      exact ⟨congrArg (fun (r : Bool) => Ending.returned (.bool r)) hr, hS.below⟩
    · refine cw_cond_f rfl hb125 ?_
      refine cw_skip ?_
      refine hQ123 _ _ _ ?_
      refine thn_n ?_
      refine cw_seq ?_
      refine cw_gen ?_
      intro Q127 hQ127
      obtain ⟨C, hCd⟩ : ∃ C : World → Prop, ∀ w, C w ↔ ∃ G, Sat w0 w ([Box b107 25 [u2, u3], Box b103 25 [u0, u1]] ++ G) := ⟨_, fun _ => Iff.rfl⟩
      refine cw_regb [0, 1, 2, 3, 4, 5] C (by kernel_rfl) ?_
      intro w128 hx129
      replace hS := hS.ext hx129
      replace hS : Sat w0 w128 [Box b103 25 [u0, u1], Box b107 25 [u2, u3]] := hS.top 1 rfl
      replace hS : Sat w0 w128 [Box b107 25 [u2, u3], Box b103 25 [u0, u1]] := hS.top 1 rfl
      have hC := (hCd _).2 ⟨_, hS⟩
      refine al_p (v := .agg #[u0, u1]) (by kernel_rfl) 0 rfl rfl (by decide) hC (by kernel_rfl) (by kernel_rfl) (sv_on rfl (fun w' hw' => by obtain ⟨_, hS⟩ := (hCd _).1 hw'; exact (pv_loada (cs := [u0, u1]) rfl rfl (boxc0 (hS.boxAt 1 rfl))))) ?_
      refine al_p (v := .agg #[u2, u3]) (by kernel_rfl) 2 rfl rfl (by decide) hC (by kernel_rfl) (by kernel_rfl) (sv_on rfl (fun w' hw' => by obtain ⟨_, hS⟩ := (hCd _).1 hw'; exact (pv_loada (cs := [u2, u3]) rfl rfl (boxc0 (hS.boxAt 0 rfl))))) ?_
      refine al_one 1 (by kernel_rfl) rfl ?_
      replace hF := ob hF
      obtain ⟨r130, hr130, hF⟩ := hF
      refine el_call goes11 (laws_toFactorization_ok (hS.up ha0) (hS.up ha1) hr130) (congrArg List.toArray (mapc rfl rfl)) (by decide) ?_
      rintro _ w135 ⟨v131, v133, rfl, hS'⟩
      refine ⟨_, rfl, ?_⟩
      have hx136 := hS'.below
      replace hS := hS.call2 hS'
      refine el_nil ?_
      replace hS : Sat w0 w135 [Box b103 25 [u0, u1], Own (sliceR intR 3) [v131] r130.1, Own (sliceR (pairR (sliceR intR 3) (sliceR intR 3)) 67) [v133] r130.2, Box b107 25 [u2, u3]] := hS.top 3 rfl
      replace hS : Sat w0 w135 [Box b107 25 [u2, u3], Box b103 25 [u0, u1], Own (sliceR intR 3) [v131] r130.1, Own (sliceR (pairR (sliceR intR 3) (sliceR intR 3)) 67) [v133] r130.2] := hS.top 3 rfl
      have hC := (hCd _).2 ⟨_, hS⟩
      have hoc137 := oc (hS.rdAt (R := (sliceR intR 3)) 2 rfl)
      have hoc138 := oc (hS.rdAt (R := (sliceR (pairR (sliceR intR 3) (sliceR intR 3)) 67)) 3 rfl)
      refine ⟨fun _ => hC, ?_⟩
      refine al_one 3 (by kernel_rfl) rfl ?_
      replace hF := ob hF
      obtain ⟨r139, hr139, hF⟩ := hF
      refine el_call goes11 (laws_toFactorization_ok (hS.up ha2) (hS.up ha3) hr139) (congrArg List.toArray (mapc rfl rfl)) (by decide) ?_
      rintro _ w144 ⟨v140, v142, rfl, hS'⟩
      refine ⟨_, rfl, ?_⟩
      have hx145 := hS'.below
      replace hS := hS.call2 hS'
      refine el_nil ?_
      replace hS : Sat w0 w144 [Box b103 25 [u0, u1], Own (sliceR intR 3) [v140] r139.1, Own (sliceR (pairR (sliceR intR 3) (sliceR intR 3)) 67) [v142] r139.2, Box b107 25 [u2, u3], Own (sliceR intR 3) [v131] r130.1, Own (sliceR (pairR (sliceR intR 3) (sliceR intR 3)) 67) [v133] r130.2] := hS.top 3 rfl
      replace hS : Sat w0 w144 [Box b107 25 [u2, u3], Box b103 25 [u0, u1], Own (sliceR intR 3) [v140] r139.1, Own (sliceR (pairR (sliceR intR 3) (sliceR intR 3)) 67) [v142] r139.2, Own (sliceR intR 3) [v131] r130.1, Own (sliceR (pairR (sliceR intR 3) (sliceR intR 3)) 67) [v133] r130.2] := hS.top 3 rfl
      have hC := (hCd _).2 ⟨_, hS⟩
      have hoc146 := oc (hS.rdAt (R := (sliceR intR 3)) 2 rfl)
      have hoc147 := oc (hS.rdAt (R := (sliceR (pairR (sliceR intR 3) (sliceR intR 3)) 67)) 3 rfl)
      refine ⟨fun _ => hC, ?_⟩
      refine al_one 4 (by kernel_rfl) rfl ?_
      replace hF := ob hF
      obtain ⟨r148, hr148, hF⟩ := hF
      refine el_call goes10 (spec_EqualFactorizations_ok (hS.rdAt (R := (sliceR intR 3)) 4 rfl) (hS.rdAt (R := (sliceR (pairR (sliceR intR 3) (sliceR intR 3)) 67)) 5 rfl) (hS.rdAt (R := (sliceR intR 3)) 2 rfl) (hS.rdAt (R := (sliceR (pairR (sliceR intR 3) (sliceR intR 3)) 67)) 3 rfl) hr148) (congrArg List.toArray (mapc rfl (mapc rfl rfl))) (by decide) ?_
      rintro _ w149 ⟨rfl, hx150⟩
      refine ⟨_, rfl, ?_⟩
      replace hS := hS.ext hx150
      refine el_nil ?_
      replace hS : Sat w0 w149 [Box b103 25 [u0, u1], Box b107 25 [u2, u3], Own (sliceR intR 3) [v140] r139.1, Own (sliceR (pairR (sliceR intR 3) (sliceR intR 3)) 67) [v142] r139.2, Own (sliceR intR 3) [v131] r130.1, Own (sliceR (pairR (sliceR intR 3) (sliceR intR 3)) 67) [v133] r130.2] := hS.top 1 rfl
      replace hS : Sat w0 w149 [Box b107 25 [u2, u3], Box b103 25 [u0, u1], Own (sliceR intR 3) [v140] r139.1, Own (sliceR (pairR (sliceR intR 3) (sliceR intR 3)) 67) [v142] r139.2, Own (sliceR intR 3) [v131] r130.1, Own (sliceR (pairR (sliceR intR 3) (sliceR intR 3)) 67) [v133] r130.2] := hS.top 1 rfl
      have hC := (hCd _).2 ⟨_, hS⟩
      refine ⟨fun _ => hC, ?_⟩
      refine al_p (v := .bool r148) (by kernel_rfl) 5 rfl rfl (by decide) hC (by kernel_rfl) (by kernel_rfl) (sv_on rfl (fun w' hw' => by obtain ⟨_, hS⟩ := (hCd _).1 hw'; exact (pv_assign rfl))) ?_
      refine al_nil (by kernel_rfl) ?_
      refine hQ127 _ _ _ ?_
      refine thn_n ?_
      refine cw_seq ?_
      refine cw_gen ?_
      intro Q151 hQ151
      refine cw_reg ?_
      refine el_pv (v := .agg #[u0, u1]) (pv_loada (cs := [u0, u1]) rfl rfl (boxc0 (hS.boxAt 1 rfl))) (by decide) ?_
      replace hF := ob hF
      obtain ⟨r152, hr152, hF⟩ := hF
      refine el_call goes11 (laws_toFactorization_ok (hS.up ha0) (hS.up ha1) hr152) (congrArg List.toArray (mapc rfl rfl)) (by decide) ?_
      rintro _ w157 ⟨v153, v155, rfl, hS'⟩
      refine ⟨_, rfl, ?_⟩
      have hx158 := hS'.below
      replace hS := hS.call2 hS'
      refine el_alloc hS (by decide) ?_
      intro w159 b160 hS hx161
      refine el_storev (hS.top 0 rfl) rfl [v153, v155] rfl rfl (of_decide_eq_true rfl) (all_cons (oc (hS.rdAt (R := (sliceR intR 3)) 1 rfl)) (all_cons (oc (hS.rdAt (R := (sliceR (pairR (sliceR intR 3) (sliceR intR 3)) 67)) 2 rfl)) rfl)) ?_
      intro w163 hS
      replace hS : Sat w0 w163 [Box b160 30 [v153, v155], Own (sliceR intR 3) [v153] r152.1, Own (sliceR (pairR (sliceR intR 3) (sliceR intR 3)) 67) [v155] r152.2, Box b107 25 [u2, u3], Box b103 25 [u0, u1], Own (sliceR intR 3) [v140] r139.1, Own (sliceR (pairR (sliceR intR 3) (sliceR intR 3)) 67) [v142] r139.2, Own (sliceR intR 3) [v131] r130.1, Own (sliceR (pairR (sliceR intR 3) (sliceR intR 3)) 67) [v133] r130.2] := hS
      refine el_nil ?_
      refine hQ151 _ _ _ ?_
      refine thn_n ?_
      refine cw_seq ?_
      refine cw_gen ?_
      intro Q164 hQ164
      refine cw_reg ?_
      refine el_pv (v := .agg #[u2, u3]) (pv_loada (cs := [u2, u3]) rfl rfl (boxc0 (hS.boxAt 3 rfl))) (by decide) ?_
      replace hF := ob hF
      obtain ⟨r165, hr165, hF⟩ := hF
      refine el_call goes11 (laws_toFactorization_ok (hS.up ha2) (hS.up ha3) hr165) (congrArg List.toArray (mapc rfl rfl)) (by decide) ?_
      rintro _ w170 ⟨v166, v168, rfl, hS'⟩
      refine ⟨_, rfl, ?_⟩
      have hx171 := hS'.below
      replace hS := hS.call2 hS'
      refine el_alloc hS (by decide) ?_
      intro w172 b173 hS hx174
      refine el_storev (hS.top 0 rfl) rfl [v166, v168] rfl rfl (of_decide_eq_true rfl) (all_cons (oc (hS.rdAt (R := (sliceR intR 3)) 1 rfl)) (all_cons (oc (hS.rdAt (R := (sliceR (pairR (sliceR intR 3) (sliceR intR 3)) 67)) 2 rfl)) rfl)) ?_
      intro w176 hS
      replace hS : Sat w0 w176 [Box b173 30 [v166, v168], Own (sliceR intR 3) [v166] r165.1, Own (sliceR (pairR (sliceR intR 3) (sliceR intR 3)) 67) [v168] r165.2, Box b160 30 [v153, v155], Own (sliceR intR 3) [v153] r152.1, Own (sliceR (pairR (sliceR intR 3) (sliceR intR 3)) 67) [v155] r152.2, Box b107 25 [u2, u3], Box b103 25 [u0, u1], Own (sliceR intR 3) [v140] r139.1, Own (sliceR (pairR (sliceR intR 3) (sliceR intR 3)) 67) [v142] r139.2, Own (sliceR intR 3) [v131] r130.1, Own (sliceR (pairR (sliceR intR 3) (sliceR intR 3)) 67) [v133] r130.2] := hS
      refine el_nil ?_
      refine hQ164 _ _ _ ?_
      refine thn_n ?_
      refine cw_seq ?_
      refine cw_gen ?_
      intro Q177 hQ177
      refine cw_reg ?_
      refine el_pv (v := .agg #[v153, v155]) (pv_loada (cs := [v153, v155]) rfl rfl (boxc0 (hS.boxAt 3 rfl))) (by decide) ?_
      refine el_pv (v := .agg #[v166, v168]) (pv_loada (cs := [v166, v168]) rfl rfl (boxc0 (hS.boxAt 0 rfl))) (by decide) ?_
      replace hF := ob hF
      obtain ⟨r178, hr178, hF⟩ := hF
      refine el_call goes12 (impl_EqualFactorizations_ok (hS.rdAt (R := (sliceR intR 3)) 4 rfl) (hS.rdAt (R := (sliceR (pairR (sliceR intR 3) (sliceR intR 3)) 67)) 5 rfl) (hS.rdAt (R := (sliceR intR 3)) 1 rfl) (hS.rdAt (R := (sliceR (pairR (sliceR intR 3) (sliceR intR 3)) 67)) 2 rfl) hr178) (congrArg List.toArray (mapc rfl (mapc rfl rfl))) (by decide) ?_
      rintro _ w179 ⟨rfl, hx180⟩
      refine ⟨_, rfl, ?_⟩
      replace hS := hS.ext hx180
      refine el_pv (v := .bool r178) (pv_assign rfl) (by decide) ?_
      refine el_nil ?_
      refine hQ177 _ _ _ ?_
      refine thn_n ?_
      refine cw_seq ?_
      refine cw_gen ?_
      intro Q181 hQ181
      refine cw_seq ?_
      refine cw_gen ?_
      intro Q182 hQ182
      refine cw_reg ?_
      refine el_pv (v := .bool r178) (pv_move rfl) (by decide) ?_
      refine el_pv (v := .bool r148) (pv_move rfl) (by decide) ?_
      refine el_pv (v := .bool (r178 != r148)) (pv_neqB Try.underlying4 rfl rfl) (by decide) ?_
      refine el_nil ?_
      refine hQ182 _ _ _ ?_
      refine thn_n ?_
      replace hF := oif hF
      rcases hF with ⟨hb183, hF⟩ | ⟨hb183, hF⟩
      · refine cw_cond_t rfl hb183 ?_
        refine cw_seq ?_
        refine cw_gen ?_
        intro Q184 hQ184
        refine cw_reg ?_
        refine el_pv (v := .bool false) (pv_assign rfl) (by decide) ?_
        refine el_nil ?_
        refine hQ184 _ _ _ ?_
        refine thn_n ?_
        refine cw_ret ?_
        refine hQ181 _ _ _ ?_
        refine thn_r ?_
        refine fin1 rfl rfl ?_
        have hr := Option.some.inj hF
        exact ⟨congrArg (fun (r : Bool) => Ending.returned (.bool r)) hr, hS.below⟩
      · refine cw_cond_f rfl hb183 ?_
        refine cw_skip ?_
        refine hQ181 _ _ _ ?_
        refine thn_n ?_
        refine cw_seq ?_
        refine cw_gen ?_
        intro Q185 hQ185
        refine cw_seq ?_
        refine cw_gen ?_
        intro Q186 hQ186
        obtain ⟨C, hCd⟩ : ∃ C : World → Prop, ∀ w, C w ↔ ∃ G, Sat w0 w ([Box b173 30 [v166, v168], Box b160 30 [v153, v155], Box b107 25 [u2, u3], Box b103 25 [u0, u1], Own (sliceR intR 3) [v166] r165.1, Own (sliceR (pairR (sliceR intR 3) (sliceR intR 3)) 67) [v168] r165.2, Own (sliceR intR 3) [v153] r152.1, Own (sliceR (pairR (sliceR intR 3) (sliceR intR 3)) 67) [v155] r152.2, Own (sliceR intR 3) [v140] r139.1, Own (sliceR (pairR (sliceR intR 3) (sliceR intR 3)) 67) [v142] r139.2, Own (sliceR intR 3) [v131] r130.1, Own (sliceR (pairR (sliceR intR 3) (sliceR intR 3)) 67) [v133] r130.2] ++ G) := ⟨_, fun _ => Iff.rfl⟩
        refine cw_regb [0, 1, 2, 3, 4] C (by kernel_rfl) ?_
        intro w187 hx188
        replace hS := hS.ext hx188
        replace hS : Sat w0 w187 [Own (sliceR (pairR (sliceR intR 3) (sliceR intR 3)) 67) [v133] r130.2, Box b173 30 [v166, v168], Own (sliceR intR 3) [v166] r165.1, Own (sliceR (pairR (sliceR intR 3) (sliceR intR 3)) 67) [v168] r165.2, Box b160 30 [v153, v155], Own (sliceR intR 3) [v153] r152.1, Own (sliceR (pairR (sliceR intR 3) (sliceR intR 3)) 67) [v155] r152.2, Box b107 25 [u2, u3], Box b103 25 [u0, u1], Own (sliceR intR 3) [v140] r139.1, Own (sliceR (pairR (sliceR intR 3) (sliceR intR 3)) 67) [v142] r139.2, Own (sliceR intR 3) [v131] r130.1] := hS.top 11 rfl
        replace hS : Sat w0 w187 [Own (sliceR intR 3) [v131] r130.1, Own (sliceR (pairR (sliceR intR 3) (sliceR intR 3)) 67) [v133] r130.2, Box b173 30 [v166, v168], Own (sliceR intR 3) [v166] r165.1, Own (sliceR (pairR (sliceR intR 3) (sliceR intR 3)) 67) [v168] r165.2, Box b160 30 [v153, v155], Own (sliceR intR 3) [v153] r152.1, Own (sliceR (pairR (sliceR intR 3) (sliceR intR 3)) 67) [v155] r152.2, Box b107 25 [u2, u3], Box b103 25 [u0, u1], Own (sliceR intR 3) [v140] r139.1, Own (sliceR (pairR (sliceR intR 3) (sliceR intR 3)) 67) [v142] r139.2] := hS.top 11 rfl
        replace hS : Sat w0 w187 [Own (sliceR (pairR (sliceR intR 3) (sliceR intR 3)) 67) [v142] r139.2, Own (sliceR intR 3) [v131] r130.1, Own (sliceR (pairR (sliceR intR 3) (sliceR intR 3)) 67) [v133] r130.2, Box b173 30 [v166, v168], Own (sliceR intR 3) [v166] r165.1, Own (sliceR (pairR (sliceR intR 3) (sliceR intR 3)) 67) [v168] r165.2, Box b160 30 [v153, v155], Own (sliceR intR 3) [v153] r152.1, Own (sliceR (pairR (sliceR intR 3) (sliceR intR 3)) 67) [v155] r152.2, Box b107 25 [u2, u3], Box b103 25 [u0, u1], Own (sliceR intR 3) [v140] r139.1] := hS.top 11 rfl
        replace hS : Sat w0 w187 [Own (sliceR intR 3) [v140] r139.1, Own (sliceR (pairR (sliceR intR 3) (sliceR intR 3)) 67) [v142] r139.2, Own (sliceR intR 3) [v131] r130.1, Own (sliceR (pairR (sliceR intR 3) (sliceR intR 3)) 67) [v133] r130.2, Box b173 30 [v166, v168], Own (sliceR intR 3) [v166] r165.1, Own (sliceR (pairR (sliceR intR 3) (sliceR intR 3)) 67) [v168] r165.2, Box b160 30 [v153, v155], Own (sliceR intR 3) [v153] r152.1, Own (sliceR (pairR (sliceR intR 3) (sliceR intR 3)) 67) [v155] r152.2, Box b107 25 [u2, u3], Box b103 25 [u0, u1]] := hS.top 11 rfl
        replace hS : Sat w0 w187 [Own (sliceR (pairR (sliceR intR 3) (sliceR intR 3)) 67) [v155] r152.2, Own (sliceR intR 3) [v140] r139.1, Own (sliceR (pairR (sliceR intR 3) (sliceR intR 3)) 67) [v142] r139.2, Own (sliceR intR 3) [v131] r130.1, Own (sliceR (pairR (sliceR intR 3) (sliceR intR 3)) 67) [v133] r130.2, Box b173 30 [v166, v168], Own (sliceR intR 3) [v166] r165.1, Own (sliceR (pairR (sliceR intR 3) (sliceR intR 3)) 67) [v168] r165.2, Box b160 30 [v153, v155], Own (sliceR intR 3) [v153] r152.1, Box b107 25 [u2, u3], Box b103 25 [u0, u1]] := hS.top 9 rfl
        replace hS : Sat w0 w187 [Own (sliceR intR 3) [v153] r152.1, Own (sliceR (pairR (sliceR intR 3) (sliceR intR 3)) 67) [v155] r152.2, Own (sliceR intR 3) [v140] r139.1, Own (sliceR (pairR (sliceR intR 3) (sliceR intR 3)) 67) [v142] r139.2, Own (sliceR intR 3) [v131] r130.1, Own (sliceR (pairR (sliceR intR 3) (sliceR intR 3)) 67) [v133] r130.2, Box b173 30 [v166, v168], Own (sliceR intR 3) [v166] r165.1, Own (sliceR (pairR (sliceR intR 3) (sliceR intR 3)) 67) [v168] r165.2, Box b160 30 [v153, v155], Box b107 25 [u2, u3], Box b103 25 [u0, u1]] := hS.top 9 rfl
        replace hS : Sat w0 w187 [Own (sliceR (pairR (sliceR intR 3) (sliceR intR 3)) 67) [v168] r165.2, Own (sliceR intR 3) [v153] r152.1, Own (sliceR (pairR (sliceR intR 3) (sliceR intR 3)) 67) [v155] r152.2, Own (sliceR intR 3) [v140] r139.1, Own (sliceR (pairR (sliceR intR 3) (sliceR intR 3)) 67) [v142] r139.2, Own (sliceR intR 3) [v131] r130.1, Own (sliceR (pairR (sliceR intR 3) (sliceR intR 3)) 67) [v133] r130.2, Box b173 30 [v166, v168], Own (sliceR intR 3) [v166] r165.1, Box b160 30 [v153, v155], Box b107 25 [u2, u3], Box b103 25 [u0, u1]] := hS.top 8 rfl
        replace hS : Sat w0 w187 [Own (sliceR intR 3) [v166] r165.1, Own (sliceR (pairR (sliceR intR 3) (sliceR intR 3)) 67) [v168] r165.2, Own (sliceR intR 3) [v153] r152.1, Own (sliceR (pairR (sliceR intR 3) (sliceR intR 3)) 67) [v155] r152.2, Own (sliceR intR 3) [v140] r139.1, Own (sliceR (pairR (sliceR intR 3) (sliceR intR 3)) 67) [v142] r139.2, Own (sliceR intR 3) [v131] r130.1, Own (sliceR (pairR (sliceR intR 3) (sliceR intR 3)) 67) [v133] r130.2, Box b173 30 [v166, v168], Box b160 30 [v153, v155], Box b107 25 [u2, u3], Box b103 25 [u0, u1]] := hS.top 8 rfl
        replace hS : Sat w0 w187 [Box b103 25 [u0, u1], Own (sliceR intR 3) [v166] r165.1, Own (sliceR (pairR (sliceR intR 3) (sliceR intR 3)) 67) [v168] r165.2, Own (sliceR intR 3) [v153] r152.1, Own (sliceR (pairR (sliceR intR 3) (sliceR intR 3)) 67) [v155] r152.2, Own (sliceR intR 3) [v140] r139.1, Own (sliceR (pairR (sliceR intR 3) (sliceR intR 3)) 67) [v142] r139.2, Own (sliceR intR 3) [v131] r130.1, Own (sliceR (pairR (sliceR intR 3) (sliceR intR 3)) 67) [v133] r130.2, Box b173 30 [v166, v168], Box b160 30 [v153, v155], Box b107 25 [u2, u3]] := hS.top 11 rfl
        replace hS : Sat w0 w187 [Box b107 25 [u2, u3], Box b103 25 [u0, u1], Own (sliceR intR 3) [v166] r165.1, Own (sliceR (pairR (sliceR intR 3) (sliceR intR 3)) 67) [v168] r165.2, Own (sliceR intR 3) [v153] r152.1, Own (sliceR (pairR (sliceR intR 3) (sliceR intR 3)) 67) [v155] r152.2, Own (sliceR intR 3) [v140] r139.1, Own (sliceR (pairR (sliceR intR 3) (sliceR intR 3)) 67) [v142] r139.2, Own (sliceR intR 3) [v131] r130.1, Own (sliceR (pairR (sliceR intR 3) (sliceR intR 3)) 67) [v133] r130.2, Box b173 30 [v166, v168], Box b160 30 [v153, v155]] := hS.top 11 rfl
        replace hS : Sat w0 w187 [Box b160 30 [v153, v155], Box b107 25 [u2, u3], Box b103 25 [u0, u1], Own (sliceR intR 3) [v166] r165.1, Own (sliceR (pairR (sliceR intR 3) (sliceR intR 3)) 67) [v168] r165.2, Own (sliceR intR 3) [v153] r152.1, Own (sliceR (pairR (sliceR intR 3) (sliceR intR 3)) 67) [v155] r152.2, Own (sliceR intR 3) [v140] r139.1, Own (sliceR (pairR (sliceR intR 3) (sliceR intR 3)) 67) [v142] r139.2, Own (sliceR intR 3) [v131] r130.1, Own (sliceR (pairR (sliceR intR 3) (sliceR intR 3)) 67) [v133] r130.2, Box b173 30 [v166, v168]] := hS.top 11 rfl
        replace hS : Sat w0 w187 [Box b173 30 [v166, v168], Box b160 30 [v153, v155], Box b107 25 [u2, u3], Box b103 25 [u0, u1], Own (sliceR intR 3) [v166] r165.1, Own (sliceR (pairR (sliceR intR 3) (sliceR intR 3)) 67) [v168] r165.2, Own (sliceR intR 3) [v153] r152.1, Own (sliceR (pairR (sliceR intR 3) (sliceR intR 3)) 67) [v155] r152.2, Own (sliceR intR 3) [v140] r139.1, Own (sliceR (pairR (sliceR intR 3) (sliceR intR 3)) 67) [v142] r139.2, Own (sliceR intR 3) [v131] r130.1, Own (sliceR (pairR (sliceR intR 3) (sliceR intR 3)) 67) [v133] r130.2] := hS.top 11 rfl
        have hC := (hCd _).2 ⟨_, hS⟩
        refine al_p (v := .agg #[v153, v155]) (by kernel_rfl) 0 rfl rfl (by decide) hC (by kernel_rfl) (by kernel_rfl) (sv_on rfl (fun w' hw' => by obtain ⟨_, hS⟩ := (hCd _).1 hw'; exact (pv_loada (cs := [v153, v155]) rfl rfl (boxc0 (hS.boxAt 1 rfl))))) ?_
        refine al_p (v := .agg #[u0, u1]) (by kernel_rfl) 1 rfl rfl (by decide) hC (by kernel_rfl) (by kernel_rfl) (sv_on rfl (fun w' hw' => by obtain ⟨_, hS⟩ := (hCd _).1 hw'; exact (pv_loada (cs := [u0, u1]) rfl rfl (boxc0 (hS.boxAt 3 rfl))))) ?_
        refine al_one 2 (by kernel_rfl) rfl ?_
        replace hF := ob hF
        obtain ⟨r189, hr189, hF⟩ := hF
        refine el_call goes11 (laws_toFactorization_ok (hS.up ha0) (hS.up ha1) hr189) (congrArg List.toArray (mapc rfl rfl)) (by decide) ?_
        rintro _ w194 ⟨v190, v192, rfl, hS'⟩
        refine ⟨_, rfl, ?_⟩
        have hx195 := hS'.below
        replace hS := hS.call2 hS'
        refine el_nil ?_
        replace hS : Sat w0 w194 [Own (sliceR (pairR (sliceR intR 3) (sliceR intR 3)) 67) [v133] r130.2, Own (sliceR intR 3) [v190] r189.1, Own (sliceR (pairR (sliceR intR 3) (sliceR intR 3)) 67) [v192] r189.2, Box b173 30 [v166, v168], Box b160 30 [v153, v155], Box b107 25 [u2, u3], Box b103 25 [u0, u1], Own (sliceR intR 3) [v166] r165.1, Own (sliceR (pairR (sliceR intR 3) (sliceR intR 3)) 67) [v168] r165.2, Own (sliceR intR 3) [v153] r152.1, Own (sliceR (pairR (sliceR intR 3) (sliceR intR 3)) 67) [v155] r152.2, Own (sliceR intR 3) [v140] r139.1, Own (sliceR (pairR (sliceR intR 3) (sliceR intR 3)) 67) [v142] r139.2, Own (sliceR intR 3) [v131] r130.1] := hS.top 13 rfl
        replace hS : Sat w0 w194 [Own (sliceR intR 3) [v131] r130.1, Own (sliceR (pairR (sliceR intR 3) (sliceR intR 3)) 67) [v133] r130.2, Own (sliceR intR 3) [v190] r189.1, Own (sliceR (pairR (sliceR intR 3) (sliceR intR 3)) 67) [v192] r189.2, Box b173 30 [v166, v168], Box b160 30 [v153, v155], Box b107 25 [u2, u3], Box b103 25 [u0, u1], Own (sliceR intR 3) [v166] r165.1, Own (sliceR (pairR (sliceR intR 3) (sliceR intR 3)) 67) [v168] r165.2, Own (sliceR intR 3) [v153] r152.1, Own (sliceR (pairR (sliceR intR 3) (sliceR intR 3)) 67) [v155] r152.2, Own (sliceR intR 3) [v140] r139.1, Own (sliceR (pairR (sliceR intR 3) (sliceR intR 3)) 67) [v142] r139.2] := hS.top 13 rfl
        replace hS : Sat w0 w194 [Own (sliceR (pairR (sliceR intR 3) (sliceR intR 3)) 67) [v142] r139.2, Own (sliceR intR 3) [v131] r130.1, Own (sliceR (pairR (sliceR intR 3) (sliceR intR 3)) 67) [v133] r130.2, Own (sliceR intR 3) [v190] r189.1, Own (sliceR (pairR (sliceR intR 3) (sliceR intR 3)) 67) [v192] r189.2, Box b173 30 [v166, v168], Box b160 30 [v153, v155], Box b107 25 [u2, u3], Box b103 25 [u0, u1], Own (sliceR intR 3) [v166] r165.1, Own (sliceR (pairR (sliceR intR 3) (sliceR intR 3)) 67) [v168] r165.2, Own (sliceR intR 3) [v153] r152.1, Own (sliceR (pairR (sliceR intR 3) (sliceR intR 3)) 67) [v155] r152.2, Own (sliceR intR 3) [v140] r139.1] := hS.top 13 rfl
        replace hS : Sat w0 w194 [Own (sliceR intR 3) [v140] r139.1, Own (sliceR (pairR (sliceR intR 3) (sliceR intR 3)) 67) [v142] r139.2, Own (sliceR intR 3) [v131] r130.1, Own (sliceR (pairR (sliceR intR 3) (sliceR intR 3)) 67) [v133] r130.2, Own (sliceR intR 3) [v190] r189.1, Own (sliceR (pairR (sliceR intR 3) (sliceR intR 3)) 67) [v192] r189.2, Box b173 30 [v166, v168], Box b160 30 [v153, v155], Box b107 25 [u2, u3], Box b103 25 [u0, u1], Own (sliceR intR 3) [v166] r165.1, Own (sliceR (pairR (sliceR intR 3) (sliceR intR 3)) 67) [v168] r165.2, Own (sliceR intR 3) [v153] r152.1, Own (sliceR (pairR (sliceR intR 3) (sliceR intR 3)) 67) [v155] r152.2] := hS.top 13 rfl
        replace hS : Sat w0 w194 [Own (sliceR (pairR (sliceR intR 3) (sliceR intR 3)) 67) [v155] r152.2, Own (sliceR intR 3) [v140] r139.1, Own (sliceR (pairR (sliceR intR 3) (sliceR intR 3)) 67) [v142] r139.2, Own (sliceR intR 3) [v131] r130.1, Own (sliceR (pairR (sliceR intR 3) (sliceR intR 3)) 67) [v133] r130.2, Own (sliceR intR 3) [v190] r189.1, Own (sliceR (pairR (sliceR intR 3) (sliceR intR 3)) 67) [v192] r189.2, Box b173 30 [v166, v168], Box b160 30 [v153, v155], Box b107 25 [u2, u3], Box b103 25 [u0, u1], Own (sliceR intR 3) [v166] r165.1, Own (sliceR (pairR (sliceR intR 3) (sliceR intR 3)) 67) [v168] r165.2, Own (sliceR intR 3) [v153] r152.1] := hS.top 13 rfl
        replace hS : Sat w0 w194 [Own (sliceR intR 3) [v153] r152.1, Own (sliceR (pairR (sliceR intR 3) (sliceR intR 3)) 67) [v155] r152.2, Own (sliceR intR 3) [v140] r139.1, Own (sliceR (pairR (sliceR intR 3) (sliceR intR 3)) 67) [v142] r139.2, Own (sliceR intR 3) [v131] r130.1, Own (sliceR (pairR (sliceR intR 3) (sliceR intR 3)) 67) [v133] r130.2, Own (sliceR intR 3) [v190] r189.1, Own (sliceR (pairR (sliceR intR 3) (sliceR intR 3)) 67) [v192] r189.2, Box b173 30 [v166, v168], Box b160 30 [v153, v155], Box b107 25 [u2, u3], Box b103 25 [u0, u1], Own (sliceR intR 3) [v166] r165.1, Own (sliceR (pairR (sliceR intR 3) (sliceR intR 3)) 67) [v168] r165.2] := hS.top 13 rfl
        replace hS : Sat w0 w194 [Own (sliceR (pairR (sliceR intR 3) (sliceR intR 3)) 67) [v168] r165.2, Own (sliceR intR 3) [v153] r152.1, Own (sliceR (pairR (sliceR intR 3) (sliceR intR 3)) 67) [v155] r152.2, Own (sliceR intR 3) [v140] r139.1, Own (sliceR (pairR (sliceR intR 3) (sliceR intR 3)) 67) [v142] r139.2, Own (sliceR intR 3) [v131] r130.1, Own (sliceR (pairR (sliceR intR 3) (sliceR intR 3)) 67) [v133] r130.2, Own (sliceR intR 3) [v190] r189.1, Own (sliceR (pairR (sliceR intR 3) (sliceR intR 3)) 67) [v192] r189.2, Box b173 30 [v166, v168], Box b160 30 [v153, v155], Box b107 25 [u2, u3], Box b103 25 [u0, u1], Own (sliceR intR 3) [v166] r165.1] := hS.top 13 rfl
        replace hS : Sat w0 w194 [Own (sliceR intR 3) [v166] r165.1, Own (sliceR (pairR (sliceR intR 3) (sliceR intR 3)) 67) [v168] r165.2, Own (sliceR intR 3) [v153] r152.1, Own (sliceR (pairR (sliceR intR 3) (sliceR intR 3)) 67) [v155] r152.2, Own (sliceR intR 3) [v140] r139.1, Own (sliceR (pairR (sliceR intR 3) (sliceR intR 3)) 67) [v142] r139.2, Own (sliceR intR 3) [v131] r130.1, Own (sliceR (pairR (sliceR intR 3) (sliceR intR 3)) 67) [v133] r130.2, Own (sliceR intR 3) [v190] r189.1, Own (sliceR (pairR (sliceR intR 3) (sliceR intR 3)) 67) [v192] r189.2, Box b173 30 [v166, v168], Box b160 30 [v153, v155], Box b107 25 [u2, u3], Box b103 25 [u0, u1]] := hS.top 13 rfl
        replace hS : Sat w0 w194 [Box b103 25 [u0, u1], Own (sliceR intR 3) [v166] r165.1, Own (sliceR (pairR (sliceR intR 3) (sliceR intR 3)) 67) [v168] r165.2, Own (sliceR intR 3) [v153] r152.1, Own (sliceR (pairR (sliceR intR 3) (sliceR intR 3)) 67) [v155] r152.2, Own (sliceR intR 3) [v140] r139.1, Own (sliceR (pairR (sliceR intR 3) (sliceR intR 3)) 67) [v142] r139.2, Own (sliceR intR 3) [v131] r130.1, Own (sliceR (pairR (sliceR intR 3) (sliceR intR 3)) 67) [v133] r130.2, Own (sliceR intR 3) [v190] r189.1, Own (sliceR (pairR (sliceR intR 3) (sliceR intR 3)) 67) [v192] r189.2, Box b173 30 [v166, v168], Box b160 30 [v153, v155], Box b107 25 [u2, u3]] := hS.top 13 rfl
        replace hS : Sat w0 w194 [Box b107 25 [u2, u3], Box b103 25 [u0, u1], Own (sliceR intR 3) [v166] r165.1, Own (sliceR (pairR (sliceR intR 3) (sliceR intR 3)) 67) [v168] r165.2, Own (sliceR intR 3) [v153] r152.1, Own (sliceR (pairR (sliceR intR 3) (sliceR intR 3)) 67) [v155] r152.2, Own (sliceR intR 3) [v140] r139.1, Own (sliceR (pairR (sliceR intR 3) (sliceR intR 3)) 67) [v142] r139.2, Own (sliceR intR 3) [v131] r130.1, Own (sliceR (pairR (sliceR intR 3) (sliceR intR 3)) 67) [v133] r130.2, Own (sliceR intR 3) [v190] r189.1, Own (sliceR (pairR (sliceR intR 3) (sliceR intR 3)) 67) [v192] r189.2, Box b173 30 [v166, v168], Box b160 30 [v153, v155]] := hS.top 13 rfl
        replace hS : Sat w0 w194 [Box b160 30 [v153, v155], Box b107 25 [u2, u3], Box b103 25 [u0, u1], Own (sliceR intR 3) [v166] r165.1, Own (sliceR (pairR (sliceR intR 3) (sliceR intR 3)) 67) [v168] r165.2, Own (sliceR intR 3) [v153] r152.1, Own (sliceR (pairR (sliceR intR 3) (sliceR intR 3)) 67) [v155] r152.2, Own (sliceR intR 3) [v140] r139.1, Own (sliceR (pairR (sliceR intR 3) (sliceR intR 3)) 67) [v142] r139.2, Own (sliceR intR 3) [v131] r130.1, Own (sliceR (pairR (sliceR intR 3) (sliceR intR 3)) 67) [v133] r130.2, Own (sliceR intR 3) [v190] r189.1, Own (sliceR (pairR (sliceR intR 3) (sliceR intR 3)) 67) [v192] r189.2, Box b173 30 [v166, v168]] := hS.top 13 rfl
        replace hS : Sat w0 w194 [Box b173 30 [v166, v168], Box b160 30 [v153, v155], Box b107 25 [u2, u3], Box b103 25 [u0, u1], Own (sliceR intR 3) [v166] r165.1, Own (sliceR (pairR (sliceR intR 3) (sliceR intR 3)) 67) [v168] r165.2, Own (sliceR intR 3) [v153] r152.1, Own (sliceR (pairR (sliceR intR 3) (sliceR intR 3)) 67) [v155] r152.2, Own (sliceR intR 3) [v140] r139.1, Own (sliceR (pairR (sliceR intR 3) (sliceR intR 3)) 67) [v142] r139.2, Own (sliceR intR 3) [v131] r130.1, Own (sliceR (pairR (sliceR intR 3) (sliceR intR 3)) 67) [v133] r130.2, Own (sliceR intR 3) [v190] r189.1, Own (sliceR (pairR (sliceR intR 3) (sliceR intR 3)) 67) [v192] r189.2] := hS.top 13 rfl
        have hC := (hCd _).2 ⟨_, hS⟩
        have hoc196 := oc (hS.rdAt (R := (sliceR intR 3)) 4 rfl)
        have hoc197 := oc (hS.rdAt (R := (sliceR (pairR (sliceR intR 3) (sliceR intR 3)) 67)) 5 rfl)
        have hoc198 := oc (hS.rdAt (R := (sliceR intR 3)) 6 rfl)
        have hoc199 := oc (hS.rdAt (R := (sliceR (pairR (sliceR intR 3) (sliceR intR 3)) 67)) 7 rfl)
        have hoc200 := oc (hS.rdAt (R := (sliceR intR 3)) 8 rfl)
        have hoc201 := oc (hS.rdAt (R := (sliceR (pairR (sliceR intR 3) (sliceR intR 3)) 67)) 9 rfl)
        have hoc202 := oc (hS.rdAt (R := (sliceR intR 3)) 10 rfl)
        have hoc203 := oc (hS.rdAt (R := (sliceR (pairR (sliceR intR 3) (sliceR intR 3)) 67)) 11 rfl)
        have hoc204 := oc (hS.rdAt (R := (sliceR intR 3)) 12 rfl)
        have hoc205 := oc (hS.rdAt (R := (sliceR (pairR (sliceR intR 3) (sliceR intR 3)) 67)) 13 rfl)
        refine ⟨fun _ => hC, ?_⟩
        refine al_one 3 (by kernel_rfl) rfl ?_
        replace hF := ob hF
        obtain ⟨r206, hr206, hF⟩ := hF
        refine el_call goes13 (laws_eqFactorization_ok (hS.rdAt (R := (sliceR intR 3)) 6 rfl) (hS.rdAt (R := (sliceR (pairR (sliceR intR 3) (sliceR intR 3)) 67)) 7 rfl) (hS.rdAt (R := (sliceR intR 3)) 12 rfl) (hS.rdAt (R := (sliceR (pairR (sliceR intR 3) (sliceR intR 3)) 67)) 13 rfl) hr206) (congrArg List.toArray (mapc rfl (mapc rfl rfl))) (by decide) ?_
        rintro _ w207 ⟨rfl, hx208⟩
        refine ⟨_, rfl, ?_⟩
        replace hS := hS.ext hx208
        refine el_nil ?_
        replace hS : Sat w0 w207 [Own (sliceR (pairR (sliceR intR 3) (sliceR intR 3)) 67) [v133] r130.2, Box b173 30 [v166, v168], Box b160 30 [v153, v155], Box b107 25 [u2, u3], Box b103 25 [u0, u1], Own (sliceR intR 3) [v166] r165.1, Own (sliceR (pairR (sliceR intR 3) (sliceR intR 3)) 67) [v168] r165.2, Own (sliceR intR 3) [v153] r152.1, Own (sliceR (pairR (sliceR intR 3) (sliceR intR 3)) 67) [v155] r152.2, Own (sliceR intR 3) [v140] r139.1, Own (sliceR (pairR (sliceR intR 3) (sliceR intR 3)) 67) [v142] r139.2, Own (sliceR intR 3) [v131] r130.1, Own (sliceR intR 3) [v190] r189.1, Own (sliceR (pairR (sliceR intR 3) (sliceR intR 3)) 67) [v192] r189.2] := hS.top 11 rfl
        replace hS : Sat w0 w207 [Own (sliceR intR 3) [v131] r130.1, Own (sliceR (pairR (sliceR intR 3) (sliceR intR 3)) 67) [v133] r130.2, Box b173 30 [v166, v168], Box b160 30 [v153, v155], Box b107 25 [u2, u3], Box b103 25 [u0, u1], Own (sliceR intR 3) [v166] r165.1, Own (sliceR (pairR (sliceR intR 3) (sliceR intR 3)) 67) [v168] r165.2, Own (sliceR intR 3) [v153] r152.1, Own (sliceR (pairR (sliceR intR 3) (sliceR intR 3)) 67) [v155] r152.2, Own (sliceR intR 3) [v140] r139.1, Own (sliceR (pairR (sliceR intR 3) (sliceR intR 3)) 67) [v142] r139.2, Own (sliceR intR 3) [v190] r189.1, Own (sliceR (pairR (sliceR intR 3) (sliceR intR 3)) 67) [v192] r189.2] := hS.top 11 rfl
        replace hS : Sat w0 w207 [Own (sliceR (pairR (sliceR intR 3) (sliceR intR 3)) 67) [v142] r139.2, Own (sliceR intR 3) [v131] r130.1, Own (sliceR (pairR (sliceR intR 3) (sliceR intR 3)) 67) [v133] r130.2, Box b173 30 [v166, v168], Box b160 30 [v153, v155], Box b107 25 [u2, u3], Box b103 25 [u0, u1], Own (sliceR intR 3) [v166] r165.1, Own (sliceR (pairR (sliceR intR 3) (sliceR intR 3)) 67) [v168] r165.2, Own (sliceR intR 3) [v153] r152.1, Own (sliceR (pairR (sliceR intR 3) (sliceR intR 3)) 67) [v155] r152.2, Own (sliceR intR 3) [v140] r139.1, Own (sliceR intR 3) [v190] r189.1, Own (sliceR (pairR (sliceR intR 3) (sliceR intR 3)) 67) [v192] r189.2] := hS.top 11 rfl
        replace hS : Sat w0 w207 [Own (sliceR intR 3) [v140] r139.1, Own (sliceR (pairR (sliceR intR 3) (sliceR intR 3)) 67) [v142] r139.2, Own (sliceR intR 3) [v131] r130.1, Own (sliceR (pairR (sliceR intR 3) (sliceR intR 3)) 67) [v133] r130.2, Box b173 30 [v166, v168], Box b160 30 [v153, v155], Box b107 25 [u2, u3], Box b103 25 [u0, u1], Own (sliceR intR 3) [v166] r165.1, Own (sliceR (pairR (sliceR intR 3) (sliceR intR 3)) 67) [v168] r165.2, Own (sliceR intR 3) [v153] r152.1, Own (sliceR (pairR (sliceR intR 3) (sliceR intR 3)) 67) [v155] r152.2, Own (sliceR intR 3) [v190] r189.1, Own (sliceR (pairR (sliceR intR 3) (sliceR intR 3)) 67) [v192] r189.2] := hS.top 11 rfl
        replace hS : Sat w0 w207 [Own (sliceR (pairR (sliceR intR 3) (sliceR intR 3)) 67) [v155] r152.2, Own (sliceR intR 3) [v140] r139.1, Own (sliceR (pairR (sliceR intR 3) (sliceR intR 3)) 67) [v142] r139.2, Own (sliceR intR 3) [v131] r130.1, Own (sliceR (pairR (sliceR intR 3) (sliceR intR 3)) 67) [v133] r130.2, Box b173 30 [v166, v168], Box b160 30 [v153, v155], Box b107 25 [u2, u3], Box b103 25 [u0, u1], Own (sliceR intR 3) [v166] r165.1, Own (sliceR (pairR (sliceR intR 3) (sliceR intR 3)) 67) [v168] r165.2, Own (sliceR intR 3) [v153] r152.1, Own (sliceR intR 3) [v190] r189.1, Own (sliceR (pairR (sliceR intR 3) (sliceR intR 3)) 67) [v192] r189.2] := hS.top 11 rfl
        replace hS : Sat w0 w207 [Own (sliceR intR 3) [v153] r152.1, Own (sliceR (pairR (sliceR intR 3) (sliceR intR 3)) 67) [v155] r152.2, Own (sliceR intR 3) [v140] r139.1, Own (sliceR (pairR (sliceR intR 3) (sliceR intR 3)) 67) [v142] r139.2, Own (sliceR intR 3) [v131] r130.1, Own (sliceR (pairR (sliceR intR 3) (sliceR intR 3)) 67) [v133] r130.2, Box b173 30 [v166, v168], Box b160 30 [v153, v155], Box b107 25 [u2, u3], Box b103 25 [u0, u1], Own (sliceR intR 3) [v166] r165.1, Own (sliceR (pairR (sliceR intR 3) (sliceR intR 3)) 67) [v168] r165.2, Own (sliceR intR 3) [v190] r189.1, Own (sliceR (pairR (sliceR intR 3) (sliceR intR 3)) 67) [v192] r189.2] := hS.top 11 rfl
        replace hS : Sat w0 w207 [Own (sliceR (pairR (sliceR intR 3) (sliceR intR 3)) 67) [v168] r165.2, Own (sliceR intR 3) [v153] r152.1, Own (sliceR (pairR (sliceR intR 3) (sliceR intR 3)) 67) [v155] r152.2, Own (sliceR intR 3) [v140] r139.1, Own (sliceR (pairR (sliceR intR 3) (sliceR intR 3)) 67) [v142] r139.2, Own (sliceR intR 3) [v131] r130.1, Own (sliceR (pairR (sliceR intR 3) (sliceR intR 3)) 67) [v133] r130.2, Box b173 30 [v166, v168], Box b160 30 [v153, v155], Box b107 25 [u2, u3], Box b103 25 [u0, u1], Own (sliceR intR 3) [v166] r165.1, Own (sliceR intR 3) [v190] r189.1, Own (sliceR (pairR (sliceR intR 3) (sliceR intR 3)) 67) [v192] r189.2] := hS.top 11 rfl
        replace hS : Sat w0 w207 [Own (sliceR intR 3) [v166] r165.1, Own (sliceR (pairR (sliceR intR 3) (sliceR intR 3)) 67) [v168] r165.2, Own (sliceR intR 3) [v153] r152.1, Own (sliceR (pairR (sliceR intR 3) (sliceR intR 3)) 67) [v155] r152.2, Own (sliceR intR 3) [v140] r139.1, Own (sliceR (pairR (sliceR intR 3) (sliceR intR 3)) 67) [v142] r139.2, Own (sliceR intR 3) [v131] r130.1, Own (sliceR (pairR (sliceR intR 3) (sliceR intR 3)) 67) [v133] r130.2, Box b173 30 [v166, v168], Box b160 30 [v153, v155], Box b107 25 [u2, u3], Box b103 25 [u0, u1], Own (sliceR intR 3) [v190] r189.1, Own (sliceR (pairR (sliceR intR 3) (sliceR intR 3)) 67) [v192] r189.2] := hS.top 11 rfl
        replace hS : Sat w0 w207 [Box b103 25 [u0, u1], Own (sliceR intR 3) [v166] r165.1, Own (sliceR (pairR (sliceR intR 3) (sliceR intR 3)) 67) [v168] r165.2, Own (sliceR intR 3) [v153] r152.1, Own (sliceR (pairR (sliceR intR 3) (sliceR intR 3)) 67) [v155] r152.2, Own (sliceR intR 3) [v140] r139.1, Own (sliceR (pairR (sliceR intR 3) (sliceR intR 3)) 67) [v142] r139.2, Own (sliceR intR 3) [v131] r130.1, Own (sliceR (pairR (sliceR intR 3) (sliceR intR 3)) 67) [v133] r130.2, Box b173 30 [v166, v168], Box b160 30 [v153, v155], Box b107 25 [u2, u3], Own (sliceR intR 3) [v190] r189.1, Own (sliceR (pairR (sliceR intR 3) (sliceR intR 3)) 67) [v192] r189.2] := hS.top 11 rfl
        replace hS : Sat w0 w207 [Box b107 25 [u2, u3], Box b103 25 [u0, u1], Own (sliceR intR 3) [v166] r165.1, Own (sliceR (pairR (sliceR intR 3) (sliceR intR 3)) 67) [v168] r165.2, Own (sliceR intR 3) [v153] r152.1, Own (sliceR (pairR (sliceR intR 3) (sliceR intR 3)) 67) [v155] r152.2, Own (sliceR intR 3) [v140] r139.1, Own (sliceR (pairR (sliceR intR 3) (sliceR intR 3)) 67) [v142] r139.2, Own (sliceR intR 3) [v131] r130.1, Own (sliceR (pairR (sliceR intR 3) (sliceR intR 3)) 67) [v133] r130.2, Box b173 30 [v166, v168], Box b160 30 [v153, v155], Own (sliceR intR 3) [v190] r189.1, Own (sliceR (pairR (sliceR intR 3) (sliceR intR 3)) 67) [v192] r189.2] := hS.top 11 rfl
        replace hS : Sat w0 w207 [Box b160 30 [v153, v155], Box b107 25 [u2, u3], Box b103 25 [u0, u1], Own (sliceR intR 3) [v166] r165.1, Own (sliceR (pairR (sliceR intR 3) (sliceR intR 3)) 67) [v168] r165.2, Own (sliceR intR 3) [v153] r152.1, Own (sliceR (pairR (sliceR intR 3) (sliceR intR 3)) 67) [v155] r152.2, Own (sliceR intR 3) [v140] r139.1, Own (sliceR (pairR (sliceR intR 3) (sliceR intR 3)) 67) [v142] r139.2, Own (sliceR intR 3) [v131] r130.1, Own (sliceR (pairR (sliceR intR 3) (sliceR intR 3)) 67) [v133] r130.2, Box b173 30 [v166, v168], Own (sliceR intR 3) [v190] r189.1, Own (sliceR (pairR (sliceR intR 3) (sliceR intR 3)) 67) [v192] r189.2] := hS.top 11 rfl
        replace hS : Sat w0 w207 [Box b173 30 [v166, v168], Box b160 30 [v153, v155], Box b107 25 [u2, u3], Box b103 25 [u0, u1], Own (sliceR intR 3) [v166] r165.1, Own (sliceR (pairR (sliceR intR 3) (sliceR intR 3)) 67) [v168] r165.2, Own (sliceR intR 3) [v153] r152.1, Own (sliceR (pairR (sliceR intR 3) (sliceR intR 3)) 67) [v155] r152.2, Own (sliceR intR 3) [v140] r139.1, Own (sliceR (pairR (sliceR intR 3) (sliceR intR 3)) 67) [v142] r139.2, Own (sliceR intR 3) [v131] r130.1, Own (sliceR (pairR (sliceR intR 3) (sliceR intR 3)) 67) [v133] r130.2, Own (sliceR intR 3) [v190] r189.1, Own (sliceR (pairR (sliceR intR 3) (sliceR intR 3)) 67) [v192] r189.2] := hS.top 11 rfl
        have hC := (hCd _).2 ⟨_, hS⟩
        refine ⟨fun _ => hC, ?_⟩
        refine al_p (v := .bool (!r206)) (by kernel_rfl) 4 rfl rfl (by decide) hC (by kernel_rfl) (by kernel_rfl) (sv_on rfl (fun w' hw' => by obtain ⟨_, hS⟩ := (hCd _).1 hw'; exact (pv_not rfl))) ?_
        refine al_nil (by kernel_rfl) ?_
        refine hQ186 _ _ _ ?_
        refine thn_n ?_
        replace hF := oif hF
        rcases hF with ⟨hb209, hF⟩ | ⟨hb209, hF⟩
        · refine cw_cond_f rfl (bnot_t hb209) ?_
          refine cw_skip ?_
          refine hQ185 _ _ _ ?_
          refine thn_n ?_
          refine cw_seq ?_
          refine cw_gen ?_
          intro Q210 hQ210
          refine cw_seq ?_
          refine cw_gen ?_
          intro Q211 hQ211
          obtain ⟨C, hCd⟩ : ∃ C : World → Prop, ∀ w, C w ↔ ∃ G, Sat w0 w ([Box b173 30 [v166, v168], Box b160 30 [v153, v155], Box b107 25 [u2, u3], Box b103 25 [u0, u1], Own (sliceR intR 3) [v166] r165.1, Own (sliceR (pairR (sliceR intR 3) (sliceR intR 3)) 67) [v168] r165.2, Own (sliceR intR 3) [v153] r152.1, Own (sliceR (pairR (sliceR intR 3) (sliceR intR 3)) 67) [v155] r152.2, Own (sliceR intR 3) [v140] r139.1, Own (sliceR (pairR (sliceR intR 3) (sliceR intR 3)) 67) [v142] r139.2, Own (sliceR intR 3) [v131] r130.1, Own (sliceR (pairR (sliceR intR 3) (sliceR intR 3)) 67) [v133] r130.2, Own (sliceR intR 3) [v190] r189.1, Own (sliceR (pairR (sliceR intR 3) (sliceR intR 3)) 67) [v192] r189.2] ++ G) := ⟨_, fun _ => Iff.rfl⟩
          refine cw_regb [0, 1, 2, 3, 4] C (by kernel_rfl) ?_
          intro w212 hx213
          replace hS := hS.ext hx213
          replace hS : Sat w0 w212 [Own (sliceR (pairR (sliceR intR 3) (sliceR intR 3)) 67) [v192] r189.2, Box b173 30 [v166, v168], Box b160 30 [v153, v155], Box b107 25 [u2, u3], Box b103 25 [u0, u1], Own (sliceR intR 3) [v166] r165.1, Own (sliceR (pairR (sliceR intR 3) (sliceR intR 3)) 67) [v168] r165.2, Own (sliceR intR 3) [v153] r152.1, Own (sliceR (pairR (sliceR intR 3) (sliceR intR 3)) 67) [v155] r152.2, Own (sliceR intR 3) [v140] r139.1, Own (sliceR (pairR (sliceR intR 3) (sliceR intR 3)) 67) [v142] r139.2, Own (sliceR intR 3) [v131] r130.1, Own (sliceR (pairR (sliceR intR 3) (sliceR intR 3)) 67) [v133] r130.2, Own (sliceR intR 3) [v190] r189.1] := hS.top 13 rfl
          replace hS : Sat w0 w212 [Own (sliceR intR 3) [v190] r189.1, Own (sliceR (pairR (sliceR intR 3) (sliceR intR 3)) 67) [v192] r189.2, Box b173 30 [v166, v168], Box b160 30 [v153, v155], Box b107 25 [u2, u3], Box b103 25 [u0, u1], Own (sliceR intR 3) [v166] r165.1, Own (sliceR (pairR (sliceR intR 3) (sliceR intR 3)) 67) [v168] r165.2, Own (sliceR intR 3) [v153] r152.1, Own (sliceR (pairR (sliceR intR 3) (sliceR intR 3)) 67) [v155] r152.2, Own (sliceR intR 3) [v140] r139.1, Own (sliceR (pairR (sliceR intR 3) (sliceR intR 3)) 67) [v142] r139.2, Own (sliceR intR 3) [v131] r130.1, Own (sliceR (pairR (sliceR intR 3) (sliceR intR 3)) 67) [v133] r130.2] := hS.top 13 rfl
          replace hS : Sat w0 w212 [Own (sliceR (pairR (sliceR intR 3) (sliceR intR 3)) 67) [v133] r130.2, Own (sliceR intR 3) [v190] r189.1, Own (sliceR (pairR (sliceR intR 3) (sliceR intR 3)) 67) [v192] r189.2, Box b173 30 [v166, v168], Box b160 30 [v153, v155], Box b107 25 [u2, u3], Box b103 25 [u0, u1], Own (sliceR intR 3) [v166] r165.1, Own (sliceR (pairR (sliceR intR 3) (sliceR intR 3)) 67) [v168] r165.2, Own (sliceR intR 3) [v153] r152.1, Own (sliceR (pairR (sliceR intR 3) (sliceR intR 3)) 67) [v155] r152.2, Own (sliceR intR 3) [v140] r139.1, Own (sliceR (pairR (sliceR intR 3) (sliceR intR 3)) 67) [v142] r139.2, Own (sliceR intR 3) [v131] r130.1] := hS.top 13 rfl
          replace hS : Sat w0 w212 [Own (sliceR intR 3) [v131] r130.1, Own (sliceR (pairR (sliceR intR 3) (sliceR intR 3)) 67) [v133] r130.2, Own (sliceR intR 3) [v190] r189.1, Own (sliceR (pairR (sliceR intR 3) (sliceR intR 3)) 67) [v192] r189.2, Box b173 30 [v166, v168], Box b160 30 [v153, v155], Box b107 25 [u2, u3], Box b103 25 [u0, u1], Own (sliceR intR 3) [v166] r165.1, Own (sliceR (pairR (sliceR intR 3) (sliceR intR 3)) 67) [v168] r165.2, Own (sliceR intR 3) [v153] r152.1, Own (sliceR (pairR (sliceR intR 3) (sliceR intR 3)) 67) [v155] r152.2, Own (sliceR intR 3) [v140] r139.1, Own (sliceR (pairR (sliceR intR 3) (sliceR intR 3)) 67) [v142] r139.2] := hS.top 13 rfl
          replace hS : Sat w0 w212 [Own (sliceR (pairR (sliceR intR 3) (sliceR intR 3)) 67) [v142] r139.2, Own (sliceR intR 3) [v131] r130.1, Own (sliceR (pairR (sliceR intR 3) (sliceR intR 3)) 67) [v133] r130.2, Own (sliceR intR 3) [v190] r189.1, Own (sliceR (pairR (sliceR intR 3) (sliceR intR 3)) 67) [v192] r189.2, Box b173 30 [v166, v168], Box b160 30 [v153, v155], Box b107 25 [u2, u3], Box b103 25 [u0, u1], Own (sliceR intR 3) [v166] r165.1, Own (sliceR (pairR (sliceR intR 3) (sliceR intR 3)) 67) [v168] r165.2, Own (sliceR intR 3) [v153] r152.1, Own (sliceR (pairR (sliceR intR 3) (sliceR intR 3)) 67) [v155] r152.2, Own (sliceR intR 3) [v140] r139.1] := hS.top 13 rfl
          replace hS : Sat w0 w212 [Own (sliceR intR 3) [v140] r139.1, Own (sliceR (pairR (sliceR intR 3) (sliceR intR 3)) 67) [v142] r139.2, Own (sliceR intR 3) [v131] r130.1, Own (sliceR (pairR (sliceR intR 3) (sliceR intR 3)) 67) [v133] r130.2, Own (sliceR intR 3) [v190] r189.1, Own (sliceR (pairR (sliceR intR 3) (sliceR intR 3)) 67) [v192] r189.2, Box b173 30 [v166, v168], Box b160 30 [v153, v155], Box b107 25 [u2, u3], Box b103 25 [u0, u1], Own (sliceR intR 3) [v166] r165.1, Own (sliceR (pairR (sliceR intR 3) (sliceR intR 3)) 67) [v168] r165.2, Own (sliceR intR 3) [v153] r152.1, Own (sliceR (pairR (sliceR intR 3) (sliceR intR 3)) 67) [v155] r152.2] := hS.top 13 rfl
          replace hS : Sat w0 w212 [Own (sliceR (pairR (sliceR intR 3) (sliceR intR 3)) 67) [v155] r152.2, Own (sliceR intR 3) [v140] r139.1, Own (sliceR (pairR (sliceR intR 3) (sliceR intR 3)) 67) [v142] r139.2, Own (sliceR intR 3) [v131] r130.1, Own (sliceR (pairR (sliceR intR 3) (sliceR intR 3)) 67) [v133] r130.2, Own (sliceR intR 3) [v190] r189.1, Own (sliceR (pairR (sliceR intR 3) (sliceR intR 3)) 67) [v192] r189.2, Box b173 30 [v166, v168], Box b160 30 [v153, v155], Box b107 25 [u2, u3], Box b103 25 [u0, u1], Own (sliceR intR 3) [v166] r165.1, Own (sliceR (pairR (sliceR intR 3) (sliceR intR 3)) 67) [v168] r165.2, Own (sliceR intR 3) [v153] r152.1] := hS.top 13 rfl
          replace hS : Sat w0 w212 [Own (sliceR intR 3) [v153] r152.1, Own (sliceR (pairR (sliceR intR 3) (sliceR intR 3)) 67) [v155] r152.2, Own (sliceR intR 3) [v140] r139.1, Own (sliceR (pairR (sliceR intR 3) (sliceR intR 3)) 67) [v142] r139.2, Own (sliceR intR 3) [v131] r130.1, Own (sliceR (pairR (sliceR intR 3) (sliceR intR 3)) 67) [v133] r130.2, Own (sliceR intR 3) [v190] r189.1, Own (sliceR (pairR (sliceR intR 3) (sliceR intR 3)) 67) [v192] r189.2, Box b173 30 [v166, v168], Box b160 30 [v153, v155], Box b107 25 [u2, u3], Box b103 25 [u0, u1], Own (sliceR intR 3) [v166] r165.1, Own (sliceR (pairR (sliceR intR 3) (sliceR intR 3)) 67) [v168] r165.2] := hS.top 13 rfl
          replace hS : Sat w0 w212 [Own (sliceR (pairR (sliceR intR 3) (sliceR intR 3)) 67) [v168] r165.2, Own (sliceR intR 3) [v153] r152.1, Own (sliceR (pairR (sliceR intR 3) (sliceR intR 3)) 67) [v155] r152.2, Own (sliceR intR 3) [v140] r139.1, Own (sliceR (pairR (sliceR intR 3) (sliceR intR 3)) 67) [v142] r139.2, Own (sliceR intR 3) [v131] r130.1, Own (sliceR (pairR (sliceR intR 3) (sliceR intR 3)) 67) [v133] r130.2, Own (sliceR intR 3) [v190] r189.1, Own (sliceR (pairR (sliceR intR 3) (sliceR intR 3)) 67) [v192] r189.2, Box b173 30 [v166, v168], Box b160 30 [v153, v155], Box b107 25 [u2, u3], Box b103 25 [u0, u1], Own (sliceR intR 3) [v166] r165.1] := hS.top 13 rfl
          replace hS : Sat w0 w212 [Own (sliceR intR 3) [v166] r165.1, Own (sliceR (pairR (sliceR intR 3) (sliceR intR 3)) 67) [v168] r165.2, Own (sliceR intR 3) [v153] r152.1, Own (sliceR (pairR (sliceR intR 3) (sliceR intR 3)) 67) [v155] r152.2, Own (sliceR intR 3) [v140] r139.1, Own (sliceR (pairR (sliceR intR 3) (sliceR intR 3)) 67) [v142] r139.2, Own (sliceR intR 3) [v131] r130.1, Own (sliceR (pairR (sliceR intR 3) (sliceR intR 3)) 67) [v133] r130.2, Own (sliceR intR 3) [v190] r189.1, Own (sliceR (pairR (sliceR intR 3) (sliceR intR 3)) 67) [v192] r189.2, Box b173 30 [v166, v168], Box b160 30 [v153, v155], Box b107 25 [u2, u3], Box b103 25 [u0, u1]] := hS.top 13 rfl
          replace hS : Sat w0 w212 [Box b103 25 [u0, u1], Own (sliceR intR 3) [v166] r165.1, Own (sliceR (pairR (sliceR intR 3) (sliceR intR 3)) 67) [v168] r165.2, Own (sliceR intR 3) [v153] r152.1, Own (sliceR (pairR (sliceR intR 3) (sliceR intR 3)) 67) [v155] r152.2, Own (sliceR intR 3) [v140] r139.1, Own (sliceR (pairR (sliceR intR 3) (sliceR intR 3)) 67) [v142] r139.2, Own (sliceR intR 3) [v131] r130.1, Own (sliceR (pairR (sliceR intR 3) (sliceR intR 3)) 67) [v133] r130.2, Own (sliceR intR 3) [v190] r189.1, Own (sliceR (pairR (sliceR intR 3) (sliceR intR 3)) 67) [v192] r189.2, Box b173 30 [v166, v168], Box b160 30 [v153, v155], Box b107 25 [u2, u3]] := hS.top 13 rfl
          replace hS : Sat w0 w212 [Box b107 25 [u2, u3], Box b103 25 [u0, u1], Own (sliceR intR 3) [v166] r165.1, Own (sliceR (pairR (sliceR intR 3) (sliceR intR 3)) 67) [v168] r165.2, Own (sliceR intR 3) [v153] r152.1, Own (sliceR (pairR (sliceR intR 3) (sliceR intR 3)) 67) [v155] r152.2, Own (sliceR intR 3) [v140] r139.1, Own (sliceR (pairR (sliceR intR 3) (sliceR intR 3)) 67) [v142] r139.2, Own (sliceR intR 3) [v131] r130.1, Own (sliceR (pairR (sliceR intR 3) (sliceR intR 3)) 67) [v133] r130.2, Own (sliceR intR 3) [v190] r189.1, Own (sliceR (pairR (sliceR intR 3) (sliceR intR 3)) 67) [v192] r189.2, Box b173 30 [v166, v168], Box b160 30 [v153, v155]] := hS.top 13 rfl
          replace hS : Sat w0 w212 [Box b160 30 [v153, v155], Box b107 25 [u2, u3], Box b103 25 [u0, u1], Own (sliceR intR 3) [v166] r165.1, Own (sliceR (pairR (sliceR intR 3) (sliceR intR 3)) 67) [v168] r165.2, Own (sliceR intR 3) [v153] r152.1, Own (sliceR (pairR (sliceR intR 3) (sliceR intR 3)) 67) [v155] r152.2, Own (sliceR intR 3) [v140] r139.1, Own (sliceR (pairR (sliceR intR 3) (sliceR intR 3)) 67) [v142] r139.2, Own (sliceR intR 3) [v131] r130.1, Own (sliceR (pairR (sliceR intR 3) (sliceR intR 3)) 67) [v133] r130.2, Own (sliceR intR 3) [v190] r189.1, Own (sliceR (pairR (sliceR intR 3) (sliceR intR 3)) 67) [v192] r189.2, Box b173 30 [v166, v168]] := hS.top 13 rfl
          replace hS : Sat w0 w212 [Box b173 30 [v166, v168], Box b160 30 [v153, v155], Box b107 25 [u2, u3], Box b103 25 [u0, u1], Own (sliceR intR 3) [v166] r165.1, Own (sliceR (pairR (sliceR intR 3) (sliceR intR 3)) 67) [v168] r165.2, Own (sliceR intR 3) [v153] r152.1, Own (sliceR (pairR (sliceR intR 3) (sliceR intR 3)) 67) [v155] r152.2, Own (sliceR intR 3) [v140] r139.1, Own (sliceR (pairR (sliceR intR 3) (sliceR intR 3)) 67) [v142] r139.2, Own (sliceR intR 3) [v131] r130.1, Own (sliceR (pairR (sliceR intR 3) (sliceR intR 3)) 67) [v133] r130.2, Own (sliceR intR 3) [v190] r189.1, Own (sliceR (pairR (sliceR intR 3) (sliceR intR 3)) 67) [v192] r189.2] := hS.top 13 rfl
          have hC := (hCd _).2 ⟨_, hS⟩
          refine al_p (v := .agg #[v166, v168]) (by kernel_rfl) 0 rfl rfl (by decide) hC (by kernel_rfl) (by kernel_rfl) (sv_on rfl (fun w' hw' => by obtain ⟨_, hS⟩ := (hCd _).1 hw'; exact (pv_loada (cs := [v166, v168]) rfl rfl (boxc0 (hS.boxAt 0 rfl))))) ?_
          refine al_p (v := .agg #[u2, u3]) (by kernel_rfl) 1 rfl rfl (by decide) hC (by kernel_rfl) (by kernel_rfl) (sv_on rfl (fun w' hw' => by obtain ⟨_, hS⟩ := (hCd _).1 hw'; exact (pv_loada (cs := [u2, u3]) rfl rfl (boxc0 (hS.boxAt 2 rfl))))) ?_
          refine al_one 2 (by kernel_rfl) rfl ?_
          replace hF := ob hF
          obtain ⟨r214, hr214, hF⟩ := hF
          refine el_call goes11 (laws_toFactorization_ok (hS.up ha2) (hS.up ha3) hr214) (congrArg List.toArray (mapc rfl rfl)) (by decide) ?_
          rintro _ w219 ⟨v215, v217, rfl, hS'⟩
          refine ⟨_, rfl, ?_⟩
          have hx220 := hS'.below
          replace hS := hS.call2 hS'
          refine el_nil ?_
          replace hS : Sat w0 w219 [Own (sliceR (pairR (sliceR intR 3) (sliceR intR 3)) 67) [v192] r189.2, Own (sliceR intR 3) [v215] r214.1, Own (sliceR (pairR (sliceR intR 3) (sliceR intR 3)) 67) [v217] r214.2, Box b173 30 [v166, v168], Box b160 30 [v153, v155], Box b107 25 [u2, u3], Box b103 25 [u0, u1], Own (sliceR intR 3) [v166] r165.1, Own (sliceR (pairR (sliceR intR 3) (sliceR intR 3)) 67) [v168] r165.2, Own (sliceR intR 3) [v153] r152.1, Own (sliceR (pairR (sliceR intR 3) (sliceR intR 3)) 67) [v155] r152.2, Own (sliceR intR 3) [v140] r139.1, Own (sliceR (pairR (sliceR intR 3) (sliceR intR 3)) 67) [v142] r139.2, Own (sliceR intR 3) [v131] r130.1, Own (sliceR (pairR (sliceR intR 3) (sliceR intR 3)) 67) [v133] r130.2, Own (sliceR intR 3) [v190] r189.1] := hS.top 15 rfl
          replace hS : Sat w0 w219 [Own (sliceR intR 3) [v190] r189.1, Own (sliceR (pairR (sliceR intR 3) (sliceR intR 3)) 67) [v192] r189.2, Own (sliceR intR 3) [v215] r214.1, Own (sliceR (pairR (sliceR intR 3) (sliceR intR 3)) 67) [v217] r214.2, Box b173 30 [v166, v168], Box b160 30 [v153, v155], Box b107 25 [u2, u3], Box b103 25 [u0, u1], Own (sliceR intR 3) [v166] r165.1, Own (sliceR (pairR (sliceR intR 3) (sliceR intR 3)) 67) [v168] r165.2, Own (sliceR intR 3) [v153] r152.1, Own (sliceR (pairR (sliceR intR 3) (sliceR intR 3)) 67) [v155] r152.2, Own (sliceR intR 3) [v140] r139.1, Own (sliceR (pairR (sliceR intR 3) (sliceR intR 3)) 67) [v142] r139.2, Own (sliceR intR 3) [v131] r130.1, Own (sliceR (pairR (sliceR intR 3) (sliceR intR 3)) 67) [v133] r130.2] := hS.top 15 rfl
          replace hS : Sat w0 w219 [Own (sliceR (pairR (sliceR intR 3) (sliceR intR 3)) 67) [v133] r130.2, Own (sliceR intR 3) [v190] r189.1, Own (sliceR (pairR (sliceR intR 3) (sliceR intR 3)) 67) [v192] r189.2, Own (sliceR intR 3) [v215] r214.1, Own (sliceR (pairR (sliceR intR 3) (sliceR intR 3)) 67) [v217] r214.2, Box b173 30 [v166, v168], Box b160 30 [v153, v155], Box b107 25 [u2, u3], Box b103 25 [u0, u1], Own (sliceR intR 3) [v166] r165.1, Own (sliceR (pairR (sliceR intR 3) (sliceR intR 3)) 67) [v168] r165.2, Own (sliceR intR 3) [v153] r152.1, Own (sliceR (pairR (sliceR intR 3) (sliceR intR 3)) 67) [v155] r152.2, Own (sliceR intR 3) [v140] r139.1, Own (sliceR (pairR (sliceR intR 3) (sliceR intR 3)) 67) [v142] r139.2, Own (sliceR intR 3) [v131] r130.1] := hS.top 15 rfl
          replace hS : Sat w0 w219 [Own (sliceR intR 3) [v131] r130.1, Own (sliceR (pairR (sliceR intR 3) (sliceR intR 3)) 67) [v133] r130.2, Own (sliceR intR 3) [v190] r189.1, Own (sliceR (pairR (sliceR intR 3) (sliceR intR 3)) 67) [v192] r189.2, Own (sliceR intR 3) [v215] r214.1, Own (sliceR (pairR (sliceR intR 3) (sliceR intR 3)) 67) [v217] r214.2, Box b173 30 [v166, v168], Box b160 30 [v153, v155], Box b107 25 [u2, u3], Box b103 25 [u0, u1], Own (sliceR intR 3) [v166] r165.1, Own (sliceR (pairR (sliceR intR 3) (sliceR intR 3)) 67) [v168] r165.2, Own (sliceR intR 3) [v153] r152.1, Own (sliceR (pairR (sliceR intR 3) (sliceR intR 3)) 67) [v155] r152.2, Own (sliceR intR 3) [v140] r139.1, Own (sliceR (pairR (sliceR intR 3) (sliceR intR 3)) 67) [v142] r139.2] := hS.top 15 rfl
          replace hS : Sat w0 w219 [Own (sliceR (pairR (sliceR intR 3) (sliceR intR 3)) 67) [v142] r139.2, Own (sliceR intR 3) [v131] r130.1, Own (sliceR (pairR (sliceR intR 3) (sliceR intR 3)) 67) [v133] r130.2, Own (sliceR intR 3) [v190] r189.1, Own (sliceR (pairR (sliceR intR 3) (sliceR intR 3)) 67) [v192] r189.2, Own (sliceR intR 3) [v215] r214.1, Own (sliceR (pairR (sliceR intR 3) (sliceR intR 3)) 67) [v217] r214.2, Box b173 30 [v166, v168], Box b160 30 [v153, v155], Box b107 25 [u2, u3], Box b103 25 [u0, u1], Own (sliceR intR 3) [v166] r165.1, Own (sliceR (pairR (sliceR intR 3) (sliceR intR 3)) 67) [v168] r165.2, Own (sliceR intR 3) [v153] r152.1, Own (sliceR (pairR (sliceR intR 3) (sliceR intR 3)) 67) [v155] r152.2, Own (sliceR intR 3) [v140] r139.1] := hS.top 15 rfl
          replace hS : Sat w0 w219 [Own (sliceR intR 3) [v140] r139.1, Own (sliceR (pairR (sliceR intR 3) (sliceR intR 3)) 67) [v142] r139.2, Own (sliceR intR 3) [v131] r130.1, Own (sliceR (pairR (sliceR intR 3) (sliceR intR 3)) 67) [v133] r130.2, Own (sliceR intR 3) [v190] r189.1, Own (sliceR (pairR (sliceR intR 3) (sliceR intR 3)) 67) [v192] r189.2, Own (sliceR intR 3) [v215] r214.1, Own (sliceR (pairR (sliceR intR 3) (sliceR intR 3)) 67) [v217] r214.2, Box b173 30 [v166, v168], Box b160 30 [v153, v155], Box b107 25 [u2, u3], Box b103 25 [u0, u1], Own (sliceR intR 3) [v166] r165.1, Own (sliceR (pairR (sliceR intR 3) (sliceR intR 3)) 67) [v168] r165.2, Own (sliceR intR 3) [v153] r152.1, Own (sliceR (pairR (sliceR intR 3) (sliceR intR 3)) 67) [v155] r152.2] := hS.top 15 rfl
          replace hS : Sat w0 w219 [Own (sliceR (pairR (sliceR intR 3) (sliceR intR 3)) 67) [v155] r152.2, Own (sliceR intR 3) [v140] r139.1, Own (sliceR (pairR (sliceR intR 3) (sliceR intR 3)) 67) [v142] r139.2, Own (sliceR intR 3) [v131] r130.1, Own (sliceR (pairR (sliceR intR 3) (sliceR intR 3)) 67) [v133] r130.2, Own (sliceR intR 3) [v190] r189.1, Own (sliceR (pairR (sliceR intR 3) (sliceR intR 3)) 67) [v192] r189.2, Own (sliceR intR 3) [v215] r214.1, Own (sliceR (pairR (sliceR intR 3) (sliceR intR 3)) 67) [v217] r214.2, Box b173 30 [v166, v168], Box b160 30 [v153, v155], Box b107 25 [u2, u3], Box b103 25 [u0, u1], Own (sliceR intR 3) [v166] r165.1, Own (sliceR (pairR (sliceR intR 3) (sliceR intR 3)) 67) [v168] r165.2, Own (sliceR intR 3) [v153] r152.1] := hS.top 15 rfl
          replace hS : Sat w0 w219 [Own (sliceR intR 3) [v153] r152.1, Own (sliceR (pairR (sliceR intR 3) (sliceR intR 3)) 67) [v155] r152.2, Own (sliceR intR 3) [v140] r139.1, Own (sliceR (pairR (sliceR intR 3) (sliceR intR 3)) 67) [v142] r139.2, Own (sliceR intR 3) [v131] r130.1, Own (sliceR (pairR (sliceR intR 3) (sliceR intR 3)) 67) [v133] r130.2, Own (sliceR intR 3) [v190] r189.1, Own (sliceR (pairR (sliceR intR 3) (sliceR intR 3)) 67) [v192] r189.2, Own (sliceR intR 3) [v215] r214.1, Own (sliceR (pairR (sliceR intR 3) (sliceR intR 3)) 67) [v217] r214.2, Box b173 30 [v166, v168], Box b160 30 [v153, v155], Box b107 25 [u2, u3], Box b103 25 [u0, u1], Own (sliceR intR 3) [v166] r165.1, Own (sliceR (pairR (sliceR intR 3) (sliceR intR 3)) 67) [v168] r165.2] := hS.top 15 rfl
          replace hS : Sat w0 w219 [Own (sliceR (pairR (sliceR intR 3) (sliceR intR 3)) 67) [v168] r165.2, Own (sliceR intR 3) [v153] r152.1, Own (sliceR (pairR (sliceR intR 3) (sliceR intR 3)) 67) [v155] r152.2, Own (sliceR intR 3) [v140] r139.1, Own (sliceR (pairR (sliceR intR 3) (sliceR intR 3)) 67) [v142] r139.2, Own (sliceR intR 3) [v131] r130.1, Own (sliceR (pairR (sliceR intR 3) (sliceR intR 3)) 67) [v133] r130.2, Own (sliceR intR 3) [v190] r189.1, Own (sliceR (pairR (sliceR intR 3) (sliceR intR 3)) 67) [v192] r189.2, Own (sliceR intR 3) [v215] r214.1, Own (sliceR (pairR (sliceR intR 3) (sliceR intR 3)) 67) [v217] r214.2, Box b173 30 [v166, v168], Box b160 30 [v153, v155], Box b107 25 [u2, u3], Box b103 25 [u0, u1], Own (sliceR intR 3) [v166] r165.1] := hS.top 15 rfl
          replace hS : Sat w0 w219 [Own (sliceR intR 3) [v166] r165.1, Own (sliceR (pairR (sliceR intR 3) (sliceR intR 3)) 67) [v168] r165.2, Own (sliceR intR 3) [v153] r152.1, Own (sliceR (pairR (sliceR intR 3) (sliceR intR 3)) 67) [v155] r152.2, Own (sliceR intR 3) [v140] r139.1, Own (sliceR (pairR (sliceR intR 3) (sliceR intR 3)) 67) [v142] r139.2, Own (sliceR intR 3) [v131] r130.1, Own (sliceR (pairR (sliceR intR 3) (sliceR intR 3)) 67) [v133] r130.2, Own (sliceR intR 3) [v190] r189.1, Own (sliceR (pairR (sliceR intR 3) (sliceR intR 3)) 67) [v192] r189.2, Own (sliceR intR 3) [v215] r214.1, Own (sliceR (pairR (sliceR intR 3) (sliceR intR 3)) 67) [v217] r214.2, Box b173 30 [v166, v168], Box b160 30 [v153, v155], Box b107 25 [u2, u3], Box b103 25 [u0, u1]] := hS.top 15 rfl
          replace hS : Sat w0 w219 [Box b103 25 [u0, u1], Own (sliceR intR 3) [v166] r165.1, Own (sliceR (pairR (sliceR intR 3) (sliceR intR 3)) 67) [v168] r165.2, Own (sliceR intR 3) [v153] r152.1, Own (sliceR (pairR (sliceR intR 3) (sliceR intR 3)) 67) [v155] r152.2, Own (sliceR intR 3) [v140] r139.1, Own (sliceR (pairR (sliceR intR 3) (sliceR intR 3)) 67) [v142] r139.2, Own (sliceR intR 3) [v131] r130.1, Own (sliceR (pairR (sliceR intR 3) (sliceR intR 3)) 67) [v133] r130.2, Own (sliceR intR 3) [v190] r189.1, Own (sliceR (pairR (sliceR intR 3) (sliceR intR 3)) 67) [v192] r189.2, Own (sliceR intR 3) [v215] r214.1, Own (sliceR (pairR (sliceR intR 3) (sliceR intR 3)) 67) [v217] r214.2, Box b173 30 [v166, v168], Box b160 30 [v153, v155], Box b107 25 [u2, u3]] := hS.top 15 rfl
          replace hS : Sat w0 w219 [Box b107 25 [u2, u3], Box b103 25 [u0, u1], Own (sliceR intR 3) [v166] r165.1, Own (sliceR (pairR (sliceR intR 3) (sliceR intR 3)) 67) [v168] r165.2, Own (sliceR intR 3) [v153] r152.1, Own (sliceR (pairR (sliceR intR 3) (sliceR intR 3)) 67) [v155] r152.2, Own (sliceR intR 3) [v140] r139.1, Own (sliceR (pairR (sliceR intR 3) (sliceR intR 3)) 67) [v142] r139.2, Own (sliceR intR 3) [v131] r130.1, Own (sliceR (pairR (sliceR intR 3) (sliceR intR 3)) 67) [v133] r130.2, Own (sliceR intR 3) [v190] r189.1, Own (sliceR (pairR (sliceR intR 3) (sliceR intR 3)) 67) [v192] r189.2, Own (sliceR intR 3) [v215] r214.1, Own (sliceR (pairR (sliceR intR 3) (sliceR intR 3)) 67) [v217] r214.2, Box b173 30 [v166, v168], Box b160 30 [v153, v155]] := hS.top 15 rfl
          replace hS : Sat w0 w219 [Box b160 30 [v153, v155], Box b107 25 [u2, u3], Box b103 25 [u0, u1], Own (sliceR intR 3) [v166] r165.1, Own (sliceR (pairR (sliceR intR 3) (sliceR intR 3)) 67) [v168] r165.2, Own (sliceR intR 3) [v153] r152.1, Own (sliceR (pairR (sliceR intR 3) (sliceR intR 3)) 67) [v155] r152.2, Own (sliceR intR 3) [v140] r139.1, Own (sliceR (pairR (sliceR intR 3) (sliceR intR 3)) 67) [v142] r139.2, Own (sliceR intR 3) [v131] r130.1, Own (sliceR (pairR (sliceR intR 3) (sliceR intR 3)) 67) [v133] r130.2, Own (sliceR intR 3) [v190] r189.1, Own (sliceR (pairR (sliceR intR 3) (sliceR intR 3)) 67) [v192] r189.2, Own (sliceR intR 3) [v215] r214.1, Own (sliceR (pairR (sliceR intR 3) (sliceR intR 3)) 67) [v217] r214.2, Box b173 30 [v166, v168]] := hS.top 15 rfl
          replace hS : Sat w0 w219 [Box b173 30 [v166, v168], Box b160 30 [v153, v155], Box b107 25 [u2, u3], Box b103 25 [u0, u1], Own (sliceR intR 3) [v166] r165.1, Own (sliceR (pairR (sliceR intR 3) (sliceR intR 3)) 67) [v168] r165.2, Own (sliceR intR 3) [v153] r152.1, Own (sliceR (pairR (sliceR intR 3) (sliceR intR 3)) 67) [v155] r152.2, Own (sliceR intR 3) [v140] r139.1, Own (sliceR (pairR (sliceR intR 3) (sliceR intR 3)) 67) [v142] r139.2, Own (sliceR intR 3) [v131] r130.1, Own (sliceR (pairR (sliceR intR 3) (sliceR intR 3)) 67) [v133] r130.2, Own (sliceR intR 3) [v190] r189.1, Own (sliceR (pairR (sliceR intR 3) (sliceR intR 3)) 67) [v192] r189.2, Own (sliceR intR 3) [v215] r214.1, Own (sliceR (pairR (sliceR intR 3) (sliceR intR 3)) 67) [v217] r214.2] := hS.top 15 rfl
          have hC := (hCd _).2 ⟨_, hS⟩
          have hoc221 := oc (hS.rdAt (R := (sliceR intR 3)) 4 rfl)
          have hoc222 := oc (hS.rdAt (R := (sliceR (pairR (sliceR intR 3) (sliceR intR 3)) 67)) 5 rfl)
          have hoc223 := oc (hS.rdAt (R := (sliceR intR 3)) 6 rfl)
          have hoc224 := oc (hS.rdAt (R := (sliceR (pairR (sliceR intR 3) (sliceR intR 3)) 67)) 7 rfl)
          have hoc225 := oc (hS.rdAt (R := (sliceR intR 3)) 8 rfl)
          have hoc226 := oc (hS.rdAt (R := (sliceR (pairR (sliceR intR 3) (sliceR intR 3)) 67)) 9 rfl)
          have hoc227 := oc (hS.rdAt (R := (sliceR intR 3)) 10 rfl)
          have hoc228 := oc (hS.rdAt (R := (sliceR (pairR (sliceR intR 3) (sliceR intR 3)) 67)) 11 rfl)
          have hoc229 := oc (hS.rdAt (R := (sliceR intR 3)) 12 rfl)
          have hoc230 := oc (hS.rdAt (R := (sliceR (pairR (sliceR intR 3) (sliceR intR 3)) 67)) 13 rfl)
          have hoc231 := oc (hS.rdAt (R := (sliceR intR 3)) 14 rfl)
          have hoc232 := oc (hS.rdAt (R := (sliceR (pairR (sliceR intR 3) (sliceR intR 3)) 67)) 15 rfl)
          refine ⟨fun _ => hC, ?_⟩
          refine al_one 3 (by kernel_rfl) rfl ?_
          replace hF := ob hF
          obtain ⟨r233, hr233, hF⟩ := hF
          refine el_call goes13 (laws_eqFactorization_ok (hS.rdAt (R := (sliceR intR 3)) 4 rfl) (hS.rdAt (R := (sliceR (pairR (sliceR intR 3) (sliceR intR 3)) 67)) 5 rfl) (hS.rdAt (R := (sliceR intR 3)) 14 rfl) (hS.rdAt (R := (sliceR (pairR (sliceR intR 3) (sliceR intR 3)) 67)) 15 rfl) hr233) (congrArg List.toArray (mapc rfl (mapc rfl rfl))) (by decide) ?_
          rintro _ w234 ⟨rfl, hx235⟩
          refine ⟨_, rfl, ?_⟩
          replace hS := hS.ext hx235
          refine el_nil ?_
          replace hS : Sat w0 w234 [Own (sliceR (pairR (sliceR intR 3) (sliceR intR 3)) 67) [v192] r189.2, Box b173 30 [v166, v168], Box b160 30 [v153, v155], Box b107 25 [u2, u3], Box b103 25 [u0, u1], Own (sliceR intR 3) [v166] r165.1, Own (sliceR (pairR (sliceR intR 3) (sliceR intR 3)) 67) [v168] r165.2, Own (sliceR intR 3) [v153] r152.1, Own (sliceR (pairR (sliceR intR 3) (sliceR intR 3)) 67) [v155] r152.2, Own (sliceR intR 3) [v140] r139.1, Own (sliceR (pairR (sliceR intR 3) (sliceR intR 3)) 67) [v142] r139.2, Own (sliceR intR 3) [v131] r130.1, Own (sliceR (pairR (sliceR intR 3) (sliceR intR 3)) 67) [v133] r130.2, Own (sliceR intR 3) [v190] r189.1, Own (sliceR intR 3) [v215] r214.1, Own (sliceR (pairR (sliceR intR 3) (sliceR intR 3)) 67) [v217] r214.2] := hS.top 13 rfl
          replace hS : Sat w0 w234 [Own (sliceR intR 3) [v190] r189.1, Own (sliceR (pairR (sliceR intR 3) (sliceR intR 3)) 67) [v192] r189.2, Box b173 30 [v166, v168], Box b160 30 [v153, v155], Box b107 25 [u2, u3], Box b103 25 [u0, u1], Own (sliceR intR 3) [v166] r165.1, Own (sliceR (pairR (sliceR intR 3) (sliceR intR 3)) 67) [v168] r165.2, Own (sliceR intR 3) [v153] r152.1, Own (sliceR (pairR (sliceR intR 3) (sliceR intR 3)) 67) [v155] r152.2, Own (sliceR intR 3) [v140] r139.1, Own (sliceR (pairR (sliceR intR 3) (sliceR intR 3)) 67) [v142] r139.2, Own (sliceR intR 3) [v131] r130.1, Own (sliceR (pairR (sliceR intR 3) (sliceR intR 3)) 67) [v133] r130.2, Own (sliceR intR 3) [v215] r214.1, Own (sliceR (pairR (sliceR intR 3) (sliceR intR 3)) 67) [v217] r214.2] := hS.top 13 rfl
          replace hS : Sat w0 w234 [Own (sliceR (pairR (sliceR intR 3) (sliceR intR 3)) 67) [v133] r130.2, Own (sliceR intR 3) [v190] r189.1, Own (sliceR (pairR (sliceR intR 3) (sliceR intR 3)) 67) [v192] r189.2, Box b173 30 [v166, v168], Box b160 30 [v153, v155], Box b107 25 [u2, u3], Box b103 25 [u0, u1], Own (sliceR intR 3) [v166] r165.1, Own (sliceR (pairR (sliceR intR 3) (sliceR intR 3)) 67) [v168] r165.2, Own (sliceR intR 3) [v153] r152.1, Own (sliceR (pairR (sliceR intR 3) (sliceR intR 3)) 67) [v155] r152.2, Own (sliceR intR 3) [v140] r139.1, Own (sliceR (pairR (sliceR intR 3) (sliceR intR 3)) 67) [v142] r139.2, Own (sliceR intR 3) [v131] r130.1, Own (sliceR intR 3) [v215] r214.1, Own (sliceR (pairR (sliceR intR 3) (sliceR intR 3)) 67) [v217] r214.2] := hS.top 13 rfl
          replace hS : Sat w0 w234 [Own (sliceR intR 3) [v131] r130.1, Own (sliceR (pairR (sliceR intR 3) (sliceR intR 3)) 67) [v133] r130.2, Own (sliceR intR 3) [v190] r189.1, Own (sliceR (pairR (sliceR intR 3) (sliceR intR 3)) 67) [v192] r189.2, Box b173 30 [v166, v168], Box b160 30 [v153, v155], Box b107 25 [u2, u3], Box b103 25 [u0, u1], Own (sliceR intR 3) [v166] r165.1, Own (sliceR (pairR (sliceR intR 3) (sliceR intR 3)) 67) [v168] r165.2, Own (sliceR intR 3) [v153] r152.1, Own (sliceR (pairR (sliceR intR 3) (sliceR intR 3)) 67) [v155] r152.2, Own (sliceR intR 3) [v140] r139.1, Own (sliceR (pairR (sliceR intR 3) (sliceR intR 3)) 67) [v142] r139.2, Own (sliceR intR 3) [v215] r214.1, Own (sliceR (pairR (sliceR intR 3) (sliceR intR 3)) 67) [v217] r214.2] := hS.top 13 rfl
          replace hS : Sat w0 w234 [Own (sliceR (pairR (sliceR intR 3) (sliceR intR 3)) 67) [v142] r139.2, Own (sliceR intR 3) [v131] r130.1, Own (sliceR (pairR (sliceR intR 3) (sliceR intR 3)) 67) [v133] r130.2, Own (sliceR intR 3) [v190] r189.1, Own (sliceR (pairR (sliceR intR 3) (sliceR intR 3)) 67) [v192] r189.2, Box b173 30 [v166, v168], Box b160 30 [v153, v155], Box b107 25 [u2, u3], Box b103 25 [u0, u1], Own (sliceR intR 3) [v166] r165.1, Own (sliceR (pairR (sliceR intR 3) (sliceR intR 3)) 67) [v168] r165.2, Own (sliceR intR 3) [v153] r152.1, Own (sliceR (pairR (sliceR intR 3) (sliceR intR 3)) 67) [v155] r152.2, Own (sliceR intR 3) [v140] r139.1, Own (sliceR intR 3) [v215] r214.1, Own (sliceR (pairR (sliceR intR 3) (sliceR intR 3)) 67) [v217] r214.2] := hS.top 13 rfl
          replace hS : Sat w0 w234 [Own (sliceR intR 3) [v140] r139.1, Own (sliceR (pairR (sliceR intR 3) (sliceR intR 3)) 67) [v142] r139.2, Own (sliceR intR 3) [v131] r130.1, Own (sliceR (pairR (sliceR intR 3) (sliceR intR 3)) 67) [v133] r130.2, Own (sliceR intR 3) [v190] r189.1, Own (sliceR (pairR (sliceR intR 3) (sliceR intR 3)) 67) [v192] r189.2, Box b173 30 [v166, v168], Box b160 30 [v153, v155], Box b107 25 [u2, u3], Box b103 25 [u0, u1], Own (sliceR intR 3) [v166] r165.1, Own (sliceR (pairR (sliceR intR 3) (sliceR intR 3)) 67) [v168] r165.2, Own (sliceR intR 3) [v153] r152.1, Own (sliceR (pairR (sliceR intR 3) (sliceR intR 3)) 67) [v155] r152.2, Own (sliceR intR 3) [v215] r214.1, Own (sliceR (pairR (sliceR intR 3) (sliceR intR 3)) 67) [v217] r214.2] := hS.top 13 rfl
          replace hS : Sat w0 w234 [Own (sliceR (pairR (sliceR intR 3) (sliceR intR 3)) 67) [v155] r152.2, Own (sliceR intR 3) [v140] r139.1, Own (sliceR (pairR (sliceR intR 3) (sliceR intR 3)) 67) [v142] r139.2, Own (sliceR intR 3) [v131] r130.1, Own (sliceR (pairR (sliceR intR 3) (sliceR intR 3)) 67) [v133] r130.2, Own (sliceR intR 3) [v190] r189.1, Own (sliceR (pairR (sliceR intR 3) (sliceR intR 3)) 67) [v192] r189.2, Box b173 30 [v166, v168], Box b160 30 [v153, v155], Box b107 25 [u2, u3], Box b103 25 [u0, u1], Own (sliceR intR 3) [v166] r165.1, Own (sliceR (pairR (sliceR intR 3) (sliceR intR 3)) 67) [v168] r165.2, Own (sliceR intR 3) [v153] r152.1, Own (sliceR intR 3) [v215] r214.1, Own (sliceR (pairR (sliceR intR 3) (sliceR intR 3)) 67) [v217] r214.2] := hS.top 13 rfl
          replace hS : Sat w0 w234 [Own (sliceR intR 3) [v153] r152.1, Own (sliceR (pairR (sliceR intR 3) (sliceR intR 3)) 67) [v155] r152.2, Own (sliceR intR 3) [v140] r139.1, Own (sliceR (pairR (sliceR intR 3) (sliceR intR 3)) 67) [v142] r139.2, Own (sliceR intR 3) [v131] r130.1, Own (sliceR (pairR (sliceR intR 3) (sliceR intR 3)) 67) [v133] r130.2, Own (sliceR intR 3) [v190] r189.1, Own (sliceR (pairR (sliceR intR 3) (sliceR intR 3)) 67) [v192] r189.2, Box b173 30 [v166, v168], Box b160 30 [v153, v155], Box b107 25 [u2, u3], Box b103 25 [u0, u1], Own (sliceR intR 3) [v166] r165.1, Own (sliceR (pairR (sliceR intR 3) (sliceR intR 3)) 67) [v168] r165.2, Own (sliceR intR 3) [v215] r214.1, Own (sliceR (pairR (sliceR intR 3) (sliceR intR 3)) 67) [v217] r214.2] := hS.top 13 rfl
          replace hS : Sat w0 w234 [Own (sliceR (pairR (sliceR intR 3) (sliceR intR 3)) 67) [v168] r165.2, Own (sliceR intR 3) [v153] r152.1, Own (sliceR (pairR (sliceR intR 3) (sliceR intR 3)) 67) [v155] r152.2, Own (sliceR intR 3) [v140] r139.1, Own (sliceR (pairR (sliceR intR 3) (sliceR intR 3)) 67) [v142] r139.2, Own (sliceR intR 3) [v131] r130.1, Own (sliceR (pairR (sliceR intR 3) (sliceR intR 3)) 67) [v133] r130.2, Own (sliceR intR 3) [v190] r189.1, Own (sliceR (pairR (sliceR intR 3) (sliceR intR 3)) 67) [v192] r189.2, Box b173 30 [v166, v168], Box b160 30 [v153, v155], Box b107 25 [u2, u3], Box b103 25 [u0, u1], Own (sliceR intR 3) [v166] r165.1, Own (sliceR intR 3) [v215] r214.1, Own (sliceR (pairR (sliceR intR 3) (sliceR intR 3)) 67) [v217] r214.2] := hS.top 13 rfl
          replace hS : Sat w0 w234 [Own (sliceR intR 3) [v166] r165.1, Own (sliceR (pairR (sliceR intR 3) (sliceR intR 3)) 67) [v168] r165.2, Own (sliceR intR 3) [v153] r152.1, Own (sliceR (pairR (sliceR intR 3) (sliceR intR 3)) 67) [v155] r152.2, Own (sliceR intR 3) [v140] r139.1, Own (sliceR (pairR (sliceR intR 3) (sliceR intR 3)) 67) [v142] r139.2, Own (sliceR intR 3) [v131] r130.1, Own (sliceR (pairR (sliceR intR 3) (sliceR intR 3)) 67) [v133] r130.2, Own (sliceR intR 3) [v190] r189.1, Own (sliceR (pairR (sliceR intR 3) (sliceR intR 3)) 67) [v192] r189.2, Box b173 30 [v166, v168], Box b160 30 [v153, v155], Box b107 25 [u2, u3], Box b103 25 [u0, u1], Own (sliceR intR 3) [v215] r214.1, Own (sliceR (pairR (sliceR intR 3) (sliceR intR 3)) 67) [v217] r214.2] := hS.top 13 rfl
          replace hS : Sat w0 w234 [Box b103 25 [u0, u1], Own (sliceR intR 3) [v166] r165.1, Own (sliceR (pairR (sliceR intR 3) (sliceR intR 3)) 67) [v168] r165.2, Own (sliceR intR 3) [v153] r152.1, Own (sliceR (pairR (sliceR intR 3) (sliceR intR 3)) 67) [v155] r152.2, Own (sliceR intR 3) [v140] r139.1, Own (sliceR (pairR (sliceR intR 3) (sliceR intR 3)) 67) [v142] r139.2, Own (sliceR intR 3) [v131] r130.1, Own (sliceR (pairR (sliceR intR 3) (sliceR intR 3)) 67) [v133] r130.2, Own (sliceR intR 3) [v190] r189.1, Own (sliceR (pairR (sliceR intR 3) (sliceR intR 3)) 67) [v192] r189.2, Box b173 30 [v166, v168], Box b160 30 [v153, v155], Box b107 25 [u2, u3], Own (sliceR intR 3) [v215] r214.1, Own (sliceR (pairR (sliceR intR 3) (sliceR intR 3)) 67) [v217] r214.2] := hS.top 13 rfl
          replace hS : Sat w0 w234 [Box b107 25 [u2, u3], Box b103 25 [u0, u1], Own (sliceR intR 3) [v166] r165.1, Own (sliceR (pairR (sliceR intR 3) (sliceR intR 3)) 67) [v168] r165.2, Own (sliceR intR 3) [v153] r152.1, Own (sliceR (pairR (sliceR intR 3) (sliceR intR 3)) 67) [v155] r152.2, Own (sliceR intR 3) [v140] r139.1, Own (sliceR (pairR (sliceR intR 3) (sliceR intR 3)) 67) [v142] r139.2, Own (sliceR intR 3) [v131] r130.1, Own (sliceR (pairR (sliceR intR 3) (sliceR intR 3)) 67) [v133] r130.2, Own (sliceR intR 3) [v190] r189.1, Own (sliceR (pairR (sliceR intR 3) (sliceR intR 3)) 67) [v192] r189.2, Box b173 30 [v166, v168], Box b160 30 [v153, v155], Own (sliceR intR 3) [v215] r214.1, Own (sliceR (pairR (sliceR intR 3) (sliceR intR 3)) 67) [v217] r214.2] := hS.top 13 rfl
          replace hS : Sat w0 w234 [Box b160 30 [v153, v155], Box b107 25 [u2, u3], Box b103 25 [u0, u1], Own (sliceR intR 3) [v166] r165.1, Own (sliceR (pairR (sliceR intR 3) (sliceR intR 3)) 67) [v168] r165.2, Own (sliceR intR 3) [v153] r152.1, Own (sliceR (pairR (sliceR intR 3) (sliceR intR 3)) 67) [v155] r152.2, Own (sliceR intR 3) [v140] r139.1, Own (sliceR (pairR (sliceR intR 3) (sliceR intR 3)) 67) [v142] r139.2, Own (sliceR intR 3) [v131] r130.1, Own (sliceR (pairR (sliceR intR 3) (sliceR intR 3)) 67) [v133] r130.2, Own (sliceR intR 3) [v190] r189.1, Own (sliceR (pairR (sliceR intR 3) (sliceR intR 3)) 67) [v192] r189.2, Box b173 30 [v166, v168], Own (sliceR intR 3) [v215] r214.1, Own (sliceR (pairR (sliceR intR 3) (sliceR intR 3)) 67) [v217] r214.2] := hS.top 13 rfl
          replace hS : Sat w0 w234 [Box b173 30 [v166, v168], Box b160 30 [v153, v155], Box b107 25 [u2, u3], Box b103 25 [u0, u1], Own (sliceR intR 3) [v166] r165.1, Own (sliceR (pairR (sliceR intR 3) (sliceR intR 3)) 67) [v168] r165.2, Own (sliceR intR 3) [v153] r152.1, Own (sliceR (pairR (sliceR intR 3) (sliceR intR 3)) 67) [v155] r152.2, Own (sliceR intR 3) [v140] r139.1, Own (sliceR (pairR (sliceR intR 3) (sliceR intR 3)) 67) [v142] r139.2, Own (sliceR intR 3) [v131] r130.1, Own (sliceR (pairR (sliceR intR 3) (sliceR intR 3)) 67) [v133] r130.2, Own (sliceR intR 3) [v190] r189.1, Own (sliceR (pairR (sliceR intR 3) (sliceR intR 3)) 67) [v192] r189.2, Own (sliceR intR 3) [v215] r214.1, Own (sliceR (pairR (sliceR intR 3) (sliceR intR 3)) 67) [v217] r214.2] := hS.top 13 rfl
          have hC := (hCd _).2 ⟨_, hS⟩
          refine ⟨fun _ => hC, ?_⟩
          refine al_p (v := .bool (!r233)) (by kernel_rfl) 4 rfl rfl (by decide) hC (by kernel_rfl) (by kernel_rfl) (sv_on rfl (fun w' hw' => by obtain ⟨_, hS⟩ := (hCd _).1 hw'; exact (pv_not rfl))) ?_
          refine al_nil (by kernel_rfl) ?_
          refine hQ211 _ _ _ ?_
          refine thn_n ?_
          replace hF := oif hF
          rcases hF with ⟨hb236, hF⟩ | ⟨hb236, hF⟩
          · refine cw_cond_f rfl (bnot_t hb236) ?_
            refine cw_skip ?_
            refine hQ210 _ _ _ ?_
            refine thn_n ?_
            refine cw_seq ?_
            refine cw_gen ?_
            intro Q237 hQ237
            refine cw_reg ?_
            refine el_pv (v := .bool true) (pv_assign rfl) (by decide) ?_
            refine el_nil ?_
            refine hQ237 _ _ _ ?_
            refine thn_n ?_
            refine cw_ret ?_
            refine fin1 rfl rfl ?_
            have hr := Option.some.inj hF
            exact ⟨congrArg (fun (r : Bool) => Ending.returned (.bool r)) hr, hS.below⟩
          · refine cw_cond_t rfl (bnot_f hb236) ?_
            refine cw_seq ?_
            refine cw_gen ?_
            intro Q238 hQ238
            refine cw_reg ?_
            refine el_pv (v := .bool false) (pv_assign rfl) (by decide) ?_
            refine el_nil ?_
            refine hQ238 _ _ _ ?_
            refine thn_n ?_
            refine cw_ret ?_
            refine hQ210 _ _ _ ?_
            refine thn_r ?_
            refine fin1 rfl rfl ?_
            have hr := Option.some.inj hF
            exact ⟨congrArg (fun (r : Bool) => Ending.returned (.bool r)) hr, hS.below⟩
        · refine cw_cond_t rfl (bnot_f hb209) ?_
          refine cw_seq ?_
          refine cw_gen ?_
          intro Q239 hQ239
          refine cw_reg ?_
          refine el_pv (v := .bool false) (pv_assign rfl) (by decide) ?_
          refine el_nil ?_
          refine hQ239 _ _ _ ?_
          refine thn_n ?_
          refine cw_ret ?_
          refine hQ185 _ _ _ ?_
          refine thn_r ?_
          refine fin1 rfl rfl ?_
          have hr := Option.some.inj hF
          exact ⟨congrArg (fun (r : Bool) => Ending.returned (.bool r)) hr, hS.below⟩
set_option maxHeartbeats 4000000 in
theorem laws_szIntSS_ok {w0 : World} {u0 : Value} {a0 : List (List Int)} {a1 : Int} (ha0 : (sliceR (sliceR intR 3) 22).rd w0 [u0] a0) {N : Nat} {r : Int} (hF : laws_szIntSS N a0 a1 = some r) :
    Calls Try.prog 66 #[u0, .int .i64 a1] w0 fun e w' => e = .returned (.int .i64 r) ∧ Ext w0 w' := by
  unfold laws_szIntSS at hF
  refine calls_E Try.func66 rfl rfl (of_decide_eq_true rfl) ?_
  have hS := Sat.start w0
  refine cw_seq ?_
  refine cw_gen ?_
  intro Q101 hQ101
  refine cw_reg ?_
  refine el_pv (v := .int .i64 0) (pv_assign rfl) (by decide) ?_
  refine el_nil ?_
  refine hQ101 _ _ _ ?_
  refine thn_n ?_
  refine cw_seq ?_
  refine cw_gen ?_
  intro Q102 hQ102
  refine cw_reg ?_
  refine el_pv (v := .int .i64 a1) (pv_move rfl) (by decide) ?_
  refine el_pv (v := u0) (pv_move rfl) (by decide) ?_
  refine el_pv (v := .int .i64 (a0.length : Int)) (pv_len rfl ha0) (by decide) ?_
  replace hF := ob hF
  obtain ⟨x103, hx103, hF⟩ := hF
  refine el_pv (v := .int .i64 x103) (pv_sub rfl rfl hx103) (by decide) ?_
  refine el_pv (v := .int .i64 x103) (pv_assign rfl) (by decide) ?_
  refine el_nil ?_
  refine hQ102 _ _ _ ?_
  refine thn_n ?_
  refine cw_seq ?_
  refine cw_gen ?_
  intro Q104 hQ104
  refine cw_seq ?_
  refine cw_gen ?_
  intro Q105 hQ105
  refine cw_reg ?_
  refine el_pv (v := .int .i64 x103) (pv_move rfl) (by decide) ?_
  refine el_pv (v := .bool (decide (x103 < 0))) (pv_lss rfl rfl) (by decide) ?_
  refine el_nil ?_
  refine hQ105 _ _ _ ?_
  refine thn_n ?_
  replace hF := oif hF
  rcases hF with ⟨hb106, hF⟩ | ⟨hb106, hF⟩
  · refine cw_cond_t rfl hb106 ?_
    refine cw_seq ?_
    refine cw_gen ?_
    intro Q107 hQ107
    refine cw_reg ?_
    refine el_pv (v := .int .i64 (-1)) (pv_assign rfl) (by decide) ?_
    refine el_nil ?_
    refine hQ107 _ _ _ ?_
    refine thn_n ?_
    refine cw_ret ?_
    refine hQ104 _ _ _ ?_
    refine thn_r ?_
    refine fin1 rfl rfl ?_
    have hr := Option.some.inj hF
    exact ⟨congrArg (fun (r : Int) => Ending.returned (.int .i64 r)) hr, hS.below⟩
  · refine cw_cond_f rfl hb106 ?_
    refine cw_skip ?_
    refine hQ104 _ _ _ ?_
    refine thn_n ?_
    refine cw_seq ?_
    refine cw_gen ?_
    intro Q108 hQ108
    refine cw_seq ?_
    refine cw_gen ?_
    intro Q109 hQ109
    refine cw_reg ?_
    refine el_pv (v := .int .i64 0) (pv_assign rfl) (by decide) ?_
    refine el_nil ?_
    refine hQ109 _ _ _ ?_
    refine thn_n ?_
    refine cw_block ?_
    refine cw_gen ?_
    intro Q110 hQ110
    obtain ⟨s111, hL, hK112⟩ := ob hF
    refine cw_loopS (fun k e w => ∃ (x113 : Int), ∃ (x114 : Int), e 0 = u0 ∧ e 1 = .int .i64 x113 ∧ e 5 = .int .i64 x114 ∧ Sat w0 w [] ∧ laws_szIntSS_L1 N k a0 x113 x114 = some s111) N ?_ ?_ ?_
    · exact ⟨x103, 0, rfl, rfl, rfl, hS, hL⟩
    · rintro e w ⟨_, _, _, _, _, _, hz⟩; exact nomatch (show none = some _ from hz)
    · rintro k e119 w118 ⟨x113, x114, he115, he116, he117, hS, hF⟩
      refine cw_gen ?_
      intro Q120 hQ120
      refine cw_seq ?_
      refine cw_gen ?_
      intro Q121 hQ121
      refine cw_seq ?_
      refine cw_gen ?_
      intro Q122 hQ122
      refine cw_reg ?_
      refine el_pv (v := .int .i64 x114) (pv_move he117) (by decide) ?_
      refine el_pv (v := u0) (pv_move he115) (by decide) ?_
      refine el_pv (v := .int .i64 (a0.length : Int)) (pv_len rfl ha0) (by decide) ?_
      refine el_pv (v := .bool (decide (x114 < (a0.length : Int)))) (pv_lss rfl rfl) (by decide) ?_
      refine el_nil ?_
      refine hQ122 _ _ _ ?_
      refine thn_n ?_
      replace hF := oif hF
      rcases hF with ⟨hb123, hF⟩ | ⟨hb123, hF⟩
      · refine cw_cond_t rfl hb123 ?_
        refine cw_skip ?_
        refine hQ121 _ _ _ ?_
        refine thn_n ?_
        refine cw_seq ?_
        refine cw_gen ?_
        intro Q124 hQ124
        refine cw_block ?_
        refine cw_gen ?_
        intro Q125 hQ125
        refine cw_seq ?_
        refine cw_gen ?_
        intro Q126 hQ126
        refine cw_reg ?_
        refine el_pv (v := u0) (pv_move he115) (by decide) ?_
        refine el_pv (v := .int .i64 x114) (pv_move he117) (by decide) ?_
        replace hF := ob hF
        obtain ⟨x127, hx127, hF⟩ := hF
        refine el_index (wA := w0) rfl ha0 rfl (by decide) rfl hx127 (by decide) ?_
        intro b128 of129 c130 hr131 hm132
        obtain ⟨v133, rfl⟩ := slice_one hr131
        refine el_pv (v := v133) (pv_loadc rfl ((cells_up hS.below hm132) 0 _ rfl)) (by decide) ?_
        refine el_pv (v := .int .i64 x113) (pv_move he116) (by decide) ?_
        replace hF := ob hF
        obtain ⟨r134, hr134, hF⟩ := hF
        refine el_call goes44 (laws_szIntS_ok (hS.up hr131) hr134) (congrArg List.toArray (mapc rfl (mapc rfl rfl))) (by decide) ?_
        rintro _ w135 ⟨rfl, hx136⟩
        refine ⟨_, rfl, ?_⟩
        replace hS := hS.ext hx136
        refine el_pv (v := .int .i64 r134) (pv_assign rfl) (by decide) ?_
        refine el_nil ?_
        refine hQ126 _ _ _ ?_
        refine thn_n ?_
        refine cw_seq ?_
        refine cw_gen ?_
        intro Q137 hQ137
        refine cw_reg ?_
        refine el_pv (v := .int .i64 r134) (pv_move rfl) (by decide) ?_
        refine el_pv (v := .bool (decide (r134 < 0))) (pv_lss rfl rfl) (by decide) ?_
        refine el_nil ?_
        refine hQ137 _ _ _ ?_
        refine thn_n ?_
        replace hF := oif hF
        rcases hF with ⟨hb138, hF⟩ | ⟨hb138, hF⟩
        · refine cw_cond_t rfl hb138 ?_
          refine cw_seq ?_
          refine cw_gen ?_
          intro Q139 hQ139
          refine cw_reg ?_
          refine el_pv (v := .int .i64 (-1)) (pv_assign rfl) (by decide) ?_
          refine el_nil ?_
          refine hQ139 _ _ _ ?_
          refine thn_n ?_
          refine cw_ret ?_
          refine hQ125 _ _ _ ?_
          refine inb_r ?_
          refine hQ124 _ _ _ ?_
          refine thn_r ?_
          refine hQ120 _ _ _ ?_
          refine thn_r ?_
          refine hQ110 _ _ _ ?_
          refine inb_r ?_
          refine hQ108 _ _ _ ?_
          refine thn_r ?_
          replace hF := exL hF hK112
          refine fin1 rfl rfl ?_
          have hr := Option.some.inj hF
          exact ⟨congrArg (fun (r : Int) => Ending.returned (.int .i64 r)) hr, hS.below⟩
        · refine cw_cond_f rfl hb138 ?_
          refine cw_skip ?_
          refine hQ125 _ _ _ ?_
          refine inb_n ?_
          refine hQ124 _ _ _ ?_
          refine thn_n ?_
          refine cw_reg ?_
          refine el_pv (v := .int .i64 x114) (pv_move he117) (by decide) ?_
          replace hF := ob hF
          obtain ⟨x140, hx140, hF⟩ := hF
          refine el_pv (v := .int .i64 x140) (pv_add rfl rfl hx140) (by decide) ?_
          refine el_pv (v := .int .i64 x140) (pv_assign rfl) (by decide) ?_
          refine el_nil ?_
          refine hQ120 _ _ _ ?_
          refine thn_n ?_
          replace hS := hS.keep 0
          exact ⟨r134, x140, he115, rfl, rfl, hS, hF⟩
      · refine cw_cond_f rfl hb123 ?_
        refine cw_exit ?_
        refine hQ121 _ _ _ ?_
        refine thn_x ?_
        refine hQ120 _ _ _ ?_
        refine thn_x ?_
        replace hF := exA hF hK112
        refine hQ110 _ _ _ ?_
        refine inb_s ?_
        refine hQ108 _ _ _ ?_
        refine thn_n ?_
        refine cw_seq ?_
        refine cw_gen ?_
        intro Q141 hQ141
        refine cw_reg ?_
        refine el_pv (v := .int .i64 x113) (pv_move he116) (by decide) ?_
        refine el_pv (v := .int .i64 x113) (pv_assign rfl) (by decide) ?_
        refine el_nil ?_
        refine hQ141 _ _ _ ?_
        refine thn_n ?_
        refine cw_ret ?_
        refine fin1 rfl rfl ?_
        have hr := Option.some.inj hF
        exact ⟨congrArg (fun (r : Int) => Ending.returned (.int .i64 r)) hr, hS.below⟩
set_option maxHeartbeats 4000000 in
theorem laws_szRelation_ok {w0 : World} {a0 : Int} {u1 : Value} {a1 : List (List Int)} {a2 : Int} (ha1 : (sliceR (sliceR intR 3) 22).rd w0 [u1] a1) {N : Nat} {r : Int} (hF : laws_szRelation N a0 a1 a2 = some r) :
    Calls Try.prog 25 #[.agg #[.int .i64 a0, u1], .int .i64 a2] w0 fun e w' => e = .returned (.int .i64 r) ∧ Ext w0 w' := by
  unfold laws_szRelation at hF
  refine calls_E Try.func25 rfl rfl (of_decide_eq_true rfl) ?_
  have hS := Sat.start w0
  refine cw_seq ?_
  refine cw_gen ?_
  intro Q101 hQ101
  refine cw_reg ?_
  refine el_box [.int .i64 a0, u1] rfl hS (by decide) ?_
  intro w102 b103 hS hx104
  refine el_pv (v := .int .i64 0) (pv_assign rfl) (by decide) ?_
  refine el_nil ?_
  refine hQ101 _ _ _ ?_
  refine thn_n ?_
  refine cw_seq ?_
  refine cw_gen ?_
  intro Q106 hQ106
  refine cw_reg ?_
  refine el_pv (v := .pointer (some ⟨b103, 0 + 1, none⟩)) (pv_fieldAddr rfl) (by decide) ?_
  refine el_pv (v := u1) (pv_loadc rfl ((hS.boxAt 0 rfl) 1 _ rfl)) (by decide) ?_
  refine el_pv (v := .int .i64 a2) (pv_move rfl) (by decide) ?_
  replace hF := ob hF
  obtain ⟨r107, hr107, hF⟩ := hF
  refine el_call goes66 (laws_szIntSS_ok (hS.up ha1) hr107) (congrArg List.toArray (mapc rfl (mapc rfl rfl))) (by decide) ?_
  rintro _ w108 ⟨rfl, hx109⟩
  refine ⟨_, rfl, ?_⟩
  replace hS := hS.ext hx109
  refine el_pv (v := .int .i64 r107) (pv_assign rfl) (by decide) ?_
  refine el_nil ?_
  refine hQ106 _ _ _ ?_
  refine thn_n ?_
  refine cw_seq ?_
  refine cw_gen ?_
  intro Q110 hQ110
  refine cw_seq ?_
  refine cw_gen ?_
  intro Q111 hQ111
  refine cw_reg ?_
  refine el_pv (v := .int .i64 r107) (pv_move rfl) (by decide) ?_
  refine el_pv (v := .bool (decide (r107 < 0))) (pv_lss rfl rfl) (by decide) ?_
  refine el_nil ?_
  refine hQ111 _ _ _ ?_
  refine thn_n ?_
  replace hF := oif hF
  rcases hF with ⟨hb112, hF⟩ | ⟨hb112, hF⟩
  · refine cw_cond_t rfl hb112 ?_
    refine cw_seq ?_
    refine cw_gen ?_
    intro Q113 hQ113
    refine cw_reg ?_
    refine el_pv (v := .int .i64 (-1)) (pv_assign rfl) (by decide) ?_
    refine el_nil ?_
    refine hQ113 _ _ _ ?_
    refine thn_n ?_
    refine cw_ret ?_
    refine hQ110 _ _ _ ?_
    refine thn_r ?_
    refine fin1 rfl rfl ?_
    have hr := Option.some.inj hF
    exact ⟨congrArg (fun (r : Int) => Ending.returned (.int .i64 r)) hr, hS.below⟩
  · refine cw_cond_f rfl hb112 ?_
    refine cw_skip ?_
    refine hQ110 _ _ _ ?_
    refine thn_n ?_
    refine cw_seq ?_
    refine cw_gen ?_
    intro Q114 hQ114
    refine cw_reg ?_
    refine el_pv (v := .int .i64 r107) (pv_move rfl) (by decide) ?_
    refine el_pv (v := .int .i64 r107) (pv_assign rfl) (by decide) ?_
    refine el_nil ?_
    refine hQ114 _ _ _ ?_
    refine thn_n ?_
    refine cw_ret ?_
    refine fin1 rfl rfl ?_
    have hr := Option.some.inj hF
    exact ⟨congrArg (fun (r : Int) => Ending.returned (.int .i64 r)) hr, hS.below⟩
set_option maxHeartbeats 4000000 in
theorem laws_szDelta_ok {w0 : World} {a0 : ByteArray} {a1 : Int} {u2 : Value} {a2 : List (List Int)} {a3 : Int} {u4 : Value} {a4 : List (List Int)} {a5 : Int} (_ : a0.size ≤ 9223372036854775807) (ha2 : (sliceR (sliceR intR 3) 22).rd w0 [u2] a2) (ha4 : (sliceR (sliceR intR 3) 22).rd w0 [u4] a4) {N : Nat} {r : Int} (hF : laws_szDelta N a0 a1 a2 a3 a4 a5 = some r) :
    Calls Try.prog 14 #[.agg #[.string a0, .int .i64 a1, u2, .int .i64 a3, u4], .int .i64 a5] w0 fun e w' => e = .returned (.int .i64 r) ∧ Ext w0 w' := by
  unfold laws_szDelta at hF
  refine calls_E Try.func14 rfl rfl (of_decide_eq_true rfl) ?_
  have hS := Sat.start w0
  refine cw_seq ?_
  refine cw_gen ?_
  intro Q101 hQ101
  refine cw_reg ?_
  refine el_box [.string a0, .int .i64 a1, u2, .int .i64 a3, u4] rfl hS (by decide) ?_
  intro w102 b103 hS hx104
  refine el_pv (v := .int .i64 0) (pv_assign rfl) (by decide) ?_
  refine el_nil ?_
  refine hQ101 _ _ _ ?_
  refine thn_n ?_
  refine cw_seq ?_
  refine cw_gen ?_
  intro Q106 hQ106
  refine cw_reg ?_
  refine el_pv (v := .int .i64 a5) (pv_move rfl) (by decide) ?_
  refine el_pv (v := .pointer (some ⟨b103, 0 + 0, none⟩)) (pv_fieldAddr rfl) (by decide) ?_
  refine el_pv (v := .string a0) (pv_loadc rfl ((hS.boxAt 0 rfl) 0 _ rfl)) (by decide) ?_
  refine el_pv (v := .int .i64 (a0.size : Int)) (pv_lenS Try.underlying9 rfl) (by decide) ?_
  replace hF := ob hF
  obtain ⟨x107, hx107, hF⟩ := hF
  refine el_pv (v := .int .i64 x107) (pv_sub rfl rfl hx107) (by decide) ?_
  refine el_pv (v := .int .i64 x107) (pv_assign rfl) (by decide) ?_
  refine el_nil ?_
  refine hQ106 _ _ _ ?_
  refine thn_n ?_
  refine cw_seq ?_
  refine cw_gen ?_
  intro Q108 hQ108
  refine cw_seq ?_
  refine cw_gen ?_
  intro Q109 hQ109
  refine cw_reg ?_
  refine el_pv (v := .int .i64 x107) (pv_move rfl) (by decide) ?_
  refine el_pv (v := .bool (decide (x107 < 0))) (pv_lss rfl rfl) (by decide) ?_
  refine el_nil ?_
  refine hQ109 _ _ _ ?_
  refine thn_n ?_
  replace hF := oif hF
  rcases hF with ⟨hb110, hF⟩ | ⟨hb110, hF⟩
  · refine cw_cond_t rfl hb110 ?_
    refine cw_seq ?_
    refine cw_gen ?_
    intro Q111 hQ111
    refine cw_reg ?_
    refine el_pv (v := .int .i64 (-1)) (pv_assign rfl) (by decide) ?_
    refine el_nil ?_
    refine hQ111 _ _ _ ?_
    refine thn_n ?_
    refine cw_ret ?_
    refine hQ108 _ _ _ ?_
    refine thn_r ?_
    refine fin1 rfl rfl ?_
    have hr := Option.some.inj hF
    exact ⟨congrArg (fun (r : Int) => Ending.returned (.int .i64 r)) hr, hS.below⟩
  · refine cw_cond_f rfl hb110 ?_
    refine cw_skip ?_
    refine hQ108 _ _ _ ?_
    refine thn_n ?_
    refine cw_seq ?_
    refine cw_gen ?_
    intro Q112 hQ112
    refine cw_reg ?_
    refine el_pv (v := .pointer (some ⟨b103, 0 + 1, none⟩)) (pv_fieldAddr rfl) (by decide) ?_
    refine el_pv (v := .agg #[.int .i64 a1, u2]) (pv_loada (cs := [.int .i64 a1, u2]) rfl rfl (boxc (hS.boxAt 0 rfl) 1 2)) (by decide) ?_
    refine el_pv (v := .int .i64 x107) (pv_move rfl) (by decide) ?_
    replace hF := ob hF
    obtain ⟨r113, hr113, hF⟩ := hF
    refine el_call goes25 (laws_szRelation_ok (hS.up ha2) hr113) (congrArg List.toArray (mapc rfl (mapc rfl rfl))) (by decide) ?_
    rintro _ w114 ⟨rfl, hx115⟩
    refine ⟨_, rfl, ?_⟩
    replace hS := hS.ext hx115
    refine el_pv (v := .int .i64 r113) (pv_assign rfl) (by decide) ?_
    refine el_nil ?_
    refine hQ112 _ _ _ ?_
    refine thn_n ?_
    refine cw_seq ?_
    refine cw_gen ?_
    intro Q116 hQ116
    refine cw_seq ?_
    refine cw_gen ?_
    intro Q117 hQ117
    refine cw_reg ?_
    refine el_pv (v := .int .i64 r113) (pv_move rfl) (by decide) ?_
    refine el_pv (v := .bool (decide (r113 < 0))) (pv_lss rfl rfl) (by decide) ?_
    refine el_nil ?_
    refine hQ117 _ _ _ ?_
    refine thn_n ?_
    replace hF := oif hF
    rcases hF with ⟨hb118, hF⟩ | ⟨hb118, hF⟩
    · refine cw_cond_t rfl hb118 ?_
      refine cw_seq ?_
      refine cw_gen ?_
      intro Q119 hQ119
      refine cw_reg ?_
      refine el_pv (v := .int .i64 (-1)) (pv_assign rfl) (by decide) ?_
      refine el_nil ?_
      refine hQ119 _ _ _ ?_
      refine thn_n ?_
      refine cw_ret ?_
      refine hQ116 _ _ _ ?_
      refine thn_r ?_
      refine fin1 rfl rfl ?_
      have hr := Option.some.inj hF
      exact ⟨congrArg (fun (r : Int) => Ending.returned (.int .i64 r)) hr, hS.below⟩
    · refine cw_cond_f rfl hb118 ?_
      refine cw_skip ?_
      refine hQ116 _ _ _ ?_
      refine thn_n ?_
      refine cw_seq ?_
      refine cw_gen ?_
      intro Q120 hQ120
      refine cw_reg ?_
      refine el_pv (v := .pointer (some ⟨b103, 0 + 3, none⟩)) (pv_fieldAddr rfl) (by decide) ?_
      refine el_pv (v := .agg #[.int .i64 a3, u4]) (pv_loada (cs := [.int .i64 a3, u4]) rfl rfl (boxc (hS.boxAt 0 rfl) 3 2)) (by decide) ?_
      refine el_pv (v := .int .i64 r113) (pv_move rfl) (by decide) ?_
      replace hF := ob hF
      obtain ⟨r121, hr121, hF⟩ := hF
      refine el_call goes25 (laws_szRelation_ok (hS.up ha4) hr121) (congrArg List.toArray (mapc rfl (mapc rfl rfl))) (by decide) ?_
      rintro _ w122 ⟨rfl, hx123⟩
      refine ⟨_, rfl, ?_⟩
      replace hS := hS.ext hx123
      refine el_pv (v := .int .i64 r121) (pv_assign rfl) (by decide) ?_
      refine el_nil ?_
      refine hQ120 _ _ _ ?_
      refine thn_n ?_
      refine cw_seq ?_
      refine cw_gen ?_
      intro Q124 hQ124
      refine cw_seq ?_
      refine cw_gen ?_
      intro Q125 hQ125
      refine cw_reg ?_
      refine el_pv (v := .int .i64 r121) (pv_move rfl) (by decide) ?_
      refine el_pv (v := .bool (decide (r121 < 0))) (pv_lss rfl rfl) (by decide) ?_
      refine el_nil ?_
      refine hQ125 _ _ _ ?_
      refine thn_n ?_
      replace hF := oif hF
      rcases hF with ⟨hb126, hF⟩ | ⟨hb126, hF⟩
      · refine cw_cond_t rfl hb126 ?_
        refine cw_seq ?_
        refine cw_gen ?_
        intro Q127 hQ127
        refine cw_reg ?_
        refine el_pv (v := .int .i64 (-1)) (pv_assign rfl) (by decide) ?_
        refine el_nil ?_
        refine hQ127 _ _ _ ?_
        refine thn_n ?_
        refine cw_ret ?_
        refine hQ124 _ _ _ ?_
        refine thn_r ?_
        refine fin1 rfl rfl ?_
        have hr := Option.some.inj hF
        exact ⟨congrArg (fun (r : Int) => Ending.returned (.int .i64 r)) hr, hS.below⟩
      · refine cw_cond_f rfl hb126 ?_
        refine cw_skip ?_
        refine hQ124 _ _ _ ?_
        refine thn_n ?_
        refine cw_seq ?_
        refine cw_gen ?_
        intro Q128 hQ128
        refine cw_reg ?_
        refine el_pv (v := .int .i64 r121) (pv_move rfl) (by decide) ?_
        refine el_pv (v := .int .i64 r121) (pv_assign rfl) (by decide) ?_
        refine el_nil ?_
        refine hQ128 _ _ _ ?_
        refine thn_n ?_
        refine cw_ret ?_
        refine fin1 rfl rfl ?_
        have hr := Option.some.inj hF
        exact ⟨congrArg (fun (r : Int) => Ending.returned (.int .i64 r)) hr, hS.below⟩
set_option maxHeartbeats 4000000 in
theorem spec_EqualRelations_ok {w0 : World} {a0 : Int} {u1 : Value} {a1 : List (List Int)} {a2 : Int} {u3 : Value} {a3 : List (List Int)} (ha1 : (sliceR (sliceR intR 3) 22).rd w0 [u1] a1) (ha3 : (sliceR (sliceR intR 3) 22).rd w0 [u3] a3) {N : Nat} {r : Bool} (hF : spec_EqualRelations N a0 a1 a2 a3 = some r) :
    Calls Try.prog 53 #[.agg #[.int .i64 a0, u1], .agg #[.int .i64 a2, u3]] w0 fun e w' => e = .returned (.bool r) ∧ Ext w0 w' := by
  unfold spec_EqualRelations at hF
  refine calls_E Try.func53 rfl rfl (of_decide_eq_true rfl) ?_
  have hS := Sat.start w0
  refine cw_seq ?_
  refine cw_gen ?_
  intro Q101 hQ101
  refine cw_reg ?_
  refine el_box [.int .i64 a0, u1] rfl hS (by decide) ?_
  intro w102 b103 hS hx104
  refine el_box [.int .i64 a2, u3] rfl hS (by decide) ?_
  intro w106 b107 hS hx108
  refine el_pv (v := .bool false) (pv_assign rfl) (by decide) ?_
  refine el_nil ?_
  refine hQ101 _ _ _ ?_
  refine thn_n ?_
  refine cw_seq ?_
  refine cw_gen ?_
  intro Q110 hQ110
  refine cw_seq ?_
  refine cw_gen ?_
  intro Q111 hQ111
  refine cw_reg ?_
  refine el_pv (v := .pointer (some ⟨b103, 0 + 0, none⟩)) (pv_fieldAddr rfl) (by decide) ?_
  refine el_pv (v := .int .i64 a0) (pv_loadc rfl ((hS.boxAt 1 rfl) 0 _ rfl)) (by decide) ?_
  refine el_pv (v := .pointer (some ⟨b107, 0 + 0, none⟩)) (pv_fieldAddr rfl) (by decide) ?_
  refine el_pv (v := .int .i64 a2) (pv_loadc rfl ((hS.boxAt 0 rfl) 0 _ rfl)) (by decide) ?_
  refine el_pv (v := .bool (a0 != a2)) (pv_neq rfl rfl) (by decide) ?_
  refine el_pv (v := .bool (a0 != a2)) (pv_move rfl) (by decide) ?_
  replace hF := oif hF
  rcases hF with ⟨hb112, hF⟩ | ⟨hb112, hF⟩
  · refine el_off rfl hb112 rfl (by decide) ?_
    refine el_off rfl hb112 rfl (by decide) ?_
    refine el_off rfl hb112 rfl (by decide) ?_
    refine el_off rfl hb112 rfl (by decide) ?_
    refine el_off rfl hb112 rfl (by decide) ?_
    refine el_off rfl hb112 rfl (by decide) ?_
    refine el_off rfl hb112 rfl (by decide) ?_
    refine el_pv (v := .bool true) (pv_pick_t rfl hb112 rfl) (by decide) ?_
    refine el_nil ?_
    refine hQ111 _ _ _ ?_
    refine thn_n ?_
    refine cw_cond_t rfl rfl ?_
    refine cw_seq ?_
    refine cw_gen ?_
    intro Q113 hQ113
    refine cw_reg ?_
    refine el_pv (v := .bool false) (pv_assign rfl) (by decide) ?_
    refine el_nil ?_
    refine hQ113 _ _ _ ?_
    refine thn_n ?_
    refine cw_ret ?_
    refine hQ110 _ _ _ ?_
    refine thn_r ?_
    refine fin1 rfl rfl ?_
    have hr := Option.some.inj hF
    exact ⟨congrArg (fun (r : Bool) => Ending.returned (.bool r)) hr, hS.below⟩
  · refine el_on rfl hb112 ?_
    refine el_pv (v := .pointer (some ⟨b103, 0 + 1, none⟩)) (pv_fieldAddr rfl) (by decide) ?_
    refine el_on rfl hb112 ?_
    refine el_pv (v := u1) (pv_loadc rfl ((hS.boxAt 1 rfl) 1 _ rfl)) (by decide) ?_
    refine el_on rfl hb112 ?_
    refine el_pv (v := .int .i64 (a1.length : Int)) (pv_len rfl ha1) (by decide) ?_
    refine el_on rfl hb112 ?_
    refine el_pv (v := .pointer (some ⟨b107, 0 + 1, none⟩)) (pv_fieldAddr rfl) (by decide) ?_
    refine el_on rfl hb112 ?_
    refine el_pv (v := u3) (pv_loadc rfl ((hS.boxAt 0 rfl) 1 _ rfl)) (by decide) ?_
    refine el_on rfl hb112 ?_
    refine el_pv (v := .int .i64 (a3.length : Int)) (pv_len rfl ha3) (by decide) ?_
    refine el_on rfl hb112 ?_
    refine el_pv (v := .bool ((a1.length : Int) != (a3.length : Int))) (pv_neq rfl rfl) (by decide) ?_
    refine el_pv (v := .bool ((a1.length : Int) != (a3.length : Int))) (pv_pick_f rfl hb112 rfl) (by decide) ?_
    refine el_nil ?_
    refine hQ111 _ _ _ ?_
    refine thn_n ?_
    replace hF := oif hF
    rcases hF with ⟨hb114, hF⟩ | ⟨hb114, hF⟩
    · refine cw_cond_t rfl hb114 ?_
      refine cw_seq ?_
      refine cw_gen ?_
      intro Q115 hQ115
      refine cw_reg ?_
      refine el_pv (v := .bool false) (pv_assign rfl) (by decide) ?_
      refine el_nil ?_
      refine hQ115 _ _ _ ?_
      refine thn_n ?_
      refine cw_ret ?_
      refine hQ110 _ _ _ ?_
      refine thn_r ?_
      refine fin1 rfl rfl ?_
      have hr := Option.some.inj hF
      exact ⟨congrArg (fun (r : Bool) => Ending.returned (.bool r)) hr, hS.below⟩
    · refine cw_cond_f rfl hb114 ?_
      refine cw_skip ?_
      refine hQ110 _ _ _ ?_
      refine thn_n ?_
      refine cw_seq ?_
      refine cw_gen ?_
      intro Q116 hQ116
      refine cw_seq ?_
      refine cw_gen ?_
      intro Q117 hQ117
      refine cw_reg ?_
      refine el_pv (v := .int .i64 0) (pv_assign rfl) (by decide) ?_
      refine el_nil ?_
      refine hQ117 _ _ _ ?_
      refine thn_n ?_
      refine cw_block ?_
      refine cw_gen ?_
      intro Q118 hQ118
      obtain ⟨s119, hL, hK120⟩ := ob hF
      refine cw_loopS (fun k e w => ∃ (x121 : Int), e 2 = .pointer (some ⟨b103, 0, none⟩) ∧ e 3 = .pointer (some ⟨b107, 0, none⟩) ∧ e 5 = .int .i64 x121 ∧ Sat w0 w [Box b107 40 [.int .i64 a2, u3], Box b103 40 [.int .i64 a0, u1]] ∧ spec_EqualRelations_L1 N k a0 a1 a2 a3 x121 = some s119) N ?_ ?_ ?_
      · exact ⟨0, rfl, rfl, rfl, hS, hL⟩
      · rintro e w ⟨_, _, _, _, _, hz⟩; exact nomatch (show none = some _ from hz)
      · rintro k e126 w125 ⟨x121, he122, he123, he124, hS, hF⟩
        refine cw_gen ?_
        intro Q127 hQ127
        refine cw_seq ?_
        refine cw_gen ?_
        intro Q128 hQ128
        refine cw_seq ?_
        refine cw_gen ?_
        intro Q129 hQ129
        refine cw_reg ?_
        refine el_pv (v := .int .i64 x121) (pv_move he124) (by decide) ?_
        refine el_pv (v := .pointer (some ⟨b103, 0 + 1, none⟩)) (pv_fieldAddr he122) (by decide) ?_
        refine el_pv (v := u1) (pv_loadc rfl ((hS.boxAt 1 rfl) 1 _ rfl)) (by decide) ?_
        refine el_pv (v := .int .i64 (a1.length : Int)) (pv_len rfl ha1) (by decide) ?_
        refine el_pv (v := .bool (decide (x121 < (a1.length : Int)))) (pv_lss rfl rfl) (by decide) ?_
        refine el_nil ?_
        refine hQ129 _ _ _ ?_
        refine thn_n ?_
        replace hF := oif hF
        rcases hF with ⟨hb130, hF⟩ | ⟨hb130, hF⟩
        · refine cw_cond_t rfl hb130 ?_
          refine cw_skip ?_
          refine hQ128 _ _ _ ?_
          refine thn_n ?_
          refine cw_seq ?_
          refine cw_gen ?_
          intro Q131 hQ131
          refine cw_block ?_
          refine cw_gen ?_
          intro Q132 hQ132
          refine cw_seq ?_
          refine cw_gen ?_
          intro Q133 hQ133
          refine cw_regq (by kernel_rfl) (by kernel_rfl) ?_
          refine ql_pv (v := .pointer (some ⟨b103, 0 + 1, none⟩)) (pv_fieldAddr he122) (by decide) ?_
          refine ql_pv (v := u1) (pv_loadc rfl ((hS.boxAt 1 rfl) 1 _ rfl)) (by decide) ?_
          refine ql_pv (v := .int .i64 x121) (pv_move he124) (by decide) ?_
          replace hF := ob hF
          obtain ⟨x134, hx134, hF⟩ := hF
          refine ql_index (wA := w0) rfl ha1 rfl (by decide) rfl hx134 (by decide) ?_
          intro b135 of136 c137 hr138 hm139
          obtain ⟨v140, rfl⟩ := slice_one hr138
          refine ql_pv (v := v140) (pv_loadc rfl ((cells_up hS.below hm139) 0 _ rfl)) (by decide) ?_
          refine ql_pv (v := .pointer (some ⟨b107, 0 + 1, none⟩)) (pv_fieldAddr he123) (by decide) ?_
          refine ql_pv (v := u3) (pv_loadc rfl ((hS.boxAt 0 rfl) 1 _ rfl)) (by decide) ?_
          refine ql_pv (v := .int .i64 x121) (pv_move he124) (by decide) ?_
          replace hF := ob hF
          obtain ⟨x141, hx141, hF⟩ := hF
          refine ql_index (wA := w0) rfl ha3 rfl (by decide) rfl hx141 (by decide) ?_
          intro b142 of143 c144 hr145 hm146
          obtain ⟨v147, rfl⟩ := slice_one hr145
          refine ql_pv (v := v147) (pv_loadc rfl ((cells_up hS.below hm146) 0 _ rfl)) (by decide) ?_
          replace hF := ob hF
          obtain ⟨r148, hr148, hF⟩ := hF
          refine ql_call (.int .i64 r148) goes46 (fun w' hw' => spec_CompareRows_ok (rd_up (hS.up hr138) hw') (rd_up (hS.up hr145) hw') hr148) (congrArg List.toArray (mapc rfl (mapc rfl rfl))) (by decide) ?_
          refine ql_pv (v := .bool (r148 != 0)) (pv_neq rfl rfl) (by decide) ?_
          refine ql_nil ?_
          intro w149 hx150
          replace hS := hS.ext hx150
          refine hQ133 _ _ _ ?_
          refine thn_n ?_
          replace hF := oif hF
          rcases hF with ⟨hb151, hF⟩ | ⟨hb151, hF⟩
          · refine cw_cond_t rfl hb151 ?_
            refine cw_seq ?_
            refine cw_gen ?_
            intro Q152 hQ152
            refine cw_reg ?_
            refine el_pv (v := .bool false) (pv_assign rfl) (by decide) ?_
            refine el_nil ?_
            refine hQ152 _ _ _ ?_
            refine thn_n ?_
            refine cw_ret ?_
            refine hQ132 _ _ _ ?_
            refine inb_r ?_
            refine hQ131 _ _ _ ?_
            refine thn_r ?_
            refine hQ127 _ _ _ ?_
            refine thn_r ?_
            refine hQ118 _ _ _ ?_
            refine inb_r ?_
            refine hQ116 _ _ _ ?_
            refine thn_r ?_
            replace hF := exL hF hK120
            refine fin1 rfl rfl ?_
            have hr := Option.some.inj hF
            exact ⟨congrArg (fun (r : Bool) => Ending.returned (.bool r)) hr, hS.below⟩
          · refine cw_cond_f rfl hb151 ?_
            refine cw_skip ?_
            refine hQ132 _ _ _ ?_
            refine inb_n ?_
            refine hQ131 _ _ _ ?_
            refine thn_n ?_
            refine cw_reg ?_
            refine el_pv (v := .int .i64 x121) (pv_move he124) (by decide) ?_
            replace hF := ob hF
            obtain ⟨x153, hx153, hF⟩ := hF
            refine el_pv (v := .int .i64 x153) (pv_add rfl rfl hx153) (by decide) ?_
            refine el_pv (v := .int .i64 x153) (pv_assign rfl) (by decide) ?_
            refine el_nil ?_
            refine hQ127 _ _ _ ?_
            refine thn_n ?_
            replace hS : Sat w0 w149 [Box b103 40 [.int .i64 a0, u1], Box b107 40 [.int .i64 a2, u3]] := hS.top 1 rfl
            replace hS : Sat w0 w149 [Box b107 40 [.int .i64 a2, u3], Box b103 40 [.int .i64 a0, u1]] := hS.top 1 rfl
            replace hS := hS.keep 2
            exact ⟨x153, he122, he123, rfl, hS, hF⟩
        · refine cw_cond_f rfl hb130 ?_
          refine cw_exit ?_
          refine hQ128 _ _ _ ?_
          refine thn_x ?_
          refine hQ127 _ _ _ ?_
          refine thn_x ?_
          replace hF := exA hF hK120
          refine hQ118 _ _ _ ?_
          refine inb_s ?_
          refine hQ116 _ _ _ ?_
          refine thn_n ?_
          refine cw_seq ?_
          refine cw_gen ?_
          intro Q154 hQ154
          refine cw_reg ?_
          refine el_pv (v := .bool true) (pv_assign rfl) (by decide) ?_
          refine el_nil ?_
          refine hQ154 _ _ _ ?_
          refine thn_n ?_
          refine cw_ret ?_
          refine fin1 rfl rfl ?_
          have hr := Option.some.inj hF
          exact ⟨congrArg (fun (r : Bool) => Ending.returned (.bool r)) hr, hS.below⟩
set_option maxHeartbeats 4000000 in
theorem spec_EqualDeltas_ok {w0 : World} {a0 : ByteArray} {a1 : Int} {u2 : Value} {a2 : List (List Int)} {a3 : Int} {u4 : Value} {a4 : List (List Int)} {a5 : ByteArray} {a6 : Int} {u7 : Value} {a7 : List (List Int)} {a8 : Int} {u9 : Value} {a9 : List (List Int)} (_ : a0.size ≤ 9223372036854775807) (ha2 : (sliceR (sliceR intR 3) 22).rd w0 [u2] a2) (ha4 : (sliceR (sliceR intR 3) 22).rd w0 [u4] a4) (_ : a5.size ≤ 9223372036854775807) (ha7 : (sliceR (sliceR intR 3) 22).rd w0 [u7] a7) (ha9 : (sliceR (sliceR intR 3) 22).rd w0 [u9] a9) {N : Nat} {r : Bool} (hF : spec_EqualDeltas N a0 a1 a2 a3 a4 a5 a6 a7 a8 a9 = some r) :
    Calls Try.prog 15 #[.agg #[.string a0, .int .i64 a1, u2, .int .i64 a3, u4], .agg #[.string a5, .int .i64 a6, u7, .int .i64 a8, u9]] w0 fun e w' => e = .returned (.bool r) ∧ Ext w0 w' := by
  unfold spec_EqualDeltas at hF
  refine calls_E Try.func15 rfl rfl (of_decide_eq_true rfl) ?_
  have hS := Sat.start w0
  refine cw_seq ?_
  refine cw_gen ?_
  intro Q101 hQ101
  refine cw_reg ?_
  refine el_box [.string a0, .int .i64 a1, u2, .int .i64 a3, u4] rfl hS (by decide) ?_
  intro w102 b103 hS hx104
  refine el_box [.string a5, .int .i64 a6, u7, .int .i64 a8, u9] rfl hS (by decide) ?_
  intro w106 b107 hS hx108
  refine el_pv (v := .bool false) (pv_assign rfl) (by decide) ?_
  refine el_nil ?_
  refine hQ101 _ _ _ ?_
  refine thn_n ?_
  refine cw_seq ?_
  refine cw_gen ?_
  intro Q110 hQ110
  refine cw_reg ?_
  refine el_pv (v := .pointer (some ⟨b103, 0 + 0, none⟩)) (pv_fieldAddr rfl) (by decide) ?_
  refine el_pv (v := .string a0) (pv_loadc rfl ((hS.boxAt 1 rfl) 0 _ rfl)) (by decide) ?_
  refine el_pv (v := .pointer (some ⟨b107, 0 + 0, none⟩)) (pv_fieldAddr rfl) (by decide) ?_
  refine el_pv (v := .string a5) (pv_loadc rfl ((hS.boxAt 0 rfl) 0 _ rfl)) (by decide) ?_
  refine el_pv (v := .bool (eqS a0 a5)) (pv_eqlS rfl rfl) (by decide) ?_
  refine el_pv (v := .bool (eqS a0 a5)) (pv_move rfl) (by decide) ?_
  replace hF := oif hF
  rcases hF with ⟨hb111, hF⟩ | ⟨hb111, hF⟩
  · refine el_on rfl hb111 ?_
    refine el_pv (v := .pointer (some ⟨b103, 0 + 1, none⟩)) (pv_fieldAddr rfl) (by decide) ?_
    refine el_on rfl hb111 ?_
    refine el_pv (v := .agg #[.int .i64 a1, u2]) (pv_loada (cs := [.int .i64 a1, u2]) rfl rfl (boxc (hS.boxAt 1 rfl) 1 2)) (by decide) ?_
    refine el_on rfl hb111 ?_
    refine el_pv (v := .pointer (some ⟨b107, 0 + 1, none⟩)) (pv_fieldAddr rfl) (by decide) ?_
    refine el_on rfl hb111 ?_
    refine el_pv (v := .agg #[.int .i64 a6, u7]) (pv_loada (cs := [.int .i64 a6, u7]) rfl rfl (boxc (hS.boxAt 0 rfl) 1 2)) (by decide) ?_
    refine el_on rfl hb111 ?_
    replace hF := ob hF
    obtain ⟨r112, hr112, hF⟩ := hF
    refine el_call goes53 (spec_EqualRelations_ok (hS.up ha2) (hS.up ha7) hr112) (congrArg List.toArray (mapc rfl (mapc rfl rfl))) (by decide) ?_
    rintro _ w113 ⟨rfl, hx114⟩
    refine ⟨_, rfl, ?_⟩
    replace hS := hS.ext hx114
    refine el_pv (v := .bool r112) (pv_pick_t rfl hb111 rfl) (by decide) ?_
    refine el_pv (v := .bool r112) (pv_move rfl) (by decide) ?_
    replace hF := oif hF
    rcases hF with ⟨hb115, hF⟩ | ⟨hb115, hF⟩
    · refine el_on rfl hb115 ?_
      refine el_pv (v := .pointer (some ⟨b103, 0 + 3, none⟩)) (pv_fieldAddr rfl) (by decide) ?_
      refine el_on rfl hb115 ?_
      refine el_pv (v := .agg #[.int .i64 a3, u4]) (pv_loada (cs := [.int .i64 a3, u4]) rfl rfl (boxc (hS.boxAt 1 rfl) 3 2)) (by decide) ?_
      refine el_on rfl hb115 ?_
      refine el_pv (v := .pointer (some ⟨b107, 0 + 3, none⟩)) (pv_fieldAddr rfl) (by decide) ?_
      refine el_on rfl hb115 ?_
      refine el_pv (v := .agg #[.int .i64 a8, u9]) (pv_loada (cs := [.int .i64 a8, u9]) rfl rfl (boxc (hS.boxAt 0 rfl) 3 2)) (by decide) ?_
      refine el_on rfl hb115 ?_
      replace hF := ob hF
      obtain ⟨r116, hr116, hF⟩ := hF
      refine el_call goes53 (spec_EqualRelations_ok (hS.up ha4) (hS.up ha9) hr116) (congrArg List.toArray (mapc rfl (mapc rfl rfl))) (by decide) ?_
      rintro _ w117 ⟨rfl, hx118⟩
      refine ⟨_, rfl, ?_⟩
      replace hS := hS.ext hx118
      refine el_pv (v := .bool r116) (pv_pick_t rfl hb115 rfl) (by decide) ?_
      refine el_pv (v := .bool r116) (pv_assign rfl) (by decide) ?_
      refine el_nil ?_
      refine hQ110 _ _ _ ?_
      refine thn_n ?_
      refine cw_ret ?_
      refine fin1 rfl rfl ?_
      have hr := Option.some.inj hF
      exact ⟨congrArg (fun (r : Bool) => Ending.returned (.bool r)) hr, hS.below⟩
    · refine el_off rfl hb115 rfl (by decide) ?_
      refine el_off rfl hb115 rfl (by decide) ?_
      refine el_off rfl hb115 rfl (by decide) ?_
      refine el_off rfl hb115 rfl (by decide) ?_
      refine el_off rfl hb115 rfl (by decide) ?_
      refine el_pv (v := .bool false) (pv_pick_f rfl hb115 rfl) (by decide) ?_
      refine el_pv (v := .bool false) (pv_assign rfl) (by decide) ?_
      refine el_nil ?_
      refine hQ110 _ _ _ ?_
      refine thn_n ?_
      refine cw_ret ?_
      refine fin1 rfl rfl ?_
      have hr := Option.some.inj hF
      exact ⟨congrArg (fun (r : Bool) => Ending.returned (.bool r)) hr, hS.below⟩
  · refine el_off rfl hb111 rfl (by decide) ?_
    refine el_off rfl hb111 rfl (by decide) ?_
    refine el_off rfl hb111 rfl (by decide) ?_
    refine el_off rfl hb111 rfl (by decide) ?_
    refine el_off rfl hb111 rfl (by decide) ?_
    refine el_pv (v := .bool false) (pv_pick_f rfl hb111 rfl) (by decide) ?_
    refine el_pv (v := .bool false) (pv_move rfl) (by decide) ?_
    refine el_off rfl rfl rfl (by decide) ?_
    refine el_off rfl rfl rfl (by decide) ?_
    refine el_off rfl rfl rfl (by decide) ?_
    refine el_off rfl rfl rfl (by decide) ?_
    refine el_off rfl rfl rfl (by decide) ?_
    refine el_pv (v := .bool false) (pv_pick_f rfl rfl rfl) (by decide) ?_
    refine el_pv (v := .bool false) (pv_assign rfl) (by decide) ?_
    refine el_nil ?_
    refine hQ110 _ _ _ ?_
    refine thn_n ?_
    refine cw_ret ?_
    refine fin1 rfl rfl ?_
    have hr := Option.some.inj hF
    exact ⟨congrArg (fun (r : Bool) => Ending.returned (.bool r)) hr, hS.below⟩
set_option maxHeartbeats 4000000 in
theorem laws_toIntSS_ok {w0 : World} {u0 : Value} {a0 : List (List Int)} (ha0 : (sliceR (sliceR intR 3) 22).rd w0 [u0] a0) {N : Nat} {r : (List (List Int))} (hF : laws_toIntSS N a0 = some r) :
    Calls Try.prog 69 #[u0] w0 fun e w' => ∃ q0, e = .returned (q0) ∧ Sat w0 w' [Own (sliceR (sliceR intR 3) 22) [q0] r] := by
  unfold laws_toIntSS at hF
  refine calls_E Try.func69 rfl rfl (of_decide_eq_true rfl) ?_
  have hS := Sat.start w0
  refine cw_seq ?_
  refine cw_gen ?_
  intro Q101 hQ101
  refine cw_reg ?_
  refine el_pv (v := (.slice none 0 0)) (pv_assign rfl) (by decide) ?_
  refine el_nil ?_
  refine hQ101 _ _ _ ?_
  refine thn_n ?_
  refine cw_seq ?_
  refine cw_gen ?_
  intro Q102 hQ102
  refine cw_reg ?_
  refine el_pv (v := u0) (pv_move rfl) (by decide) ?_
  refine el_pv (v := .int .i64 (a0.length : Int)) (pv_len rfl ha0) (by decide) ?_
  replace hF := ob hF
  obtain ⟨x106, hx106, hF⟩ := hF
  refine el_make (R := (sliceR intR 3)) (x0 := []) rfl (by decide) rfl (fun _ => .inl ⟨rfl, rfl, rfl⟩) rfl rfl hx106 hS (by decide) ?_
  intro w103 g104 k105 hS hx107 hlx106
  refine el_pv (v := (.slice (some ⟨g104, 0, none⟩) k105 k105)) (pv_assign rfl) (by decide) ?_
  refine el_nil ?_
  refine hQ102 _ _ _ ?_
  refine thn_n ?_
  refine cw_seq ?_
  refine cw_gen ?_
  intro Q109 hQ109
  refine cw_seq ?_
  refine cw_gen ?_
  intro Q110 hQ110
  refine cw_reg ?_
  refine el_pv (v := .int .i64 0) (pv_assign rfl) (by decide) ?_
  refine el_nil ?_
  refine hQ110 _ _ _ ?_
  refine thn_n ?_
  refine cw_block ?_
  refine cw_gen ?_
  intro Q111 hQ111
  obtain ⟨s112, hL, hK113⟩ := ob hF
  refine cw_loopS (fun k e w => ∃ (v115 : Value), ∃ (x114 : List (List Int)), ∃ (x116 : Int), e 0 = u0 ∧ e 3 = v115 ∧ e 4 = .int .i64 x116 ∧ Sat w0 w [Own (sliceR (sliceR intR 3) 22) [v115] x114] ∧ laws_toIntSS_L1 N k a0 x114 x116 = some s112) N ?_ ?_ ?_
  · exact ⟨(.slice (some ⟨g104, 0, none⟩) k105 k105), x106, 0, rfl, rfl, rfl, hS, hL⟩
  · rintro e w ⟨_, _, _, _, _, _, _, hz⟩; exact nomatch (show none = some _ from hz)
  · rintro k e121 w120 ⟨v115, x114, x116, he117, he118, he119, hS, hF⟩
    refine cw_gen ?_
    intro Q122 hQ122
    refine cw_seq ?_
    refine cw_gen ?_
    intro Q123 hQ123
    refine cw_seq ?_
    refine cw_gen ?_
    intro Q124 hQ124
    refine cw_reg ?_
    refine el_pv (v := .int .i64 x116) (pv_move he119) (by decide) ?_
    refine el_pv (v := u0) (pv_move he117) (by decide) ?_
    refine el_pv (v := .int .i64 (a0.length : Int)) (pv_len rfl ha0) (by decide) ?_
    refine el_pv (v := .bool (decide (x116 < (a0.length : Int)))) (pv_lss rfl rfl) (by decide) ?_
    refine el_nil ?_
    refine hQ124 _ _ _ ?_
    refine thn_n ?_
    replace hF := oif hF
    rcases hF with ⟨hb125, hF⟩ | ⟨hb125, hF⟩
    · refine cw_cond_t rfl hb125 ?_
      refine cw_skip ?_
      refine hQ123 _ _ _ ?_
      refine thn_n ?_
      refine cw_seq ?_
      refine cw_gen ?_
      intro Q126 hQ126
      refine cw_block ?_
      refine cw_gen ?_
      intro Q127 hQ127
      refine cw_reg ?_
      refine el_pv (v := v115) (pv_move he118) (by decide) ?_
      refine el_pv (v := .int .i64 x116) (pv_move he119) (by decide) ?_
      refine el_pv (v := u0) (pv_move he117) (by decide) ?_
      refine el_pv (v := .int .i64 x116) (pv_move he119) (by decide) ?_
      replace hF := ob hF
      obtain ⟨x128, hx128, hF⟩ := hF
      refine el_index (wA := w0) rfl ha0 rfl (by decide) rfl hx128 (by decide) ?_
      intro b129 of130 c131 hr132 hm133
      obtain ⟨v134, rfl⟩ := slice_one hr132
      refine el_pv (v := v134) (pv_loadc rfl ((cells_up hS.below hm133) 0 _ rfl)) (by decide) ?_
      replace hF := ob hF
      obtain ⟨r135, hr135, hF⟩ := hF
      refine el_call goes47 (laws_toIntS_ok (hS.up hr132) hr135) (congrArg List.toArray (mapc rfl rfl)) (by decide) ?_
      rintro _ w138 ⟨v136, rfl, hS'⟩
      refine ⟨_, rfl, ?_⟩
      have hx139 := hS'.below
      replace hS := hS.call1 hS'
      replace hF := ob hF
      obtain ⟨x140, hx140, hF⟩ := hF
      replace hS : Sat w0 w138 [Own (sliceR (sliceR intR 3) 22) [v115] x114, Own (sliceR intR 3) [v136] r135] := hS.top 1 rfl
      refine el_indexO hS rfl rfl (by decide) rfl hx140 (by decide) ?_
      intro b141 of142 c143 hv146 hr144 hm145
      obtain ⟨v147, rfl⟩ := slice_one hr144
      replace hF := ob hF
      obtain ⟨x149, hx149, hF⟩ := hF
      have hoc150 : Value.oneCell' v136 = true := (oc (hS.rdAt (R := (sliceR intR 3)) 1 rfl))
      replace hS : Sat w0 w138 [Own (sliceR intR 3) [v136] r135, Own (sliceR (sliceR intR 3) 22) [v115] x114] := hS.top 1 rfl
      refine el_storeO rfl hv146 hS hx149 rfl (cells_of rfl hoc150) ?_
      intro w148 hS
      refine el_nil ?_
      refine hQ127 _ _ _ ?_
      refine inb_n ?_
      refine hQ126 _ _ _ ?_
      refine thn_n ?_
      refine cw_reg ?_
      refine el_pv (v := .int .i64 x116) (pv_move he119) (by decide) ?_
      replace hF := ob hF
      obtain ⟨x151, hx151, hF⟩ := hF
      refine el_pv (v := .int .i64 x151) (pv_add rfl rfl hx151) (by decide) ?_
      refine el_pv (v := .int .i64 x151) (pv_assign rfl) (by decide) ?_
      refine el_nil ?_
      refine hQ122 _ _ _ ?_
      refine thn_n ?_
      replace hS := hS.keep 1
      exact ⟨v115, x149, x151, he117, he118, rfl, hS, hF⟩
    · refine cw_cond_f rfl hb125 ?_
      refine cw_exit ?_
      refine hQ123 _ _ _ ?_
      refine thn_x ?_
      refine hQ122 _ _ _ ?_
      refine thn_x ?_
      replace hF := exB hF hK113
      refine hQ111 _ _ _ ?_
      refine inb_s ?_
      refine hQ109 _ _ _ ?_
      refine thn_n ?_
      refine cw_seq ?_
      refine cw_gen ?_
      intro Q152 hQ152
      refine cw_reg ?_
      refine el_pv (v := v115) (pv_move he118) (by decide) ?_
      refine el_pv (v := v115) (pv_assign rfl) (by decide) ?_
      refine el_nil ?_
      refine hQ152 _ _ _ ?_
      refine thn_n ?_
      refine cw_ret ?_
      refine fin1 rfl rfl ?_
      have hr := Option.some.inj hF
      exact ⟨v115, congrArg (fun (r : (List (List Int))) => Ending.returned (v115)) hr, Eq.mp (congrArg (fun (r : (List (List Int))) => Sat w0 w120 [Own (sliceR (sliceR intR 3) 22) [v115] r]) hr) (hS.keep 1)⟩
end Go.Proofs.Ytobjjdfgnaanjaa
