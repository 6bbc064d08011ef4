/- The walks through functions of the program: each hands back what it comes to. No condition but that it comes to something. -/
import Derived.Test.YtdingjlefilafaaGoes
import Derived.Test.YtdingjlefilafaaN
import Derived.Test.YtdingjlefilafaaW0D
namespace Go.Proofs.Ytdingjlefilafaa
open Go.RowKit
set_option maxRecDepth 100000
set_option maxHeartbeats 4000000 in
theorem laws_eqIntS_ok {w0 : World} {u0 : Value} {a0 : List Int} {u1 : Value} {a1 : List Int} (ha0 : (sliceR intR 3).rd w0 [u0] a0) (ha1 : (sliceR intR 3).rd w0 [u1] a1) {N : Nat} {r : Bool} (hF : laws_eqIntS N a0 a1 = some r) :
    Calls Try.prog 34 #[u0, u1] w0 fun e w' => e = .returned (.bool r) ∧ Ext w0 w' := by
  unfold laws_eqIntS at hF
  refine calls_E Try.func34 rfl rfl (of_decide_eq_true rfl) ?_
  have hS := Sat.start w0
  refine cw_seq ?_
  refine cw_gen ?_
  intro Q101 hQ101
  refine cw_reg ?_
  refine el_pv (v := .bool false) (pv_assign rfl) (by decide) ?_
  refine el_nil ?_
  refine hQ101 _ _ _ ?_
  refine thn_n ?_
  refine cw_seq ?_
  refine cw_gen ?_
  intro Q102 hQ102
  refine cw_seq ?_
  refine cw_gen ?_
  intro Q103 hQ103
  refine cw_reg ?_
  refine el_pv (v := u0) (pv_move rfl) (by decide) ?_
  refine el_pv (v := .int .i64 (a0.length : Int)) (pv_len rfl ha0) (by decide) ?_
  refine el_pv (v := u1) (pv_move rfl) (by decide) ?_
  refine el_pv (v := .int .i64 (a1.length : Int)) (pv_len rfl ha1) (by decide) ?_
  refine el_pv (v := .bool ((a0.length : Int) != (a1.length : Int))) (pv_neq rfl rfl) (by decide) ?_
  refine el_nil ?_
  refine hQ103 _ _ _ ?_
  refine thn_n ?_
  replace hF := oif hF
  rcases hF with ⟨hb104, hF⟩ | ⟨hb104, hF⟩
  · refine cw_cond_t rfl hb104 ?_
    refine cw_seq ?_
    refine cw_gen ?_
    intro Q105 hQ105
    refine cw_reg ?_
    refine el_pv (v := .bool false) (pv_assign rfl) (by decide) ?_
    refine el_nil ?_
    refine hQ105 _ _ _ ?_
    refine thn_n ?_
    refine cw_ret ?_
    refine hQ102 _ _ _ ?_
    refine thn_r ?_
    refine fin1 rfl rfl ?_
    have hr := Option.some.inj hF
    exact ⟨congrArg (fun (r : Bool) => Ending.returned (.bool r)) hr, hS.below⟩
  · refine cw_cond_f rfl hb104 ?_
    refine cw_skip ?_
    refine hQ102 _ _ _ ?_
    refine thn_n ?_
    refine cw_seq ?_
    refine cw_gen ?_
    intro Q106 hQ106
    refine cw_seq ?_
    refine cw_gen ?_
    intro Q107 hQ107
    refine cw_reg ?_
    refine el_pv (v := .int .i64 0) (pv_assign rfl) (by decide) ?_
    refine el_nil ?_
    refine hQ107 _ _ _ ?_
    refine thn_n ?_
    refine cw_block ?_
    refine cw_gen ?_
    intro Q108 hQ108
    obtain ⟨s109, hL, hK110⟩ := ob hF
    refine cw_loopS (fun k e w => ∃ (x111 : Int), e 0 = u0 ∧ e 1 = u1 ∧ e 5 = .int .i64 x111 ∧ Sat w0 w [] ∧ laws_eqIntS_L1 N k a0 a1 x111 = some s109) N ?_ ?_ ?_
    · exact ⟨0, rfl, rfl, rfl, hS, hL⟩
    · rintro e w ⟨_, _, _, _, _, hz⟩; exact nomatch (show none = some _ from hz)
    · rintro k e116 w115 ⟨x111, he112, he113, he114, hS, hF⟩
      refine cw_gen ?_
      intro Q117 hQ117
      refine cw_seq ?_
      refine cw_gen ?_
      intro Q118 hQ118
      refine cw_seq ?_
      refine cw_gen ?_
      intro Q119 hQ119
      refine cw_reg ?_
      refine el_pv (v := .int .i64 x111) (pv_move he114) (by decide) ?_
      refine el_pv (v := u0) (pv_move he112) (by decide) ?_
      refine el_pv (v := .int .i64 (a0.length : Int)) (pv_len rfl ha0) (by decide) ?_
      refine el_pv (v := .bool (decide (x111 < (a0.length : Int)))) (pv_lss rfl rfl) (by decide) ?_
      refine el_nil ?_
      refine hQ119 _ _ _ ?_
      refine thn_n ?_
      replace hF := oif hF
      rcases hF with ⟨hb120, hF⟩ | ⟨hb120, hF⟩
      · refine cw_cond_t rfl hb120 ?_
        refine cw_skip ?_
        refine hQ118 _ _ _ ?_
        refine thn_n ?_
        refine cw_seq ?_
        refine cw_gen ?_
        intro Q121 hQ121
        refine cw_block ?_
        refine cw_gen ?_
        intro Q122 hQ122
        refine cw_seq ?_
        refine cw_gen ?_
        intro Q123 hQ123
        refine cw_regq (by kernel_rfl) (by kernel_rfl) ?_
        refine ql_pv (v := u0) (pv_move he112) (by decide) ?_
        refine ql_pv (v := .int .i64 x111) (pv_move he114) (by decide) ?_
        replace hF := ob hF
        obtain ⟨x124, hx124, hF⟩ := hF
        refine ql_index (wA := w0) rfl ha0 rfl (by decide) rfl hx124 (by decide) ?_
        intro b125 of126 c127 hr128 hm129
        obtain rfl := hr128
        refine ql_pv (v := .int .i64 x124) (pv_loadc rfl ((cells_up hS.below hm129) 0 _ rfl)) (by decide) ?_
        refine ql_pv (v := u1) (pv_move he113) (by decide) ?_
        refine ql_pv (v := .int .i64 x111) (pv_move he114) (by decide) ?_
        replace hF := ob hF
        obtain ⟨x130, hx130, hF⟩ := hF
        refine ql_index (wA := w0) rfl ha1 rfl (by decide) rfl hx130 (by decide) ?_
        intro b131 of132 c133 hr134 hm135
        obtain rfl := hr134
        refine ql_pv (v := .int .i64 x130) (pv_loadc rfl ((cells_up hS.below hm135) 0 _ rfl)) (by decide) ?_
        refine ql_pv (v := .bool (x124 != x130)) (pv_neq rfl rfl) (by decide) ?_
        refine ql_nil ?_
        intro w136 hx137
        replace hS := hS.ext hx137
        refine hQ123 _ _ _ ?_
        refine thn_n ?_
        replace hF := oif hF
        rcases hF with ⟨hb138, hF⟩ | ⟨hb138, hF⟩
        · refine cw_cond_t rfl hb138 ?_
          refine cw_seq ?_
          refine cw_gen ?_
          intro Q139 hQ139
          refine cw_reg ?_
          refine el_pv (v := .bool false) (pv_assign rfl) (by decide) ?_
          refine el_nil ?_
          refine hQ139 _ _ _ ?_
          refine thn_n ?_
          refine cw_ret ?_
          refine hQ122 _ _ _ ?_
          refine inb_r ?_
          refine hQ121 _ _ _ ?_
          refine thn_r ?_
          refine hQ117 _ _ _ ?_
          refine thn_r ?_
          refine hQ108 _ _ _ ?_
          refine inb_r ?_
          refine hQ106 _ _ _ ?_
          refine thn_r ?_
          replace hF := exL hF hK110
          refine fin1 rfl rfl ?_
          have hr := Option.some.inj hF
          exact ⟨congrArg (fun (r : Bool) => Ending.returned (.bool r)) hr, hS.below⟩
        · refine cw_cond_f rfl hb138 ?_
          refine cw_skip ?_
          refine hQ122 _ _ _ ?_
          refine inb_n ?_
          refine hQ121 _ _ _ ?_
          refine thn_n ?_
          refine cw_reg ?_
          refine el_pv (v := .int .i64 x111) (pv_move he114) (by decide) ?_
          replace hF := ob hF
          obtain ⟨x140, hx140, hF⟩ := hF
          refine el_pv (v := .int .i64 x140) (pv_add rfl rfl hx140) (by decide) ?_
          refine el_pv (v := .int .i64 x140) (pv_assign rfl) (by decide) ?_
          refine el_nil ?_
          refine hQ117 _ _ _ ?_
          refine thn_n ?_
          replace hS := hS.keep 0
          exact ⟨x140, he112, he113, rfl, hS, hF⟩
      · refine cw_cond_f rfl hb120 ?_
        refine cw_exit ?_
        refine hQ118 _ _ _ ?_
        refine thn_x ?_
        refine hQ117 _ _ _ ?_
        refine thn_x ?_
        replace hF := exA hF hK110
        refine hQ108 _ _ _ ?_
        refine inb_s ?_
        refine hQ106 _ _ _ ?_
        refine thn_n ?_
        refine cw_seq ?_
        refine cw_gen ?_
        intro Q141 hQ141
        refine cw_reg ?_
        refine el_pv (v := .bool true) (pv_assign rfl) (by decide) ?_
        refine el_nil ?_
        refine hQ141 _ _ _ ?_
        refine thn_n ?_
        refine cw_ret ?_
        refine fin1 rfl rfl ?_
        have hr := Option.some.inj hF
        exact ⟨congrArg (fun (r : Bool) => Ending.returned (.bool r)) hr, hS.below⟩
set_option maxHeartbeats 4000000 in
theorem laws_eqFactorNode_ok {w0 : World} {u0 : Value} {a0 : List Int} {u1 : Value} {a1 : List Int} {u2 : Value} {a2 : List Int} {u3 : Value} {a3 : List Int} (ha0 : (sliceR intR 3).rd w0 [u0] a0) (ha1 : (sliceR intR 3).rd w0 [u1] a1) (ha2 : (sliceR intR 3).rd w0 [u2] a2) (ha3 : (sliceR intR 3).rd w0 [u3] a3) {N : Nat} {r : Bool} (hF : laws_eqFactorNode N a0 a1 a2 a3 = some r) :
    Calls Try.prog 96 #[.agg #[u0, u1], .agg #[u2, u3]] w0 fun e w' => e = .returned (.bool r) ∧ Ext w0 w' := by
  unfold laws_eqFactorNode at hF
  refine calls_E Try.func96 rfl rfl (of_decide_eq_true rfl) ?_
  have hS := Sat.start w0
  refine cw_seq ?_
  refine cw_gen ?_
  intro Q101 hQ101
  refine cw_reg ?_
  refine el_box [u0, u1] rfl hS (by decide) ?_
  intro w102 b103 hS hx104
  refine el_box [u2, u3] rfl hS (by decide) ?_
  intro w106 b107 hS hx108
  refine el_pv (v := .bool false) (pv_assign rfl) (by decide) ?_
  refine el_nil ?_
  refine hQ101 _ _ _ ?_
  refine thn_n ?_
  refine cw_seq ?_
  refine cw_gen ?_
  intro Q110 hQ110
  refine cw_seq ?_
  refine cw_gen ?_
  intro Q111 hQ111
  refine cw_reg ?_
  refine el_pv (v := .pointer (some ⟨b103, 0 + 0, none⟩)) (pv_fieldAddr rfl) (by decide) ?_
  refine el_pv (v := u0) (pv_loadc rfl ((hS.boxAt 1 rfl) 0 _ rfl)) (by decide) ?_
  refine el_pv (v := .pointer (some ⟨b107, 0 + 0, none⟩)) (pv_fieldAddr rfl) (by decide) ?_
  refine el_pv (v := u2) (pv_loadc rfl ((hS.boxAt 0 rfl) 0 _ rfl)) (by decide) ?_
  replace hF := ob hF
  obtain ⟨r112, hr112, hF⟩ := hF
  refine el_call goes34 (laws_eqIntS_ok (hS.up ha0) (hS.up ha2) hr112) (congrArg List.toArray (mapc rfl (mapc rfl rfl))) (by decide) ?_
  rintro _ w113 ⟨rfl, hx114⟩
  refine ⟨_, rfl, ?_⟩
  replace hS := hS.ext hx114
  refine el_pv (v := .bool (!r112)) (pv_not rfl) (by decide) ?_
  refine el_nil ?_
  refine hQ111 _ _ _ ?_
  refine thn_n ?_
  replace hF := oif hF
  rcases hF with ⟨hb115, hF⟩ | ⟨hb115, hF⟩
  · refine cw_cond_f rfl (bnot_t hb115) ?_
    refine cw_skip ?_
    refine hQ110 _ _ _ ?_
    refine thn_n ?_
    refine cw_seq ?_
    refine cw_gen ?_
    intro Q116 hQ116
    refine cw_seq ?_
    refine cw_gen ?_
    intro Q117 hQ117
    refine cw_reg ?_
    refine el_pv (v := .pointer (some ⟨b103, 0 + 1, none⟩)) (pv_fieldAddr rfl) (by decide) ?_
    refine el_pv (v := u1) (pv_loadc rfl ((hS.boxAt 1 rfl) 1 _ rfl)) (by decide) ?_
    refine el_pv (v := .pointer (some ⟨b107, 0 + 1, none⟩)) (pv_fieldAddr rfl) (by decide) ?_
    refine el_pv (v := u3) (pv_loadc rfl ((hS.boxAt 0 rfl) 1 _ rfl)) (by decide) ?_
    replace hF := ob hF
    obtain ⟨r118, hr118, hF⟩ := hF
    refine el_call goes34 (laws_eqIntS_ok (hS.up ha1) (hS.up ha3) hr118) (congrArg List.toArray (mapc rfl (mapc rfl rfl))) (by decide) ?_
    rintro _ w119 ⟨rfl, hx120⟩
    refine ⟨_, rfl, ?_⟩
    replace hS := hS.ext hx120
    refine el_pv (v := .bool (!r118)) (pv_not rfl) (by decide) ?_
    refine el_nil ?_
    refine hQ117 _ _ _ ?_
    refine thn_n ?_
    replace hF := oif hF
    rcases hF with ⟨hb121, hF⟩ | ⟨hb121, hF⟩
    · refine cw_cond_f rfl (bnot_t hb121) ?_
      refine cw_skip ?_
      refine hQ116 _ _ _ ?_
      refine thn_n ?_
      refine cw_seq ?_
      refine cw_gen ?_
      intro Q122 hQ122
      replace hS : Sat w0 w119 [] := hS.rems 2 [0, 1] rfl
      refine cw_reg ?_
      refine el_pv (v := .bool true) (pv_assign rfl) (by decide) ?_
      refine el_nil ?_
      refine hQ122 _ _ _ ?_
      refine thn_n ?_
      refine cw_ret ?_
      refine fin1 rfl rfl ?_
      have hr := Option.some.inj hF
      exact ⟨congrArg (fun (r : Bool) => Ending.returned (.bool r)) hr, hS.below⟩
    · refine cw_cond_t rfl (bnot_f hb121) ?_
      refine cw_seq ?_
      refine cw_gen ?_
      intro Q123 hQ123
      replace hS : Sat w0 w119 [] := hS.rems 2 [0, 1] rfl
      refine cw_reg ?_
      refine el_pv (v := .bool false) (pv_assign rfl) (by decide) ?_
      refine el_nil ?_
      refine hQ123 _ _ _ ?_
      refine thn_n ?_
      refine cw_ret ?_
      refine hQ116 _ _ _ ?_
      refine thn_r ?_
      refine fin1 rfl rfl ?_
      have hr := Option.some.inj hF
      exact ⟨congrArg (fun (r : Bool) => Ending.returned (.bool r)) hr, hS.below⟩
  · refine cw_cond_t rfl (bnot_f hb115) ?_
    refine cw_seq ?_
    refine cw_gen ?_
    intro Q124 hQ124
    replace hS : Sat w0 w113 [] := hS.rems 2 [0, 1] rfl
    refine cw_reg ?_
    refine el_pv (v := .bool false) (pv_assign rfl) (by decide) ?_
    refine el_nil ?_
    refine hQ124 _ _ _ ?_
    refine thn_n ?_
    refine cw_ret ?_
    refine hQ110 _ _ _ ?_
    refine thn_r ?_
    refine fin1 rfl rfl ?_
    have hr := Option.some.inj hF
    exact ⟨congrArg (fun (r : Bool) => Ending.returned (.bool r)) hr, hS.below⟩
set_option maxHeartbeats 4000000 in
theorem laws_eqFactorNodeS_ok {w0 : World} {u0 : Value} {a0 : List (List Int × List Int)} {u1 : Value} {a1 : List (List Int × List Int)} (ha0 : (sliceR (pairR (sliceR intR 3) (sliceR intR 3)) 84).rd w0 [u0] a0) (ha1 : (sliceR (pairR (sliceR intR 3) (sliceR intR 3)) 84).rd w0 [u1] a1) {N : Nat} {r : Bool} (hF : laws_eqFactorNodeS N a0 a1 = some r) :
    Calls Try.prog 49 #[u0, u1] w0 fun e w' => e = .returned (.bool r) ∧ Ext w0 w' := by
  unfold laws_eqFactorNodeS at hF
  refine calls_E Try.func49 rfl rfl (of_decide_eq_true rfl) ?_
  have hS := Sat.start w0
  refine cw_seq ?_
  refine cw_gen ?_
  intro Q101 hQ101
  refine cw_reg ?_
  refine el_pv (v := .bool false) (pv_assign rfl) (by decide) ?_
  refine el_nil ?_
  refine hQ101 _ _ _ ?_
  refine thn_n ?_
  refine cw_seq ?_
  refine cw_gen ?_
  intro Q102 hQ102
  refine cw_seq ?_
  refine cw_gen ?_
  intro Q103 hQ103
  refine cw_reg ?_
  refine el_pv (v := u0) (pv_move rfl) (by decide) ?_
  refine el_pv (v := .int .i64 (a0.length : Int)) (pv_len rfl ha0) (by decide) ?_
  refine el_pv (v := u1) (pv_move rfl) (by decide) ?_
  refine el_pv (v := .int .i64 (a1.length : Int)) (pv_len rfl ha1) (by decide) ?_
  refine el_pv (v := .bool ((a0.length : Int) != (a1.length : Int))) (pv_neq rfl rfl) (by decide) ?_
  refine el_nil ?_
  refine hQ103 _ _ _ ?_
  refine thn_n ?_
  replace hF := oif hF
  rcases hF with ⟨hb104, hF⟩ | ⟨hb104, hF⟩
  · refine cw_cond_t rfl hb104 ?_
    refine cw_seq ?_
    refine cw_gen ?_
    intro Q105 hQ105
    refine cw_reg ?_
    refine el_pv (v := .bool false) (pv_assign rfl) (by decide) ?_
    refine el_nil ?_
    refine hQ105 _ _ _ ?_
    refine thn_n ?_
    refine cw_ret ?_
    refine hQ102 _ _ _ ?_
    refine thn_r ?_
    refine fin1 rfl rfl ?_
    have hr := Option.some.inj hF
    exact ⟨congrArg (fun (r : Bool) => Ending.returned (.bool r)) hr, hS.below⟩
  · refine cw_cond_f rfl hb104 ?_
    refine cw_skip ?_
    refine hQ102 _ _ _ ?_
    refine thn_n ?_
    refine cw_seq ?_
    refine cw_gen ?_
    intro Q106 hQ106
    refine cw_seq ?_
    refine cw_gen ?_
    intro Q107 hQ107
    refine cw_reg ?_
    refine el_pv (v := .int .i64 0) (pv_assign rfl) (by decide) ?_
    refine el_nil ?_
    refine hQ107 _ _ _ ?_
    refine thn_n ?_
    refine cw_block ?_
    refine cw_gen ?_
    intro Q108 hQ108
    obtain ⟨s109, hL, hK110⟩ := ob hF
    refine cw_loopS (fun k e w => ∃ (x111 : Int), e 0 = u0 ∧ e 1 = u1 ∧ e 5 = .int .i64 x111 ∧ Sat w0 w [] ∧ laws_eqFactorNodeS_L1 N k a0 a1 x111 = some s109) N ?_ ?_ ?_
    · exact ⟨0, rfl, rfl, rfl, hS, hL⟩
    · rintro e w ⟨_, _, _, _, _, hz⟩; exact nomatch (show none = some _ from hz)
    · rintro k e116 w115 ⟨x111, he112, he113, he114, hS, hF⟩
      refine cw_gen ?_
      intro Q117 hQ117
      refine cw_seq ?_
      refine cw_gen ?_
      intro Q118 hQ118
      refine cw_seq ?_
      refine cw_gen ?_
      intro Q119 hQ119
      refine cw_reg ?_
      refine el_pv (v := .int .i64 x111) (pv_move he114) (by decide) ?_
      refine el_pv (v := u0) (pv_move he112) (by decide) ?_
      refine el_pv (v := .int .i64 (a0.length : Int)) (pv_len rfl ha0) (by decide) ?_
      refine el_pv (v := .bool (decide (x111 < (a0.length : Int)))) (pv_lss rfl rfl) (by decide) ?_
      refine el_nil ?_
      refine hQ119 _ _ _ ?_
      refine thn_n ?_
      replace hF := oif hF
      rcases hF with ⟨hb120, hF⟩ | ⟨hb120, hF⟩
      · refine cw_cond_t rfl hb120 ?_
        refine cw_skip ?_
        refine hQ118 _ _ _ ?_
        refine thn_n ?_
        refine cw_seq ?_
        refine cw_gen ?_
        intro Q121 hQ121
        refine cw_block ?_
        refine cw_gen ?_
        intro Q122 hQ122
        refine cw_seq ?_
        refine cw_gen ?_
        intro Q123 hQ123
        refine cw_regq (by kernel_rfl) (by kernel_rfl) ?_
        refine ql_pv (v := u0) (pv_move he112) (by decide) ?_
        refine ql_pv (v := .int .i64 x111) (pv_move he114) (by decide) ?_
        replace hF := ob hF
        obtain ⟨x124, hx124, hF⟩ := hF
        refine ql_index (wA := w0) rfl ha0 rfl (by decide) rfl hx124 (by decide) ?_
        intro b125 of126 c127 hr128 hm129
        obtain ⟨_, _, rfl, hr130, hr131⟩ := hr128
        obtain ⟨v132, rfl⟩ := slice_one hr130
        obtain ⟨v133, rfl⟩ := slice_one hr131
        refine ql_pv (v := .agg #[v132, v133]) (pv_loada (cs := [v132, v133]) rfl rfl (cells_up hS.below hm129)) (by decide) ?_
        refine ql_pv (v := u1) (pv_move he113) (by decide) ?_
        refine ql_pv (v := .int .i64 x111) (pv_move he114) (by decide) ?_
        replace hF := ob hF
        obtain ⟨x134, hx134, hF⟩ := hF
        refine ql_index (wA := w0) rfl ha1 rfl (by decide) rfl hx134 (by decide) ?_
        intro b135 of136 c137 hr138 hm139
        obtain ⟨_, _, rfl, hr140, hr141⟩ := hr138
        obtain ⟨v142, rfl⟩ := slice_one hr140
        obtain ⟨v143, rfl⟩ := slice_one hr141
        refine ql_pv (v := .agg #[v142, v143]) (pv_loada (cs := [v142, v143]) rfl rfl (cells_up hS.below hm139)) (by decide) ?_
        replace hF := ob hF
        obtain ⟨r144, hr144, hF⟩ := hF
        refine ql_call (.bool r144) goes96 (fun w' hw' => laws_eqFactorNode_ok (rd_up (hS.up hr130) hw') (rd_up (hS.up hr131) hw') (rd_up (hS.up hr140) hw') (rd_up (hS.up hr141) hw') hr144) (congrArg List.toArray (mapc rfl (mapc rfl rfl))) (by decide) ?_
        refine ql_pv (v := .bool (!r144)) (pv_not rfl) (by decide) ?_
        refine ql_nil ?_
        intro w145 hx146
        replace hS := hS.ext hx146
        refine hQ123 _ _ _ ?_
        refine thn_n ?_
        replace hF := oif hF
        rcases hF with ⟨hb147, hF⟩ | ⟨hb147, hF⟩
        · refine cw_cond_f rfl (bnot_t hb147) ?_
          refine cw_skip ?_
          refine hQ122 _ _ _ ?_
          refine inb_n ?_
          refine hQ121 _ _ _ ?_
          refine thn_n ?_
          refine cw_reg ?_
          refine el_pv (v := .int .i64 x111) (pv_move he114) (by decide) ?_
          replace hF := ob hF
          obtain ⟨x148, hx148, hF⟩ := hF
          refine el_pv (v := .int .i64 x148) (pv_add rfl rfl hx148) (by decide) ?_
          refine el_pv (v := .int .i64 x148) (pv_assign rfl) (by decide) ?_
          refine el_nil ?_
          refine hQ117 _ _ _ ?_
          refine thn_n ?_
          replace hS := hS.keep 0
          exact ⟨x148, he112, he113, rfl, hS, hF⟩
        · refine cw_cond_t rfl (bnot_f hb147) ?_
          refine cw_seq ?_
          refine cw_gen ?_
          intro Q149 hQ149
          refine cw_reg ?_
          refine el_pv (v := .bool false) (pv_assign rfl) (by decide) ?_
          refine el_nil ?_
          refine hQ149 _ _ _ ?_
          refine thn_n ?_
          refine cw_ret ?_
          refine hQ122 _ _ _ ?_
          refine inb_r ?_
          refine hQ121 _ _ _ ?_
          refine thn_r ?_
          refine hQ117 _ _ _ ?_
          refine thn_r ?_
          refine hQ108 _ _ _ ?_
          refine inb_r ?_
          refine hQ106 _ _ _ ?_
          refine thn_r ?_
          replace hF := exL hF hK110
          refine fin1 rfl rfl ?_
          have hr := Option.some.inj hF
          exact ⟨congrArg (fun (r : Bool) => Ending.returned (.bool r)) hr, hS.below⟩
      · refine cw_cond_f rfl hb120 ?_
        refine cw_exit ?_
        refine hQ118 _ _ _ ?_
        refine thn_x ?_
        refine hQ117 _ _ _ ?_
        refine thn_x ?_
        replace hF := exA hF hK110
        refine hQ108 _ _ _ ?_
        refine inb_s ?_
        refine hQ106 _ _ _ ?_
        refine thn_n ?_
        refine cw_seq ?_
        refine cw_gen ?_
        intro Q150 hQ150
        refine cw_reg ?_
        refine el_pv (v := .bool true) (pv_assign rfl) (by decide) ?_
        refine el_nil ?_
        refine hQ150 _ _ _ ?_
        refine thn_n ?_
        refine cw_ret ?_
        refine fin1 rfl rfl ?_
        have hr := Option.some.inj hF
        exact ⟨congrArg (fun (r : Bool) => Ending.returned (.bool r)) hr, hS.below⟩
set_option maxHeartbeats 4000000 in
theorem laws_eqFactorization_ok {w0 : World} {u0 : Value} {a0 : List Int} {u1 : Value} {a1 : List (List Int × List Int)} {u2 : Value} {a2 : List Int} {u3 : Value} {a3 : List (List Int × List Int)} (ha0 : (sliceR intR 3).rd w0 [u0] a0) (ha1 : (sliceR (pairR (sliceR intR 3) (sliceR intR 3)) 84).rd w0 [u1] a1) (ha2 : (sliceR intR 3).rd w0 [u2] a2) (ha3 : (sliceR (pairR (sliceR intR 3) (sliceR intR 3)) 84).rd w0 [u3] a3) {N : Nat} {r : Bool} (hF : laws_eqFactorization N a0 a1 a2 a3 = some r) :
    Calls Try.prog 13 #[.agg #[u0, u1], .agg #[u2, u3]] w0 fun e w' => e = .returned (.bool r) ∧ Ext w0 w' := by
  unfold laws_eqFactorization at hF
  refine calls_E Try.func13 rfl rfl (of_decide_eq_true rfl) ?_
  have hS := Sat.start w0
  refine cw_seq ?_
  refine cw_gen ?_
  intro Q101 hQ101
  refine cw_reg ?_
  refine el_box [u0, u1] rfl hS (by decide) ?_
  intro w102 b103 hS hx104
  refine el_box [u2, u3] rfl hS (by decide) ?_
  intro w106 b107 hS hx108
  refine el_pv (v := .bool false) (pv_assign rfl) (by decide) ?_
  refine el_nil ?_
  refine hQ101 _ _ _ ?_
  refine thn_n ?_
  refine cw_seq ?_
  refine cw_gen ?_
  intro Q110 hQ110
  refine cw_seq ?_
  refine cw_gen ?_
  intro Q111 hQ111
  refine cw_reg ?_
  refine el_pv (v := .pointer (some ⟨b103, 0 + 0, none⟩)) (pv_fieldAddr rfl) (by decide) ?_
  refine el_pv (v := u0) (pv_loadc rfl ((hS.boxAt 1 rfl) 0 _ rfl)) (by decide) ?_
  refine el_pv (v := .pointer (some ⟨b107, 0 + 0, none⟩)) (pv_fieldAddr rfl) (by decide) ?_
  refine el_pv (v := u2) (pv_loadc rfl ((hS.boxAt 0 rfl) 0 _ rfl)) (by decide) ?_
  replace hF := ob hF
  obtain ⟨r112, hr112, hF⟩ := hF
  refine el_call goes34 (laws_eqIntS_ok (hS.up ha0) (hS.up ha2) hr112) (congrArg List.toArray (mapc rfl (mapc rfl rfl))) (by decide) ?_
  rintro _ w113 ⟨rfl, hx114⟩
  refine ⟨_, rfl, ?_⟩
  replace hS := hS.ext hx114
  refine el_pv (v := .bool (!r112)) (pv_not rfl) (by decide) ?_
  refine el_nil ?_
  refine hQ111 _ _ _ ?_
  refine thn_n ?_
  replace hF := oif hF
  rcases hF with ⟨hb115, hF⟩ | ⟨hb115, hF⟩
  · refine cw_cond_f rfl (bnot_t hb115) ?_
    refine cw_skip ?_
    refine hQ110 _ _ _ ?_
    refine thn_n ?_
    refine cw_seq ?_
    refine cw_gen ?_
    intro Q116 hQ116
    refine cw_seq ?_
    refine cw_gen ?_
    intro Q117 hQ117
    refine cw_reg ?_
    refine el_pv (v := .pointer (some ⟨b103, 0 + 1, none⟩)) (pv_fieldAddr rfl) (by decide) ?_
    refine el_pv (v := u1) (pv_loadc rfl ((hS.boxAt 1 rfl) 1 _ rfl)) (by decide) ?_
    refine el_pv (v := .pointer (some ⟨b107, 0 + 1, none⟩)) (pv_fieldAddr rfl) (by decide) ?_
    refine el_pv (v := u3) (pv_loadc rfl ((hS.boxAt 0 rfl) 1 _ rfl)) (by decide) ?_
    replace hF := ob hF
    obtain ⟨r118, hr118, hF⟩ := hF
    refine el_call goes49 (laws_eqFactorNodeS_ok (hS.up ha1) (hS.up ha3) hr118) (congrArg List.toArray (mapc rfl (mapc rfl rfl))) (by decide) ?_
    rintro _ w119 ⟨rfl, hx120⟩
    refine ⟨_, rfl, ?_⟩
    replace hS := hS.ext hx120
    refine el_pv (v := .bool (!r118)) (pv_not rfl) (by decide) ?_
    refine el_nil ?_
    refine hQ117 _ _ _ ?_
    refine thn_n ?_
    replace hF := oif hF
    rcases hF with ⟨hb121, hF⟩ | ⟨hb121, hF⟩
    · refine cw_cond_f rfl (bnot_t hb121) ?_
      refine cw_skip ?_
      refine hQ116 _ _ _ ?_
      refine thn_n ?_
      refine cw_seq ?_
      refine cw_gen ?_
      intro Q122 hQ122
      replace hS : Sat w0 w119 [] := hS.rems 2 [0, 1] rfl
      refine cw_reg ?_
      refine el_pv (v := .bool true) (pv_assign rfl) (by decide) ?_
      refine el_nil ?_
      refine hQ122 _ _ _ ?_
      refine thn_n ?_
      refine cw_ret ?_
      refine fin1 rfl rfl ?_
      have hr := Option.some.inj hF
      exact ⟨congrArg (fun (r : Bool) => Ending.returned (.bool r)) hr, hS.below⟩
    · refine cw_cond_t rfl (bnot_f hb121) ?_
      refine cw_seq ?_
      refine cw_gen ?_
      intro Q123 hQ123
      replace hS : Sat w0 w119 [] := hS.rems 2 [0, 1] rfl
      refine cw_reg ?_
      refine el_pv (v := .bool false) (pv_assign rfl) (by decide) ?_
      refine el_nil ?_
      refine hQ123 _ _ _ ?_
      refine thn_n ?_
      refine cw_ret ?_
      refine hQ116 _ _ _ ?_
      refine thn_r ?_
      refine fin1 rfl rfl ?_
      have hr := Option.some.inj hF
      exact ⟨congrArg (fun (r : Bool) => Ending.returned (.bool r)) hr, hS.below⟩
  · refine cw_cond_t rfl (bnot_f hb115) ?_
    refine cw_seq ?_
    refine cw_gen ?_
    intro Q124 hQ124
    replace hS : Sat w0 w113 [] := hS.rems 2 [0, 1] rfl
    refine cw_reg ?_
    refine el_pv (v := .bool false) (pv_assign rfl) (by decide) ?_
    refine el_nil ?_
    refine hQ124 _ _ _ ?_
    refine thn_n ?_
    refine cw_ret ?_
    refine hQ110 _ _ _ ?_
    refine thn_r ?_
    refine fin1 rfl rfl ?_
    have hr := Option.some.inj hF
    exact ⟨congrArg (fun (r : Bool) => Ending.returned (.bool r)) hr, hS.below⟩
set_option maxHeartbeats 4000000 in
theorem laws_eqIntSS_ok {w0 : World} {u0 : Value} {a0 : List (List Int)} {u1 : Value} {a1 : List (List Int)} (ha0 : (sliceR (sliceR intR 3) 26).rd w0 [u0] a0) (ha1 : (sliceR (sliceR intR 3) 26).rd w0 [u1] a1) {N : Nat} {r : Bool} (hF : laws_eqIntSS N a0 a1 = some r) :
    Calls Try.prog 50 #[u0, u1] w0 fun e w' => e = .returned (.bool r) ∧ Ext w0 w' := by
  unfold laws_eqIntSS at hF
  refine calls_E Try.func50 rfl rfl (of_decide_eq_true rfl) ?_
  have hS := Sat.start w0
  refine cw_seq ?_
  refine cw_gen ?_
  intro Q101 hQ101
  refine cw_reg ?_
  refine el_pv (v := .bool false) (pv_assign rfl) (by decide) ?_
  refine el_nil ?_
  refine hQ101 _ _ _ ?_
  refine thn_n ?_
  refine cw_seq ?_
  refine cw_gen ?_
  intro Q102 hQ102
  refine cw_seq ?_
  refine cw_gen ?_
  intro Q103 hQ103
  refine cw_reg ?_
  refine el_pv (v := u0) (pv_move rfl) (by decide) ?_
  refine el_pv (v := .int .i64 (a0.length : Int)) (pv_len rfl ha0) (by decide) ?_
  refine el_pv (v := u1) (pv_move rfl) (by decide) ?_
  refine el_pv (v := .int .i64 (a1.length : Int)) (pv_len rfl ha1) (by decide) ?_
  refine el_pv (v := .bool ((a0.length : Int) != (a1.length : Int))) (pv_neq rfl rfl) (by decide) ?_
  refine el_nil ?_
  refine hQ103 _ _ _ ?_
  refine thn_n ?_
  replace hF := oif hF
  rcases hF with ⟨hb104, hF⟩ | ⟨hb104, hF⟩
  · refine cw_cond_t rfl hb104 ?_
    refine cw_seq ?_
    refine cw_gen ?_
    intro Q105 hQ105
    refine cw_reg ?_
    refine el_pv (v := .bool false) (pv_assign rfl) (by decide) ?_
    refine el_nil ?_
    refine hQ105 _ _ _ ?_
    refine thn_n ?_
    refine cw_ret ?_
    refine hQ102 _ _ _ ?_
    refine thn_r ?_
    refine fin1 rfl rfl ?_
    have hr := Option.some.inj hF
    exact ⟨congrArg (fun (r : Bool) => Ending.returned (.bool r)) hr, hS.below⟩
  · refine cw_cond_f rfl hb104 ?_
    refine cw_skip ?_
    refine hQ102 _ _ _ ?_
    refine thn_n ?_
    refine cw_seq ?_
    refine cw_gen ?_
    intro Q106 hQ106
    refine cw_seq ?_
    refine cw_gen ?_
    intro Q107 hQ107
    refine cw_reg ?_
    refine el_pv (v := .int .i64 0) (pv_assign rfl) (by decide) ?_
    refine el_nil ?_
    refine hQ107 _ _ _ ?_
    refine thn_n ?_
    refine cw_block ?_
    refine cw_gen ?_
    intro Q108 hQ108
    obtain ⟨s109, hL, hK110⟩ := ob hF
    refine cw_loopS (fun k e w => ∃ (x111 : Int), e 0 = u0 ∧ e 1 = u1 ∧ e 5 = .int .i64 x111 ∧ Sat w0 w [] ∧ laws_eqIntSS_L1 N k a0 a1 x111 = some s109) N ?_ ?_ ?_
    · exact ⟨0, rfl, rfl, rfl, hS, hL⟩
    · rintro e w ⟨_, _, _, _, _, hz⟩; exact nomatch (show none = some _ from hz)
    · rintro k e116 w115 ⟨x111, he112, he113, he114, hS, hF⟩
      refine cw_gen ?_
      intro Q117 hQ117
      refine cw_seq ?_
      refine cw_gen ?_
      intro Q118 hQ118
      refine cw_seq ?_
      refine cw_gen ?_
      intro Q119 hQ119
      refine cw_reg ?_
      refine el_pv (v := .int .i64 x111) (pv_move he114) (by decide) ?_
      refine el_pv (v := u0) (pv_move he112) (by decide) ?_
      refine el_pv (v := .int .i64 (a0.length : Int)) (pv_len rfl ha0) (by decide) ?_
      refine el_pv (v := .bool (decide (x111 < (a0.length : Int)))) (pv_lss rfl rfl) (by decide) ?_
      refine el_nil ?_
      refine hQ119 _ _ _ ?_
      refine thn_n ?_
      replace hF := oif hF
      rcases hF with ⟨hb120, hF⟩ | ⟨hb120, hF⟩
      · refine cw_cond_t rfl hb120 ?_
        refine cw_skip ?_
        refine hQ118 _ _ _ ?_
        refine thn_n ?_
        refine cw_seq ?_
        refine cw_gen ?_
        intro Q121 hQ121
        refine cw_block ?_
        refine cw_gen ?_
        intro Q122 hQ122
        refine cw_seq ?_
        refine cw_gen ?_
        intro Q123 hQ123
        refine cw_regq (by kernel_rfl) (by kernel_rfl) ?_
        refine ql_pv (v := u0) (pv_move he112) (by decide) ?_
        refine ql_pv (v := .int .i64 x111) (pv_move he114) (by decide) ?_
        replace hF := ob hF
        obtain ⟨x124, hx124, hF⟩ := hF
        refine ql_index (wA := w0) rfl ha0 rfl (by decide) rfl hx124 (by decide) ?_
        intro b125 of126 c127 hr128 hm129
        obtain ⟨v130, rfl⟩ := slice_one hr128
        refine ql_pv (v := v130) (pv_loadc rfl ((cells_up hS.below hm129) 0 _ rfl)) (by decide) ?_
        refine ql_pv (v := u1) (pv_move he113) (by decide) ?_
        refine ql_pv (v := .int .i64 x111) (pv_move he114) (by decide) ?_
        replace hF := ob hF
        obtain ⟨x131, hx131, hF⟩ := hF
        refine ql_index (wA := w0) rfl ha1 rfl (by decide) rfl hx131 (by decide) ?_
        intro b132 of133 c134 hr135 hm136
        obtain ⟨v137, rfl⟩ := slice_one hr135
        refine ql_pv (v := v137) (pv_loadc rfl ((cells_up hS.below hm136) 0 _ rfl)) (by decide) ?_
        replace hF := ob hF
        obtain ⟨r138, hr138, hF⟩ := hF
        refine ql_call (.bool r138) goes34 (fun w' hw' => laws_eqIntS_ok (rd_up (hS.up hr128) hw') (rd_up (hS.up hr135) hw') hr138) (congrArg List.toArray (mapc rfl (mapc rfl rfl))) (by decide) ?_
        refine ql_pv (v := .bool (!r138)) (pv_not rfl) (by decide) ?_
        refine ql_nil ?_
        intro w139 hx140
        replace hS := hS.ext hx140
        refine hQ123 _ _ _ ?_
        refine thn_n ?_
        replace hF := oif hF
        rcases hF with ⟨hb141, hF⟩ | ⟨hb141, hF⟩
        · refine cw_cond_f rfl (bnot_t hb141) ?_
          refine cw_skip ?_
          refine hQ122 _ _ _ ?_
          refine inb_n ?_
          refine hQ121 _ _ _ ?_
          refine thn_n ?_
          refine cw_reg ?_
          refine el_pv (v := .int .i64 x111) (pv_move he114) (by decide) ?_
          replace hF := ob hF
          obtain ⟨x142, hx142, hF⟩ := hF
          refine el_pv (v := .int .i64 x142) (pv_add rfl rfl hx142) (by decide) ?_
          refine el_pv (v := .int .i64 x142) (pv_assign rfl) (by decide) ?_
          refine el_nil ?_
          refine hQ117 _ _ _ ?_
          refine thn_n ?_
          replace hS := hS.keep 0
          exact ⟨x142, he112, he113, rfl, hS, hF⟩
        · refine cw_cond_t rfl (bnot_f hb141) ?_
          refine cw_seq ?_
          refine cw_gen ?_
          intro Q143 hQ143
          refine cw_reg ?_
          refine el_pv (v := .bool false) (pv_assign rfl) (by decide) ?_
          refine el_nil ?_
          refine hQ143 _ _ _ ?_
          refine thn_n ?_
          refine cw_ret ?_
          refine hQ122 _ _ _ ?_
          refine inb_r ?_
          refine hQ121 _ _ _ ?_
          refine thn_r ?_
          refine hQ117 _ _ _ ?_
          refine thn_r ?_
          refine hQ108 _ _ _ ?_
          refine inb_r ?_
          refine hQ106 _ _ _ ?_
          refine thn_r ?_
          replace hF := exL hF hK110
          refine fin1 rfl rfl ?_
          have hr := Option.some.inj hF
          exact ⟨congrArg (fun (r : Bool) => Ending.returned (.bool r)) hr, hS.below⟩
      · refine cw_cond_f rfl hb120 ?_
        refine cw_exit ?_
        refine hQ118 _ _ _ ?_
        refine thn_x ?_
        refine hQ117 _ _ _ ?_
        refine thn_x ?_
        replace hF := exA hF hK110
        refine hQ108 _ _ _ ?_
        refine inb_s ?_
        refine hQ106 _ _ _ ?_
        refine thn_n ?_
        refine cw_seq ?_
        refine cw_gen ?_
        intro Q144 hQ144
        refine cw_reg ?_
        refine el_pv (v := .bool true) (pv_assign rfl) (by decide) ?_
        refine el_nil ?_
        refine hQ144 _ _ _ ?_
        refine thn_n ?_
        refine cw_ret ?_
        refine fin1 rfl rfl ?_
        have hr := Option.some.inj hF
        exact ⟨congrArg (fun (r : Bool) => Ending.returned (.bool r)) hr, hS.below⟩
set_option maxHeartbeats 4000000 in
theorem laws_eqRelation_ok {w0 : World} {a0 : Int} {u1 : Value} {a1 : List (List Int)} {a2 : Int} {u3 : Value} {a3 : List (List Int)} (ha1 : (sliceR (sliceR intR 3) 26).rd w0 [u1] a1) (ha3 : (sliceR (sliceR intR 3) 26).rd w0 [u3] a3) {N : Nat} {r : Bool} (hF : laws_eqRelation N a0 a1 a2 a3 = some r) :
    Calls Try.prog 14 #[.agg #[.int .i64 a0, u1], .agg #[.int .i64 a2, u3]] w0 fun e w' => e = .returned (.bool r) ∧ Ext w0 w' := by
  unfold laws_eqRelation at hF
  refine calls_E Try.func14 rfl rfl (of_decide_eq_true rfl) ?_
  have hS := Sat.start w0
  refine cw_seq ?_
  refine cw_gen ?_
  intro Q101 hQ101
  refine cw_reg ?_
  refine el_box [.int .i64 a0, u1] rfl hS (by decide) ?_
  intro w102 b103 hS hx104
  refine el_box [.int .i64 a2, u3] rfl hS (by decide) ?_
  intro w106 b107 hS hx108
  refine el_pv (v := .bool false) (pv_assign rfl) (by decide) ?_
  refine el_nil ?_
  refine hQ101 _ _ _ ?_
  refine thn_n ?_
  refine cw_seq ?_
  refine cw_gen ?_
  intro Q110 hQ110
  refine cw_seq ?_
  refine cw_gen ?_
  intro Q111 hQ111
  refine cw_reg ?_
  refine el_pv (v := .pointer (some ⟨b103, 0 + 0, none⟩)) (pv_fieldAddr rfl) (by decide) ?_
  refine el_pv (v := .int .i64 a0) (pv_loadc rfl ((hS.boxAt 1 rfl) 0 _ rfl)) (by decide) ?_
  refine el_pv (v := .pointer (some ⟨b107, 0 + 0, none⟩)) (pv_fieldAddr rfl) (by decide) ?_
  refine el_pv (v := .int .i64 a2) (pv_loadc rfl ((hS.boxAt 0 rfl) 0 _ rfl)) (by decide) ?_
  refine el_pv (v := .bool (a0 != a2)) (pv_neq rfl rfl) (by decide) ?_
  refine el_nil ?_
  refine hQ111 _ _ _ ?_
  refine thn_n ?_
  replace hF := oif hF
  rcases hF with ⟨hb112, hF⟩ | ⟨hb112, hF⟩
  · refine cw_cond_t rfl hb112 ?_
    refine cw_seq ?_
    refine cw_gen ?_
    intro Q113 hQ113
    replace hS : Sat w0 w106 [] := hS.rems 2 [0, 1] rfl
    refine cw_reg ?_
    refine el_pv (v := .bool false) (pv_assign rfl) (by decide) ?_
    refine el_nil ?_
    refine hQ113 _ _ _ ?_
    refine thn_n ?_
    refine cw_ret ?_
    refine hQ110 _ _ _ ?_
    refine thn_r ?_
    refine fin1 rfl rfl ?_
    have hr := Option.some.inj hF
    exact ⟨congrArg (fun (r : Bool) => Ending.returned (.bool r)) hr, hS.below⟩
  · refine cw_cond_f rfl hb112 ?_
    refine cw_skip ?_
    refine hQ110 _ _ _ ?_
    refine thn_n ?_
    refine cw_seq ?_
    refine cw_gen ?_
    intro Q114 hQ114
    refine cw_seq ?_
    refine cw_gen ?_
    intro Q115 hQ115
    refine cw_reg ?_
    refine el_pv (v := .pointer (some ⟨b103, 0 + 1, none⟩)) (pv_fieldAddr rfl) (by decide) ?_
    refine el_pv (v := u1) (pv_loadc rfl ((hS.boxAt 1 rfl) 1 _ rfl)) (by decide) ?_
    refine el_pv (v := .pointer (some ⟨b107, 0 + 1, none⟩)) (pv_fieldAddr rfl) (by decide) ?_
    refine el_pv (v := u3) (pv_loadc rfl ((hS.boxAt 0 rfl) 1 _ rfl)) (by decide) ?_
    replace hF := ob hF
    obtain ⟨r116, hr116, hF⟩ := hF
    refine el_call goes50 (laws_eqIntSS_ok (hS.up ha1) (hS.up ha3) hr116) (congrArg List.toArray (mapc rfl (mapc rfl rfl))) (by decide) ?_
    rintro _ w117 ⟨rfl, hx118⟩
    refine ⟨_, rfl, ?_⟩
    replace hS := hS.ext hx118
    refine el_pv (v := .bool (!r116)) (pv_not rfl) (by decide) ?_
    refine el_nil ?_
    refine hQ115 _ _ _ ?_
    refine thn_n ?_
    replace hF := oif hF
    rcases hF with ⟨hb119, hF⟩ | ⟨hb119, hF⟩
    · refine cw_cond_f rfl (bnot_t hb119) ?_
      refine cw_skip ?_
      refine hQ114 _ _ _ ?_
      refine thn_n ?_
      refine cw_seq ?_
      refine cw_gen ?_
      intro Q120 hQ120
      replace hS : Sat w0 w117 [] := hS.rems 2 [0, 1] rfl
      refine cw_reg ?_
      refine el_pv (v := .bool true) (pv_assign rfl) (by decide) ?_
      refine el_nil ?_
      refine hQ120 _ _ _ ?_
      refine thn_n ?_
      refine cw_ret ?_
      refine fin1 rfl rfl ?_
      have hr := Option.some.inj hF
      exact ⟨congrArg (fun (r : Bool) => Ending.returned (.bool r)) hr, hS.below⟩
    · refine cw_cond_t rfl (bnot_f hb119) ?_
      refine cw_seq ?_
      refine cw_gen ?_
      intro Q121 hQ121
      replace hS : Sat w0 w117 [] := hS.rems 2 [0, 1] rfl
      refine cw_reg ?_
      refine el_pv (v := .bool false) (pv_assign rfl) (by decide) ?_
      refine el_nil ?_
      refine hQ121 _ _ _ ?_
      refine thn_n ?_
      refine cw_ret ?_
      refine hQ114 _ _ _ ?_
      refine thn_r ?_
      refine fin1 rfl rfl ?_
      have hr := Option.some.inj hF
      exact ⟨congrArg (fun (r : Bool) => Ending.returned (.bool r)) hr, hS.below⟩
set_option maxHeartbeats 4000000 in
theorem laws_markIntS_ok {w0 : World} {w00 : World} {G0 : List Asn} {u0 : Value} {a0 : List Int} {a1 : Int} (hS : Sat w00 w0 (Own (sliceR intR 3) [u0] a0 :: G0)) {N : Nat} {r : Int × (List Int)} (hF : laws_markIntS N a0 a1 = some r) :
    Calls Try.prog 35 #[u0, .int .i64 a1] w0 fun e w' => e = .returned (.int .i64 r.1) ∧ Sat w00 w' (Own (sliceR intR 3) [u0] r.2 :: G0) := by
  unfold laws_markIntS at hF
  refine calls_E Try.func35 rfl rfl (of_decide_eq_true rfl) ?_
  refine cw_seq ?_
  refine cw_gen ?_
  intro Q101 hQ101
  refine cw_reg ?_
  refine el_pv (v := .int .i64 0) (pv_assign rfl) (by decide) ?_
  refine el_nil ?_
  refine hQ101 _ _ _ ?_
  refine thn_n ?_
  refine cw_seq ?_
  refine cw_gen ?_
  intro Q102 hQ102
  refine cw_seq ?_
  refine cw_gen ?_
  intro Q103 hQ103
  refine cw_reg ?_
  refine el_pv (v := .int .i64 0) (pv_assign rfl) (by decide) ?_
  refine el_nil ?_
  refine hQ103 _ _ _ ?_
  refine thn_n ?_
  refine cw_block ?_
  refine cw_gen ?_
  intro Q104 hQ104
  obtain ⟨s105, hL, hK106⟩ := ob hF
  refine cw_loopS (fun k e w => ∃ (x107 : List Int), ∃ (x108 : Int), ∃ (x109 : Int), e 0 = u0 ∧ e 1 = .int .i64 x108 ∧ e 5 = .int .i64 x109 ∧ Sat w00 w (Own (sliceR intR 3) [u0] x107 :: G0) ∧ laws_markIntS_L1 N k x107 x108 x109 = some s105) N ?_ ?_ ?_
  · exact ⟨a0, a1, 0, rfl, rfl, rfl, hS, hL⟩
  · rintro e w ⟨_, _, _, _, _, _, _, hz⟩; exact nomatch (show none = some _ from hz)
  · rintro k e114 w113 ⟨x107, x108, x109, he110, he111, he112, hS, hF⟩
    refine cw_gen ?_
    intro Q115 hQ115
    refine cw_seq ?_
    refine cw_gen ?_
    intro Q116 hQ116
    refine cw_seq ?_
    refine cw_gen ?_
    intro Q117 hQ117
    refine cw_reg ?_
    refine el_pv (v := .int .i64 x109) (pv_move he112) (by decide) ?_
    refine el_pv (v := u0) (pv_move he110) (by decide) ?_
    refine el_pv (v := .int .i64 (x107.length : Int)) (pv_len rfl (hS.rdAt (R := (sliceR intR 3)) 0 rfl)) (by decide) ?_
    refine el_pv (v := .bool (decide (x109 < (x107.length : Int)))) (pv_lss rfl rfl) (by decide) ?_
    refine el_nil ?_
    refine hQ117 _ _ _ ?_
    refine thn_n ?_
    replace hF := oif hF
    rcases hF with ⟨hb118, hF⟩ | ⟨hb118, hF⟩
    · refine cw_cond_t rfl hb118 ?_
      refine cw_skip ?_
      refine hQ116 _ _ _ ?_
      refine thn_n ?_
      refine cw_seq ?_
      refine cw_gen ?_
      intro Q119 hQ119
      refine cw_block ?_
      refine cw_gen ?_
      intro Q120 hQ120
      refine cw_seq ?_
      refine cw_gen ?_
      intro Q121 hQ121
      refine cw_reg ?_
      refine el_pv (v := u0) (pv_move he110) (by decide) ?_
      refine el_pv (v := .int .i64 x109) (pv_move he112) (by decide) ?_
      refine el_pv (v := .int .i64 x108) (pv_move he111) (by decide) ?_
      replace hF := ob hF
      obtain ⟨x122, hx122, hF⟩ := hF
      obtain ⟨g123, cap124, hv125⟩ := ownShape 0 hS rfl hx122
      refine el_pv (v := .pointer (some ⟨g123, x109.toNat * 1, none⟩)) (pv_indexF (v := u0) rfl hv125 rfl hx122) (by decide) ?_
      replace hF := ob hF
      obtain ⟨x127, hx127, hF⟩ := hF
      replace hS := hS.int x108
      refine el_storeO rfl hv125 hS hx127 rfl rfl ?_
      intro w126 hS
      refine el_nil ?_
      refine hQ121 _ _ _ ?_
      refine thn_n ?_
      refine cw_reg ?_
      refine el_pv (v := .int .i64 x108) (pv_move he111) (by decide) ?_
      replace hF := ob hF
      obtain ⟨x128, hx128, hF⟩ := hF
      refine el_pv (v := .int .i64 x128) (pv_add rfl rfl hx128) (by decide) ?_
      refine el_pv (v := .int .i64 x128) (pv_assign rfl) (by decide) ?_
      refine el_nil ?_
      refine hQ120 _ _ _ ?_
      refine inb_n ?_
      refine hQ119 _ _ _ ?_
      refine thn_n ?_
      refine cw_reg ?_
      refine el_pv (v := .int .i64 x109) (pv_move he112) (by decide) ?_
      replace hF := ob hF
      obtain ⟨x129, hx129, hF⟩ := hF
      refine el_pv (v := .int .i64 x129) (pv_add rfl rfl hx129) (by decide) ?_
      refine el_pv (v := .int .i64 x129) (pv_assign rfl) (by decide) ?_
      refine el_nil ?_
      refine hQ115 _ _ _ ?_
      refine thn_n ?_
      exact ⟨x127, x128, x129, he110, rfl, rfl, hS, hF⟩
    · refine cw_cond_f rfl hb118 ?_
      refine cw_exit ?_
      refine hQ116 _ _ _ ?_
      refine thn_x ?_
      refine hQ115 _ _ _ ?_
      refine thn_x ?_
      replace hF := exB hF hK106
      refine hQ104 _ _ _ ?_
      refine inb_s ?_
      refine hQ102 _ _ _ ?_
      refine thn_n ?_
      refine cw_seq ?_
      refine cw_gen ?_
      intro Q130 hQ130
      refine cw_reg ?_
      refine el_pv (v := .int .i64 x108) (pv_move he111) (by decide) ?_
      refine el_pv (v := .int .i64 x108) (pv_assign rfl) (by decide) ?_
      refine el_nil ?_
      refine hQ130 _ _ _ ?_
      refine thn_n ?_
      refine cw_ret ?_
      refine fin1 rfl rfl ?_
      have hr := Option.some.inj hF
      exact ⟨congrArg (fun (r : Int × (List Int)) => Ending.returned (.int .i64 r.1)) hr, Eq.mp (congrArg (fun (r : Int × (List Int)) => Sat w00 w113 (Own (sliceR intR 3) [u0] r.2 :: G0)) hr) hS⟩
set_option maxHeartbeats 4000000 in
theorem laws_markIntSS_ok {w0 : World} {w00 : World} {G0 : List Asn} {u0 : Value} {a0 : List (List Int)} {a1 : Int} (hS : Sat w00 w0 (Own (sliceR (sliceR intR 3) 26) [u0] a0 :: G0)) {N : Nat} {r : Int × (List (List Int))} (hF : laws_markIntSS N a0 a1 = some r) :
    Calls Try.prog 51 #[u0, .int .i64 a1] w0 fun e w' => e = .returned (.int .i64 r.1) ∧ Sat w00 w' (Own (sliceR (sliceR intR 3) 26) [u0] r.2 :: G0) := by
  unfold laws_markIntSS at hF
  refine calls_E Try.func51 rfl rfl (of_decide_eq_true rfl) ?_
  refine cw_seq ?_
  refine cw_gen ?_
  intro Q101 hQ101
  refine cw_reg ?_
  refine el_pv (v := .int .i64 0) (pv_assign rfl) (by decide) ?_
  refine el_nil ?_
  refine hQ101 _ _ _ ?_
  refine thn_n ?_
  refine cw_seq ?_
  refine cw_gen ?_
  intro Q102 hQ102
  refine cw_seq ?_
  refine cw_gen ?_
  intro Q103 hQ103
  refine cw_reg ?_
  refine el_pv (v := .int .i64 0) (pv_assign rfl) (by decide) ?_
  refine el_nil ?_
  refine hQ103 _ _ _ ?_
  refine thn_n ?_
  refine cw_block ?_
  refine cw_gen ?_
  intro Q104 hQ104
  obtain ⟨s105, hL, hK106⟩ := ob hF
  refine cw_loopS (fun k e w => ∃ (x107 : List (List Int)), ∃ (x108 : Int), ∃ (x109 : Int), e 0 = u0 ∧ e 1 = .int .i64 x108 ∧ e 5 = .int .i64 x109 ∧ Sat w00 w (Own (sliceR (sliceR intR 3) 26) [u0] x107 :: G0) ∧ laws_markIntSS_L1 N k x107 x108 x109 = some s105) N ?_ ?_ ?_
  · exact ⟨a0, a1, 0, rfl, rfl, rfl, hS, hL⟩
  · rintro e w ⟨_, _, _, _, _, _, _, hz⟩; exact nomatch (show none = some _ from hz)
  · rintro k e114 w113 ⟨x107, x108, x109, he110, he111, he112, hS, hF⟩
    refine cw_gen ?_
    intro Q115 hQ115
    refine cw_seq ?_
    refine cw_gen ?_
    intro Q116 hQ116
    refine cw_seq ?_
    refine cw_gen ?_
    intro Q117 hQ117
    refine cw_reg ?_
    refine el_pv (v := .int .i64 x109) (pv_move he112) (by decide) ?_
    refine el_pv (v := u0) (pv_move he110) (by decide) ?_
    refine el_pv (v := .int .i64 (x107.length : Int)) (pv_len rfl (hS.rdAt (R := (sliceR (sliceR intR 3) 26)) 0 rfl)) (by decide) ?_
    refine el_pv (v := .bool (decide (x109 < (x107.length : Int)))) (pv_lss rfl rfl) (by decide) ?_
    refine el_nil ?_
    refine hQ117 _ _ _ ?_
    refine thn_n ?_
    replace hF := oif hF
    rcases hF with ⟨hb118, hF⟩ | ⟨hb118, hF⟩
    · refine cw_cond_t rfl hb118 ?_
      refine cw_skip ?_
      refine hQ116 _ _ _ ?_
      refine thn_n ?_
      refine cw_seq ?_
      refine cw_gen ?_
      intro Q119 hQ119
      refine cw_block ?_
      refine cw_gen ?_
      intro Q120 hQ120
      refine cw_reg ?_
      refine el_pv (v := u0) (pv_move he110) (by decide) ?_
      refine el_pv (v := .int .i64 x109) (pv_move he112) (by decide) ?_
      replace hF := ob hF
      obtain ⟨x121, hx121, hF⟩ := hF
      refine el_indexO hS rfl rfl (by decide) rfl hx121 (by decide) ?_
      intro b122 of123 c124 hv127 hr125 hm126
      obtain ⟨v128, rfl⟩ := slice_one hr125
      refine el_pv (v := v128) (pv_loadc rfl (hm126 0 _ rfl)) (by decide) ?_
      refine el_pv (v := .int .i64 x108) (pv_move he111) (by decide) ?_
      replace hS := hS.takeOut hv127 hx121 (m := 1) rfl rfl hm126
      replace hS : Sat w00 w113 (Own (sliceR intR 3) [v128] x121 :: _ :: G0) := hS
      replace hF := ob hF
      obtain ⟨r130, hr130, hF⟩ := hF
      refine el_call goes35 (laws_markIntS_ok hS hr130) (congrArg List.toArray (mapc rfl (mapc rfl rfl))) (by decide) ?_
      rintro _ w131 ⟨rfl, hS⟩
      refine ⟨_, rfl, ?_⟩
      replace hS : Sat w00 w131 (Own (sliceR intR 3) [v128] r130.2 :: _ :: G0) := hS
      replace hF := ob hF
      obtain ⟨x132, hx132, hF⟩ := hF
      replace hS := hS.putBack hx132
      replace hS : Sat w00 w131 (Own (sliceR (sliceR intR 3) 26) [u0] x132 :: G0) := hS
      refine el_pv (v := .int .i64 r130.1) (pv_assign rfl) (by decide) ?_
      refine el_nil ?_
      refine hQ120 _ _ _ ?_
      refine inb_n ?_
      refine hQ119 _ _ _ ?_
      refine thn_n ?_
      refine cw_reg ?_
      refine el_pv (v := .int .i64 x109) (pv_move he112) (by decide) ?_
      replace hF := ob hF
      obtain ⟨x133, hx133, hF⟩ := hF
      refine el_pv (v := .int .i64 x133) (pv_add rfl rfl hx133) (by decide) ?_
      refine el_pv (v := .int .i64 x133) (pv_assign rfl) (by decide) ?_
      refine el_nil ?_
      refine hQ115 _ _ _ ?_
      refine thn_n ?_
      exact ⟨x132, r130.1, x133, he110, rfl, rfl, hS, hF⟩
    · refine cw_cond_f rfl hb118 ?_
      refine cw_exit ?_
      refine hQ116 _ _ _ ?_
      refine thn_x ?_
      refine hQ115 _ _ _ ?_
      refine thn_x ?_
      replace hF := exB hF hK106
      refine hQ104 _ _ _ ?_
      refine inb_s ?_
      refine hQ102 _ _ _ ?_
      refine thn_n ?_
      refine cw_seq ?_
      refine cw_gen ?_
      intro Q134 hQ134
      refine cw_reg ?_
      refine el_pv (v := .int .i64 x108) (pv_move he111) (by decide) ?_
      refine el_pv (v := .int .i64 x108) (pv_assign rfl) (by decide) ?_
      refine el_nil ?_
      refine hQ134 _ _ _ ?_
      refine thn_n ?_
      refine cw_ret ?_
      refine fin1 rfl rfl ?_
      have hr := Option.some.inj hF
      exact ⟨congrArg (fun (r : Int × (List (List Int))) => Ending.returned (.int .i64 r.1)) hr, Eq.mp (congrArg (fun (r : Int × (List (List Int))) => Sat w00 w113 (Own (sliceR (sliceR intR 3) 26) [u0] r.2 :: G0)) hr) hS⟩
set_option maxHeartbeats 4000000 in
theorem laws_markRelation_ok {w0 : World} {w00 : World} {G0 : List Asn} {a0 : Int} {u1 : Value} {a1 : List (List Int)} {a2 : Int} (hS : Sat w00 w0 (Own (sliceR (sliceR intR 3) 26) [u1] a1 :: G0)) {N : Nat} {r : Int × (List (List Int))} (hF : laws_markRelation N a0 a1 a2 = some r) :
    Calls Try.prog 15 #[.agg #[.int .i64 a0, u1], .int .i64 a2] w0 fun e w' => e = .returned (.int .i64 r.1) ∧ Sat w00 w' (Own (sliceR (sliceR intR 3) 26) [u1] r.2 :: G0) := by
  unfold laws_markRelation at hF
  refine calls_E Try.func15 rfl rfl (of_decide_eq_true rfl) ?_
  refine cw_seq ?_
  refine cw_gen ?_
  intro Q101 hQ101
  refine cw_reg ?_
  refine el_box [.int .i64 a0, u1] rfl hS (by decide) ?_
  intro w102 b103 hS hx104
  refine el_pv (v := .int .i64 0) (pv_assign rfl) (by decide) ?_
  refine el_nil ?_
  refine hQ101 _ _ _ ?_
  refine thn_n ?_
  refine cw_seq ?_
  refine cw_gen ?_
  intro Q106 hQ106
  refine cw_reg ?_
  refine el_pv (v := .pointer (some ⟨b103, 0 + 1, none⟩)) (pv_fieldAddr rfl) (by decide) ?_
  refine el_pv (v := u1) (pv_loadc rfl ((hS.boxAt 0 rfl) 1 _ rfl)) (by decide) ?_
  refine el_pv (v := .int .i64 a2) (pv_move rfl) (by decide) ?_
  replace hS : Sat w00 w102 (Own (sliceR (sliceR intR 3) 26) [u1] a1 :: Box b103 32 [.int .i64 a0, u1] :: G0) := hS.tops 2 [1] rfl
  replace hF := ob hF
  obtain ⟨r107, hr107, hF⟩ := hF
  refine el_call goes51 (laws_markIntSS_ok hS hr107) (congrArg List.toArray (mapc rfl (mapc rfl rfl))) (by decide) ?_
  rintro _ w108 ⟨rfl, hS⟩
  refine ⟨_, rfl, ?_⟩
  replace hS : Sat w00 w108 (Own (sliceR (sliceR intR 3) 26) [u1] r107.2 :: Box b103 32 [.int .i64 a0, u1] :: G0) := hS
  refine el_pv (v := .int .i64 r107.1) (pv_assign rfl) (by decide) ?_
  refine el_nil ?_
  refine hQ106 _ _ _ ?_
  refine thn_n ?_
  refine cw_seq ?_
  refine cw_gen ?_
  intro Q109 hQ109
  replace hS : Sat w00 w108 (Own (sliceR (sliceR intR 3) 26) [u1] r107.2 :: G0) := hS.rems 2 [1] rfl
  refine cw_reg ?_
  refine el_pv (v := .int .i64 r107.1) (pv_move rfl) (by decide) ?_
  refine el_pv (v := .int .i64 r107.1) (pv_assign rfl) (by decide) ?_
  refine el_nil ?_
  refine hQ109 _ _ _ ?_
  refine thn_n ?_
  refine cw_ret ?_
  refine fin1 rfl rfl ?_
  have hr := Option.some.inj hF
  exact ⟨congrArg (fun (r : Int × (List (List Int))) => Ending.returned (.int .i64 r.1)) hr, Eq.mp (congrArg (fun (r : Int × (List (List Int))) => Sat w00 w108 (Own (sliceR (sliceR intR 3) 26) [u1] r.2 :: G0)) hr) hS⟩
set_option maxHeartbeats 4000000 in
theorem laws_markFactorNodeS_ok {w0 : World} {w00 : World} {G0 : List Asn} {u0 : Value} {a0 : List (List Int × List Int)} {a1 : Int} (hS : Sat w00 w0 (Own (sliceR (pairR (sliceR intR 3) (sliceR intR 3)) 84) [u0] a0 :: G0)) {N : Nat} {r : Int × (List (List Int × List Int))} (hF : laws_markFactorNodeS N a0 a1 = some r) :
    Calls Try.prog 52 #[u0, .int .i64 a1] w0 fun e w' => e = .returned (.int .i64 r.1) ∧ Sat w00 w' (Own (sliceR (pairR (sliceR intR 3) (sliceR intR 3)) 84) [u0] r.2 :: G0) := by
  unfold laws_markFactorNodeS at hF
  refine calls_E Try.func52 rfl rfl (of_decide_eq_true rfl) ?_
  refine cw_seq ?_
  refine cw_gen ?_
  intro Q101 hQ101
  refine cw_reg ?_
  refine el_pv (v := .int .i64 0) (pv_assign rfl) (by decide) ?_
  refine el_nil ?_
  refine hQ101 _ _ _ ?_
  refine thn_n ?_
  refine cw_seq ?_
  refine cw_gen ?_
  intro Q102 hQ102
  refine cw_seq ?_
  refine cw_gen ?_
  intro Q103 hQ103
  refine cw_reg ?_
  refine el_pv (v := .int .i64 0) (pv_assign rfl) (by decide) ?_
  refine el_nil ?_
  refine hQ103 _ _ _ ?_
  refine thn_n ?_
  refine cw_block ?_
  refine cw_gen ?_
  intro Q104 hQ104
  obtain ⟨s105, hL, hK106⟩ := ob hF
  refine cw_loopS (fun k e w => ∃ (x107 : List (List Int × List Int)), ∃ (x108 : Int), ∃ (x109 : Int), e 0 = u0 ∧ e 1 = .int .i64 x108 ∧ e 5 = .int .i64 x109 ∧ Sat w00 w (Own (sliceR (pairR (sliceR intR 3) (sliceR intR 3)) 84) [u0] x107 :: G0) ∧ laws_markFactorNodeS_L1 N k x107 x108 x109 = some s105) N ?_ ?_ ?_
  · exact ⟨a0, a1, 0, rfl, rfl, rfl, hS, hL⟩
  · rintro e w ⟨_, _, _, _, _, _, _, hz⟩; exact nomatch (show none = some _ from hz)
  · rintro k e114 w113 ⟨x107, x108, x109, he110, he111, he112, hS, hF⟩
    refine cw_gen ?_
    intro Q115 hQ115
    refine cw_seq ?_
    refine cw_gen ?_
    intro Q116 hQ116
    refine cw_seq ?_
    refine cw_gen ?_
    intro Q117 hQ117
    refine cw_reg ?_
    refine el_pv (v := .int .i64 x109) (pv_move he112) (by decide) ?_
    refine el_pv (v := u0) (pv_move he110) (by decide) ?_
    refine el_pv (v := .int .i64 (x107.length : Int)) (pv_len rfl (hS.rdAt (R := (sliceR (pairR (sliceR intR 3) (sliceR intR 3)) 84)) 0 rfl)) (by decide) ?_
    refine el_pv (v := .bool (decide (x109 < (x107.length : Int)))) (pv_lss rfl rfl) (by decide) ?_
    refine el_nil ?_
    refine hQ117 _ _ _ ?_
    refine thn_n ?_
    replace hF := oif hF
    rcases hF with ⟨hb118, hF⟩ | ⟨hb118, hF⟩
    · refine cw_cond_t rfl hb118 ?_
      refine cw_skip ?_
      refine hQ116 _ _ _ ?_
      refine thn_n ?_
      refine cw_seq ?_
      refine cw_gen ?_
      intro Q119 hQ119
      refine cw_block ?_
      refine cw_gen ?_
      intro Q120 hQ120
      refine cw_seq ?_
      refine cw_gen ?_
      intro Q121 hQ121
      refine cw_reg ?_
      refine el_pv (v := u0) (pv_move he110) (by decide) ?_
      refine el_pv (v := .int .i64 x109) (pv_move he112) (by decide) ?_
      replace hF := ob hF
      obtain ⟨x122, hx122, hF⟩ := hF
      refine el_indexO hS rfl rfl (by decide) rfl hx122 (by decide) ?_
      intro b123 of124 c125 hv128 hr126 hm127
      obtain ⟨_, _, rfl, hr129, hr130⟩ := hr126
      obtain ⟨v131, rfl⟩ := slice_one hr129
      obtain ⟨v132, rfl⟩ := slice_one hr130
      refine el_pv (v := .pointer (some ⟨b123, x109.toNat * 2 + 0, none⟩)) (pv_fieldAddr rfl) (by decide) ?_
      refine el_pv (v := v131) (pv_loadc rfl (hm127 0 _ rfl)) (by decide) ?_
      refine el_pv (v := .int .i64 x108) (pv_move he111) (by decide) ?_
      replace hS := hS.takeOut hv128 hx122 (m := 2) rfl rfl hm127
      replace hS := hS.unpair rfl
      replace hS : Sat w00 w113 (Own (sliceR intR 3) [v131] x122.1 :: Own (sliceR intR 3) [v132] x122.2 :: _ :: G0) := hS
      replace hF := ob hF
      obtain ⟨r135, hr135, hF⟩ := hF
      refine el_call goes35 (laws_markIntS_ok hS hr135) (congrArg List.toArray (mapc rfl (mapc rfl rfl))) (by decide) ?_
      rintro _ w136 ⟨rfl, hS⟩
      refine ⟨_, rfl, ?_⟩
      replace hS : Sat w00 w136 (Own (sliceR intR 3) [v131] r135.2 :: Own (sliceR intR 3) [v132] x122.2 :: _ :: G0) := hS
      replace hS : Sat w00 w136 (Own (sliceR intR 3) [v132] x122.2 :: Own (sliceR intR 3) [v131] r135.2 :: _ :: G0) := hS.top 1 rfl
      replace hS : Sat w00 w136 (Own (sliceR intR 3) [v131] r135.2 :: Own (sliceR intR 3) [v132] x122.2 :: _ :: G0) := hS.top 1 rfl
      replace hS := hS.pair
      replace hF := ob hF
      obtain ⟨x137, hx137, hF⟩ := hF
      replace hS := hS.putBack hx137
      replace hS : Sat w00 w136 (Own (sliceR (pairR (sliceR intR 3) (sliceR intR 3)) 84) [u0] x137 :: G0) := hS
      refine el_pv (v := .int .i64 r135.1) (pv_assign rfl) (by decide) ?_
      refine el_nil ?_
      refine hQ121 _ _ _ ?_
      refine thn_n ?_
      refine cw_reg ?_
      refine el_pv (v := u0) (pv_move he110) (by decide) ?_
      refine el_pv (v := .int .i64 x109) (pv_move he112) (by decide) ?_
      replace hF := ob hF
      obtain ⟨x138, hx138, hF⟩ := hF
      refine el_indexO hS rfl rfl (by decide) rfl hx138 (by decide) ?_
      intro b139 of140 c141 hv144 hr142 hm143
      obtain ⟨_, _, rfl, hr145, hr146⟩ := hr142
      obtain ⟨v147, rfl⟩ := slice_one hr145
      obtain ⟨v148, rfl⟩ := slice_one hr146
      refine el_pv (v := .pointer (some ⟨b139, x109.toNat * 2 + 1, none⟩)) (pv_fieldAddr rfl) (by decide) ?_
      refine el_pv (v := v148) (pv_loadc rfl (hm143 1 _ rfl)) (by decide) ?_
      refine el_pv (v := .int .i64 r135.1) (pv_move rfl) (by decide) ?_
      replace hS := hS.takeOut hv144 hx138 (m := 2) rfl rfl hm143
      replace hS := hS.unpair rfl
      replace hS : Sat w00 w136 (Own (sliceR intR 3) [v147] x138.1 :: Own (sliceR intR 3) [v148] x138.2 :: _ :: G0) := hS
      replace hS : Sat w00 w136 (Own (sliceR intR 3) [v148] x138.2 :: Own (sliceR intR 3) [v147] x138.1 :: _ :: G0) := hS.tops 3 [1] rfl
      replace hF := ob hF
      obtain ⟨r151, hr151, hF⟩ := hF
      refine el_call goes35 (laws_markIntS_ok hS hr151) (congrArg List.toArray (mapc rfl (mapc rfl rfl))) (by decide) ?_
      rintro _ w152 ⟨rfl, hS⟩
      refine ⟨_, rfl, ?_⟩
      replace hS : Sat w00 w152 (Own (sliceR intR 3) [v148] r151.2 :: Own (sliceR intR 3) [v147] x138.1 :: _ :: G0) := hS
      replace hS : Sat w00 w152 (Own (sliceR intR 3) [v147] x138.1 :: Own (sliceR intR 3) [v148] r151.2 :: _ :: G0) := hS.top 1 rfl
      replace hS := hS.pair
      replace hF := ob hF
      obtain ⟨x153, hx153, hF⟩ := hF
      replace hS := hS.putBack hx153
      replace hS : Sat w00 w152 (Own (sliceR (pairR (sliceR intR 3) (sliceR intR 3)) 84) [u0] x153 :: G0) := hS
      refine el_pv (v := .int .i64 r151.1) (pv_assign rfl) (by decide) ?_
      refine el_nil ?_
      refine hQ120 _ _ _ ?_
      refine inb_n ?_
      refine hQ119 _ _ _ ?_
      refine thn_n ?_
      refine cw_reg ?_
      refine el_pv (v := .int .i64 x109) (pv_move he112) (by decide) ?_
      replace hF := ob hF
      obtain ⟨x154, hx154, hF⟩ := hF
      refine el_pv (v := .int .i64 x154) (pv_add rfl rfl hx154) (by decide) ?_
      refine el_pv (v := .int .i64 x154) (pv_assign rfl) (by decide) ?_
      refine el_nil ?_
      refine hQ115 _ _ _ ?_
      refine thn_n ?_
      exact ⟨x153, r151.1, x154, he110, rfl, rfl, hS, hF⟩
    · refine cw_cond_f rfl hb118 ?_
      refine cw_exit ?_
      refine hQ116 _ _ _ ?_
      refine thn_x ?_
      refine hQ115 _ _ _ ?_
      refine thn_x ?_
      replace hF := exB hF hK106
      refine hQ104 _ _ _ ?_
      refine inb_s ?_
      refine hQ102 _ _ _ ?_
      refine thn_n ?_
      refine cw_seq ?_
      refine cw_gen ?_
      intro Q155 hQ155
      refine cw_reg ?_
      refine el_pv (v := .int .i64 x108) (pv_move he111) (by decide) ?_
      refine el_pv (v := .int .i64 x108) (pv_assign rfl) (by decide) ?_
      refine el_nil ?_
      refine hQ155 _ _ _ ?_
      refine thn_n ?_
      refine cw_ret ?_
      refine fin1 rfl rfl ?_
      have hr := Option.some.inj hF
      exact ⟨congrArg (fun (r : Int × (List (List Int × List Int))) => Ending.returned (.int .i64 r.1)) hr, Eq.mp (congrArg (fun (r : Int × (List (List Int × List Int))) => Sat w00 w113 (Own (sliceR (pairR (sliceR intR 3) (sliceR intR 3)) 84) [u0] r.2 :: G0)) hr) hS⟩
set_option maxHeartbeats 4000000 in
theorem laws_markFactorization_ok {w0 : World} {w00 : World} {G0 : List Asn} {u0 : Value} {a0 : List Int} {u1 : Value} {a1 : List (List Int × List Int)} {a2 : Int} (hS : Sat w00 w0 (Own (sliceR intR 3) [u0] a0 :: Own (sliceR (pairR (sliceR intR 3) (sliceR intR 3)) 84) [u1] a1 :: G0)) {N : Nat} {r : Int × (List Int) × (List (List Int × List Int))} (hF : laws_markFactorization N a0 a1 a2 = some r) :
    Calls Try.prog 16 #[.agg #[u0, u1], .int .i64 a2] w0 fun e w' => e = .returned (.int .i64 r.1) ∧ Sat w00 w' (Own (sliceR intR 3) [u0] r.2.1 :: Own (sliceR (pairR (sliceR intR 3) (sliceR intR 3)) 84) [u1] r.2.2 :: G0) := by
  unfold laws_markFactorization at hF
  refine calls_E Try.func16 rfl rfl (of_decide_eq_true rfl) ?_
  refine cw_seq ?_
  refine cw_gen ?_
  intro Q101 hQ101
  refine cw_reg ?_
  refine el_box [u0, u1] rfl hS (by decide) ?_
  intro w102 b103 hS hx104
  refine el_pv (v := .int .i64 0) (pv_assign rfl) (by decide) ?_
  refine el_nil ?_
  refine hQ101 _ _ _ ?_
  refine thn_n ?_
  refine cw_seq ?_
  refine cw_gen ?_
  intro Q106 hQ106
  refine cw_reg ?_
  refine el_pv (v := .pointer (some ⟨b103, 0 + 0, none⟩)) (pv_fieldAddr rfl) (by decide) ?_
  refine el_pv (v := u0) (pv_loadc rfl ((hS.boxAt 0 rfl) 0 _ rfl)) (by decide) ?_
  refine el_pv (v := .int .i64 a2) (pv_move rfl) (by decide) ?_
  replace hS : Sat w00 w102 (Own (sliceR intR 3) [u0] a0 :: Box b103 29 [u0, u1] :: Own (sliceR (pairR (sliceR intR 3) (sliceR intR 3)) 84) [u1] a1 :: G0) := hS.tops 3 [1] rfl
  replace hF := ob hF
  obtain ⟨r107, hr107, hF⟩ := hF
  refine el_call goes35 (laws_markIntS_ok hS hr107) (congrArg List.toArray (mapc rfl (mapc rfl rfl))) (by decide) ?_
  rintro _ w108 ⟨rfl, hS⟩
  refine ⟨_, rfl, ?_⟩
  replace hS : Sat w00 w108 (Own (sliceR intR 3) [u0] r107.2 :: Box b103 29 [u0, u1] :: Own (sliceR (pairR (sliceR intR 3) (sliceR intR 3)) 84) [u1] a1 :: G0) := hS
  refine el_pv (v := .int .i64 r107.1) (pv_assign rfl) (by decide) ?_
  refine el_nil ?_
  refine hQ106 _ _ _ ?_
  refine thn_n ?_
  refine cw_seq ?_
  refine cw_gen ?_
  intro Q109 hQ109
  refine cw_reg ?_
  refine el_pv (v := .pointer (some ⟨b103, 0 + 1, none⟩)) (pv_fieldAddr rfl) (by decide) ?_
  refine el_pv (v := u1) (pv_loadc rfl ((hS.boxAt 1 rfl) 1 _ rfl)) (by decide) ?_
  refine el_pv (v := .int .i64 r107.1) (pv_move rfl) (by decide) ?_
  replace hS : Sat w00 w108 (Own (sliceR (pairR (sliceR intR 3) (sliceR intR 3)) 84) [u1] a1 :: Own (sliceR intR 3) [u0] r107.2 :: Box b103 29 [u0, u1] :: G0) := hS.tops 3 [2] rfl
  replace hF := ob hF
  obtain ⟨r110, hr110, hF⟩ := hF
  refine el_call goes52 (laws_markFactorNodeS_ok hS hr110) (congrArg List.toArray (mapc rfl (mapc rfl rfl))) (by decide) ?_
  rintro _ w111 ⟨rfl, hS⟩
  refine ⟨_, rfl, ?_⟩
  replace hS : Sat w00 w111 (Own (sliceR (pairR (sliceR intR 3) (sliceR intR 3)) 84) [u1] r110.2 :: Own (sliceR intR 3) [u0] r107.2 :: Box b103 29 [u0, u1] :: G0) := hS
  refine el_pv (v := .int .i64 r110.1) (pv_assign rfl) (by decide) ?_
  refine el_nil ?_
  refine hQ109 _ _ _ ?_
  refine thn_n ?_
  refine cw_seq ?_
  refine cw_gen ?_
  intro Q112 hQ112
  replace hS : Sat w00 w111 (Own (sliceR (pairR (sliceR intR 3) (sliceR intR 3)) 84) [u1] r110.2 :: Own (sliceR intR 3) [u0] r107.2 :: G0) := hS.rems 3 [2] rfl
  refine cw_reg ?_
  refine el_pv (v := .int .i64 r110.1) (pv_move rfl) (by decide) ?_
  refine el_pv (v := .int .i64 r110.1) (pv_assign rfl) (by decide) ?_
  refine el_nil ?_
  refine hQ112 _ _ _ ?_
  refine thn_n ?_
  refine cw_ret ?_
  refine fin1 rfl rfl ?_
  replace hS : Sat w00 w111 (Own (sliceR intR 3) [u0] r107.2 :: Own (sliceR (pairR (sliceR intR 3) (sliceR intR 3)) 84) [u1] r110.2 :: G0) := hS.tops 2 [1, 0] rfl
  have hr := Option.some.inj hF
  exact ⟨congrArg (fun (r : Int × (List Int) × (List (List Int × List Int))) => Ending.returned (.int .i64 r.1)) hr, Eq.mp (congrArg (fun (r : Int × (List Int) × (List (List Int × List Int))) => Sat w00 w111 (Own (sliceR intR 3) [u0] r.2.1 :: Own (sliceR (pairR (sliceR intR 3) (sliceR intR 3)) 84) [u1] r.2.2 :: G0)) hr) hS⟩
set_option maxHeartbeats 4000000 in
theorem impl_within_ok {w0 : World} {a0 : Int} {a1 : Int} {a2 : Int}  {N : Nat} {r : Bool} (hF : impl_within N a0 a1 a2 = some r) :
    Calls Try.prog 67 #[.int .i64 a0, .int .i64 a1, .int .i64 a2] w0 fun e w' => e = .returned (.bool r) ∧ Ext w0 w' := by
  unfold impl_within at hF
  refine calls_E Try.func67 rfl rfl (of_decide_eq_true rfl) ?_
  have hS := Sat.start w0
  refine cw_seq ?_
  refine cw_gen ?_
  intro Q101 hQ101
  refine cw_reg ?_
  refine el_pv (v := .bool false) (pv_assign rfl) (by decide) ?_
  refine el_nil ?_
  refine hQ101 _ _ _ ?_
  refine thn_n ?_
  refine cw_seq ?_
  refine cw_gen ?_
  intro Q102 hQ102
  refine cw_reg ?_
  refine el_pv (v := .int .i64 a0) (pv_move rfl) (by decide) ?_
  refine el_pv (v := .int .i64 a1) (pv_move rfl) (by decide) ?_
  refine el_pv (v := .bool (decide (a1 ≤ a0))) (pv_geq rfl rfl) (by decide) ?_
  refine el_pv (v := .bool (decide (a1 ≤ a0))) (pv_move rfl) (by decide) ?_
  replace hF := oif hF
  rcases hF with ⟨hb103, hF⟩ | ⟨hb103, hF⟩
  · refine el_on rfl hb103 ?_
    refine el_pv (v := .int .i64 a0) (pv_move rfl) (by decide) ?_
    refine el_on rfl hb103 ?_
    refine el_pv (v := .int .i64 a2) (pv_move rfl) (by decide) ?_
    refine el_on rfl hb103 ?_
    refine el_pv (v := .bool (decide (a0 ≤ a2))) (pv_leq rfl rfl) (by decide) ?_
    refine el_pv (v := .bool (decide (a0 ≤ a2))) (pv_pick_t rfl hb103 rfl) (by decide) ?_
    refine el_pv (v := .bool (decide (a0 ≤ a2))) (pv_assign rfl) (by decide) ?_
    refine el_nil ?_
    refine hQ102 _ _ _ ?_
    refine thn_n ?_
    refine cw_ret ?_
    refine fin1 rfl rfl ?_
    have hr := Option.some.inj hF
    exact ⟨congrArg (fun (r : Bool) => Ending.returned (.bool r)) hr, hS.below⟩
  · refine el_off rfl hb103 rfl (by decide) ?_
    refine el_off rfl hb103 rfl (by decide) ?_
    refine el_off rfl hb103 rfl (by decide) ?_
    refine el_pv (v := .bool false) (pv_pick_f rfl hb103 rfl) (by decide) ?_
    refine el_pv (v := .bool false) (pv_assign rfl) (by decide) ?_
    refine el_nil ?_
    refine hQ102 _ _ _ ?_
    refine thn_n ?_
    refine cw_ret ?_
    refine fin1 rfl rfl ?_
    have hr := Option.some.inj hF
    exact ⟨congrArg (fun (r : Bool) => Ending.returned (.bool r)) hr, hS.below⟩
end Go.Proofs.Ytdingjlefilafaa
