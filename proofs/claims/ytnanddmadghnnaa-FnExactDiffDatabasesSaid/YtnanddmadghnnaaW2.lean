/- The walks through functions of the program: each hands back what it comes to. No condition but that it comes to something. -/
import Derived.Test.YtnanddmadghnnaaW1
import Derived.Test.YtnanddmadghnnaaW2D
namespace Go.Proofs.Ytnanddmadghnnaa
open Go.RowKit
set_option maxRecDepth 100000
set_option maxHeartbeats 4000000 in
theorem spec_l1In_ok {w0 : World} {a0 : Int} {a1 : Int} {a2 : Int}  {N : Nat} {r : Bool} (hF : spec_l1In N a0 a1 a2 = some r) :
    Calls Try.prog 68 #[.int .i64 a0, .int .i64 a1, .int .i64 a2] w0 fun e w' => e = .returned (.bool r) ∧ Ext w0 w' := by
  unfold spec_l1In at hF
  refine calls_E Try.func68 rfl rfl (of_decide_eq_true rfl) ?_
  have hS := Sat.start w0
  refine cw_seq ?_
  refine cw_gen ?_
  intro Q101 hQ101
  refine cw_reg ?_
  refine el_pv (v := .bool false) (pv_assign rfl) (by decide) ?_
  refine el_nil ?_
  refine hQ101 _ _ _ ?_
  refine thn_n ?_
  refine cw_seq ?_
  refine cw_gen ?_
  intro Q102 hQ102
  refine cw_reg ?_
  refine el_pv (v := .int .i64 a0) (pv_move rfl) (by decide) ?_
  refine el_pv (v := .int .i64 a1) (pv_move rfl) (by decide) ?_
  refine el_pv (v := .bool (decide (a1 ≤ a0))) (pv_geq rfl rfl) (by decide) ?_
  refine el_pv (v := .bool (decide (a1 ≤ a0))) (pv_move rfl) (by decide) ?_
  replace hF := oif hF
  rcases hF with ⟨hb103, hF⟩ | ⟨hb103, hF⟩
  · refine el_on rfl hb103 ?_
    refine el_pv (v := .int .i64 a0) (pv_move rfl) (by decide) ?_
    refine el_on rfl hb103 ?_
    refine el_pv (v := .int .i64 a2) (pv_move rfl) (by decide) ?_
    refine el_on rfl hb103 ?_
    refine el_pv (v := .bool (decide (a0 ≤ a2))) (pv_leq rfl rfl) (by decide) ?_
    refine el_pv (v := .bool (decide (a0 ≤ a2))) (pv_pick_t rfl hb103 rfl) (by decide) ?_
    refine el_pv (v := .bool (decide (a0 ≤ a2))) (pv_assign rfl) (by decide) ?_
    refine el_nil ?_
    refine hQ102 _ _ _ ?_
    refine thn_n ?_
    refine cw_ret ?_
    refine fin1 rfl rfl ?_
    have hr := Option.some.inj hF
    exact ⟨congrArg (fun (r : Bool) => Ending.returned (.bool r)) hr, hS.below⟩
  · refine el_off rfl hb103 rfl (by decide) ?_
    refine el_off rfl hb103 rfl (by decide) ?_
    refine el_off rfl hb103 rfl (by decide) ?_
    refine el_pv (v := .bool false) (pv_pick_f rfl hb103 rfl) (by decide) ?_
    refine el_pv (v := .bool false) (pv_assign rfl) (by decide) ?_
    refine el_nil ?_
    refine hQ102 _ _ _ ?_
    refine thn_n ?_
    refine cw_ret ?_
    refine fin1 rfl rfl ?_
    have hr := Option.some.inj hF
    exact ⟨congrArg (fun (r : Bool) => Ending.returned (.bool r)) hr, hS.below⟩
set_option maxHeartbeats 4000000 in
theorem spec_AreValidValues_ok {w0 : World} {u0 : Value} {a0 : List Int} (ha0 : (sliceR intR 3).rd w0 [u0] a0) {N : Nat} {r : Bool} (hF : spec_AreValidValues N a0 = some r) :
    Calls Try.prog 69 #[u0] w0 fun e w' => e = .returned (.bool r) ∧ Ext w0 w' := by
  unfold spec_AreValidValues at hF
  refine calls_E Try.func69 rfl rfl (of_decide_eq_true rfl) ?_
  have hS := Sat.start w0
  refine cw_seq ?_
  refine cw_gen ?_
  intro Q101 hQ101
  refine cw_reg ?_
  refine el_pv (v := .bool false) (pv_assign rfl) (by decide) ?_
  refine el_nil ?_
  refine hQ101 _ _ _ ?_
  refine thn_n ?_
  refine cw_seq ?_
  refine cw_gen ?_
  intro Q102 hQ102
  refine cw_seq ?_
  refine cw_gen ?_
  intro Q103 hQ103
  refine cw_reg ?_
  refine el_pv (v := .int .i64 0) (pv_assign rfl) (by decide) ?_
  refine el_nil ?_
  refine hQ103 _ _ _ ?_
  refine thn_n ?_
  refine cw_block ?_
  refine cw_gen ?_
  intro Q104 hQ104
  obtain ⟨s105, hL, hK106⟩ := ob hF
  refine cw_loopS (fun k e w => ∃ (x107 : Int), e 0 = u0 ∧ e 3 = .int .i64 x107 ∧ Sat w0 w [] ∧ spec_AreValidValues_L1 N k a0 x107 = some s105) N ?_ ?_ ?_
  · exact ⟨0, rfl, rfl, hS, hL⟩
  · rintro e w ⟨_, _, _, _, hz⟩; exact nomatch (show none = some _ from hz)
  · rintro k e111 w110 ⟨x107, he108, he109, hS, hF⟩
    refine cw_gen ?_
    intro Q112 hQ112
    refine cw_seq ?_
    refine cw_gen ?_
    intro Q113 hQ113
    refine cw_seq ?_
    refine cw_gen ?_
    intro Q114 hQ114
    refine cw_reg ?_
    refine el_pv (v := .int .i64 x107) (pv_move he109) (by decide) ?_
    refine el_pv (v := u0) (pv_move he108) (by decide) ?_
    refine el_pv (v := .int .i64 (a0.length : Int)) (pv_len rfl ha0) (by decide) ?_
    refine el_pv (v := .bool (decide (x107 < (a0.length : Int)))) (pv_lss rfl rfl) (by decide) ?_
    refine el_nil ?_
    refine hQ114 _ _ _ ?_
    refine thn_n ?_
    replace hF := oif hF
    rcases hF with ⟨hb115, hF⟩ | ⟨hb115, hF⟩
    · refine cw_cond_t rfl hb115 ?_
      refine cw_skip ?_
      refine hQ113 _ _ _ ?_
      refine thn_n ?_
      refine cw_seq ?_
      refine cw_gen ?_
      intro Q116 hQ116
      refine cw_block ?_
      refine cw_gen ?_
      intro Q117 hQ117
      refine cw_seq ?_
      refine cw_gen ?_
      intro Q118 hQ118
      refine cw_reg ?_
      refine el_pv (v := u0) (pv_move he108) (by decide) ?_
      refine el_pv (v := .int .i64 x107) (pv_move he109) (by decide) ?_
      replace hF := ob hF
      obtain ⟨x119, hx119, hF⟩ := hF
      refine el_index (wA := w0) rfl ha0 rfl (by decide) rfl hx119 (by decide) ?_
      intro b120 of121 c122 hr123 hm124
      obtain rfl := hr123
      refine el_pv (v := .int .i64 x119) (pv_loadc rfl ((cells_up hS.below hm124) 0 _ rfl)) (by decide) ?_
      replace hF := ob hF
      obtain ⟨r125, hr125, hF⟩ := hF
      refine el_call goes68 (spec_l1In_ok hr125) (congrArg List.toArray (mapc rfl (mapc rfl (mapc rfl rfl)))) (by decide) ?_
      rintro _ w126 ⟨rfl, hx127⟩
      refine ⟨_, rfl, ?_⟩
      replace hS := hS.ext hx127
      refine el_pv (v := .bool (!r125)) (pv_not rfl) (by decide) ?_
      refine el_nil ?_
      refine hQ118 _ _ _ ?_
      refine thn_n ?_
      replace hF := oif hF
      rcases hF with ⟨hb128, hF⟩ | ⟨hb128, hF⟩
      · refine cw_cond_f rfl (bnot_t hb128) ?_
        refine cw_skip ?_
        refine hQ117 _ _ _ ?_
        refine inb_n ?_
        refine hQ116 _ _ _ ?_
        refine thn_n ?_
        refine cw_reg ?_
        refine el_pv (v := .int .i64 x107) (pv_move he109) (by decide) ?_
        replace hF := ob hF
        obtain ⟨x129, hx129, hF⟩ := hF
        refine el_pv (v := .int .i64 x129) (pv_add rfl rfl hx129) (by decide) ?_
        refine el_pv (v := .int .i64 x129) (pv_assign rfl) (by decide) ?_
        refine el_nil ?_
        refine hQ112 _ _ _ ?_
        refine thn_n ?_
        replace hS := hS.keep 0
        exact ⟨x129, he108, rfl, hS, hF⟩
      · refine cw_cond_t rfl (bnot_f hb128) ?_
        refine cw_seq ?_
        refine cw_gen ?_
        intro Q130 hQ130
        refine cw_reg ?_
        refine el_pv (v := .bool false) (pv_assign rfl) (by decide) ?_
        refine el_nil ?_
        refine hQ130 _ _ _ ?_
        refine thn_n ?_
        refine cw_ret ?_
        refine hQ117 _ _ _ ?_
        refine inb_r ?_
        refine hQ116 _ _ _ ?_
        refine thn_r ?_
        refine hQ112 _ _ _ ?_
        refine thn_r ?_
        refine hQ104 _ _ _ ?_
        refine inb_r ?_
        refine hQ102 _ _ _ ?_
        refine thn_r ?_
        replace hF := exL hF hK106
        refine fin1 rfl rfl ?_
        have hr := Option.some.inj hF
        exact ⟨congrArg (fun (r : Bool) => Ending.returned (.bool r)) hr, hS.below⟩
    · refine cw_cond_f rfl hb115 ?_
      refine cw_exit ?_
      refine hQ113 _ _ _ ?_
      refine thn_x ?_
      refine hQ112 _ _ _ ?_
      refine thn_x ?_
      replace hF := exA hF hK106
      refine hQ104 _ _ _ ?_
      refine inb_s ?_
      refine hQ102 _ _ _ ?_
      refine thn_n ?_
      refine cw_seq ?_
      refine cw_gen ?_
      intro Q131 hQ131
      refine cw_reg ?_
      refine el_pv (v := .bool true) (pv_assign rfl) (by decide) ?_
      refine el_nil ?_
      refine hQ131 _ _ _ ?_
      refine thn_n ?_
      refine cw_ret ?_
      refine fin1 rfl rfl ?_
      have hr := Option.some.inj hF
      exact ⟨congrArg (fun (r : Bool) => Ending.returned (.bool r)) hr, hS.below⟩
set_option maxHeartbeats 4000000 in
theorem spec_CompareRows_ok {w0 : World} {u0 : Value} {a0 : List Int} {u1 : Value} {a1 : List Int} (ha0 : (sliceR intR 3).rd w0 [u0] a0) (ha1 : (sliceR intR 3).rd w0 [u1] a1) {N : Nat} {r : Int} (hF : spec_CompareRows N a0 a1 = some r) :
    Calls Try.prog 70 #[u0, u1] w0 fun e w' => e = .returned (.int .i64 r) ∧ Ext w0 w' := by
  unfold spec_CompareRows at hF
  refine calls_E Try.func70 rfl rfl (of_decide_eq_true rfl) ?_
  have hS := Sat.start w0
  refine cw_seq ?_
  refine cw_gen ?_
  intro Q101 hQ101
  refine cw_reg ?_
  refine el_pv (v := .int .i64 0) (pv_assign rfl) (by decide) ?_
  refine el_nil ?_
  refine hQ101 _ _ _ ?_
  refine thn_n ?_
  refine cw_seq ?_
  refine cw_gen ?_
  intro Q102 hQ102
  refine cw_seq ?_
  refine cw_gen ?_
  intro Q103 hQ103
  refine cw_reg ?_
  refine el_pv (v := .int .i64 0) (pv_assign rfl) (by decide) ?_
  refine el_nil ?_
  refine hQ103 _ _ _ ?_
  refine thn_n ?_
  refine cw_block ?_
  refine cw_gen ?_
  intro Q104 hQ104
  obtain ⟨s105, hL, hK106⟩ := ob hF
  refine cw_loopS (fun k e w => ∃ (x107 : Int), e 0 = u0 ∧ e 1 = u1 ∧ e 5 = .int .i64 x107 ∧ Sat w0 w [] ∧ spec_CompareRows_L1 N k a0 a1 x107 = some s105) N ?_ ?_ ?_
  · exact ⟨0, rfl, rfl, rfl, hS, hL⟩
  · rintro e w ⟨_, _, _, _, _, hz⟩; exact nomatch (show none = some _ from hz)
  · rintro k e112 w111 ⟨x107, he108, he109, he110, hS, hF⟩
    refine cw_gen ?_
    intro Q113 hQ113
    refine cw_seq ?_
    refine cw_gen ?_
    intro Q114 hQ114
    refine cw_seq ?_
    refine cw_gen ?_
    intro Q115 hQ115
    refine cw_reg ?_
    refine el_pv (v := .int .i64 x107) (pv_move he110) (by decide) ?_
    refine el_pv (v := u0) (pv_move he108) (by decide) ?_
    refine el_pv (v := .int .i64 (a0.length : Int)) (pv_len rfl ha0) (by decide) ?_
    refine el_pv (v := .bool (decide (x107 < (a0.length : Int)))) (pv_lss rfl rfl) (by decide) ?_
    refine el_pv (v := .bool (decide (x107 < (a0.length : Int)))) (pv_move rfl) (by decide) ?_
    replace hF := oif hF
    rcases hF with ⟨hb116, hF⟩ | ⟨hb116, hF⟩
    · refine el_on rfl hb116 ?_
      refine el_pv (v := .int .i64 x107) (pv_move he110) (by decide) ?_
      refine el_on rfl hb116 ?_
      refine el_pv (v := u1) (pv_move he109) (by decide) ?_
      refine el_on rfl hb116 ?_
      refine el_pv (v := .int .i64 (a1.length : Int)) (pv_len rfl ha1) (by decide) ?_
      refine el_on rfl hb116 ?_
      refine el_pv (v := .bool (decide (x107 < (a1.length : Int)))) (pv_lss rfl rfl) (by decide) ?_
      refine el_pv (v := .bool (decide (x107 < (a1.length : Int)))) (pv_pick_t rfl hb116 rfl) (by decide) ?_
      refine el_nil ?_
      refine hQ115 _ _ _ ?_
      refine thn_n ?_
      replace hF := oif hF
      rcases hF with ⟨hb117, hF⟩ | ⟨hb117, hF⟩
      · refine cw_cond_t rfl hb117 ?_
        refine cw_skip ?_
        refine hQ114 _ _ _ ?_
        refine thn_n ?_
        refine cw_seq ?_
        refine cw_gen ?_
        intro Q118 hQ118
        refine cw_block ?_
        refine cw_gen ?_
        intro Q119 hQ119
        refine cw_seq ?_
        refine cw_gen ?_
        intro Q120 hQ120
        refine cw_seq ?_
        refine cw_gen ?_
        intro Q121 hQ121
        refine cw_regq (by kernel_rfl) (by kernel_rfl) ?_
        refine ql_pv (v := u0) (pv_move he108) (by decide) ?_
        refine ql_pv (v := .int .i64 x107) (pv_move he110) (by decide) ?_
        replace hF := ob hF
        obtain ⟨x122, hx122, hF⟩ := hF
        refine ql_index (wA := w0) rfl ha0 rfl (by decide) rfl hx122 (by decide) ?_
        intro b123 of124 c125 hr126 hm127
        obtain rfl := hr126
        refine ql_pv (v := .int .i64 x122) (pv_loadc rfl ((cells_up hS.below hm127) 0 _ rfl)) (by decide) ?_
        refine ql_pv (v := u1) (pv_move he109) (by decide) ?_
        refine ql_pv (v := .int .i64 x107) (pv_move he110) (by decide) ?_
        replace hF := ob hF
        obtain ⟨x128, hx128, hF⟩ := hF
        refine ql_index (wA := w0) rfl ha1 rfl (by decide) rfl hx128 (by decide) ?_
        intro b129 of130 c131 hr132 hm133
        obtain rfl := hr132
        refine ql_pv (v := .int .i64 x128) (pv_loadc rfl ((cells_up hS.below hm133) 0 _ rfl)) (by decide) ?_
        refine ql_pv (v := .bool (decide (x122 < x128))) (pv_lss rfl rfl) (by decide) ?_
        refine ql_nil ?_
        intro w134 hx135
        replace hS := hS.ext hx135
        refine hQ121 _ _ _ ?_
        refine thn_n ?_
        replace hF := oif hF
        rcases hF with ⟨hb136, hF⟩ | ⟨hb136, hF⟩
        · refine cw_cond_t rfl hb136 ?_
          refine cw_seq ?_
          refine cw_gen ?_
          intro Q137 hQ137
          refine cw_reg ?_
          refine el_pv (v := .int .i64 (-1)) (pv_assign rfl) (by decide) ?_
          refine el_nil ?_
          refine hQ137 _ _ _ ?_
          refine thn_n ?_
          refine cw_ret ?_
          refine hQ120 _ _ _ ?_
          refine thn_r ?_
          refine hQ119 _ _ _ ?_
          refine inb_r ?_
          refine hQ118 _ _ _ ?_
          refine thn_r ?_
          refine hQ113 _ _ _ ?_
          refine thn_r ?_
          refine hQ104 _ _ _ ?_
          refine inb_r ?_
          refine hQ102 _ _ _ ?_
          refine thn_r ?_
          replace hF := exL hF hK106
          refine fin1 rfl rfl ?_
          have hr := Option.some.inj hF
          exact ⟨congrArg (fun (r : Int) => Ending.returned (.int .i64 r)) hr, hS.below⟩
        · refine cw_cond_f rfl hb136 ?_
          refine cw_skip ?_
          refine hQ120 _ _ _ ?_
          refine thn_n ?_
          refine cw_seq ?_
          refine cw_gen ?_
          intro Q138 hQ138
          refine cw_regq (by kernel_rfl) (by kernel_rfl) ?_
          refine ql_pv (v := u0) (pv_move he108) (by decide) ?_
          refine ql_pv (v := .int .i64 x107) (pv_move he110) (by decide) ?_
          replace hF := ob hF
          obtain ⟨x139, hx139, hF⟩ := hF
          refine ql_index (wA := w0) rfl ha0 rfl (by decide) rfl hx139 (by decide) ?_
          intro b140 of141 c142 hr143 hm144
          obtain rfl := hr143
          refine ql_pv (v := .int .i64 x139) (pv_loadc rfl ((cells_up hS.below hm144) 0 _ rfl)) (by decide) ?_
          refine ql_pv (v := u1) (pv_move he109) (by decide) ?_
          refine ql_pv (v := .int .i64 x107) (pv_move he110) (by decide) ?_
          replace hF := ob hF
          obtain ⟨x145, hx145, hF⟩ := hF
          refine ql_index (wA := w0) rfl ha1 rfl (by decide) rfl hx145 (by decide) ?_
          intro b146 of147 c148 hr149 hm150
          obtain rfl := hr149
          refine ql_pv (v := .int .i64 x145) (pv_loadc rfl ((cells_up hS.below hm150) 0 _ rfl)) (by decide) ?_
          refine ql_pv (v := .bool (decide (x145 < x139))) (pv_gtr rfl rfl) (by decide) ?_
          refine ql_nil ?_
          intro w151 hx152
          replace hS := hS.ext hx152
          refine hQ138 _ _ _ ?_
          refine thn_n ?_
          replace hF := oif hF
          rcases hF with ⟨hb153, hF⟩ | ⟨hb153, hF⟩
          · refine cw_cond_t rfl hb153 ?_
            refine cw_seq ?_
            refine cw_gen ?_
            intro Q154 hQ154
            refine cw_reg ?_
            refine el_pv (v := .int .i64 1) (pv_assign rfl) (by decide) ?_
            refine el_nil ?_
            refine hQ154 _ _ _ ?_
            refine thn_n ?_
            refine cw_ret ?_
            refine hQ119 _ _ _ ?_
            refine inb_r ?_
            refine hQ118 _ _ _ ?_
            refine thn_r ?_
            refine hQ113 _ _ _ ?_
            refine thn_r ?_
            refine hQ104 _ _ _ ?_
            refine inb_r ?_
            refine hQ102 _ _ _ ?_
            refine thn_r ?_
            replace hF := exL hF hK106
            refine fin1 rfl rfl ?_
            have hr := Option.some.inj hF
            exact ⟨congrArg (fun (r : Int) => Ending.returned (.int .i64 r)) hr, hS.below⟩
          · refine cw_cond_f rfl hb153 ?_
            refine cw_skip ?_
            refine hQ119 _ _ _ ?_
            refine inb_n ?_
            refine hQ118 _ _ _ ?_
            refine thn_n ?_
            refine cw_reg ?_
            refine el_pv (v := .int .i64 x107) (pv_move he110) (by decide) ?_
            replace hF := ob hF
            obtain ⟨x155, hx155, hF⟩ := hF
            refine el_pv (v := .int .i64 x155) (pv_add rfl rfl hx155) (by decide) ?_
            refine el_pv (v := .int .i64 x155) (pv_assign rfl) (by decide) ?_
            refine el_nil ?_
            refine hQ113 _ _ _ ?_
            refine thn_n ?_
            replace hS := hS.keep 0
            exact ⟨x155, he108, he109, rfl, hS, hF⟩
      · refine cw_cond_f rfl hb117 ?_
        refine cw_exit ?_
        refine hQ114 _ _ _ ?_
        refine thn_x ?_
        refine hQ113 _ _ _ ?_
        refine thn_x ?_
        replace hF := exA hF hK106
        refine hQ104 _ _ _ ?_
        refine inb_s ?_
        refine hQ102 _ _ _ ?_
        refine thn_n ?_
        refine cw_seq ?_
        refine cw_gen ?_
        intro Q156 hQ156
        refine cw_seq ?_
        refine cw_gen ?_
        intro Q157 hQ157
        refine cw_reg ?_
        refine el_pv (v := u0) (pv_move he108) (by decide) ?_
        refine el_pv (v := .int .i64 (a0.length : Int)) (pv_len rfl ha0) (by decide) ?_
        refine el_pv (v := u1) (pv_move he109) (by decide) ?_
        refine el_pv (v := .int .i64 (a1.length : Int)) (pv_len rfl ha1) (by decide) ?_
        refine el_pv (v := .bool (decide ((a0.length : Int) < (a1.length : Int)))) (pv_lss rfl rfl) (by decide) ?_
        refine el_nil ?_
        refine hQ157 _ _ _ ?_
        refine thn_n ?_
        replace hF := oif hF
        rcases hF with ⟨hb158, hF⟩ | ⟨hb158, hF⟩
        · refine cw_cond_t rfl hb158 ?_
          refine cw_seq ?_
          refine cw_gen ?_
          intro Q159 hQ159
          refine cw_reg ?_
          refine el_pv (v := .int .i64 (-1)) (pv_assign rfl) (by decide) ?_
          refine el_nil ?_
          refine hQ159 _ _ _ ?_
          refine thn_n ?_
          refine cw_ret ?_
          refine hQ156 _ _ _ ?_
          refine thn_r ?_
          refine fin1 rfl rfl ?_
          have hr := Option.some.inj hF
          exact ⟨congrArg (fun (r : Int) => Ending.returned (.int .i64 r)) hr, hS.below⟩
        · refine cw_cond_f rfl hb158 ?_
          refine cw_skip ?_
          refine hQ156 _ _ _ ?_
          refine thn_n ?_
          refine cw_seq ?_
          refine cw_gen ?_
          intro Q160 hQ160
          refine cw_seq ?_
          refine cw_gen ?_
          intro Q161 hQ161
          refine cw_reg ?_
          refine el_pv (v := u0) (pv_move he108) (by decide) ?_
          refine el_pv (v := .int .i64 (a0.length : Int)) (pv_len rfl ha0) (by decide) ?_
          refine el_pv (v := u1) (pv_move he109) (by decide) ?_
          refine el_pv (v := .int .i64 (a1.length : Int)) (pv_len rfl ha1) (by decide) ?_
          refine el_pv (v := .bool (decide ((a1.length : Int) < (a0.length : Int)))) (pv_gtr rfl rfl) (by decide) ?_
          refine el_nil ?_
          refine hQ161 _ _ _ ?_
          refine thn_n ?_
          replace hF := oif hF
          rcases hF with ⟨hb162, hF⟩ | ⟨hb162, hF⟩
          · refine cw_cond_t rfl hb162 ?_
            refine cw_seq ?_
            refine cw_gen ?_
            intro Q163 hQ163
            refine cw_reg ?_
            refine el_pv (v := .int .i64 1) (pv_assign rfl) (by decide) ?_
            refine el_nil ?_
            refine hQ163 _ _ _ ?_
            refine thn_n ?_
            refine cw_ret ?_
            refine hQ160 _ _ _ ?_
            refine thn_r ?_
            refine fin1 rfl rfl ?_
            have hr := Option.some.inj hF
            exact ⟨congrArg (fun (r : Int) => Ending.returned (.int .i64 r)) hr, hS.below⟩
          · refine cw_cond_f rfl hb162 ?_
            refine cw_skip ?_
            refine hQ160 _ _ _ ?_
            refine thn_n ?_
            refine cw_seq ?_
            refine cw_gen ?_
            intro Q164 hQ164
            refine cw_reg ?_
            refine el_pv (v := .int .i64 0) (pv_assign rfl) (by decide) ?_
            refine el_nil ?_
            refine hQ164 _ _ _ ?_
            refine thn_n ?_
            refine cw_ret ?_
            refine fin1 rfl rfl ?_
            have hr := Option.some.inj hF
            exact ⟨congrArg (fun (r : Int) => Ending.returned (.int .i64 r)) hr, hS.below⟩
    · refine el_off rfl hb116 rfl (by decide) ?_
      refine el_off rfl hb116 rfl (by decide) ?_
      refine el_off rfl hb116 rfl (by decide) ?_
      refine el_off rfl hb116 rfl (by decide) ?_
      refine el_pv (v := .bool false) (pv_pick_f rfl hb116 rfl) (by decide) ?_
      refine el_nil ?_
      refine hQ115 _ _ _ ?_
      refine thn_n ?_
      refine cw_cond_f rfl rfl ?_
      refine cw_exit ?_
      refine hQ114 _ _ _ ?_
      refine thn_x ?_
      refine hQ113 _ _ _ ?_
      refine thn_x ?_
      replace hF := exA hF hK106
      refine hQ104 _ _ _ ?_
      refine inb_s ?_
      refine hQ102 _ _ _ ?_
      refine thn_n ?_
      refine cw_seq ?_
      refine cw_gen ?_
      intro Q165 hQ165
      refine cw_seq ?_
      refine cw_gen ?_
      intro Q166 hQ166
      refine cw_reg ?_
      refine el_pv (v := u0) (pv_move he108) (by decide) ?_
      refine el_pv (v := .int .i64 (a0.length : Int)) (pv_len rfl ha0) (by decide) ?_
      refine el_pv (v := u1) (pv_move he109) (by decide) ?_
      refine el_pv (v := .int .i64 (a1.length : Int)) (pv_len rfl ha1) (by decide) ?_
      refine el_pv (v := .bool (decide ((a0.length : Int) < (a1.length : Int)))) (pv_lss rfl rfl) (by decide) ?_
      refine el_nil ?_
      refine hQ166 _ _ _ ?_
      refine thn_n ?_
      replace hF := oif hF
      rcases hF with ⟨hb167, hF⟩ | ⟨hb167, hF⟩
      · refine cw_cond_t rfl hb167 ?_
        refine cw_seq ?_
        refine cw_gen ?_
        intro Q168 hQ168
        refine cw_reg ?_
        refine el_pv (v := .int .i64 (-1)) (pv_assign rfl) (by decide) ?_
        refine el_nil ?_
        refine hQ168 _ _ _ ?_
        refine thn_n ?_
        refine cw_ret ?_
        refine hQ165 _ _ _ ?_
        refine thn_r ?_
        refine fin1 rfl rfl ?_
        have hr := Option.some.inj hF
        exact ⟨congrArg (fun (r : Int) => Ending.returned (.int .i64 r)) hr, hS.below⟩
      · refine cw_cond_f rfl hb167 ?_
        refine cw_skip ?_
        refine hQ165 _ _ _ ?_
        refine thn_n ?_
        refine cw_seq ?_
        refine cw_gen ?_
        intro Q169 hQ169
        refine cw_seq ?_
        refine cw_gen ?_
        intro Q170 hQ170
        refine cw_reg ?_
        refine el_pv (v := u0) (pv_move he108) (by decide) ?_
        refine el_pv (v := .int .i64 (a0.length : Int)) (pv_len rfl ha0) (by decide) ?_
        refine el_pv (v := u1) (pv_move he109) (by decide) ?_
        refine el_pv (v := .int .i64 (a1.length : Int)) (pv_len rfl ha1) (by decide) ?_
        refine el_pv (v := .bool (decide ((a1.length : Int) < (a0.length : Int)))) (pv_gtr rfl rfl) (by decide) ?_
        refine el_nil ?_
        refine hQ170 _ _ _ ?_
        refine thn_n ?_
        replace hF := oif hF
        rcases hF with ⟨hb171, hF⟩ | ⟨hb171, hF⟩
        · refine cw_cond_t rfl hb171 ?_
          refine cw_seq ?_
          refine cw_gen ?_
          intro Q172 hQ172
          refine cw_reg ?_
          refine el_pv (v := .int .i64 1) (pv_assign rfl) (by decide) ?_
          refine el_nil ?_
          refine hQ172 _ _ _ ?_
          refine thn_n ?_
          refine cw_ret ?_
          refine hQ169 _ _ _ ?_
          refine thn_r ?_
          refine fin1 rfl rfl ?_
          have hr := Option.some.inj hF
          exact ⟨congrArg (fun (r : Int) => Ending.returned (.int .i64 r)) hr, hS.below⟩
        · refine cw_cond_f rfl hb171 ?_
          refine cw_skip ?_
          refine hQ169 _ _ _ ?_
          refine thn_n ?_
          refine cw_seq ?_
          refine cw_gen ?_
          intro Q173 hQ173
          refine cw_reg ?_
          refine el_pv (v := .int .i64 0) (pv_assign rfl) (by decide) ?_
          refine el_nil ?_
          refine hQ173 _ _ _ ?_
          refine thn_n ?_
          refine cw_ret ?_
          refine fin1 rfl rfl ?_
          have hr := Option.some.inj hF
          exact ⟨congrArg (fun (r : Int) => Ending.returned (.int .i64 r)) hr, hS.below⟩
set_option maxHeartbeats 4000000 in
theorem spec_IsValidRelation_ok {w0 : World} {a0 : Int} {u1 : Value} {a1 : List (List Int)} (ha1 : (sliceR (sliceR intR 3) 24).rd w0 [u1] a1) {N : Nat} {r : Bool} (hF : spec_IsValidRelation N a0 a1 = some r) :
    Calls Try.prog 55 #[.agg #[.int .i64 a0, u1]] w0 fun e w' => e = .returned (.bool r) ∧ Ext w0 w' := by
  unfold spec_IsValidRelation at hF
  refine calls_E Try.func55 rfl rfl (of_decide_eq_true rfl) ?_
  have hS := Sat.start w0
  refine cw_seq ?_
  refine cw_gen ?_
  intro Q101 hQ101
  refine cw_reg ?_
  refine el_box [.int .i64 a0, u1] rfl hS (by decide) ?_
  intro w102 b103 hS hx104
  refine el_pv (v := .bool false) (pv_assign rfl) (by decide) ?_
  refine el_nil ?_
  refine hQ101 _ _ _ ?_
  refine thn_n ?_
  refine cw_seq ?_
  refine cw_gen ?_
  intro Q106 hQ106
  refine cw_seq ?_
  refine cw_gen ?_
  intro Q107 hQ107
  refine cw_reg ?_
  refine el_pv (v := .pointer (some ⟨b103, 0 + 0, none⟩)) (pv_fieldAddr rfl) (by decide) ?_
  refine el_pv (v := .int .i64 a0) (pv_loadc rfl ((hS.boxAt 0 rfl) 0 _ rfl)) (by decide) ?_
  replace hF := ob hF
  obtain ⟨r108, hr108, hF⟩ := hF
  refine el_call goes68 (spec_l1In_ok hr108) (congrArg List.toArray (mapc rfl (mapc rfl (mapc rfl rfl)))) (by decide) ?_
  rintro _ w109 ⟨rfl, hx110⟩
  refine ⟨_, rfl, ?_⟩
  replace hS := hS.ext hx110
  refine el_pv (v := .bool (!r108)) (pv_not rfl) (by decide) ?_
  refine el_pv (v := .bool (!r108)) (pv_move rfl) (by decide) ?_
  replace hF := oif hF
  rcases hF with ⟨hb111, hF⟩ | ⟨hb111, hF⟩
  · refine el_on rfl (bnot_t hb111) ?_
    refine el_pv (v := .pointer (some ⟨b103, 0 + 1, none⟩)) (pv_fieldAddr rfl) (by decide) ?_
    refine el_on rfl (bnot_t hb111) ?_
    refine el_pv (v := u1) (pv_loadc rfl ((hS.boxAt 0 rfl) 1 _ rfl)) (by decide) ?_
    refine el_on rfl (bnot_t hb111) ?_
    refine el_pv (v := .int .i64 (a1.length : Int)) (pv_len rfl ha1) (by decide) ?_
    refine el_on rfl (bnot_t hb111) ?_
    refine el_pv (v := .bool (decide (4000 < (a1.length : Int)))) (pv_gtr rfl rfl) (by decide) ?_
    refine el_pv (v := .bool (decide (4000 < (a1.length : Int)))) (pv_pick_f rfl (bnot_t hb111) rfl) (by decide) ?_
    refine el_nil ?_
    refine hQ107 _ _ _ ?_
    refine thn_n ?_
    replace hF := oif hF
    rcases hF with ⟨hb112, hF⟩ | ⟨hb112, hF⟩
    · refine cw_cond_t rfl hb112 ?_
      refine cw_seq ?_
      refine cw_gen ?_
      intro Q113 hQ113
      replace hS : Sat w0 w109 [] := hS.rems 1 [0] rfl
      refine cw_reg ?_
      refine el_pv (v := .bool false) (pv_assign rfl) (by decide) ?_
      refine el_nil ?_
      refine hQ113 _ _ _ ?_
      refine thn_n ?_
      refine cw_ret ?_
      refine hQ106 _ _ _ ?_
      refine thn_r ?_
      refine fin1 rfl rfl ?_
      have hr := Option.some.inj hF
      exact ⟨congrArg (fun (r : Bool) => Ending.returned (.bool r)) hr, hS.below⟩
    · refine cw_cond_f rfl hb112 ?_
      refine cw_skip ?_
      refine hQ106 _ _ _ ?_
      refine thn_n ?_
      refine cw_seq ?_
      refine cw_gen ?_
      intro Q114 hQ114
      refine cw_seq ?_
      refine cw_gen ?_
      intro Q115 hQ115
      refine cw_reg ?_
      refine el_pv (v := .int .i64 0) (pv_assign rfl) (by decide) ?_
      refine el_nil ?_
      refine hQ115 _ _ _ ?_
      refine thn_n ?_
      refine cw_block ?_
      refine cw_gen ?_
      intro Q116 hQ116
      obtain ⟨s117, hL, hK118⟩ := ob hF
      refine cw_loopS (fun k e w => ∃ (x119 : Int), e 1 = .pointer (some ⟨b103, 0, none⟩) ∧ e 3 = .int .i64 x119 ∧ Sat w0 w [Box b103 46 [.int .i64 a0, u1]] ∧ spec_IsValidRelation_L1 N k a0 a1 x119 = some s117) N ?_ ?_ ?_
      · exact ⟨0, rfl, rfl, hS, hL⟩
      · rintro e w ⟨_, _, _, _, hz⟩; exact nomatch (show none = some _ from hz)
      · rintro k e123 w122 ⟨x119, he120, he121, hS, hF⟩
        refine cw_gen ?_
        intro Q124 hQ124
        refine cw_seq ?_
        refine cw_gen ?_
        intro Q125 hQ125
        refine cw_seq ?_
        refine cw_gen ?_
        intro Q126 hQ126
        refine cw_reg ?_
        refine el_pv (v := .int .i64 x119) (pv_move he121) (by decide) ?_
        refine el_pv (v := .pointer (some ⟨b103, 0 + 1, none⟩)) (pv_fieldAddr he120) (by decide) ?_
        refine el_pv (v := u1) (pv_loadc rfl ((hS.boxAt 0 rfl) 1 _ rfl)) (by decide) ?_
        refine el_pv (v := .int .i64 (a1.length : Int)) (pv_len rfl ha1) (by decide) ?_
        refine el_pv (v := .bool (decide (x119 < (a1.length : Int)))) (pv_lss rfl rfl) (by decide) ?_
        refine el_nil ?_
        refine hQ126 _ _ _ ?_
        refine thn_n ?_
        replace hF := oif hF
        rcases hF with ⟨hb127, hF⟩ | ⟨hb127, hF⟩
        · refine cw_cond_t rfl hb127 ?_
          refine cw_skip ?_
          refine hQ125 _ _ _ ?_
          refine thn_n ?_
          refine cw_seq ?_
          refine cw_gen ?_
          intro Q128 hQ128
          refine cw_block ?_
          refine cw_gen ?_
          intro Q129 hQ129
          refine cw_seq ?_
          refine cw_gen ?_
          intro Q130 hQ130
          refine cw_regq (by kernel_rfl) (by kernel_rfl) ?_
          refine ql_pv (v := .pointer (some ⟨b103, 0 + 1, none⟩)) (pv_fieldAddr he120) (by decide) ?_
          refine ql_pv (v := u1) (pv_loadc rfl ((hS.boxAt 0 rfl) 1 _ rfl)) (by decide) ?_
          refine ql_pv (v := .int .i64 x119) (pv_move he121) (by decide) ?_
          replace hF := ob hF
          obtain ⟨x131, hx131, hF⟩ := hF
          refine ql_index (wA := w0) rfl ha1 rfl (by decide) rfl hx131 (by decide) ?_
          intro b132 of133 c134 hr135 hm136
          obtain ⟨v137, rfl⟩ := slice_one hr135
          refine ql_pv (v := v137) (pv_loadc rfl ((cells_up hS.below hm136) 0 _ rfl)) (by decide) ?_
          refine ql_pv (v := .int .i64 (x131.length : Int)) (pv_len rfl hr135) (by decide) ?_
          refine ql_pv (v := .pointer (some ⟨b103, 0 + 0, none⟩)) (pv_fieldAddr he120) (by decide) ?_
          refine ql_pv (v := .int .i64 a0) (pv_loadc rfl ((hS.boxAt 0 rfl) 0 _ rfl)) (by decide) ?_
          refine ql_pv (v := .bool ((x131.length : Int) != a0)) (pv_neq rfl rfl) (by decide) ?_
          refine ql_pv (v := .bool ((x131.length : Int) != a0)) (pv_move rfl) (by decide) ?_
          replace hF := oif hF
          rcases hF with ⟨hb138, hF⟩ | ⟨hb138, hF⟩
          · refine ql_off rfl hb138 rfl (by decide) ?_
            refine ql_off rfl hb138 rfl (by decide) ?_
            refine ql_off rfl hb138 rfl (by decide) ?_
            refine ql_off rfl hb138 rfl (by decide) ?_
            refine ql_off rfl hb138 rfl (by decide) ?_
            refine ql_off rfl hb138 rfl (by decide) ?_
            refine ql_off rfl hb138 rfl (by decide) ?_
            refine ql_pv (v := .bool true) (pv_pick_t rfl hb138 rfl) (by decide) ?_
            refine ql_pv (v := .bool true) (pv_move rfl) (by decide) ?_
            refine ql_off rfl rfl rfl (by decide) ?_
            refine ql_off rfl rfl rfl (by decide) ?_
            refine ql_off rfl rfl rfl (by decide) ?_
            refine ql_offu rfl (by decide) ?_
            refine ql_offu rfl (by decide) ?_
            refine ql_offu rfl (by decide) ?_
            refine ql_offu rfl (by decide) ?_
            refine ql_offu rfl (by decide) ?_
            refine ql_offu rfl (by decide) ?_
            refine ql_offu rfl (by decide) ?_
            refine ql_offu rfl (by decide) ?_
            refine ql_offu rfl (by decide) ?_
            refine ql_offu rfl (by decide) ?_
            refine ql_offu rfl (by decide) ?_
            refine ql_offu rfl (by decide) ?_
            refine ql_offu rfl (by decide) ?_
            refine ql_off rfl rfl rfl (by decide) ?_
            refine ql_pv (v := .bool true) (pv_pick_t rfl rfl rfl) (by decide) ?_
            refine ql_nil ?_
            intro w139 hx140
            replace hS := hS.ext hx140
            refine hQ130 _ _ _ ?_
            refine thn_n ?_
            refine cw_cond_t rfl rfl ?_
            refine cw_seq ?_
            refine cw_gen ?_
            intro Q141 hQ141
            replace hS : Sat w0 w139 [] := hS.rems 1 [0] rfl
            refine cw_reg ?_
            refine el_pv (v := .bool false) (pv_assign rfl) (by decide) ?_
            refine el_nil ?_
            refine hQ141 _ _ _ ?_
            refine thn_n ?_
            refine cw_ret ?_
            refine hQ129 _ _ _ ?_
            refine inb_r ?_
            refine hQ128 _ _ _ ?_
            refine thn_r ?_
            refine hQ124 _ _ _ ?_
            refine thn_r ?_
            refine hQ116 _ _ _ ?_
            refine inb_r ?_
            refine hQ114 _ _ _ ?_
            refine thn_r ?_
            replace hF := exL hF hK118
            refine fin1 rfl rfl ?_
            have hr := Option.some.inj hF
            exact ⟨congrArg (fun (r : Bool) => Ending.returned (.bool r)) hr, hS.below⟩
          · refine ql_on rfl hb138 ?_
            refine ql_pv (v := .pointer (some ⟨b103, 0 + 1, none⟩)) (pv_fieldAddr he120) (by decide) ?_
            refine ql_on rfl hb138 ?_
            refine ql_pv (v := u1) (pv_loadc rfl ((hS.boxAt 0 rfl) 1 _ rfl)) (by decide) ?_
            refine ql_on rfl hb138 ?_
            refine ql_pv (v := .int .i64 x119) (pv_move he121) (by decide) ?_
            refine ql_on rfl hb138 ?_
            replace hF := ob hF
            obtain ⟨x142, hx142, hF⟩ := hF
            refine ql_index (wA := w0) rfl ha1 rfl (by decide) rfl hx142 (by decide) ?_
            intro b143 of144 c145 hr146 hm147
            obtain ⟨v148, rfl⟩ := slice_one hr146
            refine ql_on rfl hb138 ?_
            refine ql_pv (v := v148) (pv_loadc rfl ((cells_up hS.below hm147) 0 _ rfl)) (by decide) ?_
            refine ql_on rfl hb138 ?_
            replace hF := ob hF
            obtain ⟨r149, hr149, hF⟩ := hF
            refine ql_call (.bool r149) goes69 (fun w' hw' => spec_AreValidValues_ok (rd_up (hS.up hr146) hw') hr149) (congrArg List.toArray (mapc rfl rfl)) (by decide) ?_
            refine ql_on rfl hb138 ?_
            refine ql_pv (v := .bool (!r149)) (pv_not rfl) (by decide) ?_
            refine ql_pv (v := .bool (!r149)) (pv_pick_f rfl hb138 rfl) (by decide) ?_
            refine ql_pv (v := .bool (!r149)) (pv_move rfl) (by decide) ?_
            replace hF := oif hF
            rcases hF with ⟨hb150, hF⟩ | ⟨hb150, hF⟩
            · refine ql_on rfl (bnot_t hb150) ?_
              refine ql_pv (v := .int .i64 x119) (pv_move he121) (by decide) ?_
              refine ql_on rfl (bnot_t hb150) ?_
              refine ql_pv (v := .bool (decide (0 < x119))) (pv_gtr rfl rfl) (by decide) ?_
              refine ql_on rfl (bnot_t hb150) ?_
              refine ql_pv (v := .bool (decide (0 < x119))) (pv_move rfl) (by decide) ?_
              replace hF := oif hF
              rcases hF with ⟨hb151, hF⟩ | ⟨hb151, hF⟩
              · refine ql_on rfl hb151 ?_
                refine ql_pv (v := .pointer (some ⟨b103, 0 + 1, none⟩)) (pv_fieldAddr he120) (by decide) ?_
                refine ql_on rfl hb151 ?_
                refine ql_pv (v := u1) (pv_loadc rfl ((hS.boxAt 0 rfl) 1 _ rfl)) (by decide) ?_
                refine ql_on rfl hb151 ?_
                refine ql_pv (v := .int .i64 x119) (pv_move he121) (by decide) ?_
                refine ql_on rfl hb151 ?_
                replace hF := ob hF
                obtain ⟨x152, hx152, hF⟩ := hF
                refine ql_pv (v := .int .i64 x152) (pv_sub rfl rfl hx152) (by decide) ?_
                refine ql_on rfl hb151 ?_
                replace hF := ob hF
                obtain ⟨x153, hx153, hF⟩ := hF
                refine ql_index (wA := w0) rfl ha1 rfl (by decide) rfl hx153 (by decide) ?_
                intro b154 of155 c156 hr157 hm158
                obtain ⟨v159, rfl⟩ := slice_one hr157
                refine ql_on rfl hb151 ?_
                refine ql_pv (v := v159) (pv_loadc rfl ((cells_up hS.below hm158) 0 _ rfl)) (by decide) ?_
                refine ql_on rfl hb151 ?_
                refine ql_pv (v := .pointer (some ⟨b103, 0 + 1, none⟩)) (pv_fieldAddr he120) (by decide) ?_
                refine ql_on rfl hb151 ?_
                refine ql_pv (v := u1) (pv_loadc rfl ((hS.boxAt 0 rfl) 1 _ rfl)) (by decide) ?_
                refine ql_on rfl hb151 ?_
                refine ql_pv (v := .int .i64 x119) (pv_move he121) (by decide) ?_
                refine ql_on rfl hb151 ?_
                replace hF := ob hF
                obtain ⟨x160, hx160, hF⟩ := hF
                refine ql_index (wA := w0) rfl ha1 rfl (by decide) rfl hx160 (by decide) ?_
                intro b161 of162 c163 hr164 hm165
                obtain ⟨v166, rfl⟩ := slice_one hr164
                refine ql_on rfl hb151 ?_
                refine ql_pv (v := v166) (pv_loadc rfl ((cells_up hS.below hm165) 0 _ rfl)) (by decide) ?_
                refine ql_on rfl hb151 ?_
                replace hF := ob hF
                obtain ⟨r167, hr167, hF⟩ := hF
                refine ql_call (.int .i64 r167) goes70 (fun w' hw' => spec_CompareRows_ok (rd_up (hS.up hr157) hw') (rd_up (hS.up hr164) hw') hr167) (congrArg List.toArray (mapc rfl (mapc rfl rfl))) (by decide) ?_
                refine ql_on rfl hb151 ?_
                refine ql_pv (v := .bool (decide (0 ≤ r167))) (pv_geq rfl rfl) (by decide) ?_
                refine ql_on rfl (bnot_t hb150) ?_
                refine ql_pv (v := .bool (decide (0 ≤ r167))) (pv_pick_t rfl hb151 rfl) (by decide) ?_
                refine ql_pv (v := .bool (decide (0 ≤ r167))) (pv_pick_f rfl (bnot_t hb150) rfl) (by decide) ?_
                refine ql_nil ?_
                intro w168 hx169
                replace hS := hS.ext hx169
                refine hQ130 _ _ _ ?_
                refine thn_n ?_
                replace hF := oif hF
                rcases hF with ⟨hb170, hF⟩ | ⟨hb170, hF⟩
                · refine cw_cond_t rfl hb170 ?_
                  refine cw_seq ?_
                  refine cw_gen ?_
                  intro Q171 hQ171
                  replace hS : Sat w0 w168 [] := hS.rems 1 [0] rfl
                  refine cw_reg ?_
                  refine el_pv (v := .bool false) (pv_assign rfl) (by decide) ?_
                  refine el_nil ?_
                  refine hQ171 _ _ _ ?_
                  refine thn_n ?_
                  refine cw_ret ?_
                  refine hQ129 _ _ _ ?_
                  refine inb_r ?_
                  refine hQ128 _ _ _ ?_
                  refine thn_r ?_
                  refine hQ124 _ _ _ ?_
                  refine thn_r ?_
                  refine hQ116 _ _ _ ?_
                  refine inb_r ?_
                  refine hQ114 _ _ _ ?_
                  refine thn_r ?_
                  replace hF := exL hF hK118
                  refine fin1 rfl rfl ?_
                  have hr := Option.some.inj hF
                  exact ⟨congrArg (fun (r : Bool) => Ending.returned (.bool r)) hr, hS.below⟩
                · refine cw_cond_f rfl hb170 ?_
                  refine cw_skip ?_
                  refine hQ129 _ _ _ ?_
                  refine inb_n ?_
                  refine hQ128 _ _ _ ?_
                  refine thn_n ?_
                  refine cw_reg ?_
                  refine el_pv (v := .int .i64 x119) (pv_move he121) (by decide) ?_
                  replace hF := ob hF
                  obtain ⟨x172, hx172, hF⟩ := hF
                  refine el_pv (v := .int .i64 x172) (pv_add rfl rfl hx172) (by decide) ?_
                  refine el_pv (v := .int .i64 x172) (pv_assign rfl) (by decide) ?_
                  refine el_nil ?_
                  refine hQ124 _ _ _ ?_
                  refine thn_n ?_
                  replace hS := hS.keep 1
                  exact ⟨x172, he120, rfl, hS, hF⟩
              · refine ql_off rfl hb151 rfl (by decide) ?_
                refine ql_off rfl hb151 rfl (by decide) ?_
                refine ql_off rfl hb151 rfl (by decide) ?_
                refine ql_off rfl hb151 rfl (by decide) ?_
                refine ql_off rfl hb151 rfl (by decide) ?_
                refine ql_off rfl hb151 rfl (by decide) ?_
                refine ql_off rfl hb151 rfl (by decide) ?_
                refine ql_off rfl hb151 rfl (by decide) ?_
                refine ql_off rfl hb151 rfl (by decide) ?_
                refine ql_off rfl hb151 rfl (by decide) ?_
                refine ql_off rfl hb151 rfl (by decide) ?_
                refine ql_off rfl hb151 rfl (by decide) ?_
                refine ql_off rfl hb151 rfl (by decide) ?_
                refine ql_on rfl (bnot_t hb150) ?_
                refine ql_pv (v := .bool false) (pv_pick_f rfl hb151 rfl) (by decide) ?_
                refine ql_pv (v := .bool false) (pv_pick_f rfl (bnot_t hb150) rfl) (by decide) ?_
                refine ql_nil ?_
                intro w173 hx174
                replace hS := hS.ext hx174
                refine hQ130 _ _ _ ?_
                refine thn_n ?_
                refine cw_cond_f rfl rfl ?_
                refine cw_skip ?_
                refine hQ129 _ _ _ ?_
                refine inb_n ?_
                refine hQ128 _ _ _ ?_
                refine thn_n ?_
                refine cw_reg ?_
                refine el_pv (v := .int .i64 x119) (pv_move he121) (by decide) ?_
                replace hF := ob hF
                obtain ⟨x175, hx175, hF⟩ := hF
                refine el_pv (v := .int .i64 x175) (pv_add rfl rfl hx175) (by decide) ?_
                refine el_pv (v := .int .i64 x175) (pv_assign rfl) (by decide) ?_
                refine el_nil ?_
                refine hQ124 _ _ _ ?_
                refine thn_n ?_
                replace hS := hS.keep 1
                exact ⟨x175, he120, rfl, hS, hF⟩
            · refine ql_off rfl (bnot_f hb150) rfl (by decide) ?_
              refine ql_off rfl (bnot_f hb150) rfl (by decide) ?_
              refine ql_off rfl (bnot_f hb150) rfl (by decide) ?_
              refine ql_offu rfl (by decide) ?_
              refine ql_offu rfl (by decide) ?_
              refine ql_offu rfl (by decide) ?_
              refine ql_offu rfl (by decide) ?_
              refine ql_offu rfl (by decide) ?_
              refine ql_offu rfl (by decide) ?_
              refine ql_offu rfl (by decide) ?_
              refine ql_offu rfl (by decide) ?_
              refine ql_offu rfl (by decide) ?_
              refine ql_offu rfl (by decide) ?_
              refine ql_offu rfl (by decide) ?_
              refine ql_offu rfl (by decide) ?_
              refine ql_offu rfl (by decide) ?_
              refine ql_off rfl (bnot_f hb150) rfl (by decide) ?_
              refine ql_pv (v := .bool true) (pv_pick_t rfl (bnot_f hb150) rfl) (by decide) ?_
              refine ql_nil ?_
              intro w176 hx177
              replace hS := hS.ext hx177
              refine hQ130 _ _ _ ?_
              refine thn_n ?_
              refine cw_cond_t rfl rfl ?_
              refine cw_seq ?_
              refine cw_gen ?_
              intro Q178 hQ178
              replace hS : Sat w0 w176 [] := hS.rems 1 [0] rfl
              refine cw_reg ?_
              refine el_pv (v := .bool false) (pv_assign rfl) (by decide) ?_
              refine el_nil ?_
              refine hQ178 _ _ _ ?_
              refine thn_n ?_
              refine cw_ret ?_
              refine hQ129 _ _ _ ?_
              refine inb_r ?_
              refine hQ128 _ _ _ ?_
              refine thn_r ?_
              refine hQ124 _ _ _ ?_
              refine thn_r ?_
              refine hQ116 _ _ _ ?_
              refine inb_r ?_
              refine hQ114 _ _ _ ?_
              refine thn_r ?_
              replace hF := exL hF hK118
              refine fin1 rfl rfl ?_
              have hr := Option.some.inj hF
              exact ⟨congrArg (fun (r : Bool) => Ending.returned (.bool r)) hr, hS.below⟩
        · refine cw_cond_f rfl hb127 ?_
          refine cw_exit ?_
          refine hQ125 _ _ _ ?_
          refine thn_x ?_
          refine hQ124 _ _ _ ?_
          refine thn_x ?_
          replace hF := exA hF hK118
          refine hQ116 _ _ _ ?_
          refine inb_s ?_
          refine hQ114 _ _ _ ?_
          refine thn_n ?_
          refine cw_seq ?_
          refine cw_gen ?_
          intro Q179 hQ179
          replace hS : Sat w0 w122 [] := hS.rems 1 [0] rfl
          refine cw_reg ?_
          refine el_pv (v := .bool true) (pv_assign rfl) (by decide) ?_
          refine el_nil ?_
          refine hQ179 _ _ _ ?_
          refine thn_n ?_
          refine cw_ret ?_
          refine fin1 rfl rfl ?_
          have hr := Option.some.inj hF
          exact ⟨congrArg (fun (r : Bool) => Ending.returned (.bool r)) hr, hS.below⟩
  · refine el_off rfl (bnot_f hb111) rfl (by decide) ?_
    refine el_off rfl (bnot_f hb111) rfl (by decide) ?_
    refine el_off rfl (bnot_f hb111) rfl (by decide) ?_
    refine el_off rfl (bnot_f hb111) rfl (by decide) ?_
    refine el_pv (v := .bool true) (pv_pick_t rfl (bnot_f hb111) rfl) (by decide) ?_
    refine el_nil ?_
    refine hQ107 _ _ _ ?_
    refine thn_n ?_
    refine cw_cond_t rfl rfl ?_
    refine cw_seq ?_
    refine cw_gen ?_
    intro Q180 hQ180
    replace hS : Sat w0 w109 [] := hS.rems 1 [0] rfl
    refine cw_reg ?_
    refine el_pv (v := .bool false) (pv_assign rfl) (by decide) ?_
    refine el_nil ?_
    refine hQ180 _ _ _ ?_
    refine thn_n ?_
    refine cw_ret ?_
    refine hQ106 _ _ _ ?_
    refine thn_r ?_
    refine fin1 rfl rfl ?_
    have hr := Option.some.inj hF
    exact ⟨congrArg (fun (r : Bool) => Ending.returned (.bool r)) hr, hS.below⟩
set_option maxHeartbeats 4000000 in
theorem spec_IsValidName_ok {w0 : World} {a0 : ByteArray} (_ : a0.size ≤ 9223372036854775807) {N : Nat} {r : Bool} (hF : spec_IsValidName N a0 = some r) :
    Calls Try.prog 71 #[.string a0] w0 fun e w' => e = .returned (.bool r) ∧ Ext w0 w' := by
  unfold spec_IsValidName at hF
  refine calls_E Try.func71 rfl rfl (of_decide_eq_true rfl) ?_
  have hS := Sat.start w0
  refine cw_seq ?_
  refine cw_gen ?_
  intro Q101 hQ101
  refine cw_reg ?_
  refine el_pv (v := .bool false) (pv_assign rfl) (by decide) ?_
  refine el_nil ?_
  refine hQ101 _ _ _ ?_
  refine thn_n ?_
  refine cw_seq ?_
  refine cw_gen ?_
  intro Q102 hQ102
  refine cw_seq ?_
  refine cw_gen ?_
  intro Q103 hQ103
  refine cw_reg ?_
  refine el_pv (v := .int .i64 0) (pv_assign rfl) (by decide) ?_
  refine el_nil ?_
  refine hQ103 _ _ _ ?_
  refine thn_n ?_
  refine cw_block ?_
  refine cw_gen ?_
  intro Q104 hQ104
  obtain ⟨s105, hL, hK106⟩ := ob hF
  refine cw_loopS (fun k e w => ∃ (x107 : Int), e 0 = .string a0 ∧ e 3 = .int .i64 x107 ∧ Sat w0 w [] ∧ spec_IsValidName_L1 N k a0 x107 = some s105) N ?_ ?_ ?_
  · exact ⟨0, rfl, rfl, hS, hL⟩
  · rintro e w ⟨_, _, _, _, hz⟩; exact nomatch (show none = some _ from hz)
  · rintro k e111 w110 ⟨x107, he108, he109, hS, hF⟩
    refine cw_gen ?_
    intro Q112 hQ112
    refine cw_seq ?_
    refine cw_gen ?_
    intro Q113 hQ113
    refine cw_seq ?_
    refine cw_gen ?_
    intro Q114 hQ114
    refine cw_reg ?_
    refine el_pv (v := .int .i64 x107) (pv_move he109) (by decide) ?_
    refine el_pv (v := .string a0) (pv_move he108) (by decide) ?_
    refine el_pv (v := .int .i64 (a0.size : Int)) (pv_lenS Try.underlying9 rfl) (by decide) ?_
    refine el_pv (v := .bool (decide (x107 < (a0.size : Int)))) (pv_lss rfl rfl) (by decide) ?_
    refine el_nil ?_
    refine hQ114 _ _ _ ?_
    refine thn_n ?_
    replace hF := oif hF
    rcases hF with ⟨hb115, hF⟩ | ⟨hb115, hF⟩
    · refine cw_cond_t rfl hb115 ?_
      refine cw_skip ?_
      refine hQ113 _ _ _ ?_
      refine thn_n ?_
      refine cw_seq ?_
      refine cw_gen ?_
      intro Q116 hQ116
      refine cw_block ?_
      refine cw_gen ?_
      intro Q117 hQ117
      refine cw_seq ?_
      refine cw_gen ?_
      intro Q118 hQ118
      refine cw_reg ?_
      refine el_pv (v := .string a0) (pv_move he108) (by decide) ?_
      refine el_pv (v := .int .i64 x107) (pv_move he109) (by decide) ?_
      replace hF := ob hF
      obtain ⟨x119, hx119, hF⟩ := hF
      refine el_pv (v := .int .u8 x119) (pv_bx Try.underlying9 rfl rfl hx119) (by decide) ?_
      refine el_pv (v := .bool (decide (x119 < 97))) (pv_lss rfl rfl) (by decide) ?_
      refine el_pv (v := .bool (decide (x119 < 97))) (pv_move rfl) (by decide) ?_
      replace hF := oif hF
      rcases hF with ⟨hb120, hF⟩ | ⟨hb120, hF⟩
      · refine el_off rfl hb120 rfl (by decide) ?_
        refine el_off rfl hb120 rfl (by decide) ?_
        refine el_off rfl hb120 rfl (by decide) ?_
        refine el_off rfl hb120 rfl (by decide) ?_
        refine el_pv (v := .bool true) (pv_pick_t rfl hb120 rfl) (by decide) ?_
        refine el_nil ?_
        refine hQ118 _ _ _ ?_
        refine thn_n ?_
        refine cw_cond_t rfl rfl ?_
        refine cw_seq ?_
        refine cw_gen ?_
        intro Q121 hQ121
        refine cw_reg ?_
        refine el_pv (v := .bool false) (pv_assign rfl) (by decide) ?_
        refine el_nil ?_
        refine hQ121 _ _ _ ?_
        refine thn_n ?_
        refine cw_ret ?_
        refine hQ117 _ _ _ ?_
        refine inb_r ?_
        refine hQ116 _ _ _ ?_
        refine thn_r ?_
        refine hQ112 _ _ _ ?_
        refine thn_r ?_
        refine hQ104 _ _ _ ?_
        refine inb_r ?_
        refine hQ102 _ _ _ ?_
        refine thn_r ?_
        replace hF := exL hF hK106
        refine fin1 rfl rfl ?_
        have hr := Option.some.inj hF
        exact ⟨congrArg (fun (r : Bool) => Ending.returned (.bool r)) hr, hS.below⟩
      · refine el_on rfl hb120 ?_
        refine el_pv (v := .string a0) (pv_move he108) (by decide) ?_
        refine el_on rfl hb120 ?_
        refine el_pv (v := .int .i64 x107) (pv_move he109) (by decide) ?_
        refine el_on rfl hb120 ?_
        replace hF := ob hF
        obtain ⟨x122, hx122, hF⟩ := hF
        refine el_pv (v := .int .u8 x122) (pv_bx Try.underlying9 rfl rfl hx122) (by decide) ?_
        refine el_on rfl hb120 ?_
        refine el_pv (v := .bool (decide (122 < x122))) (pv_gtr rfl rfl) (by decide) ?_
        refine el_pv (v := .bool (decide (122 < x122))) (pv_pick_f rfl hb120 rfl) (by decide) ?_
        refine el_nil ?_
        refine hQ118 _ _ _ ?_
        refine thn_n ?_
        replace hF := oif hF
        rcases hF with ⟨hb123, hF⟩ | ⟨hb123, hF⟩
        · refine cw_cond_t rfl hb123 ?_
          refine cw_seq ?_
          refine cw_gen ?_
          intro Q124 hQ124
          refine cw_reg ?_
          refine el_pv (v := .bool false) (pv_assign rfl) (by decide) ?_
          refine el_nil ?_
          refine hQ124 _ _ _ ?_
          refine thn_n ?_
          refine cw_ret ?_
          refine hQ117 _ _ _ ?_
          refine inb_r ?_
          refine hQ116 _ _ _ ?_
          refine thn_r ?_
          refine hQ112 _ _ _ ?_
          refine thn_r ?_
          refine hQ104 _ _ _ ?_
          refine inb_r ?_
          refine hQ102 _ _ _ ?_
          refine thn_r ?_
          replace hF := exL hF hK106
          refine fin1 rfl rfl ?_
          have hr := Option.some.inj hF
          exact ⟨congrArg (fun (r : Bool) => Ending.returned (.bool r)) hr, hS.below⟩
        · refine cw_cond_f rfl hb123 ?_
          refine cw_skip ?_
          refine hQ117 _ _ _ ?_
          refine inb_n ?_
          refine hQ116 _ _ _ ?_
          refine thn_n ?_
          refine cw_reg ?_
          refine el_pv (v := .int .i64 x107) (pv_move he109) (by decide) ?_
          replace hF := ob hF
          obtain ⟨x125, hx125, hF⟩ := hF
          refine el_pv (v := .int .i64 x125) (pv_add rfl rfl hx125) (by decide) ?_
          refine el_pv (v := .int .i64 x125) (pv_assign rfl) (by decide) ?_
          refine el_nil ?_
          refine hQ112 _ _ _ ?_
          refine thn_n ?_
          replace hS := hS.keep 0
          exact ⟨x125, he108, rfl, hS, hF⟩
    · refine cw_cond_f rfl hb115 ?_
      refine cw_exit ?_
      refine hQ113 _ _ _ ?_
      refine thn_x ?_
      refine hQ112 _ _ _ ?_
      refine thn_x ?_
      replace hF := exA hF hK106
      refine hQ104 _ _ _ ?_
      refine inb_s ?_
      refine hQ102 _ _ _ ?_
      refine thn_n ?_
      refine cw_seq ?_
      refine cw_gen ?_
      intro Q126 hQ126
      refine cw_reg ?_
      refine el_pv (v := .string a0) (pv_move he108) (by decide) ?_
      refine el_pv (v := .int .i64 (a0.size : Int)) (pv_lenS Try.underlying9 rfl) (by decide) ?_
      replace hF := ob hF
      obtain ⟨r127, hr127, hF⟩ := hF
      refine el_call goes68 (spec_l1In_ok hr127) (congrArg List.toArray (mapc rfl (mapc rfl (mapc rfl rfl)))) (by decide) ?_
      rintro _ w128 ⟨rfl, hx129⟩
      refine ⟨_, rfl, ?_⟩
      replace hS := hS.ext hx129
      refine el_pv (v := .bool r127) (pv_assign rfl) (by decide) ?_
      refine el_nil ?_
      refine hQ126 _ _ _ ?_
      refine thn_n ?_
      refine cw_ret ?_
      refine fin1 rfl rfl ?_
      have hr := Option.some.inj hF
      exact ⟨congrArg (fun (r : Bool) => Ending.returned (.bool r)) hr, hS.below⟩
set_option maxHeartbeats 4000000 in
theorem spec_IsValidDatabase_ok {w0 : World} {u0 : Value} {a0 : List (ByteArray × (Int × List (List Int)))} (ha0 : (sliceR (pairR strR (pairR intR (sliceR (sliceR intR 3) 24))) 80).rd w0 [u0] a0) {N : Nat} {r : Bool} (hF : spec_IsValidDatabase N a0 = some r) :
    Calls Try.prog 56 #[.agg #[u0]] w0 fun e w' => e = .returned (.bool r) ∧ Ext w0 w' := by
  unfold spec_IsValidDatabase at hF
  refine calls_E Try.func56 rfl rfl (of_decide_eq_true rfl) ?_
  have hS := Sat.start w0
  refine cw_seq ?_
  refine cw_gen ?_
  intro Q101 hQ101
  refine cw_reg ?_
  refine el_box [u0] rfl hS (by decide) ?_
  intro w102 b103 hS hx104
  refine el_pv (v := .bool false) (pv_assign rfl) (by decide) ?_
  refine el_nil ?_
  refine hQ101 _ _ _ ?_
  refine thn_n ?_
  refine cw_seq ?_
  refine cw_gen ?_
  intro Q106 hQ106
  refine cw_seq ?_
  refine cw_gen ?_
  intro Q107 hQ107
  refine cw_reg ?_
  refine el_pv (v := .int .i64 0) (pv_assign rfl) (by decide) ?_
  refine el_nil ?_
  refine hQ107 _ _ _ ?_
  refine thn_n ?_
  refine cw_block ?_
  refine cw_gen ?_
  intro Q108 hQ108
  obtain ⟨s109, hL, hK110⟩ := ob hF
  refine cw_loopS (fun k e w => ∃ (x111 : Int), e 1 = .pointer (some ⟨b103, 0, none⟩) ∧ e 3 = .int .i64 x111 ∧ Sat w0 w [Box b103 44 [u0]] ∧ spec_IsValidDatabase_L1 N k a0 x111 = some s109) N ?_ ?_ ?_
  · exact ⟨0, rfl, rfl, hS, hL⟩
  · rintro e w ⟨_, _, _, _, hz⟩; exact nomatch (show none = some _ from hz)
  · rintro k e115 w114 ⟨x111, he112, he113, hS, hF⟩
    refine cw_gen ?_
    intro Q116 hQ116
    refine cw_seq ?_
    refine cw_gen ?_
    intro Q117 hQ117
    refine cw_seq ?_
    refine cw_gen ?_
    intro Q118 hQ118
    refine cw_reg ?_
    refine el_pv (v := .int .i64 x111) (pv_move he113) (by decide) ?_
    refine el_pv (v := .pointer (some ⟨b103, 0 + 0, none⟩)) (pv_fieldAddr he112) (by decide) ?_
    refine el_pv (v := u0) (pv_loadc rfl ((hS.boxAt 0 rfl) 0 _ rfl)) (by decide) ?_
    refine el_pv (v := .int .i64 (a0.length : Int)) (pv_len rfl ha0) (by decide) ?_
    refine el_pv (v := .bool (decide (x111 < (a0.length : Int)))) (pv_lss rfl rfl) (by decide) ?_
    refine el_nil ?_
    refine hQ118 _ _ _ ?_
    refine thn_n ?_
    replace hF := oif hF
    rcases hF with ⟨hb119, hF⟩ | ⟨hb119, hF⟩
    · refine cw_cond_t rfl hb119 ?_
      refine cw_skip ?_
      refine hQ117 _ _ _ ?_
      refine thn_n ?_
      refine cw_seq ?_
      refine cw_gen ?_
      intro Q120 hQ120
      refine cw_block ?_
      refine cw_gen ?_
      intro Q121 hQ121
      refine cw_seq ?_
      refine cw_gen ?_
      intro Q122 hQ122
      refine cw_reg ?_
      refine el_pv (v := .pointer (some ⟨b103, 0 + 0, none⟩)) (pv_fieldAddr he112) (by decide) ?_
      refine el_pv (v := u0) (pv_loadc rfl ((hS.boxAt 0 rfl) 0 _ rfl)) (by decide) ?_
      refine el_pv (v := .int .i64 x111) (pv_move he113) (by decide) ?_
      replace hF := ob hF
      obtain ⟨x123, hx123, hF⟩ := hF
      refine el_index (wA := w0) rfl ha0 rfl (by decide) rfl hx123 (by decide) ?_
      intro b124 of125 c126 hr127 hm128
      obtain ⟨_, _, rfl, hr129, hr130⟩ := hr127
      obtain ⟨rfl, hz131⟩ := hr129
      obtain ⟨_, _, rfl, hr132, hr133⟩ := hr130
      obtain rfl := hr132
      obtain ⟨v134, rfl⟩ := slice_one hr133
      refine el_pv (v := .agg #[.string x123.1, .int .i64 x123.2.1, v134]) (pv_loada (cs := [.string x123.1, .int .i64 x123.2.1, v134]) rfl rfl (cells_up hS.below hm128)) (by decide) ?_
      refine el_alloc hS (by decide) ?_
      intro w135 b136 hS hx137
      refine el_storev (hS.top 0 rfl) rfl [.string x123.1, .int .i64 x123.2.1, v134] rfl rfl (of_decide_eq_true rfl) (all_cons rfl (all_cons rfl (all_cons (oc hr133) rfl))) ?_
      intro w139 hS
      replace hS : Sat w0 w139 [Box b136 80 [.string x123.1, .int .i64 x123.2.1, v134], Box b103 44 [u0]] := hS
      refine el_nil ?_
      refine hQ122 _ _ _ ?_
      refine thn_n ?_
      refine cw_seq ?_
      refine cw_gen ?_
      intro Q140 hQ140
      refine cw_regq (by kernel_rfl) (by kernel_rfl) ?_
      refine ql_pv (v := .pointer (some ⟨b136, 0 + 0, none⟩)) (pv_fieldAddr rfl) (by decide) ?_
      refine ql_pv (v := .string x123.1) (pv_loadc rfl ((hS.boxAt 0 rfl) 0 _ rfl)) (by decide) ?_
      replace hF := ob hF
      obtain ⟨r141, hr141, hF⟩ := hF
      refine ql_call (.bool r141) goes71 (fun w' hw' => spec_IsValidName_ok hz131 hr141) (congrArg List.toArray (mapc rfl rfl)) (by decide) ?_
      refine ql_pv (v := .bool (!r141)) (pv_not rfl) (by decide) ?_
      refine ql_pv (v := .bool (!r141)) (pv_move rfl) (by decide) ?_
      replace hF := oif hF
      rcases hF with ⟨hb142, hF⟩ | ⟨hb142, hF⟩
      · refine ql_on rfl (bnot_t hb142) ?_
        refine ql_pv (v := .int .i64 x111) (pv_move he113) (by decide) ?_
        refine ql_on rfl (bnot_t hb142) ?_
        refine ql_pv (v := .bool (decide (0 < x111))) (pv_gtr rfl rfl) (by decide) ?_
        refine ql_on rfl (bnot_t hb142) ?_
        refine ql_pv (v := .bool (decide (0 < x111))) (pv_move rfl) (by decide) ?_
        replace hF := oif hF
        rcases hF with ⟨hb143, hF⟩ | ⟨hb143, hF⟩
        · refine ql_on rfl hb143 ?_
          refine ql_pv (v := .pointer (some ⟨b103, 0 + 0, none⟩)) (pv_fieldAddr he112) (by decide) ?_
          refine ql_on rfl hb143 ?_
          refine ql_pv (v := u0) (pv_loadc rfl ((hS.boxAt 1 rfl) 0 _ rfl)) (by decide) ?_
          refine ql_on rfl hb143 ?_
          refine ql_pv (v := .int .i64 x111) (pv_move he113) (by decide) ?_
          refine ql_on rfl hb143 ?_
          replace hF := ob hF
          obtain ⟨x144, hx144, hF⟩ := hF
          refine ql_pv (v := .int .i64 x144) (pv_sub rfl rfl hx144) (by decide) ?_
          refine ql_on rfl hb143 ?_
          replace hF := ob hF
          obtain ⟨x145, hx145, hF⟩ := hF
          refine ql_index (wA := w0) rfl ha0 rfl (by decide) rfl hx145 (by decide) ?_
          intro b146 of147 c148 hr149 hm150
          obtain ⟨_, _, rfl, hr151, hr152⟩ := hr149
          obtain ⟨rfl, hz153⟩ := hr151
          obtain ⟨_, _, rfl, hr154, hr155⟩ := hr152
          obtain rfl := hr154
          obtain ⟨v156, rfl⟩ := slice_one hr155
          refine ql_on rfl hb143 ?_
          refine ql_pv (v := .pointer (some ⟨b146, of147 + 0, none⟩)) (pv_fieldAddr rfl) (by decide) ?_
          refine ql_on rfl hb143 ?_
          refine ql_pv (v := .string x145.1) (pv_loadc rfl ((cells_up hS.below hm150) 0 _ rfl)) (by decide) ?_
          refine ql_on rfl hb143 ?_
          refine ql_pv (v := .pointer (some ⟨b136, 0 + 0, none⟩)) (pv_fieldAddr rfl) (by decide) ?_
          refine ql_on rfl hb143 ?_
          refine ql_pv (v := .string x123.1) (pv_loadc rfl ((hS.boxAt 0 rfl) 0 _ rfl)) (by decide) ?_
          refine ql_on rfl hb143 ?_
          refine ql_pv (v := .bool (!(ltS x145.1 x123.1))) (pv_geqS rfl rfl) (by decide) ?_
          refine ql_on rfl (bnot_t hb142) ?_
          refine ql_pv (v := .bool (!(ltS x145.1 x123.1))) (pv_pick_t rfl hb143 rfl) (by decide) ?_
          refine ql_pv (v := .bool (!(ltS x145.1 x123.1))) (pv_pick_f rfl (bnot_t hb142) rfl) (by decide) ?_
          refine ql_pv (v := .bool (!(ltS x145.1 x123.1))) (pv_move rfl) (by decide) ?_
          replace hF := oif hF
          rcases hF with ⟨hb157, hF⟩ | ⟨hb157, hF⟩
          · refine ql_on rfl (bnot_t hb157) ?_
            refine ql_pv (v := .pointer (some ⟨b136, 0 + 1, none⟩)) (pv_fieldAddr rfl) (by decide) ?_
            refine ql_on rfl (bnot_t hb157) ?_
            refine ql_pv (v := .agg #[.int .i64 x123.2.1, v134]) (pv_loada (cs := [.int .i64 x123.2.1, v134]) rfl rfl (boxc (hS.boxAt 0 rfl) 1 2)) (by decide) ?_
            refine ql_on rfl (bnot_t hb157) ?_
            replace hF := ob hF
            obtain ⟨r158, hr158, hF⟩ := hF
            refine ql_call (.bool r158) goes55 (fun w' hw' => spec_IsValidRelation_ok (rd_up (hS.up hr133) hw') hr158) (congrArg List.toArray (mapc rfl rfl)) (by decide) ?_
            refine ql_on rfl (bnot_t hb157) ?_
            refine ql_pv (v := .bool (!r158)) (pv_not rfl) (by decide) ?_
            refine ql_pv (v := .bool (!r158)) (pv_pick_f rfl (bnot_t hb157) rfl) (by decide) ?_
            refine ql_pv (v := .bool (!r158)) (pv_move rfl) (by decide) ?_
            replace hF := oif hF
            rcases hF with ⟨hb159, hF⟩ | ⟨hb159, hF⟩
            · refine ql_on rfl (bnot_t hb159) ?_
              refine ql_pv (v := .pointer (some ⟨b136, 0 + 1, none⟩)) (pv_fieldAddr rfl) (by decide) ?_
              refine ql_on rfl (bnot_t hb159) ?_
              refine ql_pv (v := .pointer (some ⟨b136, 0 + 1 + 1, none⟩)) (pv_fieldAddr rfl) (by decide) ?_
              refine ql_on rfl (bnot_t hb159) ?_
              refine ql_pv (v := v134) (pv_loadc rfl ((hS.boxAt 0 rfl) 2 _ rfl)) (by decide) ?_
              refine ql_on rfl (bnot_t hb159) ?_
              refine ql_pv (v := .int .i64 (x123.2.2.length : Int)) (pv_len rfl hr133) (by decide) ?_
              refine ql_on rfl (bnot_t hb159) ?_
              refine ql_pv (v := .bool (decide (16 < (x123.2.2.length : Int)))) (pv_gtr rfl rfl) (by decide) ?_
              refine ql_pv (v := .bool (decide (16 < (x123.2.2.length : Int)))) (pv_pick_f rfl (bnot_t hb159) rfl) (by decide) ?_
              refine ql_pv (v := .bool (decide (16 < (x123.2.2.length : Int)))) (pv_move rfl) (by decide) ?_
              replace hF := oif hF
              rcases hF with ⟨hb160, hF⟩ | ⟨hb160, hF⟩
              · refine ql_off rfl hb160 rfl (by decide) ?_
                refine ql_off rfl hb160 rfl (by decide) ?_
                refine ql_off rfl hb160 rfl (by decide) ?_
                refine ql_off rfl hb160 rfl (by decide) ?_
                refine ql_pv (v := .bool true) (pv_pick_t rfl hb160 rfl) (by decide) ?_
                refine ql_nil ?_
                intro w161 hx162
                replace hS := hS.ext hx162
                refine hQ140 _ _ _ ?_
                refine thn_n ?_
                refine cw_cond_t rfl rfl ?_
                refine cw_seq ?_
                refine cw_gen ?_
                intro Q163 hQ163
                replace hS : Sat w0 w161 [] := hS.rems 2 [0, 1] rfl
                refine cw_reg ?_
                refine el_pv (v := .bool false) (pv_assign rfl) (by decide) ?_
                refine el_nil ?_
                refine hQ163 _ _ _ ?_
                refine thn_n ?_
                refine cw_ret ?_
                refine hQ121 _ _ _ ?_
                refine inb_r ?_
                refine hQ120 _ _ _ ?_
                refine thn_r ?_
                refine hQ116 _ _ _ ?_
                refine thn_r ?_
                refine hQ108 _ _ _ ?_
                refine inb_r ?_
                refine hQ106 _ _ _ ?_
                refine thn_r ?_
                replace hF := exL hF hK110
                refine fin1 rfl rfl ?_
                have hr := Option.some.inj hF
                exact ⟨congrArg (fun (r : Bool) => Ending.returned (.bool r)) hr, hS.below⟩
              · refine ql_on rfl hb160 ?_
                refine ql_pv (v := .pointer (some ⟨b136, 0 + 1, none⟩)) (pv_fieldAddr rfl) (by decide) ?_
                refine ql_on rfl hb160 ?_
                refine ql_pv (v := .pointer (some ⟨b136, 0 + 1 + 0, none⟩)) (pv_fieldAddr rfl) (by decide) ?_
                refine ql_on rfl hb160 ?_
                refine ql_pv (v := .int .i64 x123.2.1) (pv_loadc rfl ((hS.boxAt 0 rfl) 1 _ rfl)) (by decide) ?_
                refine ql_on rfl hb160 ?_
                refine ql_pv (v := .bool (decide (x123.2.1 < 1))) (pv_lss rfl rfl) (by decide) ?_
                refine ql_pv (v := .bool (decide (x123.2.1 < 1))) (pv_pick_f rfl hb160 rfl) (by decide) ?_
                refine ql_nil ?_
                intro w164 hx165
                replace hS := hS.ext hx165
                refine hQ140 _ _ _ ?_
                refine thn_n ?_
                replace hF := oif hF
                rcases hF with ⟨hb166, hF⟩ | ⟨hb166, hF⟩
                · refine cw_cond_t rfl hb166 ?_
                  refine cw_seq ?_
                  refine cw_gen ?_
                  intro Q167 hQ167
                  replace hS : Sat w0 w164 [] := hS.rems 2 [0, 1] rfl
                  refine cw_reg ?_
                  refine el_pv (v := .bool false) (pv_assign rfl) (by decide) ?_
                  refine el_nil ?_
                  refine hQ167 _ _ _ ?_
                  refine thn_n ?_
                  refine cw_ret ?_
                  refine hQ121 _ _ _ ?_
                  refine inb_r ?_
                  refine hQ120 _ _ _ ?_
                  refine thn_r ?_
                  refine hQ116 _ _ _ ?_
                  refine thn_r ?_
                  refine hQ108 _ _ _ ?_
                  refine inb_r ?_
                  refine hQ106 _ _ _ ?_
                  refine thn_r ?_
                  replace hF := exL hF hK110
                  refine fin1 rfl rfl ?_
                  have hr := Option.some.inj hF
                  exact ⟨congrArg (fun (r : Bool) => Ending.returned (.bool r)) hr, hS.below⟩
                · refine cw_cond_f rfl hb166 ?_
                  refine cw_skip ?_
                  refine hQ121 _ _ _ ?_
                  refine inb_n ?_
                  refine hQ120 _ _ _ ?_
                  refine thn_n ?_
                  replace hS : Sat w0 w164 [Box b103 44 [u0]] := hS.rems 2 [0] rfl
                  refine cw_reg ?_
                  refine el_pv (v := .int .i64 x111) (pv_move he113) (by decide) ?_
                  replace hF := ob hF
                  obtain ⟨x168, hx168, hF⟩ := hF
                  refine el_pv (v := .int .i64 x168) (pv_add rfl rfl hx168) (by decide) ?_
                  refine el_pv (v := .int .i64 x168) (pv_assign rfl) (by decide) ?_
                  refine el_nil ?_
                  refine hQ116 _ _ _ ?_
                  refine thn_n ?_
                  replace hS := hS.keep 1
                  exact ⟨x168, he112, rfl, hS, hF⟩
            · refine ql_off rfl (bnot_f hb159) rfl (by decide) ?_
              refine ql_off rfl (bnot_f hb159) rfl (by decide) ?_
              refine ql_off rfl (bnot_f hb159) rfl (by decide) ?_
              refine ql_off rfl (bnot_f hb159) rfl (by decide) ?_
              refine ql_off rfl (bnot_f hb159) rfl (by decide) ?_
              refine ql_pv (v := .bool true) (pv_pick_t rfl (bnot_f hb159) rfl) (by decide) ?_
              refine ql_pv (v := .bool true) (pv_move rfl) (by decide) ?_
              refine ql_off rfl rfl rfl (by decide) ?_
              refine ql_off rfl rfl rfl (by decide) ?_
              refine ql_off rfl rfl rfl (by decide) ?_
              refine ql_off rfl rfl rfl (by decide) ?_
              refine ql_pv (v := .bool true) (pv_pick_t rfl rfl rfl) (by decide) ?_
              refine ql_nil ?_
              intro w169 hx170
              replace hS := hS.ext hx170
              refine hQ140 _ _ _ ?_
              refine thn_n ?_
              refine cw_cond_t rfl rfl ?_
              refine cw_seq ?_
              refine cw_gen ?_
              intro Q171 hQ171
              replace hS : Sat w0 w169 [] := hS.rems 2 [0, 1] rfl
              refine cw_reg ?_
              refine el_pv (v := .bool false) (pv_assign rfl) (by decide) ?_
              refine el_nil ?_
              refine hQ171 _ _ _ ?_
              refine thn_n ?_
              refine cw_ret ?_
              refine hQ121 _ _ _ ?_
              refine inb_r ?_
              refine hQ120 _ _ _ ?_
              refine thn_r ?_
              refine hQ116 _ _ _ ?_
              refine thn_r ?_
              refine hQ108 _ _ _ ?_
              refine inb_r ?_
              refine hQ106 _ _ _ ?_
              refine thn_r ?_
              replace hF := exL hF hK110
              refine fin1 rfl rfl ?_
              have hr := Option.some.inj hF
              exact ⟨congrArg (fun (r : Bool) => Ending.returned (.bool r)) hr, hS.below⟩
          · refine ql_off rfl (bnot_f hb157) rfl (by decide) ?_
            refine ql_off rfl (bnot_f hb157) rfl (by decide) ?_
            refine ql_off rfl (bnot_f hb157) rfl (by decide) ?_
            refine ql_off rfl (bnot_f hb157) rfl (by decide) ?_
            refine ql_pv (v := .bool true) (pv_pick_t rfl (bnot_f hb157) rfl) (by decide) ?_
            refine ql_pv (v := .bool true) (pv_move rfl) (by decide) ?_
            refine ql_off rfl rfl rfl (by decide) ?_
            refine ql_off rfl rfl rfl (by decide) ?_
            refine ql_off rfl rfl rfl (by decide) ?_
            refine ql_off rfl rfl rfl (by decide) ?_
            refine ql_off rfl rfl rfl (by decide) ?_
            refine ql_pv (v := .bool true) (pv_pick_t rfl rfl rfl) (by decide) ?_
            refine ql_pv (v := .bool true) (pv_move rfl) (by decide) ?_
            refine ql_off rfl rfl rfl (by decide) ?_
            refine ql_off rfl rfl rfl (by decide) ?_
            refine ql_off rfl rfl rfl (by decide) ?_
            refine ql_off rfl rfl rfl (by decide) ?_
            refine ql_pv (v := .bool true) (pv_pick_t rfl rfl rfl) (by decide) ?_
            refine ql_nil ?_
            intro w172 hx173
            replace hS := hS.ext hx173
            refine hQ140 _ _ _ ?_
            refine thn_n ?_
            refine cw_cond_t rfl rfl ?_
            refine cw_seq ?_
            refine cw_gen ?_
            intro Q174 hQ174
            replace hS : Sat w0 w172 [] := hS.rems 2 [0, 1] rfl
            refine cw_reg ?_
            refine el_pv (v := .bool false) (pv_assign rfl) (by decide) ?_
            refine el_nil ?_
            refine hQ174 _ _ _ ?_
            refine thn_n ?_
            refine cw_ret ?_
            refine hQ121 _ _ _ ?_
            refine inb_r ?_
            refine hQ120 _ _ _ ?_
            refine thn_r ?_
            refine hQ116 _ _ _ ?_
            refine thn_r ?_
            refine hQ108 _ _ _ ?_
            refine inb_r ?_
            refine hQ106 _ _ _ ?_
            refine thn_r ?_
            replace hF := exL hF hK110
            refine fin1 rfl rfl ?_
            have hr := Option.some.inj hF
            exact ⟨congrArg (fun (r : Bool) => Ending.returned (.bool r)) hr, hS.below⟩
        · refine ql_off rfl hb143 rfl (by decide) ?_
          refine ql_off rfl hb143 rfl (by decide) ?_
          refine ql_off rfl hb143 rfl (by decide) ?_
          refine ql_off rfl hb143 rfl (by decide) ?_
          refine ql_off rfl hb143 rfl (by decide) ?_
          refine ql_off rfl hb143 rfl (by decide) ?_
          refine ql_off rfl hb143 rfl (by decide) ?_
          refine ql_off rfl hb143 rfl (by decide) ?_
          refine ql_off rfl hb143 rfl (by decide) ?_
          refine ql_off rfl hb143 rfl (by decide) ?_
          refine ql_on rfl (bnot_t hb142) ?_
          refine ql_pv (v := .bool false) (pv_pick_f rfl hb143 rfl) (by decide) ?_
          refine ql_pv (v := .bool false) (pv_pick_f rfl (bnot_t hb142) rfl) (by decide) ?_
          refine ql_pv (v := .bool false) (pv_move rfl) (by decide) ?_
          refine ql_on rfl rfl ?_
          refine ql_pv (v := .pointer (some ⟨b136, 0 + 1, none⟩)) (pv_fieldAddr rfl) (by decide) ?_
          refine ql_on rfl rfl ?_
          refine ql_pv (v := .agg #[.int .i64 x123.2.1, v134]) (pv_loada (cs := [.int .i64 x123.2.1, v134]) rfl rfl (boxc (hS.boxAt 0 rfl) 1 2)) (by decide) ?_
          refine ql_on rfl rfl ?_
          replace hF := ob hF
          obtain ⟨r175, hr175, hF⟩ := hF
          refine ql_call (.bool r175) goes55 (fun w' hw' => spec_IsValidRelation_ok (rd_up (hS.up hr133) hw') hr175) (congrArg List.toArray (mapc rfl rfl)) (by decide) ?_
          refine ql_on rfl rfl ?_
          refine ql_pv (v := .bool (!r175)) (pv_not rfl) (by decide) ?_
          refine ql_pv (v := .bool (!r175)) (pv_pick_f rfl rfl rfl) (by decide) ?_
          refine ql_pv (v := .bool (!r175)) (pv_move rfl) (by decide) ?_
          replace hF := oif hF
          rcases hF with ⟨hb176, hF⟩ | ⟨hb176, hF⟩
          · refine ql_on rfl (bnot_t hb176) ?_
            refine ql_pv (v := .pointer (some ⟨b136, 0 + 1, none⟩)) (pv_fieldAddr rfl) (by decide) ?_
            refine ql_on rfl (bnot_t hb176) ?_
            refine ql_pv (v := .pointer (some ⟨b136, 0 + 1 + 1, none⟩)) (pv_fieldAddr rfl) (by decide) ?_
            refine ql_on rfl (bnot_t hb176) ?_
            refine ql_pv (v := v134) (pv_loadc rfl ((hS.boxAt 0 rfl) 2 _ rfl)) (by decide) ?_
            refine ql_on rfl (bnot_t hb176) ?_
            refine ql_pv (v := .int .i64 (x123.2.2.length : Int)) (pv_len rfl hr133) (by decide) ?_
            refine ql_on rfl (bnot_t hb176) ?_
            refine ql_pv (v := .bool (decide (16 < (x123.2.2.length : Int)))) (pv_gtr rfl rfl) (by decide) ?_
            refine ql_pv (v := .bool (decide (16 < (x123.2.2.length : Int)))) (pv_pick_f rfl (bnot_t hb176) rfl) (by decide) ?_
            refine ql_pv (v := .bool (decide (16 < (x123.2.2.length : Int)))) (pv_move rfl) (by decide) ?_
            replace hF := oif hF
            rcases hF with ⟨hb177, hF⟩ | ⟨hb177, hF⟩
            · refine ql_off rfl hb177 rfl (by decide) ?_
              refine ql_off rfl hb177 rfl (by decide) ?_
              refine ql_off rfl hb177 rfl (by decide) ?_
              refine ql_off rfl hb177 rfl (by decide) ?_
              refine ql_pv (v := .bool true) (pv_pick_t rfl hb177 rfl) (by decide) ?_
              refine ql_nil ?_
              intro w178 hx179
              replace hS := hS.ext hx179
              refine hQ140 _ _ _ ?_
              refine thn_n ?_
              refine cw_cond_t rfl rfl ?_
              refine cw_seq ?_
              refine cw_gen ?_
              intro Q180 hQ180
              replace hS : Sat w0 w178 [] := hS.rems 2 [0, 1] rfl
              refine cw_reg ?_
              refine el_pv (v := .bool false) (pv_assign rfl) (by decide) ?_
              refine el_nil ?_
              refine hQ180 _ _ _ ?_
              refine thn_n ?_
              refine cw_ret ?_
              refine hQ121 _ _ _ ?_
              refine inb_r ?_
              refine hQ120 _ _ _ ?_
              refine thn_r ?_
              refine hQ116 _ _ _ ?_
              refine thn_r ?_
              refine hQ108 _ _ _ ?_
              refine inb_r ?_
              refine hQ106 _ _ _ ?_
              refine thn_r ?_
              replace hF := exL hF hK110
              refine fin1 rfl rfl ?_
              have hr := Option.some.inj hF
              exact ⟨congrArg (fun (r : Bool) => Ending.returned (.bool r)) hr, hS.below⟩
            · refine ql_on rfl hb177 ?_
              refine ql_pv (v := .pointer (some ⟨b136, 0 + 1, none⟩)) (pv_fieldAddr rfl) (by decide) ?_
              refine ql_on rfl hb177 ?_
              refine ql_pv (v := .pointer (some ⟨b136, 0 + 1 + 0, none⟩)) (pv_fieldAddr rfl) (by decide) ?_
              refine ql_on rfl hb177 ?_
              refine ql_pv (v := .int .i64 x123.2.1) (pv_loadc rfl ((hS.boxAt 0 rfl) 1 _ rfl)) (by decide) ?_
              refine ql_on rfl hb177 ?_
              refine ql_pv (v := .bool (decide (x123.2.1 < 1))) (pv_lss rfl rfl) (by decide) ?_
              refine ql_pv (v := .bool (decide (x123.2.1 < 1))) (pv_pick_f rfl hb177 rfl) (by decide) ?_
              refine ql_nil ?_
              intro w181 hx182
              replace hS := hS.ext hx182
              refine hQ140 _ _ _ ?_
              refine thn_n ?_
              replace hF := oif hF
              rcases hF with ⟨hb183, hF⟩ | ⟨hb183, hF⟩
              · refine cw_cond_t rfl hb183 ?_
                refine cw_seq ?_
                refine cw_gen ?_
                intro Q184 hQ184
                replace hS : Sat w0 w181 [] := hS.rems 2 [0, 1] rfl
                refine cw_reg ?_
                refine el_pv (v := .bool false) (pv_assign rfl) (by decide) ?_
                refine el_nil ?_
                refine hQ184 _ _ _ ?_
                refine thn_n ?_
                refine cw_ret ?_
                refine hQ121 _ _ _ ?_
                refine inb_r ?_
                refine hQ120 _ _ _ ?_
                refine thn_r ?_
                refine hQ116 _ _ _ ?_
                refine thn_r ?_
                refine hQ108 _ _ _ ?_
                refine inb_r ?_
                refine hQ106 _ _ _ ?_
                refine thn_r ?_
                replace hF := exL hF hK110
                refine fin1 rfl rfl ?_
                have hr := Option.some.inj hF
                exact ⟨congrArg (fun (r : Bool) => Ending.returned (.bool r)) hr, hS.below⟩
              · refine cw_cond_f rfl hb183 ?_
                refine cw_skip ?_
                refine hQ121 _ _ _ ?_
                refine inb_n ?_
                refine hQ120 _ _ _ ?_
                refine thn_n ?_
                replace hS : Sat w0 w181 [Box b103 44 [u0]] := hS.rems 2 [0] rfl
                refine cw_reg ?_
                refine el_pv (v := .int .i64 x111) (pv_move he113) (by decide) ?_
                replace hF := ob hF
                obtain ⟨x185, hx185, hF⟩ := hF
                refine el_pv (v := .int .i64 x185) (pv_add rfl rfl hx185) (by decide) ?_
                refine el_pv (v := .int .i64 x185) (pv_assign rfl) (by decide) ?_
                refine el_nil ?_
                refine hQ116 _ _ _ ?_
                refine thn_n ?_
                replace hS := hS.keep 1
                exact ⟨x185, he112, rfl, hS, hF⟩
          · refine ql_off rfl (bnot_f hb176) rfl (by decide) ?_
            refine ql_off rfl (bnot_f hb176) rfl (by decide) ?_
            refine ql_off rfl (bnot_f hb176) rfl (by decide) ?_
            refine ql_off rfl (bnot_f hb176) rfl (by decide) ?_
            refine ql_off rfl (bnot_f hb176) rfl (by decide) ?_
            refine ql_pv (v := .bool true) (pv_pick_t rfl (bnot_f hb176) rfl) (by decide) ?_
            refine ql_pv (v := .bool true) (pv_move rfl) (by decide) ?_
            refine ql_off rfl rfl rfl (by decide) ?_
            refine ql_off rfl rfl rfl (by decide) ?_
            refine ql_off rfl rfl rfl (by decide) ?_
            refine ql_off rfl rfl rfl (by decide) ?_
            refine ql_pv (v := .bool true) (pv_pick_t rfl rfl rfl) (by decide) ?_
            refine ql_nil ?_
            intro w186 hx187
            replace hS := hS.ext hx187
            refine hQ140 _ _ _ ?_
            refine thn_n ?_
            refine cw_cond_t rfl rfl ?_
            refine cw_seq ?_
            refine cw_gen ?_
            intro Q188 hQ188
            replace hS : Sat w0 w186 [] := hS.rems 2 [0, 1] rfl
            refine cw_reg ?_
            refine el_pv (v := .bool false) (pv_assign rfl) (by decide) ?_
            refine el_nil ?_
            refine hQ188 _ _ _ ?_
            refine thn_n ?_
            refine cw_ret ?_
            refine hQ121 _ _ _ ?_
            refine inb_r ?_
            refine hQ120 _ _ _ ?_
            refine thn_r ?_
            refine hQ116 _ _ _ ?_
            refine thn_r ?_
            refine hQ108 _ _ _ ?_
            refine inb_r ?_
            refine hQ106 _ _ _ ?_
            refine thn_r ?_
            replace hF := exL hF hK110
            refine fin1 rfl rfl ?_
            have hr := Option.some.inj hF
            exact ⟨congrArg (fun (r : Bool) => Ending.returned (.bool r)) hr, hS.below⟩
      · refine ql_off rfl (bnot_f hb142) rfl (by decide) ?_
        refine ql_off rfl (bnot_f hb142) rfl (by decide) ?_
        refine ql_off rfl (bnot_f hb142) rfl (by decide) ?_
        refine ql_offu rfl (by decide) ?_
        refine ql_offu rfl (by decide) ?_
        refine ql_offu rfl (by decide) ?_
        refine ql_offu rfl (by decide) ?_
        refine ql_offu rfl (by decide) ?_
        refine ql_offu rfl (by decide) ?_
        refine ql_offu rfl (by decide) ?_
        refine ql_offu rfl (by decide) ?_
        refine ql_offu rfl (by decide) ?_
        refine ql_offu rfl (by decide) ?_
        refine ql_off rfl (bnot_f hb142) rfl (by decide) ?_
        refine ql_pv (v := .bool true) (pv_pick_t rfl (bnot_f hb142) rfl) (by decide) ?_
        refine ql_pv (v := .bool true) (pv_move rfl) (by decide) ?_
        refine ql_off rfl rfl rfl (by decide) ?_
        refine ql_off rfl rfl rfl (by decide) ?_
        refine ql_off rfl rfl rfl (by decide) ?_
        refine ql_off rfl rfl rfl (by decide) ?_
        refine ql_pv (v := .bool true) (pv_pick_t rfl rfl rfl) (by decide) ?_
        refine ql_pv (v := .bool true) (pv_move rfl) (by decide) ?_
        refine ql_off rfl rfl rfl (by decide) ?_
        refine ql_off rfl rfl rfl (by decide) ?_
        refine ql_off rfl rfl rfl (by decide) ?_
        refine ql_off rfl rfl rfl (by decide) ?_
        refine ql_off rfl rfl rfl (by decide) ?_
        refine ql_pv (v := .bool true) (pv_pick_t rfl rfl rfl) (by decide) ?_
        refine ql_pv (v := .bool true) (pv_move rfl) (by decide) ?_
        refine ql_off rfl rfl rfl (by decide) ?_
        refine ql_off rfl rfl rfl (by decide) ?_
        refine ql_off rfl rfl rfl (by decide) ?_
        refine ql_off rfl rfl rfl (by decide) ?_
        refine ql_pv (v := .bool true) (pv_pick_t rfl rfl rfl) (by decide) ?_
        refine ql_nil ?_
        intro w189 hx190
        replace hS := hS.ext hx190
        refine hQ140 _ _ _ ?_
        refine thn_n ?_
        refine cw_cond_t rfl rfl ?_
        refine cw_seq ?_
        refine cw_gen ?_
        intro Q191 hQ191
        replace hS : Sat w0 w189 [] := hS.rems 2 [0, 1] rfl
        refine cw_reg ?_
        refine el_pv (v := .bool false) (pv_assign rfl) (by decide) ?_
        refine el_nil ?_
        refine hQ191 _ _ _ ?_
        refine thn_n ?_
        refine cw_ret ?_
        refine hQ121 _ _ _ ?_
        refine inb_r ?_
        refine hQ120 _ _ _ ?_
        refine thn_r ?_
        refine hQ116 _ _ _ ?_
        refine thn_r ?_
        refine hQ108 _ _ _ ?_
        refine inb_r ?_
        refine hQ106 _ _ _ ?_
        refine thn_r ?_
        replace hF := exL hF hK110
        refine fin1 rfl rfl ?_
        have hr := Option.some.inj hF
        exact ⟨congrArg (fun (r : Bool) => Ending.returned (.bool r)) hr, hS.below⟩
    · refine cw_cond_f rfl hb119 ?_
      refine cw_exit ?_
      refine hQ117 _ _ _ ?_
      refine thn_x ?_
      refine hQ116 _ _ _ ?_
      refine thn_x ?_
      replace hF := exA hF hK110
      refine hQ108 _ _ _ ?_
      refine inb_s ?_
      refine hQ106 _ _ _ ?_
      refine thn_n ?_
      refine cw_seq ?_
      refine cw_gen ?_
      intro Q192 hQ192
      refine cw_reg ?_
      refine el_pv (v := .pointer (some ⟨b103, 0 + 0, none⟩)) (pv_fieldAddr he112) (by decide) ?_
      refine el_pv (v := u0) (pv_loadc rfl ((hS.boxAt 0 rfl) 0 _ rfl)) (by decide) ?_
      refine el_pv (v := .int .i64 (a0.length : Int)) (pv_len rfl ha0) (by decide) ?_
      refine el_pv (v := .bool (decide ((a0.length : Int) ≤ 6))) (pv_leq rfl rfl) (by decide) ?_
      refine el_pv (v := .bool (decide ((a0.length : Int) ≤ 6))) (pv_assign rfl) (by decide) ?_
      refine el_nil ?_
      refine hQ192 _ _ _ ?_
      refine thn_n ?_
      refine cw_ret ?_
      refine fin1 rfl rfl ?_
      have hr := Option.some.inj hF
      exact ⟨congrArg (fun (r : Bool) => Ending.returned (.bool r)) hr, hS.below⟩
set_option maxHeartbeats 4000000 in
theorem spec_l5Copy_ok {w0 : World} {a0 : Int} {u1 : Value} {a1 : List (List Int)} (ha1 : (sliceR (sliceR intR 3) 24).rd w0 [u1] a1) {N : Nat} {r : Int × List (List Int)} (hF : spec_l5Copy N a0 a1 = some r) :
    Calls Try.prog 57 #[.agg #[.int .i64 a0, u1]] w0 fun e w' => ∃ (q0 : Value), e = .returned (.agg #[.int .i64 r.1, q0]) ∧ Sat w0 w' [Own (sliceR (sliceR intR 3) 24) [q0] r.2] := by
  unfold spec_l5Copy at hF
  refine calls_E Try.func57 rfl rfl (of_decide_eq_true rfl) ?_
  have hS := Sat.start w0
  refine cw_seq ?_
  refine cw_gen ?_
  intro Q101 hQ101
  refine cw_reg ?_
  refine el_box [.int .i64 a0, u1] rfl hS (by decide) ?_
  intro w102 b103 hS hx104
  refine el_alloc hS (by decide) ?_
  intro w106 b107 hS hx108
  refine el_nil ?_
  refine hQ101 _ _ _ ?_
  refine thn_n ?_
  refine cw_seq ?_
  refine cw_gen ?_
  intro Q110 hQ110
  refine cw_reg ?_
  refine el_pv (v := .pointer (some ⟨b103, 0 + 0, none⟩)) (pv_fieldAddr rfl) (by decide) ?_
  refine el_pv (v := .int .i64 a0) (pv_loadc rfl ((hS.boxAt 1 rfl) 0 _ rfl)) (by decide) ?_
  refine el_pv (v := .agg #[.int .i64 a0, (.slice none 0 0)]) (pv_build [(0, [.int .i64 a0])] [.int .i64 a0, (.slice none 0 0)] (partc rfl rfl) rfl) (by decide) ?_
  refine el_alloc hS (by decide) ?_
  intro w111 b112 hS hx113
  refine el_storev (hS.top 0 rfl) rfl [.int .i64 a0, (.slice none 0 0)] rfl rfl (of_decide_eq_true rfl) (all_cons rfl (all_cons rfl rfl)) ?_
  intro w115 hS
  replace hS : Sat w0 w115 [Box b112 46 [.int .i64 a0, (.slice none 0 0)], Box b107 46 [.int .i64 0, (.slice none 0 0)], Box b103 46 [.int .i64 a0, u1]] := hS
  refine el_nil ?_
  refine hQ110 _ _ _ ?_
  refine thn_n ?_
  refine cw_seq ?_
  refine cw_gen ?_
  intro Q116 hQ116
  refine cw_seq ?_
  refine cw_gen ?_
  intro Q117 hQ117
  refine cw_reg ?_
  refine el_pv (v := .int .i64 0) (pv_assign rfl) (by decide) ?_
  refine el_nil ?_
  refine hQ117 _ _ _ ?_
  refine thn_n ?_
  refine cw_block ?_
  refine cw_gen ?_
  intro Q118 hQ118
  replace hS := hS.nil (sliceR intR 3) 24
  obtain ⟨s120, hL, hK121⟩ := ob hF
  refine cw_loopS (fun k e w => ∃ (v123 : Value), ∃ (x122 : List (List Int)), ∃ (x124 : Int), e 1 = .pointer (some ⟨b103, 0, none⟩) ∧ e 2 = .pointer (some ⟨b107, 0, none⟩) ∧ e 3 = .pointer (some ⟨b112, 0, none⟩) ∧ e 4 = .int .i64 x124 ∧ Sat w0 w [Own (sliceR (sliceR intR 3) 24) [v123] x122, Box b112 46 [.int .i64 a0, v123], Box b107 46 [.int .i64 0, (.slice none 0 0)], Box b103 46 [.int .i64 a0, u1]] ∧ spec_l5Copy_L1 N k a0 a1 0 [] a0 x122 x124 = some s120) N ?_ ?_ ?_
  · exact ⟨(.slice none 0 0), [], 0, rfl, rfl, rfl, rfl, hS, hL⟩
  · rintro e w ⟨_, _, _, _, _, _, _, _, hz⟩; exact nomatch (show none = some _ from hz)
  · rintro k e130 w129 ⟨v123, x122, x124, he125, he126, he127, he128, hS, hF⟩
    refine cw_gen ?_
    intro Q131 hQ131
    refine cw_seq ?_
    refine cw_gen ?_
    intro Q132 hQ132
    refine cw_seq ?_
    refine cw_gen ?_
    intro Q133 hQ133
    refine cw_reg ?_
    refine el_pv (v := .int .i64 x124) (pv_move he128) (by decide) ?_
    refine el_pv (v := .pointer (some ⟨b103, 0 + 1, none⟩)) (pv_fieldAddr he125) (by decide) ?_
    refine el_pv (v := u1) (pv_loadc rfl ((hS.boxAt 3 rfl) 1 _ rfl)) (by decide) ?_
    refine el_pv (v := .int .i64 (a1.length : Int)) (pv_len rfl ha1) (by decide) ?_
    refine el_pv (v := .bool (decide (x124 < (a1.length : Int)))) (pv_lss rfl rfl) (by decide) ?_
    refine el_nil ?_
    refine hQ133 _ _ _ ?_
    refine thn_n ?_
    replace hF := oif hF
    rcases hF with ⟨hb134, hF⟩ | ⟨hb134, hF⟩
    · refine cw_cond_t rfl hb134 ?_
      refine cw_skip ?_
      refine hQ132 _ _ _ ?_
      refine thn_n ?_
      refine cw_seq ?_
      refine cw_gen ?_
      intro Q135 hQ135
      refine cw_block ?_
      refine cw_gen ?_
      intro Q136 hQ136
      obtain ⟨C, hCd⟩ : ∃ C : World → Prop, ∀ w, C w ↔ ∃ G, Sat w0 w ([Box b112 46 [.int .i64 a0, v123], Box b103 46 [.int .i64 a0, u1]] ++ G) := ⟨_, fun _ => Iff.rfl⟩
      refine cw_regb [0, 1, 2, 3, 4, 5, 6, 7, 8, 9, 10, 11] C (by kernel_rfl) ?_
      intro w137 hx138
      replace hS := hS.ext hx138
      replace hS : Sat w0 w137 [Box b112 46 [.int .i64 a0, v123], Box b103 46 [.int .i64 a0, u1], Own (sliceR (sliceR intR 3) 24) [v123] x122, Box b107 46 [.int .i64 0, (.slice none 0 0)]] := hS.tops 4 [1, 3] rfl
      have hC := (hCd _).2 ⟨_, hS⟩
      refine al_p (v := .pointer (some ⟨b112, 0 + 1, none⟩)) (by kernel_rfl) 0 rfl rfl (by decide) hC (by kernel_rfl) (by kernel_rfl) (sv_on rfl (fun w' hw' => by obtain ⟨_, hS⟩ := (hCd _).1 hw'; exact (pv_fieldAddr he127))) ?_
      refine al_p (v := v123) (by kernel_rfl) 1 rfl rfl (by decide) hC (by kernel_rfl) (by kernel_rfl) (sv_on rfl (fun w' hw' => by obtain ⟨_, hS⟩ := (hCd _).1 hw'; exact (pv_loadc rfl ((hS.boxAt 0 rfl) 1 _ rfl)))) ?_
      refine al_p (v := .pointer (some ⟨b103, 0 + 1, none⟩)) (by kernel_rfl) 3 rfl rfl (by decide) hC (by kernel_rfl) (by kernel_rfl) (sv_on rfl (fun w' hw' => by obtain ⟨_, hS⟩ := (hCd _).1 hw'; exact (pv_fieldAddr he125))) ?_
      refine al_p (v := u1) (by kernel_rfl) 4 rfl rfl (by decide) hC (by kernel_rfl) (by kernel_rfl) (sv_on rfl (fun w' hw' => by obtain ⟨_, hS⟩ := (hCd _).1 hw'; exact (pv_loadc rfl ((hS.boxAt 1 rfl) 1 _ rfl)))) ?_
      refine al_p (v := .int .i64 x124) (by kernel_rfl) 5 rfl rfl (by decide) hC (by kernel_rfl) (by kernel_rfl) (sv_on rfl (fun w' hw' => by obtain ⟨_, hS⟩ := (hCd _).1 hw'; exact (pv_move he128))) ?_
      replace hF := ob hF
      obtain ⟨x139, hx139, hF⟩ := hF
      refine al_index (wA := w0) (by kernel_rfl) 6 rfl hC (by kernel_rfl) (by kernel_rfl) rfl ha1 rfl (by decide) rfl hx139 (by decide) ?_
      intro b140 of141 c142 hr143 hm144
      obtain ⟨v145, rfl⟩ := slice_one hr143
      refine al_p (v := v145) (by kernel_rfl) 7 rfl rfl (by decide) hC (by kernel_rfl) (by kernel_rfl) (sv_on rfl (fun w' hw' => by obtain ⟨_, hS⟩ := (hCd _).1 hw'; exact (pv_loadc rfl ((cells_up hS.below hm144) 0 _ rfl)))) ?_
      refine al_one 2 (by kernel_rfl) rfl ?_
      refine el_buildSlice0 intR hS (by decide) ?_
      intro w146 v148 hS hx147
      refine el_nil ?_
      replace hS : Sat w0 w146 [Box b112 46 [.int .i64 a0, v123], Box b103 46 [.int .i64 a0, u1], Own (sliceR intR 3) [v148] [], Own (sliceR (sliceR intR 3) 24) [v123] x122, Box b107 46 [.int .i64 0, (.slice none 0 0)]] := hS.tops 5 [1, 2] rfl
      have hC := (hCd _).2 ⟨_, hS⟩
      refine ⟨fun _ => hC, ?_⟩
      refine al_one 8 (by kernel_rfl) rfl ?_
      replace hF := ob hF
      obtain ⟨x152, hx152, hF⟩ := hF
      obtain ⟨ao153, c154, hv155, hn156, hrow157⟩ := row_ints (hS.up hr143)
      replace hS : Sat w0 w146 [Own (sliceR intR 3) [v148] [], Box b112 46 [.int .i64 a0, v123], Box b103 46 [.int .i64 a0, u1], Own (sliceR (sliceR intR 3) 24) [v123] x122, Box b107 46 [.int .i64 0, (.slice none 0 0)]] := hS.top 2 rfl
      replace hS := hS.ints (xs := x139)
      refine el_append rfl (by decide) rfl (by decide) hS rfl (rfl.trans hv155) rfl hn156 hrow157 hx152 (by decide) ?_
      intro w150 v151 hS
      refine el_nil ?_
      replace hS : Sat w0 w150 [Box b112 46 [.int .i64 a0, v123], Box b103 46 [.int .i64 a0, u1], Own (sliceR intR 3) [v151] x152, Own (sliceR (sliceR intR 3) 24) [v123] x122, Box b107 46 [.int .i64 0, (.slice none 0 0)]] := hS.tops 5 [1, 2] rfl
      have hC := (hCd _).2 ⟨_, hS⟩
      refine ⟨fun _ => hC, ?_⟩
      refine al_one 9 (by kernel_rfl) rfl ?_
      refine el_buildSlice1 [v151] (cells_of rfl (oc (hS.rdAt (R := (sliceR intR 3)) 2 rfl))) (by rfl) (by decide) rfl (by decide) hS (by decide) ?_
      intro w159 b161 hS hx160
      refine el_nil ?_
      replace hS : Sat w0 w159 [Box b112 46 [.int .i64 a0, v123], Box b103 46 [.int .i64 a0, u1], Box b161 24 [v151], Own (sliceR intR 3) [v151] x152, Own (sliceR (sliceR intR 3) 24) [v123] x122, Box b107 46 [.int .i64 0, (.slice none 0 0)]] := hS.tops 6 [1, 2] rfl
      have hC := (hCd _).2 ⟨_, hS⟩
      refine ⟨fun _ => hC, ?_⟩
      refine al_one 10 (by kernel_rfl) rfl ?_
      replace hF := ob hF
      obtain ⟨x165, hx165, hF⟩ := hF
      have hrow166 := hS.boxRow 2 rfl
      replace hS : Sat w0 w159 [Own (sliceR (sliceR intR 3) 24) [v123] x122, Box b112 46 [.int .i64 a0, v123], Box b103 46 [.int .i64 a0, u1], Box b161 24 [v151], Own (sliceR intR 3) [v151] x152, Box b107 46 [.int .i64 0, (.slice none 0 0)]] := hS.top 4 rfl
      replace hS : Sat w0 w159 [Own (sliceR intR 3) [v151] x152, Own (sliceR (sliceR intR 3) 24) [v123] x122, Box b112 46 [.int .i64 a0, v123], Box b103 46 [.int .i64 a0, u1], Box b161 24 [v151], Box b107 46 [.int .i64 0, (.slice none 0 0)]] := hS.top 4 rfl
      replace hS := hS.one
      refine el_append rfl (by decide) rfl (by decide) hS rfl rfl rfl (by simp) hrow166 hx165 (by decide) ?_
      intro w163 v164 hS
      refine el_nil ?_
      replace hS : Sat w0 w163 [Box b112 46 [.int .i64 a0, v123], Box b103 46 [.int .i64 a0, u1], Own (sliceR (sliceR intR 3) 24) [v164] x165, Box b161 24 [v151], Box b107 46 [.int .i64 0, (.slice none 0 0)]] := hS.tops 5 [1, 2] rfl
      have hC := (hCd _).2 ⟨_, hS⟩
      refine ⟨fun _ => hC, ?_⟩
      refine al_p (v := .pointer (some ⟨b112, 0 + 1, none⟩)) (by kernel_rfl) 11 rfl rfl (by decide) hC (by kernel_rfl) (by kernel_rfl) (sv_on rfl (fun w' hw' => by obtain ⟨_, hS⟩ := (hCd _).1 hw'; exact (pv_fieldAddr he127))) ?_
      refine al_one 12 (by kernel_rfl) rfl ?_
      refine el_storev (hS.top 0 rfl) rfl [v164] (cells_of rfl (oc (hS.rdAt (R := (sliceR (sliceR intR 3) 24)) 2 rfl))) rfl (of_decide_eq_true rfl) (all_cons (oc (hS.rdAt (R := (sliceR (sliceR intR 3) 24)) 2 rfl)) rfl) ?_
      intro w168 hS
      replace hS : Sat w0 w168 [Box b112 46 [.int .i64 a0, v164], Box b103 46 [.int .i64 a0, u1], Own (sliceR (sliceR intR 3) 24) [v164] x165, Box b161 24 [v151], Box b107 46 [.int .i64 0, (.slice none 0 0)]] := hS
      refine el_nil ?_
      refine ⟨fun h => (nomatch (show false = true from h)), ?_⟩
      refine al_nil (by kernel_rfl) ?_
      refine hQ136 _ _ _ ?_
      refine inb_n ?_
      refine hQ135 _ _ _ ?_
      refine thn_n ?_
      replace hS : Sat w0 w168 [Box b112 46 [.int .i64 a0, v164], Box b103 46 [.int .i64 a0, u1], Own (sliceR (sliceR intR 3) 24) [v164] x165, Box b107 46 [.int .i64 0, (.slice none 0 0)]] := hS.rems 5 [3] rfl
      refine cw_reg ?_
      refine el_pv (v := .int .i64 x124) (pv_move he128) (by decide) ?_
      replace hF := ob hF
      obtain ⟨x169, hx169, hF⟩ := hF
      refine el_pv (v := .int .i64 x169) (pv_add rfl rfl hx169) (by decide) ?_
      refine el_pv (v := .int .i64 x169) (pv_assign rfl) (by decide) ?_
      refine el_nil ?_
      refine hQ131 _ _ _ ?_
      refine thn_n ?_
      replace hS : Sat w0 w168 [Own (sliceR (sliceR intR 3) 24) [v164] x165, Box b112 46 [.int .i64 a0, v164], Box b107 46 [.int .i64 0, (.slice none 0 0)], Box b103 46 [.int .i64 a0, u1]] := hS.tops 4 [2, 0, 3, 1] rfl
      replace hS := hS.keep 4
      exact ⟨v164, x165, x169, he125, he126, he127, rfl, hS, hF⟩
    · refine cw_cond_f rfl hb134 ?_
      refine cw_exit ?_
      refine hQ132 _ _ _ ?_
      refine thn_x ?_
      refine hQ131 _ _ _ ?_
      refine thn_x ?_
      replace hF := exB hF hK121
      refine hQ118 _ _ _ ?_
      refine inb_s ?_
      refine hQ116 _ _ _ ?_
      refine thn_n ?_
      refine cw_seq ?_
      refine cw_gen ?_
      intro Q170 hQ170
      replace hS : Sat w0 w129 [Own (sliceR (sliceR intR 3) 24) [v123] x122, Box b112 46 [.int .i64 a0, v123], Box b107 46 [.int .i64 0, (.slice none 0 0)]] := hS.rems 4 [3] rfl
      refine cw_reg ?_
      refine el_pv (v := .agg #[.int .i64 a0, v123]) (pv_loada (cs := [.int .i64 a0, v123]) he127 rfl (boxc0 (hS.boxAt 1 rfl))) (by decide) ?_
      refine el_storev (hS.top 2 rfl) he126 [.int .i64 a0, v123] rfl rfl (of_decide_eq_true rfl) (all_cons rfl (all_cons (oc (hS.rdAt (R := (sliceR (sliceR intR 3) 24)) 0 rfl)) rfl)) ?_
      intro w171 hS
      replace hS : Sat w0 w171 [Box b107 46 [.int .i64 a0, v123], Own (sliceR (sliceR intR 3) 24) [v123] x122, Box b112 46 [.int .i64 a0, v123]] := hS
      refine el_nil ?_
      refine hQ170 _ _ _ ?_
      refine thn_n ?_
      refine cw_ret ?_
      refine finC (cs := [.int .i64 a0, v123]) rfl he126 rfl (boxc0 (hS.boxAt 0 rfl))  ?_
      replace hS : Sat w0 w171 [Own (sliceR (sliceR intR 3) 24) [v123] x122, Box b107 46 [.int .i64 a0, v123], Box b112 46 [.int .i64 a0, v123]] := hS.tops 3 [1] rfl
      have hr := Option.some.inj hF
      exact ⟨v123, congrArg (fun (r : Int × List (List Int)) => Ending.returned (.agg #[.int .i64 r.1, v123])) hr, Eq.mp (congrArg (fun (r : Int × List (List Int)) => Sat w0 w171 [Own (sliceR (sliceR intR 3) 24) [v123] r.2]) hr) (hS.keep 1)⟩
set_option maxHeartbeats 4000000 in
theorem spec_LookupRelation_ok {w0 : World} {u0 : Value} {a0 : List (ByteArray × (Int × List (List Int)))} {a1 : ByteArray} (ha0 : (sliceR (pairR strR (pairR intR (sliceR (sliceR intR 3) 24))) 80).rd w0 [u0] a0) (_ : a1.size ≤ 9223372036854775807) {N : Nat} {r : (Int × List (List Int)) × Bool} (hF : spec_LookupRelation N a0 a1 = some r) :
    Calls Try.prog 37 #[.agg #[u0], .string a1] w0 fun e w' => ∃ (q0 : Value), e = .returned (.tuple #[.agg #[.int .i64 r.1.1, q0], .bool r.2]) ∧ Sat w0 w' [Own (sliceR (sliceR intR 3) 24) [q0] r.1.2] := by
  unfold spec_LookupRelation at hF
  refine calls_E Try.func37 rfl rfl (of_decide_eq_true rfl) ?_
  have hS := Sat.start w0
  refine cw_seq ?_
  refine cw_gen ?_
  intro Q101 hQ101
  refine cw_reg ?_
  refine el_box [u0] rfl hS (by decide) ?_
  intro w102 b103 hS hx104
  refine el_alloc hS (by decide) ?_
  intro w106 b107 hS hx108
  refine el_pv (v := .bool false) (pv_assign rfl) (by decide) ?_
  refine el_nil ?_
  refine hQ101 _ _ _ ?_
  refine thn_n ?_
  refine cw_seq ?_
  refine cw_gen ?_
  intro Q110 hQ110
  refine cw_seq ?_
  refine cw_gen ?_
  intro Q111 hQ111
  refine cw_reg ?_
  refine el_pv (v := .int .i64 0) (pv_assign rfl) (by decide) ?_
  refine el_nil ?_
  refine hQ111 _ _ _ ?_
  refine thn_n ?_
  refine cw_block ?_
  refine cw_gen ?_
  intro Q112 hQ112
  obtain ⟨s113, hL, hK114⟩ := ob hF
  refine cw_loopS (fun k e w => ∃ (x115 : Int), e 1 = .string a1 ∧ e 2 = .pointer (some ⟨b103, 0, none⟩) ∧ e 4 = .pointer (some ⟨b107, 0, none⟩) ∧ e 6 = .int .i64 x115 ∧ Sat w0 w [Box b107 46 [.int .i64 0, (.slice none 0 0)], Box b103 44 [u0]] ∧ spec_LookupRelation_L1 N k a1 a0 0 [] x115 = some s113) N ?_ ?_ ?_
  · exact ⟨0, rfl, rfl, rfl, rfl, hS, hL⟩
  · rintro e w ⟨_, _, _, _, _, _, hz⟩; exact nomatch (show none = some _ from hz)
  · rintro k e121 w120 ⟨x115, he116, he117, he118, he119, hS, hF⟩
    refine cw_gen ?_
    intro Q122 hQ122
    refine cw_seq ?_
    refine cw_gen ?_
    intro Q123 hQ123
    refine cw_seq ?_
    refine cw_gen ?_
    intro Q124 hQ124
    refine cw_reg ?_
    refine el_pv (v := .int .i64 x115) (pv_move he119) (by decide) ?_
    refine el_pv (v := .pointer (some ⟨b103, 0 + 0, none⟩)) (pv_fieldAddr he117) (by decide) ?_
    refine el_pv (v := u0) (pv_loadc rfl ((hS.boxAt 1 rfl) 0 _ rfl)) (by decide) ?_
    refine el_pv (v := .int .i64 (a0.length : Int)) (pv_len rfl ha0) (by decide) ?_
    refine el_pv (v := .bool (decide (x115 < (a0.length : Int)))) (pv_lss rfl rfl) (by decide) ?_
    refine el_pv (v := .bool (decide (x115 < (a0.length : Int)))) (pv_move rfl) (by decide) ?_
    replace hF := oif hF
    rcases hF with ⟨hb125, hF⟩ | ⟨hb125, hF⟩
    · refine el_on rfl hb125 ?_
      refine el_pv (v := .agg #[u0]) (pv_loada (cs := [u0]) he117 rfl (boxc0 (hS.boxAt 1 rfl))) (by decide) ?_
      refine el_on rfl hb125 ?_
      replace hF := ob hF
      obtain ⟨r126, hr126, hF⟩ := hF
      refine el_call goes56 (spec_IsValidDatabase_ok (hS.up ha0) hr126) (congrArg List.toArray (mapc rfl rfl)) (by decide) ?_
      rintro _ w127 ⟨rfl, hx128⟩
      refine ⟨_, rfl, ?_⟩
      replace hS := hS.ext hx128
      refine el_pv (v := .bool r126) (pv_pick_t rfl hb125 rfl) (by decide) ?_
      refine el_nil ?_
      refine hQ124 _ _ _ ?_
      refine thn_n ?_
      replace hF := oif hF
      rcases hF with ⟨hb129, hF⟩ | ⟨hb129, hF⟩
      · refine cw_cond_t rfl hb129 ?_
        refine cw_skip ?_
        refine hQ123 _ _ _ ?_
        refine thn_n ?_
        refine cw_seq ?_
        refine cw_gen ?_
        intro Q130 hQ130
        refine cw_block ?_
        refine cw_gen ?_
        intro Q131 hQ131
        refine cw_seq ?_
        refine cw_gen ?_
        intro Q132 hQ132
        refine cw_reg ?_
        refine el_pv (v := .pointer (some ⟨b103, 0 + 0, none⟩)) (pv_fieldAddr he117) (by decide) ?_
        refine el_pv (v := u0) (pv_loadc rfl ((hS.boxAt 1 rfl) 0 _ rfl)) (by decide) ?_
        refine el_pv (v := .int .i64 x115) (pv_move he119) (by decide) ?_
        replace hF := ob hF
        obtain ⟨x133, hx133, hF⟩ := hF
        refine el_index (wA := w0) rfl ha0 rfl (by decide) rfl hx133 (by decide) ?_
        intro b134 of135 c136 hr137 hm138
        obtain ⟨_, _, rfl, hr139, hr140⟩ := hr137
        obtain ⟨rfl, hz141⟩ := hr139
        obtain ⟨_, _, rfl, hr142, hr143⟩ := hr140
        obtain rfl := hr142
        obtain ⟨v144, rfl⟩ := slice_one hr143
        refine el_pv (v := .pointer (some ⟨b134, of135 + 0, none⟩)) (pv_fieldAddr rfl) (by decide) ?_
        refine el_pv (v := .string x133.1) (pv_loadc rfl ((cells_up hS.below hm138) 0 _ rfl)) (by decide) ?_
        refine el_pv (v := .string a1) (pv_move he116) (by decide) ?_
        refine el_pv (v := .bool (eqS x133.1 a1)) (pv_eqlS rfl rfl) (by decide) ?_
        refine el_nil ?_
        refine hQ132 _ _ _ ?_
        refine thn_n ?_
        replace hF := oif hF
        rcases hF with ⟨hb145, hF⟩ | ⟨hb145, hF⟩
        · refine cw_cond_t rfl hb145 ?_
          refine cw_seq ?_
          refine cw_gen ?_
          intro Q146 hQ146
          refine cw_reg ?_
          refine el_pv (v := .pointer (some ⟨b103, 0 + 0, none⟩)) (pv_fieldAddr he117) (by decide) ?_
          refine el_pv (v := u0) (pv_loadc rfl ((hS.boxAt 1 rfl) 0 _ rfl)) (by decide) ?_
          refine el_pv (v := .int .i64 x115) (pv_move he119) (by decide) ?_
          replace hF := ob hF
          obtain ⟨x147, hx147, hF⟩ := hF
          refine el_index (wA := w0) rfl ha0 rfl (by decide) rfl hx147 (by decide) ?_
          intro b148 of149 c150 hr151 hm152
          obtain ⟨_, _, rfl, hr153, hr154⟩ := hr151
          obtain ⟨rfl, hz155⟩ := hr153
          obtain ⟨_, _, rfl, hr156, hr157⟩ := hr154
          obtain rfl := hr156
          obtain ⟨v158, rfl⟩ := slice_one hr157
          refine el_pv (v := .pointer (some ⟨b148, of149 + 1, none⟩)) (pv_fieldAddr rfl) (by decide) ?_
          refine el_pv (v := .agg #[.int .i64 x147.2.1, v158]) (pv_loada (cs := [.int .i64 x147.2.1, v158]) rfl rfl (cells_sub (cells_up hS.below hm152) 1 2)) (by decide) ?_
          replace hF := ob hF
          obtain ⟨r159, hr159, hF⟩ := hF
          refine el_call goes57 (spec_l5Copy_ok (hS.up hr157) hr159) (congrArg List.toArray (mapc rfl rfl)) (by decide) ?_
          rintro _ w162 ⟨v160, rfl, hS'⟩
          refine ⟨_, rfl, ?_⟩
          have hx163 := hS'.below
          replace hS := hS.call1 hS'
          refine el_storev (hS.top 1 rfl) he118 [.int .i64 r159.1, v160] rfl rfl (of_decide_eq_true rfl) (all_cons rfl (all_cons (oc (hS.rdAt (R := (sliceR (sliceR intR 3) 24)) 0 rfl)) rfl)) ?_
          intro w164 hS
          replace hS : Sat w0 w164 [Box b107 46 [.int .i64 r159.1, v160], Own (sliceR (sliceR intR 3) 24) [v160] r159.2, Box b103 44 [u0]] := hS
          refine el_pv (v := .bool true) (pv_assign rfl) (by decide) ?_
          refine el_nil ?_
          refine hQ146 _ _ _ ?_
          refine thn_n ?_
          refine cw_ret ?_
          refine hQ131 _ _ _ ?_
          refine inb_r ?_
          refine hQ130 _ _ _ ?_
          refine thn_r ?_
          refine hQ122 _ _ _ ?_
          refine thn_r ?_
          refine hQ112 _ _ _ ?_
          refine inb_r ?_
          refine hQ110 _ _ _ ?_
          refine thn_r ?_
          replace hF := exL hF hK114
          refine finCT (cs := [.int .i64 r159.1, v160]) rfl he118 rfl (boxc0 (hS.boxAt 0 rfl)) rfl ?_
          replace hS : Sat w0 w164 [Own (sliceR (sliceR intR 3) 24) [v160] r159.2, Box b107 46 [.int .i64 r159.1, v160], Box b103 44 [u0]] := hS.tops 3 [1] rfl
          have hr := Option.some.inj hF
          exact ⟨v160, congrArg (fun (r : (Int × List (List Int)) × Bool) => Ending.returned (.tuple #[.agg #[.int .i64 r.1.1, v160], .bool r.2])) hr, Eq.mp (congrArg (fun (r : (Int × List (List Int)) × Bool) => Sat w0 w164 [Own (sliceR (sliceR intR 3) 24) [v160] r.1.2]) hr) (hS.keep 1)⟩
        · refine cw_cond_f rfl hb145 ?_
          refine cw_skip ?_
          refine hQ131 _ _ _ ?_
          refine inb_n ?_
          refine hQ130 _ _ _ ?_
          refine thn_n ?_
          refine cw_reg ?_
          refine el_pv (v := .int .i64 x115) (pv_move he119) (by decide) ?_
          replace hF := ob hF
          obtain ⟨x165, hx165, hF⟩ := hF
          refine el_pv (v := .int .i64 x165) (pv_add rfl rfl hx165) (by decide) ?_
          refine el_pv (v := .int .i64 x165) (pv_assign rfl) (by decide) ?_
          refine el_nil ?_
          refine hQ122 _ _ _ ?_
          refine thn_n ?_
          replace hS := hS.keep 2
          exact ⟨x165, he116, he117, he118, rfl, hS, hF⟩
      · refine cw_cond_f rfl hb129 ?_
        refine cw_exit ?_
        refine hQ123 _ _ _ ?_
        refine thn_x ?_
        refine hQ122 _ _ _ ?_
        refine thn_x ?_
        replace hF := exA hF hK114
        refine hQ112 _ _ _ ?_
        refine inb_s ?_
        refine hQ110 _ _ _ ?_
        refine thn_n ?_
        refine cw_seq ?_
        refine cw_gen ?_
        intro Q166 hQ166
        replace hS : Sat w0 w127 [Box b107 46 [.int .i64 0, (.slice none 0 0)]] := hS.rems 2 [1] rfl
        refine cw_reg ?_
        refine el_pv (v := .agg #[.int .i64 0, (.slice none 0 0)]) (pv_build [] [.int .i64 0, (.slice none 0 0)] rfl rfl) (by decide) ?_
        refine el_storev (hS.top 0 rfl) he118 [.int .i64 0, (.slice none 0 0)] rfl rfl (of_decide_eq_true rfl) (all_cons rfl (all_cons rfl rfl)) ?_
        intro w167 hS
        replace hS : Sat w0 w167 [Box b107 46 [.int .i64 0, (.slice none 0 0)]] := hS
        refine el_pv (v := .bool false) (pv_assign rfl) (by decide) ?_
        refine el_nil ?_
        refine hQ166 _ _ _ ?_
        refine thn_n ?_
        refine cw_ret ?_
        replace hS := hS.nil (sliceR intR 3) 24
        refine finCT (cs := [.int .i64 0, (.slice none 0 0)]) rfl he118 rfl (boxc0 (hS.boxAt 1 rfl)) rfl ?_
        have hr := Option.some.inj hF
        exact ⟨(.slice none 0 0), congrArg (fun (r : (Int × List (List Int)) × Bool) => Ending.returned (.tuple #[.agg #[.int .i64 r.1.1, (.slice none 0 0)], .bool r.2])) hr, Eq.mp (congrArg (fun (r : (Int × List (List Int)) × Bool) => Sat w0 w167 [Own (sliceR (sliceR intR 3) 24) [(.slice none 0 0)] r.1.2]) hr) (hS.keep 1)⟩
    · refine el_off rfl hb125 rfl (by decide) ?_
      refine el_off rfl hb125 rfl (by decide) ?_
      refine el_pv (v := .bool false) (pv_pick_f rfl hb125 rfl) (by decide) ?_
      refine el_nil ?_
      refine hQ124 _ _ _ ?_
      refine thn_n ?_
      refine cw_cond_f rfl rfl ?_
      refine cw_exit ?_
      refine hQ123 _ _ _ ?_
      refine thn_x ?_
      refine hQ122 _ _ _ ?_
      refine thn_x ?_
      replace hF := exA hF hK114
      refine hQ112 _ _ _ ?_
      refine inb_s ?_
      refine hQ110 _ _ _ ?_
      refine thn_n ?_
      refine cw_seq ?_
      refine cw_gen ?_
      intro Q169 hQ169
      replace hS : Sat w0 w120 [Box b107 46 [.int .i64 0, (.slice none 0 0)]] := hS.rems 2 [1] rfl
      refine cw_reg ?_
      refine el_pv (v := .agg #[.int .i64 0, (.slice none 0 0)]) (pv_build [] [.int .i64 0, (.slice none 0 0)] rfl rfl) (by decide) ?_
      refine el_storev (hS.top 0 rfl) he118 [.int .i64 0, (.slice none 0 0)] rfl rfl (of_decide_eq_true rfl) (all_cons rfl (all_cons rfl rfl)) ?_
      intro w170 hS
      replace hS : Sat w0 w170 [Box b107 46 [.int .i64 0, (.slice none 0 0)]] := hS
      refine el_pv (v := .bool false) (pv_assign rfl) (by decide) ?_
      refine el_nil ?_
      refine hQ169 _ _ _ ?_
      refine thn_n ?_
      refine cw_ret ?_
      replace hS := hS.nil (sliceR intR 3) 24
      refine finCT (cs := [.int .i64 0, (.slice none 0 0)]) rfl he118 rfl (boxc0 (hS.boxAt 1 rfl)) rfl ?_
      have hr := Option.some.inj hF
      exact ⟨(.slice none 0 0), congrArg (fun (r : (Int × List (List Int)) × Bool) => Ending.returned (.tuple #[.agg #[.int .i64 r.1.1, (.slice none 0 0)], .bool r.2])) hr, Eq.mp (congrArg (fun (r : (Int × List (List Int)) × Bool) => Sat w0 w170 [Own (sliceR (sliceR intR 3) 24) [(.slice none 0 0)] r.1.2]) hr) (hS.keep 1)⟩
set_option maxHeartbeats 4000000 in
theorem spec_l26Fits_ok {w0 : World} {u0 : Value} {a0 : List (ByteArray × (Int × List (List Int)))} {a1 : ByteArray} {a2 : Int} {u3 : Value} {a3 : List (List Int)} {a4 : Int} {u5 : Value} {a5 : List (List Int)} (ha0 : (sliceR (pairR strR (pairR intR (sliceR (sliceR intR 3) 24))) 80).rd w0 [u0] a0) (ha1 : a1.size ≤ 9223372036854775807) (ha3 : (sliceR (sliceR intR 3) 24).rd w0 [u3] a3) (ha5 : (sliceR (sliceR intR 3) 24).rd w0 [u5] a5) {N : Nat} {r : Bool} (hF : spec_l26Fits N a0 a1 a2 a3 a4 a5 = some r) :
    Calls Try.prog 36 #[.agg #[u0], .agg #[.string a1, .int .i64 a2, u3, .int .i64 a4, u5]] w0 fun e w' => e = .returned (.bool r) ∧ Ext w0 w' := by
  unfold spec_l26Fits at hF
  refine calls_E Try.func36 rfl rfl (of_decide_eq_true rfl) ?_
  have hS := Sat.start w0
  refine cw_seq ?_
  refine cw_gen ?_
  intro Q101 hQ101
  refine cw_reg ?_
  refine el_box [u0] rfl hS (by decide) ?_
  intro w102 b103 hS hx104
  refine el_box [.string a1, .int .i64 a2, u3, .int .i64 a4, u5] rfl hS (by decide) ?_
  intro w106 b107 hS hx108
  refine el_pv (v := .bool false) (pv_assign rfl) (by decide) ?_
  refine el_nil ?_
  refine hQ101 _ _ _ ?_
  refine thn_n ?_
  refine cw_seq ?_
  refine cw_gen ?_
  intro Q110 hQ110
  refine cw_reg ?_
  refine el_pv (v := .agg #[u0]) (pv_loada (cs := [u0]) rfl rfl (boxc0 (hS.boxAt 1 rfl))) (by decide) ?_
  refine el_pv (v := .pointer (some ⟨b107, 0 + 0, none⟩)) (pv_fieldAddr rfl) (by decide) ?_
  refine el_pv (v := .string a1) (pv_loadc rfl ((hS.boxAt 0 rfl) 0 _ rfl)) (by decide) ?_
  replace hF := ob hF
  obtain ⟨r111, hr111, hF⟩ := hF
  refine el_call goes37 (spec_LookupRelation_ok (hS.up ha0) ha1 hr111) (congrArg List.toArray (mapc rfl (mapc rfl rfl))) (by decide) ?_
  rintro _ w114 ⟨v112, rfl, hS'⟩
  refine ⟨_, rfl, ?_⟩
  have hx115 := hS'.below
  replace hS := hS.call1 hS'
  refine el_pv (v := .tuple #[.agg #[.int .i64 r111.1.1, v112], .bool r111.2]) (pv_move rfl) (by decide) ?_
  refine el_pv (v := .agg #[.int .i64 r111.1.1, v112]) (pv_extract rfl rfl) (by decide) ?_
  refine el_pv (v := .bool r111.2) (pv_extract rfl rfl) (by decide) ?_
  refine el_alloc hS (by decide) ?_
  intro w116 b117 hS hx118
  refine el_storev (hS.top 0 rfl) rfl [.int .i64 r111.1.1, v112] rfl rfl (of_decide_eq_true rfl) (all_cons rfl (all_cons (oc (hS.rdAt (R := (sliceR (sliceR intR 3) 24)) 1 rfl)) rfl)) ?_
  intro w120 hS
  replace hS : Sat w0 w120 [Box b117 46 [.int .i64 r111.1.1, v112], Own (sliceR (sliceR intR 3) 24) [v112] r111.1.2, Box b107 48 [.string a1, .int .i64 a2, u3, .int .i64 a4, u5], Box b103 44 [u0]] := hS
  refine el_pv (v := .bool r111.2) (pv_assign rfl) (by decide) ?_
  refine el_nil ?_
  refine hQ110 _ _ _ ?_
  refine thn_n ?_
  refine cw_seq ?_
  refine cw_gen ?_
  intro Q121 hQ121
  replace hS : Sat w0 w120 [Box b117 46 [.int .i64 r111.1.1, v112], Own (sliceR (sliceR intR 3) 24) [v112] r111.1.2, Box b107 48 [.string a1, .int .i64 a2, u3, .int .i64 a4, u5]] := hS.rems 4 [3] rfl
  refine cw_reg ?_
  refine el_pv (v := .bool r111.2) (pv_move rfl) (by decide) ?_
  refine el_pv (v := .bool r111.2) (pv_move rfl) (by decide) ?_
  replace hF := oif hF
  rcases hF with ⟨hb122, hF⟩ | ⟨hb122, hF⟩
  · refine el_on rfl hb122 ?_
    refine el_pv (v := .pointer (some ⟨b107, 0 + 1, none⟩)) (pv_fieldAddr rfl) (by decide) ?_
    refine el_on rfl hb122 ?_
    refine el_pv (v := .agg #[.int .i64 a2, u3]) (pv_loada (cs := [.int .i64 a2, u3]) rfl rfl (boxc (hS.boxAt 2 rfl) 1 2)) (by decide) ?_
    refine el_on rfl hb122 ?_
    replace hF := ob hF
    obtain ⟨r123, hr123, hF⟩ := hF
    refine el_call goes55 (spec_IsValidRelation_ok (hS.up ha3) hr123) (congrArg List.toArray (mapc rfl rfl)) (by decide) ?_
    rintro _ w124 ⟨rfl, hx125⟩
    refine ⟨_, rfl, ?_⟩
    replace hS := hS.ext hx125
    refine el_pv (v := .bool r123) (pv_pick_t rfl hb122 rfl) (by decide) ?_
    refine el_pv (v := .bool r123) (pv_move rfl) (by decide) ?_
    replace hF := oif hF
    rcases hF with ⟨hb126, hF⟩ | ⟨hb126, hF⟩
    · refine el_on rfl hb126 ?_
      refine el_pv (v := .pointer (some ⟨b107, 0 + 3, none⟩)) (pv_fieldAddr rfl) (by decide) ?_
      refine el_on rfl hb126 ?_
      refine el_pv (v := .agg #[.int .i64 a4, u5]) (pv_loada (cs := [.int .i64 a4, u5]) rfl rfl (boxc (hS.boxAt 2 rfl) 3 2)) (by decide) ?_
      refine el_on rfl hb126 ?_
      replace hF := ob hF
      obtain ⟨r127, hr127, hF⟩ := hF
      refine el_call goes55 (spec_IsValidRelation_ok (hS.up ha5) hr127) (congrArg List.toArray (mapc rfl rfl)) (by decide) ?_
      rintro _ w128 ⟨rfl, hx129⟩
      refine ⟨_, rfl, ?_⟩
      replace hS := hS.ext hx129
      refine el_pv (v := .bool r127) (pv_pick_t rfl hb126 rfl) (by decide) ?_
      refine el_pv (v := .bool r127) (pv_move rfl) (by decide) ?_
      replace hF := oif hF
      rcases hF with ⟨hb130, hF⟩ | ⟨hb130, hF⟩
      · refine el_on rfl hb130 ?_
        refine el_pv (v := .pointer (some ⟨b107, 0 + 1, none⟩)) (pv_fieldAddr rfl) (by decide) ?_
        refine el_on rfl hb130 ?_
        refine el_pv (v := .pointer (some ⟨b107, 0 + 1 + 0, none⟩)) (pv_fieldAddr rfl) (by decide) ?_
        refine el_on rfl hb130 ?_
        refine el_pv (v := .int .i64 a2) (pv_loadc rfl ((hS.boxAt 2 rfl) 1 _ rfl)) (by decide) ?_
        refine el_on rfl hb130 ?_
        refine el_pv (v := .pointer (some ⟨b117, 0 + 0, none⟩)) (pv_fieldAddr rfl) (by decide) ?_
        refine el_on rfl hb130 ?_
        refine el_pv (v := .int .i64 r111.1.1) (pv_loadc rfl ((hS.boxAt 0 rfl) 0 _ rfl)) (by decide) ?_
        refine el_on rfl hb130 ?_
        refine el_pv (v := .bool (a2 == r111.1.1)) (pv_eql rfl rfl) (by decide) ?_
        refine el_pv (v := .bool (a2 == r111.1.1)) (pv_pick_t rfl hb130 rfl) (by decide) ?_
        refine el_pv (v := .bool (a2 == r111.1.1)) (pv_move rfl) (by decide) ?_
        replace hF := oif hF
        rcases hF with ⟨hb131, hF⟩ | ⟨hb131, hF⟩
        · refine el_on rfl hb131 ?_
          refine el_pv (v := .pointer (some ⟨b107, 0 + 3, none⟩)) (pv_fieldAddr rfl) (by decide) ?_
          refine el_on rfl hb131 ?_
          refine el_pv (v := .pointer (some ⟨b107, 0 + 3 + 0, none⟩)) (pv_fieldAddr rfl) (by decide) ?_
          refine el_on rfl hb131 ?_
          refine el_pv (v := .int .i64 a4) (pv_loadc rfl ((hS.boxAt 2 rfl) 3 _ rfl)) (by decide) ?_
          refine el_on rfl hb131 ?_
          refine el_pv (v := .pointer (some ⟨b117, 0 + 0, none⟩)) (pv_fieldAddr rfl) (by decide) ?_
          refine el_on rfl hb131 ?_
          refine el_pv (v := .int .i64 r111.1.1) (pv_loadc rfl ((hS.boxAt 0 rfl) 0 _ rfl)) (by decide) ?_
          refine el_on rfl hb131 ?_
          refine el_pv (v := .bool (a4 == r111.1.1)) (pv_eql rfl rfl) (by decide) ?_
          refine el_pv (v := .bool (a4 == r111.1.1)) (pv_pick_t rfl hb131 rfl) (by decide) ?_
          refine el_pv (v := .bool (a4 == r111.1.1)) (pv_assign rfl) (by decide) ?_
          refine el_nil ?_
          refine hQ121 _ _ _ ?_
          refine thn_n ?_
          refine cw_ret ?_
          refine fin1 rfl rfl ?_
          have hr := Option.some.inj hF
          exact ⟨congrArg (fun (r : Bool) => Ending.returned (.bool r)) hr, hS.below⟩
        · refine el_off rfl hb131 rfl (by decide) ?_
          refine el_off rfl hb131 rfl (by decide) ?_
          refine el_off rfl hb131 rfl (by decide) ?_
          refine el_off rfl hb131 rfl (by decide) ?_
          refine el_off rfl hb131 rfl (by decide) ?_
          refine el_off rfl hb131 rfl (by decide) ?_
          refine el_pv (v := .bool false) (pv_pick_f rfl hb131 rfl) (by decide) ?_
          refine el_pv (v := .bool false) (pv_assign rfl) (by decide) ?_
          refine el_nil ?_
          refine hQ121 _ _ _ ?_
          refine thn_n ?_
          refine cw_ret ?_
          refine fin1 rfl rfl ?_
          have hr := Option.some.inj hF
          exact ⟨congrArg (fun (r : Bool) => Ending.returned (.bool r)) hr, hS.below⟩
      · refine el_off rfl hb130 rfl (by decide) ?_
        refine el_off rfl hb130 rfl (by decide) ?_
        refine el_off rfl hb130 rfl (by decide) ?_
        refine el_off rfl hb130 rfl (by decide) ?_
        refine el_off rfl hb130 rfl (by decide) ?_
        refine el_off rfl hb130 rfl (by decide) ?_
        refine el_pv (v := .bool false) (pv_pick_f rfl hb130 rfl) (by decide) ?_
        refine el_pv (v := .bool false) (pv_move rfl) (by decide) ?_
        refine el_off rfl rfl rfl (by decide) ?_
        refine el_off rfl rfl rfl (by decide) ?_
        refine el_off rfl rfl rfl (by decide) ?_
        refine el_off rfl rfl rfl (by decide) ?_
        refine el_off rfl rfl rfl (by decide) ?_
        refine el_off rfl rfl rfl (by decide) ?_
        refine el_pv (v := .bool false) (pv_pick_f rfl rfl rfl) (by decide) ?_
        refine el_pv (v := .bool false) (pv_assign rfl) (by decide) ?_
        refine el_nil ?_
        refine hQ121 _ _ _ ?_
        refine thn_n ?_
        refine cw_ret ?_
        refine fin1 rfl rfl ?_
        have hr := Option.some.inj hF
        exact ⟨congrArg (fun (r : Bool) => Ending.returned (.bool r)) hr, hS.below⟩
    · refine el_off rfl hb126 rfl (by decide) ?_
      refine el_off rfl hb126 rfl (by decide) ?_
      refine el_off rfl hb126 rfl (by decide) ?_
      refine el_pv (v := .bool false) (pv_pick_f rfl hb126 rfl) (by decide) ?_
      refine el_pv (v := .bool false) (pv_move rfl) (by decide) ?_
      refine el_off rfl rfl rfl (by decide) ?_
      refine el_off rfl rfl rfl (by decide) ?_
      refine el_off rfl rfl rfl (by decide) ?_
      refine el_off rfl rfl rfl (by decide) ?_
      refine el_off rfl rfl rfl (by decide) ?_
      refine el_off rfl rfl rfl (by decide) ?_
      refine el_pv (v := .bool false) (pv_pick_f rfl rfl rfl) (by decide) ?_
      refine el_pv (v := .bool false) (pv_move rfl) (by decide) ?_
      refine el_off rfl rfl rfl (by decide) ?_
      refine el_off rfl rfl rfl (by decide) ?_
      refine el_off rfl rfl rfl (by decide) ?_
      refine el_off rfl rfl rfl (by decide) ?_
      refine el_off rfl rfl rfl (by decide) ?_
      refine el_off rfl rfl rfl (by decide) ?_
      refine el_pv (v := .bool false) (pv_pick_f rfl rfl rfl) (by decide) ?_
      refine el_pv (v := .bool false) (pv_assign rfl) (by decide) ?_
      refine el_nil ?_
      refine hQ121 _ _ _ ?_
      refine thn_n ?_
      refine cw_ret ?_
      refine fin1 rfl rfl ?_
      have hr := Option.some.inj hF
      exact ⟨congrArg (fun (r : Bool) => Ending.returned (.bool r)) hr, hS.below⟩
  · refine el_off rfl hb122 rfl (by decide) ?_
    refine el_off rfl hb122 rfl (by decide) ?_
    refine el_off rfl hb122 rfl (by decide) ?_
    refine el_pv (v := .bool false) (pv_pick_f rfl hb122 rfl) (by decide) ?_
    refine el_pv (v := .bool false) (pv_move rfl) (by decide) ?_
    refine el_off rfl rfl rfl (by decide) ?_
    refine el_off rfl rfl rfl (by decide) ?_
    refine el_off rfl rfl rfl (by decide) ?_
    refine el_pv (v := .bool false) (pv_pick_f rfl rfl rfl) (by decide) ?_
    refine el_pv (v := .bool false) (pv_move rfl) (by decide) ?_
    refine el_off rfl rfl rfl (by decide) ?_
    refine el_off rfl rfl rfl (by decide) ?_
    refine el_off rfl rfl rfl (by decide) ?_
    refine el_off rfl rfl rfl (by decide) ?_
    refine el_off rfl rfl rfl (by decide) ?_
    refine el_off rfl rfl rfl (by decide) ?_
    refine el_pv (v := .bool false) (pv_pick_f rfl rfl rfl) (by decide) ?_
    refine el_pv (v := .bool false) (pv_move rfl) (by decide) ?_
    refine el_off rfl rfl rfl (by decide) ?_
    refine el_off rfl rfl rfl (by decide) ?_
    refine el_off rfl rfl rfl (by decide) ?_
    refine el_off rfl rfl rfl (by decide) ?_
    refine el_off rfl rfl rfl (by decide) ?_
    refine el_off rfl rfl rfl (by decide) ?_
    refine el_pv (v := .bool false) (pv_pick_f rfl rfl rfl) (by decide) ?_
    refine el_pv (v := .bool false) (pv_assign rfl) (by decide) ?_
    refine el_nil ?_
    refine hQ121 _ _ _ ?_
    refine thn_n ?_
    refine cw_ret ?_
    refine fin1 rfl rfl ?_
    have hr := Option.some.inj hF
    exact ⟨congrArg (fun (r : Bool) => Ending.returned (.bool r)) hr, hS.below⟩
set_option maxHeartbeats 4000000 in
theorem spec_l5Place_ok {w0 : World} {a0 : Int} {u1 : Value} {a1 : List (List Int)} {u2 : Value} {a2 : List Int} (ha1 : (sliceR (sliceR intR 3) 24).rd w0 [u1] a1) (ha2 : (sliceR intR 3).rd w0 [u2] a2) {N : Nat} {r : Int × Bool} (hF : spec_l5Place N a0 a1 a2 = some r) :
    Calls Try.prog 58 #[.agg #[.int .i64 a0, u1], u2] w0 fun e w' => e = .returned (.tuple #[.int .i64 r.1, .bool r.2]) ∧ Ext w0 w' := by
  unfold spec_l5Place at hF
  refine calls_E Try.func58 rfl rfl (of_decide_eq_true rfl) ?_
  have hS := Sat.start w0
  refine cw_seq ?_
  refine cw_gen ?_
  intro Q101 hQ101
  refine cw_reg ?_
  refine el_box [.int .i64 a0, u1] rfl hS (by decide) ?_
  intro w102 b103 hS hx104
  refine el_pv (v := .int .i64 0) (pv_assign rfl) (by decide) ?_
  refine el_pv (v := .bool false) (pv_assign rfl) (by decide) ?_
  refine el_nil ?_
  refine hQ101 _ _ _ ?_
  refine thn_n ?_
  refine cw_seq ?_
  refine cw_gen ?_
  intro Q106 hQ106
  refine cw_reg ?_
  refine el_pv (v := .int .i64 0) (pv_assign rfl) (by decide) ?_
  refine el_nil ?_
  refine hQ106 _ _ _ ?_
  refine thn_n ?_
  refine cw_seq ?_
  refine cw_gen ?_
  intro Q107 hQ107
  refine cw_reg ?_
  refine el_pv (v := .pointer (some ⟨b103, 0 + 1, none⟩)) (pv_fieldAddr rfl) (by decide) ?_
  refine el_pv (v := u1) (pv_loadc rfl ((hS.boxAt 0 rfl) 1 _ rfl)) (by decide) ?_
  refine el_pv (v := .int .i64 (a1.length : Int)) (pv_len rfl ha1) (by decide) ?_
  refine el_pv (v := .int .i64 (a1.length : Int)) (pv_assign rfl) (by decide) ?_
  refine el_nil ?_
  refine hQ107 _ _ _ ?_
  refine thn_n ?_
  refine cw_seq ?_
  refine cw_gen ?_
  intro Q108 hQ108
  refine cw_block ?_
  refine cw_gen ?_
  intro Q109 hQ109
  obtain ⟨s110, hL, hK111⟩ := ob hF
  refine cw_loopS (fun k e w => ∃ (x112 : Int), ∃ (x113 : Int), e 1 = u2 ∧ e 2 = .pointer (some ⟨b103, 0, none⟩) ∧ e 6 = .int .i64 x112 ∧ e 7 = .int .i64 x113 ∧ Sat w0 w [Box b103 46 [.int .i64 a0, u1]] ∧ spec_l5Place_L1 N k a2 a0 a1 x112 x113 = some s110) N ?_ ?_ ?_
  · exact ⟨0, (a1.length : Int), rfl, rfl, rfl, rfl, hS, hL⟩
  · rintro e w ⟨_, _, _, _, _, _, _, hz⟩; exact nomatch (show none = some _ from hz)
  · rintro k e119 w118 ⟨x112, x113, he114, he115, he116, he117, hS, hF⟩
    refine cw_gen ?_
    intro Q120 hQ120
    refine cw_seq ?_
    refine cw_gen ?_
    intro Q121 hQ121
    refine cw_seq ?_
    refine cw_gen ?_
    intro Q122 hQ122
    refine cw_reg ?_
    refine el_pv (v := .int .i64 x112) (pv_move he116) (by decide) ?_
    refine el_pv (v := .int .i64 x113) (pv_move he117) (by decide) ?_
    refine el_pv (v := .bool (decide (x112 < x113))) (pv_lss rfl rfl) (by decide) ?_
    refine el_nil ?_
    refine hQ122 _ _ _ ?_
    refine thn_n ?_
    replace hF := oif hF
    rcases hF with ⟨hb123, hF⟩ | ⟨hb123, hF⟩
    · refine cw_cond_t rfl hb123 ?_
      refine cw_skip ?_
      refine hQ121 _ _ _ ?_
      refine thn_n ?_
      refine cw_block ?_
      refine cw_gen ?_
      intro Q124 hQ124
      refine cw_seq ?_
      refine cw_gen ?_
      intro Q125 hQ125
      refine cw_reg ?_
      refine el_pv (v := .int .i64 x112) (pv_move he116) (by decide) ?_
      refine el_pv (v := .int .i64 x113) (pv_move he117) (by decide) ?_
      replace hF := ob hF
      obtain ⟨x126, hx126, hF⟩ := hF
      refine el_pv (v := .int .i64 x126) (pv_add rfl rfl hx126) (by decide) ?_
      replace hF := ob hF
      obtain ⟨x127, hx127, hF⟩ := hF
      refine el_pv (v := .int .i64 x127) (pv_quo rfl rfl hx127) (by decide) ?_
      refine el_pv (v := .int .i64 x127) (pv_assign rfl) (by decide) ?_
      refine el_nil ?_
      refine hQ125 _ _ _ ?_
      refine thn_n ?_
      refine cw_seq ?_
      refine cw_gen ?_
      intro Q128 hQ128
      refine cw_reg ?_
      refine el_pv (v := .pointer (some ⟨b103, 0 + 1, none⟩)) (pv_fieldAddr he115) (by decide) ?_
      refine el_pv (v := u1) (pv_loadc rfl ((hS.boxAt 0 rfl) 1 _ rfl)) (by decide) ?_
      refine el_pv (v := .int .i64 x127) (pv_move rfl) (by decide) ?_
      replace hF := ob hF
      obtain ⟨x129, hx129, hF⟩ := hF
      refine el_index (wA := w0) rfl ha1 rfl (by decide) rfl hx129 (by decide) ?_
      intro b130 of131 c132 hr133 hm134
      obtain ⟨v135, rfl⟩ := slice_one hr133
      refine el_pv (v := v135) (pv_loadc rfl ((cells_up hS.below hm134) 0 _ rfl)) (by decide) ?_
      refine el_pv (v := u2) (pv_move he114) (by decide) ?_
      replace hF := ob hF
      obtain ⟨r136, hr136, hF⟩ := hF
      refine el_call goes70 (spec_CompareRows_ok (hS.up hr133) (hS.up ha2) hr136) (congrArg List.toArray (mapc rfl (mapc rfl rfl))) (by decide) ?_
      rintro _ w137 ⟨rfl, hx138⟩
      refine ⟨_, rfl, ?_⟩
      replace hS := hS.ext hx138
      refine el_pv (v := .bool (decide (r136 < 0))) (pv_lss rfl rfl) (by decide) ?_
      refine el_nil ?_
      refine hQ128 _ _ _ ?_
      refine thn_n ?_
      replace hF := oif hF
      rcases hF with ⟨hb139, hF⟩ | ⟨hb139, hF⟩
      · refine cw_cond_t rfl hb139 ?_
        refine cw_reg ?_
        refine el_pv (v := .int .i64 x127) (pv_move rfl) (by decide) ?_
        replace hF := ob hF
        obtain ⟨x140, hx140, hF⟩ := hF
        refine el_pv (v := .int .i64 x140) (pv_add rfl rfl hx140) (by decide) ?_
        refine el_pv (v := .int .i64 x140) (pv_assign rfl) (by decide) ?_
        refine el_nil ?_
        refine hQ124 _ _ _ ?_
        refine inb_n ?_
        refine hQ120 _ _ _ ?_
        refine thn_n ?_
        replace hS := hS.keep 1
        exact ⟨x140, x113, he114, he115, rfl, he117, hS, hF⟩
      · refine cw_cond_f rfl hb139 ?_
        refine cw_reg ?_
        refine el_pv (v := .int .i64 x127) (pv_move rfl) (by decide) ?_
        refine el_pv (v := .int .i64 x127) (pv_assign rfl) (by decide) ?_
        refine el_nil ?_
        refine hQ124 _ _ _ ?_
        refine inb_n ?_
        refine hQ120 _ _ _ ?_
        refine thn_n ?_
        replace hS := hS.keep 1
        exact ⟨x112, x127, he114, he115, he116, rfl, hS, hF⟩
    · refine cw_cond_f rfl hb123 ?_
      refine cw_exit ?_
      refine hQ121 _ _ _ ?_
      refine thn_x ?_
      refine hQ120 _ _ _ ?_
      refine thn_x ?_
      replace hF := exB hF hK111
      refine hQ109 _ _ _ ?_
      refine inb_s ?_
      refine hQ108 _ _ _ ?_
      refine thn_n ?_
      refine cw_seq ?_
      refine cw_gen ?_
      intro Q141 hQ141
      refine cw_reg ?_
      refine el_pv (v := .int .i64 x112) (pv_move he116) (by decide) ?_
      refine el_pv (v := .int .i64 x112) (pv_move he116) (by decide) ?_
      refine el_pv (v := .pointer (some ⟨b103, 0 + 1, none⟩)) (pv_fieldAddr he115) (by decide) ?_
      refine el_pv (v := u1) (pv_loadc rfl ((hS.boxAt 0 rfl) 1 _ rfl)) (by decide) ?_
      refine el_pv (v := .int .i64 (a1.length : Int)) (pv_len rfl ha1) (by decide) ?_
      refine el_pv (v := .bool (decide (x112 < (a1.length : Int)))) (pv_lss rfl rfl) (by decide) ?_
      refine el_pv (v := .bool (decide (x112 < (a1.length : Int)))) (pv_move rfl) (by decide) ?_
      replace hF := oif hF
      rcases hF with ⟨hb142, hF⟩ | ⟨hb142, hF⟩
      · refine el_on rfl hb142 ?_
        refine el_pv (v := .pointer (some ⟨b103, 0 + 1, none⟩)) (pv_fieldAddr he115) (by decide) ?_
        refine el_on rfl hb142 ?_
        refine el_pv (v := u1) (pv_loadc rfl ((hS.boxAt 0 rfl) 1 _ rfl)) (by decide) ?_
        refine el_on rfl hb142 ?_
        refine el_pv (v := .int .i64 x112) (pv_move he116) (by decide) ?_
        refine el_on rfl hb142 ?_
        replace hF := ob hF
        obtain ⟨x143, hx143, hF⟩ := hF
        refine el_index (wA := w0) rfl ha1 rfl (by decide) rfl hx143 (by decide) ?_
        intro b144 of145 c146 hr147 hm148
        obtain ⟨v149, rfl⟩ := slice_one hr147
        refine el_on rfl hb142 ?_
        refine el_pv (v := v149) (pv_loadc rfl ((cells_up hS.below hm148) 0 _ rfl)) (by decide) ?_
        refine el_on rfl hb142 ?_
        refine el_pv (v := u2) (pv_move he114) (by decide) ?_
        refine el_on rfl hb142 ?_
        replace hF := ob hF
        obtain ⟨r150, hr150, hF⟩ := hF
        refine el_call goes70 (spec_CompareRows_ok (hS.up hr147) (hS.up ha2) hr150) (congrArg List.toArray (mapc rfl (mapc rfl rfl))) (by decide) ?_
        rintro _ w151 ⟨rfl, hx152⟩
        refine ⟨_, rfl, ?_⟩
        replace hS := hS.ext hx152
        refine el_on rfl hb142 ?_
        refine el_pv (v := .bool (r150 == 0)) (pv_eql rfl rfl) (by decide) ?_
        refine el_pv (v := .bool (r150 == 0)) (pv_pick_t rfl hb142 rfl) (by decide) ?_
        refine el_pv (v := .int .i64 x112) (pv_assign rfl) (by decide) ?_
        refine el_pv (v := .bool (r150 == 0)) (pv_assign rfl) (by decide) ?_
        refine el_nil ?_
        refine hQ141 _ _ _ ?_
        refine thn_n ?_
        refine cw_ret ?_
        refine fin2 rfl rfl rfl ?_
        have hr := Option.some.inj hF
        exact ⟨congrArg (fun (r : Int × Bool) => Ending.returned (.tuple #[.int .i64 r.1, .bool r.2])) hr, hS.below⟩
      · refine el_off rfl hb142 rfl (by decide) ?_
        refine el_off rfl hb142 rfl (by decide) ?_
        refine el_off rfl hb142 rfl (by decide) ?_
        refine el_off rfl hb142 rfl (by decide) ?_
        refine el_off rfl hb142 rfl (by decide) ?_
        refine el_off rfl hb142 rfl (by decide) ?_
        refine el_off rfl hb142 rfl (by decide) ?_
        refine el_off rfl hb142 rfl (by decide) ?_
        refine el_pv (v := .bool false) (pv_pick_f rfl hb142 rfl) (by decide) ?_
        refine el_pv (v := .int .i64 x112) (pv_assign rfl) (by decide) ?_
        refine el_pv (v := .bool false) (pv_assign rfl) (by decide) ?_
        refine el_nil ?_
        refine hQ141 _ _ _ ?_
        refine thn_n ?_
        refine cw_ret ?_
        refine fin2 rfl rfl rfl ?_
        have hr := Option.some.inj hF
        exact ⟨congrArg (fun (r : Int × Bool) => Ending.returned (.tuple #[.int .i64 r.1, .bool r.2])) hr, hS.below⟩
set_option maxHeartbeats 4000000 in
theorem spec_ContainsRow_ok {w0 : World} {a0 : Int} {u1 : Value} {a1 : List (List Int)} {u2 : Value} {a2 : List Int} (ha1 : (sliceR (sliceR intR 3) 24).rd w0 [u1] a1) (ha2 : (sliceR intR 3).rd w0 [u2] a2) {N : Nat} {r : Bool} (hF : spec_ContainsRow N a0 a1 a2 = some r) :
    Calls Try.prog 38 #[.agg #[.int .i64 a0, u1], u2] w0 fun e w' => e = .returned (.bool r) ∧ Ext w0 w' := by
  unfold spec_ContainsRow at hF
  refine calls_E Try.func38 rfl rfl (of_decide_eq_true rfl) ?_
  have hS := Sat.start w0
  refine cw_seq ?_
  refine cw_gen ?_
  intro Q101 hQ101
  refine cw_reg ?_
  refine el_box [.int .i64 a0, u1] rfl hS (by decide) ?_
  intro w102 b103 hS hx104
  refine el_pv (v := .bool false) (pv_assign rfl) (by decide) ?_
  refine el_nil ?_
  refine hQ101 _ _ _ ?_
  refine thn_n ?_
  refine cw_seq ?_
  refine cw_gen ?_
  intro Q106 hQ106
  refine cw_seq ?_
  refine cw_gen ?_
  intro Q107 hQ107
  refine cw_reg ?_
  refine el_pv (v := .agg #[.int .i64 a0, u1]) (pv_loada (cs := [.int .i64 a0, u1]) rfl rfl (boxc0 (hS.boxAt 0 rfl))) (by decide) ?_
  replace hF := ob hF
  obtain ⟨r108, hr108, hF⟩ := hF
  refine el_call goes55 (spec_IsValidRelation_ok (hS.up ha1) hr108) (congrArg List.toArray (mapc rfl rfl)) (by decide) ?_
  rintro _ w109 ⟨rfl, hx110⟩
  refine ⟨_, rfl, ?_⟩
  replace hS := hS.ext hx110
  refine el_pv (v := .bool (!r108)) (pv_not rfl) (by decide) ?_
  refine el_nil ?_
  refine hQ107 _ _ _ ?_
  refine thn_n ?_
  replace hF := oif hF
  rcases hF with ⟨hb111, hF⟩ | ⟨hb111, hF⟩
  · refine cw_cond_f rfl (bnot_t hb111) ?_
    refine cw_skip ?_
    refine hQ106 _ _ _ ?_
    refine thn_n ?_
    refine cw_seq ?_
    refine cw_gen ?_
    intro Q112 hQ112
    refine cw_reg ?_
    refine el_pv (v := .agg #[.int .i64 a0, u1]) (pv_loada (cs := [.int .i64 a0, u1]) rfl rfl (boxc0 (hS.boxAt 0 rfl))) (by decide) ?_
    refine el_pv (v := u2) (pv_move rfl) (by decide) ?_
    replace hF := ob hF
    obtain ⟨r113, hr113, hF⟩ := hF
    refine el_call goes58 (spec_l5Place_ok (hS.up ha1) (hS.up ha2) hr113) (congrArg List.toArray (mapc rfl (mapc rfl rfl))) (by decide) ?_
    rintro _ w114 ⟨rfl, hx115⟩
    refine ⟨_, rfl, ?_⟩
    replace hS := hS.ext hx115
    refine el_pv (v := .tuple #[.int .i64 r113.1, .bool r113.2]) (pv_move rfl) (by decide) ?_
    refine el_pv (v := .int .i64 r113.1) (pv_extract rfl rfl) (by decide) ?_
    refine el_pv (v := .bool r113.2) (pv_extract rfl rfl) (by decide) ?_
    refine el_pv (v := .int .i64 r113.1) (pv_assign rfl) (by decide) ?_
    refine el_pv (v := .bool r113.2) (pv_assign rfl) (by decide) ?_
    refine el_nil ?_
    refine hQ112 _ _ _ ?_
    refine thn_n ?_
    refine cw_seq ?_
    refine cw_gen ?_
    intro Q116 hQ116
    replace hS : Sat w0 w114 [] := hS.rems 1 [0] rfl
    refine cw_reg ?_
    refine el_pv (v := .bool r113.2) (pv_move rfl) (by decide) ?_
    refine el_pv (v := .bool r113.2) (pv_assign rfl) (by decide) ?_
    refine el_nil ?_
    refine hQ116 _ _ _ ?_
    refine thn_n ?_
    refine cw_ret ?_
    refine fin1 rfl rfl ?_
    have hr := Option.some.inj hF
    exact ⟨congrArg (fun (r : Bool) => Ending.returned (.bool r)) hr, hS.below⟩
  · refine cw_cond_t rfl (bnot_f hb111) ?_
    refine cw_seq ?_
    refine cw_gen ?_
    intro Q117 hQ117
    replace hS : Sat w0 w109 [] := hS.rems 1 [0] rfl
    refine cw_reg ?_
    refine el_pv (v := .bool false) (pv_assign rfl) (by decide) ?_
    refine el_nil ?_
    refine hQ117 _ _ _ ?_
    refine thn_n ?_
    refine cw_ret ?_
    refine hQ106 _ _ _ ?_
    refine thn_r ?_
    refine fin1 rfl rfl ?_
    have hr := Option.some.inj hF
    exact ⟨congrArg (fun (r : Bool) => Ending.returned (.bool r)) hr, hS.below⟩
set_option maxHeartbeats 4000000 in
theorem spec_IsValidDelta_ok {w0 : World} {u0 : Value} {a0 : List (ByteArray × (Int × List (List Int)))} {a1 : ByteArray} {a2 : Int} {u3 : Value} {a3 : List (List Int)} {a4 : Int} {u5 : Value} {a5 : List (List Int)} (ha0 : (sliceR (pairR strR (pairR intR (sliceR (sliceR intR 3) 24))) 80).rd w0 [u0] a0) (ha1 : a1.size ≤ 9223372036854775807) (ha3 : (sliceR (sliceR intR 3) 24).rd w0 [u3] a3) (ha5 : (sliceR (sliceR intR 3) 24).rd w0 [u5] a5) {N : Nat} {r : Bool} (hF : spec_IsValidDelta N a0 a1 a2 a3 a4 a5 = some r) :
    Calls Try.prog 17 #[.agg #[u0], .agg #[.string a1, .int .i64 a2, u3, .int .i64 a4, u5]] w0 fun e w' => e = .returned (.bool r) ∧ Ext w0 w' := by
  unfold spec_IsValidDelta at hF
  refine calls_E Try.func17 rfl rfl (of_decide_eq_true rfl) ?_
  have hS := Sat.start w0
  refine cw_seq ?_
  refine cw_gen ?_
  intro Q101 hQ101
  refine cw_reg ?_
  refine el_box [u0] rfl hS (by decide) ?_
  intro w102 b103 hS hx104
  refine el_box [.string a1, .int .i64 a2, u3, .int .i64 a4, u5] rfl hS (by decide) ?_
  intro w106 b107 hS hx108
  refine el_pv (v := .bool false) (pv_assign rfl) (by decide) ?_
  refine el_nil ?_
  refine hQ101 _ _ _ ?_
  refine thn_n ?_
  refine cw_seq ?_
  refine cw_gen ?_
  intro Q110 hQ110
  refine cw_seq ?_
  refine cw_gen ?_
  intro Q111 hQ111
  refine cw_reg ?_
  refine el_pv (v := .agg #[u0]) (pv_loada (cs := [u0]) rfl rfl (boxc0 (hS.boxAt 1 rfl))) (by decide) ?_
  refine el_pv (v := .agg #[.string a1, .int .i64 a2, u3, .int .i64 a4, u5]) (pv_loada (cs := [.string a1, .int .i64 a2, u3, .int .i64 a4, u5]) rfl rfl (boxc0 (hS.boxAt 0 rfl))) (by decide) ?_
  replace hF := ob hF
  obtain ⟨r112, hr112, hF⟩ := hF
  refine el_call goes36 (spec_l26Fits_ok (hS.up ha0) ha1 (hS.up ha3) (hS.up ha5) hr112) (congrArg List.toArray (mapc rfl (mapc rfl rfl))) (by decide) ?_
  rintro _ w113 ⟨rfl, hx114⟩
  refine ⟨_, rfl, ?_⟩
  replace hS := hS.ext hx114
  refine el_pv (v := .bool (!r112)) (pv_not rfl) (by decide) ?_
  refine el_nil ?_
  refine hQ111 _ _ _ ?_
  refine thn_n ?_
  replace hF := oif hF
  rcases hF with ⟨hb115, hF⟩ | ⟨hb115, hF⟩
  · refine cw_cond_f rfl (bnot_t hb115) ?_
    refine cw_skip ?_
    refine hQ110 _ _ _ ?_
    refine thn_n ?_
    refine cw_seq ?_
    refine cw_gen ?_
    intro Q116 hQ116
    refine cw_reg ?_
    refine el_pv (v := .agg #[u0]) (pv_loada (cs := [u0]) rfl rfl (boxc0 (hS.boxAt 1 rfl))) (by decide) ?_
    refine el_pv (v := .pointer (some ⟨b107, 0 + 0, none⟩)) (pv_fieldAddr rfl) (by decide) ?_
    refine el_pv (v := .string a1) (pv_loadc rfl ((hS.boxAt 0 rfl) 0 _ rfl)) (by decide) ?_
    replace hF := ob hF
    obtain ⟨r117, hr117, hF⟩ := hF
    refine el_call goes37 (spec_LookupRelation_ok (hS.up ha0) ha1 hr117) (congrArg List.toArray (mapc rfl (mapc rfl rfl))) (by decide) ?_
    rintro _ w120 ⟨v118, rfl, hS'⟩
    refine ⟨_, rfl, ?_⟩
    have hx121 := hS'.below
    replace hS := hS.call1 hS'
    refine el_pv (v := .tuple #[.agg #[.int .i64 r117.1.1, v118], .bool r117.2]) (pv_move rfl) (by decide) ?_
    refine el_pv (v := .agg #[.int .i64 r117.1.1, v118]) (pv_extract rfl rfl) (by decide) ?_
    refine el_pv (v := .bool r117.2) (pv_extract rfl rfl) (by decide) ?_
    refine el_alloc hS (by decide) ?_
    intro w122 b123 hS hx124
    refine el_storev (hS.top 0 rfl) rfl [.int .i64 r117.1.1, v118] rfl rfl (of_decide_eq_true rfl) (all_cons rfl (all_cons (oc (hS.rdAt (R := (sliceR (sliceR intR 3) 24)) 1 rfl)) rfl)) ?_
    intro w126 hS
    replace hS : Sat w0 w126 [Box b123 46 [.int .i64 r117.1.1, v118], Own (sliceR (sliceR intR 3) 24) [v118] r117.1.2, Box b107 48 [.string a1, .int .i64 a2, u3, .int .i64 a4, u5], Box b103 44 [u0]] := hS
    refine el_pv (v := .bool r117.2) (pv_assign rfl) (by decide) ?_
    refine el_nil ?_
    refine hQ116 _ _ _ ?_
    refine thn_n ?_
    refine cw_seq ?_
    refine cw_gen ?_
    intro Q127 hQ127
    refine cw_seq ?_
    refine cw_gen ?_
    intro Q128 hQ128
    replace hS : Sat w0 w126 [Box b123 46 [.int .i64 r117.1.1, v118], Own (sliceR (sliceR intR 3) 24) [v118] r117.1.2, Box b107 48 [.string a1, .int .i64 a2, u3, .int .i64 a4, u5]] := hS.rems 4 [3] rfl
    refine cw_reg ?_
    refine el_pv (v := .int .i64 0) (pv_assign rfl) (by decide) ?_
    refine el_nil ?_
    refine hQ128 _ _ _ ?_
    refine thn_n ?_
    refine cw_block ?_
    refine cw_gen ?_
    intro Q129 hQ129
    obtain ⟨s130, hL, hK131⟩ := ob hF
    refine cw_loopS (fun k e w => ∃ (x132 : Int), e 3 = .pointer (some ⟨b107, 0, none⟩) ∧ e 5 = .pointer (some ⟨b123, 0, none⟩) ∧ e 7 = .int .i64 x132 ∧ Sat w0 w [Box b123 46 [.int .i64 r117.1.1, v118], Own (sliceR (sliceR intR 3) 24) [v118] r117.1.2, Box b107 48 [.string a1, .int .i64 a2, u3, .int .i64 a4, u5]] ∧ spec_IsValidDelta_L1 N k a1 a2 a3 a4 a5 r117.1.1 r117.1.2 x132 = some s130) N ?_ ?_ ?_
    · exact ⟨0, rfl, rfl, rfl, hS, hL⟩
    · rintro e w ⟨_, _, _, _, _, hz⟩; exact nomatch (show none = some _ from hz)
    · rintro k e137 w136 ⟨x132, he133, he134, he135, hS, hF⟩
      refine cw_gen ?_
      intro Q138 hQ138
      refine cw_seq ?_
      refine cw_gen ?_
      intro Q139 hQ139
      refine cw_seq ?_
      refine cw_gen ?_
      intro Q140 hQ140
      refine cw_reg ?_
      refine el_pv (v := .int .i64 x132) (pv_move he135) (by decide) ?_
      refine el_pv (v := .pointer (some ⟨b107, 0 + 1, none⟩)) (pv_fieldAddr he133) (by decide) ?_
      refine el_pv (v := .pointer (some ⟨b107, 0 + 1 + 1, none⟩)) (pv_fieldAddr rfl) (by decide) ?_
      refine el_pv (v := u3) (pv_loadc rfl ((hS.boxAt 2 rfl) 2 _ rfl)) (by decide) ?_
      refine el_pv (v := .int .i64 (a3.length : Int)) (pv_len rfl ha3) (by decide) ?_
      refine el_pv (v := .bool (decide (x132 < (a3.length : Int)))) (pv_lss rfl rfl) (by decide) ?_
      refine el_nil ?_
      refine hQ140 _ _ _ ?_
      refine thn_n ?_
      replace hF := oif hF
      rcases hF with ⟨hb141, hF⟩ | ⟨hb141, hF⟩
      · refine cw_cond_t rfl hb141 ?_
        refine cw_skip ?_
        refine hQ139 _ _ _ ?_
        refine thn_n ?_
        refine cw_seq ?_
        refine cw_gen ?_
        intro Q142 hQ142
        refine cw_block ?_
        refine cw_gen ?_
        intro Q143 hQ143
        refine cw_seq ?_
        refine cw_gen ?_
        intro Q144 hQ144
        refine cw_regq (by kernel_rfl) (by kernel_rfl) ?_
        refine ql_pv (v := .agg #[.int .i64 r117.1.1, v118]) (pv_loada (cs := [.int .i64 r117.1.1, v118]) he134 rfl (boxc0 (hS.boxAt 0 rfl))) (by decide) ?_
        refine ql_pv (v := .pointer (some ⟨b107, 0 + 1, none⟩)) (pv_fieldAddr he133) (by decide) ?_
        refine ql_pv (v := .pointer (some ⟨b107, 0 + 1 + 1, none⟩)) (pv_fieldAddr rfl) (by decide) ?_
        refine ql_pv (v := u3) (pv_loadc rfl ((hS.boxAt 2 rfl) 2 _ rfl)) (by decide) ?_
        refine ql_pv (v := .int .i64 x132) (pv_move he135) (by decide) ?_
        replace hF := ob hF
        obtain ⟨x145, hx145, hF⟩ := hF
        refine ql_index (wA := w0) rfl ha3 rfl (by decide) rfl hx145 (by decide) ?_
        intro b146 of147 c148 hr149 hm150
        obtain ⟨v151, rfl⟩ := slice_one hr149
        refine ql_pv (v := v151) (pv_loadc rfl ((cells_up hS.below hm150) 0 _ rfl)) (by decide) ?_
        replace hF := ob hF
        obtain ⟨r152, hr152, hF⟩ := hF
        refine ql_call (.bool r152) goes38 (fun w' hw' => spec_ContainsRow_ok (rd_up (hS.rdAt (R := (sliceR (sliceR intR 3) 24)) 1 rfl) hw') (rd_up (hS.up hr149) hw') hr152) (congrArg List.toArray (mapc rfl (mapc rfl rfl))) (by decide) ?_
        refine ql_nil ?_
        intro w153 hx154
        replace hS := hS.ext hx154
        refine hQ144 _ _ _ ?_
        refine thn_n ?_
        replace hF := oif hF
        rcases hF with ⟨hb155, hF⟩ | ⟨hb155, hF⟩
        · refine cw_cond_t rfl hb155 ?_
          refine cw_seq ?_
          refine cw_gen ?_
          intro Q156 hQ156
          replace hS : Sat w0 w153 [] := hS.rems 3 [0, 1, 2] rfl
          refine cw_reg ?_
          refine el_pv (v := .bool false) (pv_assign rfl) (by decide) ?_
          refine el_nil ?_
          refine hQ156 _ _ _ ?_
          refine thn_n ?_
          refine cw_ret ?_
          refine hQ143 _ _ _ ?_
          refine inb_r ?_
          refine hQ142 _ _ _ ?_
          refine thn_r ?_
          refine hQ138 _ _ _ ?_
          refine thn_r ?_
          refine hQ129 _ _ _ ?_
          refine inb_r ?_
          refine hQ127 _ _ _ ?_
          refine thn_r ?_
          replace hF := exL hF hK131
          refine fin1 rfl rfl ?_
          have hr := Option.some.inj hF
          exact ⟨congrArg (fun (r : Bool) => Ending.returned (.bool r)) hr, hS.below⟩
        · refine cw_cond_f rfl hb155 ?_
          refine cw_skip ?_
          refine hQ143 _ _ _ ?_
          refine inb_n ?_
          refine hQ142 _ _ _ ?_
          refine thn_n ?_
          refine cw_reg ?_
          refine el_pv (v := .int .i64 x132) (pv_move he135) (by decide) ?_
          replace hF := ob hF
          obtain ⟨x157, hx157, hF⟩ := hF
          refine el_pv (v := .int .i64 x157) (pv_add rfl rfl hx157) (by decide) ?_
          refine el_pv (v := .int .i64 x157) (pv_assign rfl) (by decide) ?_
          refine el_nil ?_
          refine hQ138 _ _ _ ?_
          refine thn_n ?_
          replace hS := hS.keep 3
          exact ⟨x157, he133, he134, rfl, hS, hF⟩
      · refine cw_cond_f rfl hb141 ?_
        refine cw_exit ?_
        refine hQ139 _ _ _ ?_
        refine thn_x ?_
        refine hQ138 _ _ _ ?_
        refine thn_x ?_
        replace hF := exA hF hK131
        refine hQ129 _ _ _ ?_
        refine inb_s ?_
        refine hQ127 _ _ _ ?_
        refine thn_n ?_
        refine cw_seq ?_
        refine cw_gen ?_
        intro Q158 hQ158
        refine cw_seq ?_
        refine cw_gen ?_
        intro Q159 hQ159
        refine cw_reg ?_
        refine el_pv (v := .int .i64 0) (pv_assign rfl) (by decide) ?_
        refine el_nil ?_
        refine hQ159 _ _ _ ?_
        refine thn_n ?_
        refine cw_block ?_
        refine cw_gen ?_
        intro Q160 hQ160
        obtain ⟨s161, hL, hK162⟩ := ob hF
        refine cw_loopS (fun k e w => ∃ (x163 : Int), e 3 = .pointer (some ⟨b107, 0, none⟩) ∧ e 5 = .pointer (some ⟨b123, 0, none⟩) ∧ e 8 = .int .i64 x163 ∧ Sat w0 w [Box b123 46 [.int .i64 r117.1.1, v118], Own (sliceR (sliceR intR 3) 24) [v118] r117.1.2, Box b107 48 [.string a1, .int .i64 a2, u3, .int .i64 a4, u5]] ∧ spec_IsValidDelta_L2 N k a1 a2 a3 a4 a5 r117.1.1 r117.1.2 x163 = some s161) N ?_ ?_ ?_
        · exact ⟨0, he133, he134, rfl, hS, hL⟩
        · rintro e w ⟨_, _, _, _, _, hz⟩; exact nomatch (show none = some _ from hz)
        · rintro k e168 w167 ⟨x163, he164, he165, he166, hS, hF⟩
          refine cw_gen ?_
          intro Q169 hQ169
          refine cw_seq ?_
          refine cw_gen ?_
          intro Q170 hQ170
          refine cw_seq ?_
          refine cw_gen ?_
          intro Q171 hQ171
          refine cw_reg ?_
          refine el_pv (v := .int .i64 x163) (pv_move he166) (by decide) ?_
          refine el_pv (v := .pointer (some ⟨b107, 0 + 3, none⟩)) (pv_fieldAddr he164) (by decide) ?_
          refine el_pv (v := .pointer (some ⟨b107, 0 + 3 + 1, none⟩)) (pv_fieldAddr rfl) (by decide) ?_
          refine el_pv (v := u5) (pv_loadc rfl ((hS.boxAt 2 rfl) 4 _ rfl)) (by decide) ?_
          refine el_pv (v := .int .i64 (a5.length : Int)) (pv_len rfl ha5) (by decide) ?_
          refine el_pv (v := .bool (decide (x163 < (a5.length : Int)))) (pv_lss rfl rfl) (by decide) ?_
          refine el_nil ?_
          refine hQ171 _ _ _ ?_
          refine thn_n ?_
          replace hF := oif hF
          rcases hF with ⟨hb172, hF⟩ | ⟨hb172, hF⟩
          · refine cw_cond_t rfl hb172 ?_
            refine cw_skip ?_
            refine hQ170 _ _ _ ?_
            refine thn_n ?_
            refine cw_seq ?_
            refine cw_gen ?_
            intro Q173 hQ173
            refine cw_block ?_
            refine cw_gen ?_
            intro Q174 hQ174
            refine cw_seq ?_
            refine cw_gen ?_
            intro Q175 hQ175
            refine cw_regq (by kernel_rfl) (by kernel_rfl) ?_
            refine ql_pv (v := .agg #[.int .i64 r117.1.1, v118]) (pv_loada (cs := [.int .i64 r117.1.1, v118]) he165 rfl (boxc0 (hS.boxAt 0 rfl))) (by decide) ?_
            refine ql_pv (v := .pointer (some ⟨b107, 0 + 3, none⟩)) (pv_fieldAddr he164) (by decide) ?_
            refine ql_pv (v := .pointer (some ⟨b107, 0 + 3 + 1, none⟩)) (pv_fieldAddr rfl) (by decide) ?_
            refine ql_pv (v := u5) (pv_loadc rfl ((hS.boxAt 2 rfl) 4 _ rfl)) (by decide) ?_
            refine ql_pv (v := .int .i64 x163) (pv_move he166) (by decide) ?_
            replace hF := ob hF
            obtain ⟨x176, hx176, hF⟩ := hF
            refine ql_index (wA := w0) rfl ha5 rfl (by decide) rfl hx176 (by decide) ?_
            intro b177 of178 c179 hr180 hm181
            obtain ⟨v182, rfl⟩ := slice_one hr180
            refine ql_pv (v := v182) (pv_loadc rfl ((cells_up hS.below hm181) 0 _ rfl)) (by decide) ?_
            replace hF := ob hF
            obtain ⟨r183, hr183, hF⟩ := hF
            refine ql_call (.bool r183) goes38 (fun w' hw' => spec_ContainsRow_ok (rd_up (hS.rdAt (R := (sliceR (sliceR intR 3) 24)) 1 rfl) hw') (rd_up (hS.up hr180) hw') hr183) (congrArg List.toArray (mapc rfl (mapc rfl rfl))) (by decide) ?_
            refine ql_pv (v := .bool (!r183)) (pv_not rfl) (by decide) ?_
            refine ql_nil ?_
            intro w184 hx185
            replace hS := hS.ext hx185
            refine hQ175 _ _ _ ?_
            refine thn_n ?_
            replace hF := oif hF
            rcases hF with ⟨hb186, hF⟩ | ⟨hb186, hF⟩
            · refine cw_cond_f rfl (bnot_t hb186) ?_
              refine cw_skip ?_
              refine hQ174 _ _ _ ?_
              refine inb_n ?_
              refine hQ173 _ _ _ ?_
              refine thn_n ?_
              refine cw_reg ?_
              refine el_pv (v := .int .i64 x163) (pv_move he166) (by decide) ?_
              replace hF := ob hF
              obtain ⟨x187, hx187, hF⟩ := hF
              refine el_pv (v := .int .i64 x187) (pv_add rfl rfl hx187) (by decide) ?_
              refine el_pv (v := .int .i64 x187) (pv_assign rfl) (by decide) ?_
              refine el_nil ?_
              refine hQ169 _ _ _ ?_
              refine thn_n ?_
              replace hS := hS.keep 3
              exact ⟨x187, he164, he165, rfl, hS, hF⟩
            · refine cw_cond_t rfl (bnot_f hb186) ?_
              refine cw_seq ?_
              refine cw_gen ?_
              intro Q188 hQ188
              replace hS : Sat w0 w184 [] := hS.rems 3 [0, 1, 2] rfl
              refine cw_reg ?_
              refine el_pv (v := .bool false) (pv_assign rfl) (by decide) ?_
              refine el_nil ?_
              refine hQ188 _ _ _ ?_
              refine thn_n ?_
              refine cw_ret ?_
              refine hQ174 _ _ _ ?_
              refine inb_r ?_
              refine hQ173 _ _ _ ?_
              refine thn_r ?_
              refine hQ169 _ _ _ ?_
              refine thn_r ?_
              refine hQ160 _ _ _ ?_
              refine inb_r ?_
              refine hQ158 _ _ _ ?_
              refine thn_r ?_
              replace hF := exL hF hK162
              refine fin1 rfl rfl ?_
              have hr := Option.some.inj hF
              exact ⟨congrArg (fun (r : Bool) => Ending.returned (.bool r)) hr, hS.below⟩
          · refine cw_cond_f rfl hb172 ?_
            refine cw_exit ?_
            refine hQ170 _ _ _ ?_
            refine thn_x ?_
            refine hQ169 _ _ _ ?_
            refine thn_x ?_
            replace hF := exA hF hK162
            refine hQ160 _ _ _ ?_
            refine inb_s ?_
            refine hQ158 _ _ _ ?_
            refine thn_n ?_
            refine cw_seq ?_
            refine cw_gen ?_
            intro Q189 hQ189
            replace hS : Sat w0 w167 [] := hS.rems 3 [0, 1, 2] rfl
            refine cw_reg ?_
            refine el_pv (v := .bool true) (pv_assign rfl) (by decide) ?_
            refine el_nil ?_
            refine hQ189 _ _ _ ?_
            refine thn_n ?_
            refine cw_ret ?_
            refine fin1 rfl rfl ?_
            have hr := Option.some.inj hF
            exact ⟨congrArg (fun (r : Bool) => Ending.returned (.bool r)) hr, hS.below⟩
  · refine cw_cond_t rfl (bnot_f hb115) ?_
    refine cw_seq ?_
    refine cw_gen ?_
    intro Q190 hQ190
    replace hS : Sat w0 w113 [] := hS.rems 2 [0, 1] rfl
    refine cw_reg ?_
    refine el_pv (v := .bool false) (pv_assign rfl) (by decide) ?_
    refine el_nil ?_
    refine hQ190 _ _ _ ?_
    refine thn_n ?_
    refine cw_ret ?_
    refine hQ110 _ _ _ ?_
    refine thn_r ?_
    refine fin1 rfl rfl ?_
    have hr := Option.some.inj hF
    exact ⟨congrArg (fun (r : Bool) => Ending.returned (.bool r)) hr, hS.below⟩
end Go.Proofs.Ytnanddmadghnnaa
