/- The walks through functions of the program: each hands back what it comes to. No condition but that it comes to something. -/
import Derived.Test.YtnanddmadghnnaaGoes
import Derived.Test.YtnanddmadghnnaaN
import Derived.Test.YtnanddmadghnnaaW0D
namespace Go.Proofs.Ytnanddmadghnnaa
open Go.RowKit
set_option maxRecDepth 100000
set_option maxHeartbeats 4000000 in
theorem laws_szIntS_ok {w0 : World} {u0 : Value} {a0 : List Int} {a1 : Int} (ha0 : (sliceR intR 3).rd w0 [u0] a0) {N : Nat} {r : Int} (hF : laws_szIntS N a0 a1 = some r) :
    Calls Try.prog 28 #[u0, .int .i64 a1] w0 fun e w' => e = .returned (.int .i64 r) ∧ Ext w0 w' := by
  unfold laws_szIntS at hF
  refine calls_E Try.func28 rfl rfl (of_decide_eq_true rfl) ?_
  have hS := Sat.start w0
  refine cw_seq ?_
  refine cw_gen ?_
  intro Q101 hQ101
  refine cw_reg ?_
  refine el_pv (v := .int .i64 0) (pv_assign rfl) (by decide) ?_
  refine el_nil ?_
  refine hQ101 _ _ _ ?_
  refine thn_n ?_
  refine cw_seq ?_
  refine cw_gen ?_
  intro Q102 hQ102
  refine cw_reg ?_
  refine el_pv (v := .int .i64 a1) (pv_move rfl) (by decide) ?_
  refine el_pv (v := u0) (pv_move rfl) (by decide) ?_
  refine el_pv (v := .int .i64 (a0.length : Int)) (pv_len rfl ha0) (by decide) ?_
  replace hF := ob hF
  obtain ⟨x103, hx103, hF⟩ := hF
  refine el_pv (v := .int .i64 x103) (pv_sub rfl rfl hx103) (by decide) ?_
  refine el_pv (v := .int .i64 x103) (pv_assign rfl) (by decide) ?_
  refine el_nil ?_
  refine hQ102 _ _ _ ?_
  refine thn_n ?_
  refine cw_seq ?_
  refine cw_gen ?_
  intro Q104 hQ104
  refine cw_seq ?_
  refine cw_gen ?_
  intro Q105 hQ105
  refine cw_reg ?_
  refine el_pv (v := .int .i64 x103) (pv_move rfl) (by decide) ?_
  refine el_pv (v := .bool (decide (x103 < 0))) (pv_lss rfl rfl) (by decide) ?_
  refine el_nil ?_
  refine hQ105 _ _ _ ?_
  refine thn_n ?_
  replace hF := oif hF
  rcases hF with ⟨hb106, hF⟩ | ⟨hb106, hF⟩
  · refine cw_cond_t rfl hb106 ?_
    refine cw_seq ?_
    refine cw_gen ?_
    intro Q107 hQ107
    refine cw_reg ?_
    refine el_pv (v := .int .i64 (-1)) (pv_assign rfl) (by decide) ?_
    refine el_nil ?_
    refine hQ107 _ _ _ ?_
    refine thn_n ?_
    refine cw_ret ?_
    refine hQ104 _ _ _ ?_
    refine thn_r ?_
    refine fin1 rfl rfl ?_
    have hr := Option.some.inj hF
    exact ⟨congrArg (fun (r : Int) => Ending.returned (.int .i64 r)) hr, hS.below⟩
  · refine cw_cond_f rfl hb106 ?_
    refine cw_skip ?_
    refine hQ104 _ _ _ ?_
    refine thn_n ?_
    refine cw_seq ?_
    refine cw_gen ?_
    intro Q108 hQ108
    refine cw_reg ?_
    refine el_pv (v := .int .i64 x103) (pv_move rfl) (by decide) ?_
    refine el_pv (v := .int .i64 x103) (pv_assign rfl) (by decide) ?_
    refine el_nil ?_
    refine hQ108 _ _ _ ?_
    refine thn_n ?_
    refine cw_ret ?_
    refine fin1 rfl rfl ?_
    have hr := Option.some.inj hF
    exact ⟨congrArg (fun (r : Int) => Ending.returned (.int .i64 r)) hr, hS.below⟩
set_option maxHeartbeats 4000000 in
theorem laws_szIntSS_ok {w0 : World} {u0 : Value} {a0 : List (List Int)} {a1 : Int} (ha0 : (sliceR (sliceR intR 3) 24).rd w0 [u0] a0) {N : Nat} {r : Int} (hF : laws_szIntSS N a0 a1 = some r) :
    Calls Try.prog 6 #[u0, .int .i64 a1] w0 fun e w' => e = .returned (.int .i64 r) ∧ Ext w0 w' := by
  unfold laws_szIntSS at hF
  refine calls_E Try.func6 rfl rfl (of_decide_eq_true rfl) ?_
  have hS := Sat.start w0
  refine cw_seq ?_
  refine cw_gen ?_
  intro Q101 hQ101
  refine cw_reg ?_
  refine el_pv (v := .int .i64 0) (pv_assign rfl) (by decide) ?_
  refine el_nil ?_
  refine hQ101 _ _ _ ?_
  refine thn_n ?_
  refine cw_seq ?_
  refine cw_gen ?_
  intro Q102 hQ102
  refine cw_reg ?_
  refine el_pv (v := .int .i64 a1) (pv_move rfl) (by decide) ?_
  refine el_pv (v := u0) (pv_move rfl) (by decide) ?_
  refine el_pv (v := .int .i64 (a0.length : Int)) (pv_len rfl ha0) (by decide) ?_
  replace hF := ob hF
  obtain ⟨x103, hx103, hF⟩ := hF
  refine el_pv (v := .int .i64 x103) (pv_sub rfl rfl hx103) (by decide) ?_
  refine el_pv (v := .int .i64 x103) (pv_assign rfl) (by decide) ?_
  refine el_nil ?_
  refine hQ102 _ _ _ ?_
  refine thn_n ?_
  refine cw_seq ?_
  refine cw_gen ?_
  intro Q104 hQ104
  refine cw_seq ?_
  refine cw_gen ?_
  intro Q105 hQ105
  refine cw_reg ?_
  refine el_pv (v := .int .i64 x103) (pv_move rfl) (by decide) ?_
  refine el_pv (v := .bool (decide (x103 < 0))) (pv_lss rfl rfl) (by decide) ?_
  refine el_nil ?_
  refine hQ105 _ _ _ ?_
  refine thn_n ?_
  replace hF := oif hF
  rcases hF with ⟨hb106, hF⟩ | ⟨hb106, hF⟩
  · refine cw_cond_t rfl hb106 ?_
    refine cw_seq ?_
    refine cw_gen ?_
    intro Q107 hQ107
    refine cw_reg ?_
    refine el_pv (v := .int .i64 (-1)) (pv_assign rfl) (by decide) ?_
    refine el_nil ?_
    refine hQ107 _ _ _ ?_
    refine thn_n ?_
    refine cw_ret ?_
    refine hQ104 _ _ _ ?_
    refine thn_r ?_
    refine fin1 rfl rfl ?_
    have hr := Option.some.inj hF
    exact ⟨congrArg (fun (r : Int) => Ending.returned (.int .i64 r)) hr, hS.below⟩
  · refine cw_cond_f rfl hb106 ?_
    refine cw_skip ?_
    refine hQ104 _ _ _ ?_
    refine thn_n ?_
    refine cw_seq ?_
    refine cw_gen ?_
    intro Q108 hQ108
    refine cw_seq ?_
    refine cw_gen ?_
    intro Q109 hQ109
    refine cw_reg ?_
    refine el_pv (v := .int .i64 0) (pv_assign rfl) (by decide) ?_
    refine el_nil ?_
    refine hQ109 _ _ _ ?_
    refine thn_n ?_
    refine cw_block ?_
    refine cw_gen ?_
    intro Q110 hQ110
    obtain ⟨s111, hL, hK112⟩ := ob hF
    refine cw_loopS (fun k e w => ∃ (x113 : Int), ∃ (x114 : Int), e 0 = u0 ∧ e 1 = .int .i64 x113 ∧ e 5 = .int .i64 x114 ∧ Sat w0 w [] ∧ laws_szIntSS_L1 N k a0 x113 x114 = some s111) N ?_ ?_ ?_
    · exact ⟨x103, 0, rfl, rfl, rfl, hS, hL⟩
    · rintro e w ⟨_, _, _, _, _, _, hz⟩; exact nomatch (show none = some _ from hz)
    · rintro k e119 w118 ⟨x113, x114, he115, he116, he117, hS, hF⟩
      refine cw_gen ?_
      intro Q120 hQ120
      refine cw_seq ?_
      refine cw_gen ?_
      intro Q121 hQ121
      refine cw_seq ?_
      refine cw_gen ?_
      intro Q122 hQ122
      refine cw_reg ?_
      refine el_pv (v := .int .i64 x114) (pv_move he117) (by decide) ?_
      refine el_pv (v := u0) (pv_move he115) (by decide) ?_
      refine el_pv (v := .int .i64 (a0.length : Int)) (pv_len rfl ha0) (by decide) ?_
      refine el_pv (v := .bool (decide (x114 < (a0.length : Int)))) (pv_lss rfl rfl) (by decide) ?_
      refine el_nil ?_
      refine hQ122 _ _ _ ?_
      refine thn_n ?_
      replace hF := oif hF
      rcases hF with ⟨hb123, hF⟩ | ⟨hb123, hF⟩
      · refine cw_cond_t rfl hb123 ?_
        refine cw_skip ?_
        refine hQ121 _ _ _ ?_
        refine thn_n ?_
        refine cw_seq ?_
        refine cw_gen ?_
        intro Q124 hQ124
        refine cw_block ?_
        refine cw_gen ?_
        intro Q125 hQ125
        refine cw_seq ?_
        refine cw_gen ?_
        intro Q126 hQ126
        refine cw_reg ?_
        refine el_pv (v := u0) (pv_move he115) (by decide) ?_
        refine el_pv (v := .int .i64 x114) (pv_move he117) (by decide) ?_
        replace hF := ob hF
        obtain ⟨x127, hx127, hF⟩ := hF
        refine el_index (wA := w0) rfl ha0 rfl (by decide) rfl hx127 (by decide) ?_
        intro b128 of129 c130 hr131 hm132
        obtain ⟨v133, rfl⟩ := slice_one hr131
        refine el_pv (v := v133) (pv_loadc rfl ((cells_up hS.below hm132) 0 _ rfl)) (by decide) ?_
        refine el_pv (v := .int .i64 x113) (pv_move he116) (by decide) ?_
        replace hF := ob hF
        obtain ⟨r134, hr134, hF⟩ := hF
        refine el_call goes28 (laws_szIntS_ok (hS.up hr131) hr134) (congrArg List.toArray (mapc rfl (mapc rfl rfl))) (by decide) ?_
        rintro _ w135 ⟨rfl, hx136⟩
        refine ⟨_, rfl, ?_⟩
        replace hS := hS.ext hx136
        refine el_pv (v := .int .i64 r134) (pv_assign rfl) (by decide) ?_
        refine el_nil ?_
        refine hQ126 _ _ _ ?_
        refine thn_n ?_
        refine cw_seq ?_
        refine cw_gen ?_
        intro Q137 hQ137
        refine cw_reg ?_
        refine el_pv (v := .int .i64 r134) (pv_move rfl) (by decide) ?_
        refine el_pv (v := .bool (decide (r134 < 0))) (pv_lss rfl rfl) (by decide) ?_
        refine el_nil ?_
        refine hQ137 _ _ _ ?_
        refine thn_n ?_
        replace hF := oif hF
        rcases hF with ⟨hb138, hF⟩ | ⟨hb138, hF⟩
        · refine cw_cond_t rfl hb138 ?_
          refine cw_seq ?_
          refine cw_gen ?_
          intro Q139 hQ139
          refine cw_reg ?_
          refine el_pv (v := .int .i64 (-1)) (pv_assign rfl) (by decide) ?_
          refine el_nil ?_
          refine hQ139 _ _ _ ?_
          refine thn_n ?_
          refine cw_ret ?_
          refine hQ125 _ _ _ ?_
          refine inb_r ?_
          refine hQ124 _ _ _ ?_
          refine thn_r ?_
          refine hQ120 _ _ _ ?_
          refine thn_r ?_
          refine hQ110 _ _ _ ?_
          refine inb_r ?_
          refine hQ108 _ _ _ ?_
          refine thn_r ?_
          replace hF := exL hF hK112
          refine fin1 rfl rfl ?_
          have hr := Option.some.inj hF
          exact ⟨congrArg (fun (r : Int) => Ending.returned (.int .i64 r)) hr, hS.below⟩
        · refine cw_cond_f rfl hb138 ?_
          refine cw_skip ?_
          refine hQ125 _ _ _ ?_
          refine inb_n ?_
          refine hQ124 _ _ _ ?_
          refine thn_n ?_
          refine cw_reg ?_
          refine el_pv (v := .int .i64 x114) (pv_move he117) (by decide) ?_
          replace hF := ob hF
          obtain ⟨x140, hx140, hF⟩ := hF
          refine el_pv (v := .int .i64 x140) (pv_add rfl rfl hx140) (by decide) ?_
          refine el_pv (v := .int .i64 x140) (pv_assign rfl) (by decide) ?_
          refine el_nil ?_
          refine hQ120 _ _ _ ?_
          refine thn_n ?_
          replace hS := hS.keep 0
          exact ⟨r134, x140, he115, rfl, rfl, hS, hF⟩
      · refine cw_cond_f rfl hb123 ?_
        refine cw_exit ?_
        refine hQ121 _ _ _ ?_
        refine thn_x ?_
        refine hQ120 _ _ _ ?_
        refine thn_x ?_
        replace hF := exA hF hK112
        refine hQ110 _ _ _ ?_
        refine inb_s ?_
        refine hQ108 _ _ _ ?_
        refine thn_n ?_
        refine cw_seq ?_
        refine cw_gen ?_
        intro Q141 hQ141
        refine cw_reg ?_
        refine el_pv (v := .int .i64 x113) (pv_move he116) (by decide) ?_
        refine el_pv (v := .int .i64 x113) (pv_assign rfl) (by decide) ?_
        refine el_nil ?_
        refine hQ141 _ _ _ ?_
        refine thn_n ?_
        refine cw_ret ?_
        refine fin1 rfl rfl ?_
        have hr := Option.some.inj hF
        exact ⟨congrArg (fun (r : Int) => Ending.returned (.int .i64 r)) hr, hS.below⟩
set_option maxHeartbeats 4000000 in
theorem spec_IsStrictlyAscending_ok {w0 : World} {u0 : Value} {a0 : List Int} (ha0 : (sliceR intR 3).rd w0 [u0] a0) {N : Nat} {r : Bool} (hF : spec_IsStrictlyAscending N a0 = some r) :
    Calls Try.prog 51 #[u0] w0 fun e w' => e = .returned (.bool r) ∧ Ext w0 w' := by
  unfold spec_IsStrictlyAscending at hF
  refine calls_E Try.func51 rfl rfl (of_decide_eq_true rfl) ?_
  have hS := Sat.start w0
  refine cw_seq ?_
  refine cw_gen ?_
  intro Q101 hQ101
  refine cw_reg ?_
  refine el_pv (v := .bool false) (pv_assign rfl) (by decide) ?_
  refine el_nil ?_
  refine hQ101 _ _ _ ?_
  refine thn_n ?_
  refine cw_seq ?_
  refine cw_gen ?_
  intro Q102 hQ102
  refine cw_seq ?_
  refine cw_gen ?_
  intro Q103 hQ103
  refine cw_reg ?_
  refine el_pv (v := .int .i64 1) (pv_assign rfl) (by decide) ?_
  refine el_nil ?_
  refine hQ103 _ _ _ ?_
  refine thn_n ?_
  refine cw_block ?_
  refine cw_gen ?_
  intro Q104 hQ104
  obtain ⟨s105, hL, hK106⟩ := ob hF
  refine cw_loopS (fun k e w => ∃ (x107 : Int), e 0 = u0 ∧ e 3 = .int .i64 x107 ∧ Sat w0 w [] ∧ spec_IsStrictlyAscending_L1 N k a0 x107 = some s105) N ?_ ?_ ?_
  · exact ⟨1, rfl, rfl, hS, hL⟩
  · rintro e w ⟨_, _, _, _, hz⟩; exact nomatch (show none = some _ from hz)
  · rintro k e111 w110 ⟨x107, he108, he109, hS, hF⟩
    refine cw_gen ?_
    intro Q112 hQ112
    refine cw_seq ?_
    refine cw_gen ?_
    intro Q113 hQ113
    refine cw_seq ?_
    refine cw_gen ?_
    intro Q114 hQ114
    refine cw_reg ?_
    refine el_pv (v := .int .i64 x107) (pv_move he109) (by decide) ?_
    refine el_pv (v := u0) (pv_move he108) (by decide) ?_
    refine el_pv (v := .int .i64 (a0.length : Int)) (pv_len rfl ha0) (by decide) ?_
    refine el_pv (v := .bool (decide (x107 < (a0.length : Int)))) (pv_lss rfl rfl) (by decide) ?_
    refine el_nil ?_
    refine hQ114 _ _ _ ?_
    refine thn_n ?_
    replace hF := oif hF
    rcases hF with ⟨hb115, hF⟩ | ⟨hb115, hF⟩
    · refine cw_cond_t rfl hb115 ?_
      refine cw_skip ?_
      refine hQ113 _ _ _ ?_
      refine thn_n ?_
      refine cw_seq ?_
      refine cw_gen ?_
      intro Q116 hQ116
      refine cw_block ?_
      refine cw_gen ?_
      intro Q117 hQ117
      refine cw_seq ?_
      refine cw_gen ?_
      intro Q118 hQ118
      refine cw_regq (by kernel_rfl) (by kernel_rfl) ?_
      refine ql_pv (v := u0) (pv_move he108) (by decide) ?_
      refine ql_pv (v := .int .i64 x107) (pv_move he109) (by decide) ?_
      replace hF := ob hF
      obtain ⟨x119, hx119, hF⟩ := hF
      refine ql_index (wA := w0) rfl ha0 rfl (by decide) rfl hx119 (by decide) ?_
      intro b120 of121 c122 hr123 hm124
      obtain rfl := hr123
      refine ql_pv (v := .int .i64 x119) (pv_loadc rfl ((cells_up hS.below hm124) 0 _ rfl)) (by decide) ?_
      refine ql_pv (v := u0) (pv_move he108) (by decide) ?_
      refine ql_pv (v := .int .i64 x107) (pv_move he109) (by decide) ?_
      replace hF := ob hF
      obtain ⟨x125, hx125, hF⟩ := hF
      refine ql_pv (v := .int .i64 x125) (pv_sub rfl rfl hx125) (by decide) ?_
      replace hF := ob hF
      obtain ⟨x126, hx126, hF⟩ := hF
      refine ql_index (wA := w0) rfl ha0 rfl (by decide) rfl hx126 (by decide) ?_
      intro b127 of128 c129 hr130 hm131
      obtain rfl := hr130
      refine ql_pv (v := .int .i64 x126) (pv_loadc rfl ((cells_up hS.below hm131) 0 _ rfl)) (by decide) ?_
      refine ql_pv (v := .bool (decide (x119 ≤ x126))) (pv_leq rfl rfl) (by decide) ?_
      refine ql_nil ?_
      intro w132 hx133
      replace hS := hS.ext hx133
      refine hQ118 _ _ _ ?_
      refine thn_n ?_
      replace hF := oif hF
      rcases hF with ⟨hb134, hF⟩ | ⟨hb134, hF⟩
      · refine cw_cond_t rfl hb134 ?_
        refine cw_seq ?_
        refine cw_gen ?_
        intro Q135 hQ135
        refine cw_reg ?_
        refine el_pv (v := .bool false) (pv_assign rfl) (by decide) ?_
        refine el_nil ?_
        refine hQ135 _ _ _ ?_
        refine thn_n ?_
        refine cw_ret ?_
        refine hQ117 _ _ _ ?_
        refine inb_r ?_
        refine hQ116 _ _ _ ?_
        refine thn_r ?_
        refine hQ112 _ _ _ ?_
        refine thn_r ?_
        refine hQ104 _ _ _ ?_
        refine inb_r ?_
        refine hQ102 _ _ _ ?_
        refine thn_r ?_
        replace hF := exL hF hK106
        refine fin1 rfl rfl ?_
        have hr := Option.some.inj hF
        exact ⟨congrArg (fun (r : Bool) => Ending.returned (.bool r)) hr, hS.below⟩
      · refine cw_cond_f rfl hb134 ?_
        refine cw_skip ?_
        refine hQ117 _ _ _ ?_
        refine inb_n ?_
        refine hQ116 _ _ _ ?_
        refine thn_n ?_
        refine cw_reg ?_
        refine el_pv (v := .int .i64 x107) (pv_move he109) (by decide) ?_
        replace hF := ob hF
        obtain ⟨x136, hx136, hF⟩ := hF
        refine el_pv (v := .int .i64 x136) (pv_add rfl rfl hx136) (by decide) ?_
        refine el_pv (v := .int .i64 x136) (pv_assign rfl) (by decide) ?_
        refine el_nil ?_
        refine hQ112 _ _ _ ?_
        refine thn_n ?_
        replace hS := hS.keep 0
        exact ⟨x136, he108, rfl, hS, hF⟩
    · refine cw_cond_f rfl hb115 ?_
      refine cw_exit ?_
      refine hQ113 _ _ _ ?_
      refine thn_x ?_
      refine hQ112 _ _ _ ?_
      refine thn_x ?_
      replace hF := exA hF hK106
      refine hQ104 _ _ _ ?_
      refine inb_s ?_
      refine hQ102 _ _ _ ?_
      refine thn_n ?_
      refine cw_seq ?_
      refine cw_gen ?_
      intro Q137 hQ137
      refine cw_reg ?_
      refine el_pv (v := .bool true) (pv_assign rfl) (by decide) ?_
      refine el_nil ?_
      refine hQ137 _ _ _ ?_
      refine thn_n ?_
      refine cw_ret ?_
      refine fin1 rfl rfl ?_
      have hr := Option.some.inj hF
      exact ⟨congrArg (fun (r : Bool) => Ending.returned (.bool r)) hr, hS.below⟩
set_option maxHeartbeats 4000000 in
theorem spec_l18All_ok {w0 : World} {u0 : Value} {a0 : List (List Int)} (ha0 : (sliceR (sliceR intR 3) 24).rd w0 [u0] a0) {N : Nat} {r : Bool} (hF : spec_l18All N a0 = some r) :
    Calls Try.prog 29 #[u0] w0 fun e w' => e = .returned (.bool r) ∧ Ext w0 w' := by
  unfold spec_l18All at hF
  refine calls_E Try.func29 rfl rfl (of_decide_eq_true rfl) ?_
  have hS := Sat.start w0
  refine cw_seq ?_
  refine cw_gen ?_
  intro Q101 hQ101
  refine cw_reg ?_
  refine el_pv (v := .bool false) (pv_assign rfl) (by decide) ?_
  refine el_nil ?_
  refine hQ101 _ _ _ ?_
  refine thn_n ?_
  refine cw_seq ?_
  refine cw_gen ?_
  intro Q102 hQ102
  refine cw_seq ?_
  refine cw_gen ?_
  intro Q103 hQ103
  refine cw_reg ?_
  refine el_pv (v := .int .i64 0) (pv_assign rfl) (by decide) ?_
  refine el_nil ?_
  refine hQ103 _ _ _ ?_
  refine thn_n ?_
  refine cw_block ?_
  refine cw_gen ?_
  intro Q104 hQ104
  obtain ⟨s105, hL, hK106⟩ := ob hF
  refine cw_loopS (fun k e w => ∃ (x107 : Int), e 0 = u0 ∧ e 3 = .int .i64 x107 ∧ Sat w0 w [] ∧ spec_l18All_L1 N k a0 x107 = some s105) N ?_ ?_ ?_
  · exact ⟨0, rfl, rfl, hS, hL⟩
  · rintro e w ⟨_, _, _, _, hz⟩; exact nomatch (show none = some _ from hz)
  · rintro k e111 w110 ⟨x107, he108, he109, hS, hF⟩
    refine cw_gen ?_
    intro Q112 hQ112
    refine cw_seq ?_
    refine cw_gen ?_
    intro Q113 hQ113
    refine cw_seq ?_
    refine cw_gen ?_
    intro Q114 hQ114
    refine cw_reg ?_
    refine el_pv (v := .int .i64 x107) (pv_move he109) (by decide) ?_
    refine el_pv (v := u0) (pv_move he108) (by decide) ?_
    refine el_pv (v := .int .i64 (a0.length : Int)) (pv_len rfl ha0) (by decide) ?_
    refine el_pv (v := .bool (decide (x107 < (a0.length : Int)))) (pv_lss rfl rfl) (by decide) ?_
    refine el_nil ?_
    refine hQ114 _ _ _ ?_
    refine thn_n ?_
    replace hF := oif hF
    rcases hF with ⟨hb115, hF⟩ | ⟨hb115, hF⟩
    · refine cw_cond_t rfl hb115 ?_
      refine cw_skip ?_
      refine hQ113 _ _ _ ?_
      refine thn_n ?_
      refine cw_seq ?_
      refine cw_gen ?_
      intro Q116 hQ116
      refine cw_block ?_
      refine cw_gen ?_
      intro Q117 hQ117
      refine cw_seq ?_
      refine cw_gen ?_
      intro Q118 hQ118
      refine cw_reg ?_
      refine el_pv (v := u0) (pv_move he108) (by decide) ?_
      refine el_pv (v := .int .i64 x107) (pv_move he109) (by decide) ?_
      replace hF := ob hF
      obtain ⟨x119, hx119, hF⟩ := hF
      refine el_index (wA := w0) rfl ha0 rfl (by decide) rfl hx119 (by decide) ?_
      intro b120 of121 c122 hr123 hm124
      obtain ⟨v125, rfl⟩ := slice_one hr123
      refine el_pv (v := v125) (pv_loadc rfl ((cells_up hS.below hm124) 0 _ rfl)) (by decide) ?_
      replace hF := ob hF
      obtain ⟨r126, hr126, hF⟩ := hF
      refine el_call goes51 (spec_IsStrictlyAscending_ok (hS.up hr123) hr126) (congrArg List.toArray (mapc rfl rfl)) (by decide) ?_
      rintro _ w127 ⟨rfl, hx128⟩
      refine ⟨_, rfl, ?_⟩
      replace hS := hS.ext hx128
      refine el_pv (v := .bool (!r126)) (pv_not rfl) (by decide) ?_
      refine el_nil ?_
      refine hQ118 _ _ _ ?_
      refine thn_n ?_
      replace hF := oif hF
      rcases hF with ⟨hb129, hF⟩ | ⟨hb129, hF⟩
      · refine cw_cond_f rfl (bnot_t hb129) ?_
        refine cw_skip ?_
        refine hQ117 _ _ _ ?_
        refine inb_n ?_
        refine hQ116 _ _ _ ?_
        refine thn_n ?_
        refine cw_reg ?_
        refine el_pv (v := .int .i64 x107) (pv_move he109) (by decide) ?_
        replace hF := ob hF
        obtain ⟨x130, hx130, hF⟩ := hF
        refine el_pv (v := .int .i64 x130) (pv_add rfl rfl hx130) (by decide) ?_
        refine el_pv (v := .int .i64 x130) (pv_assign rfl) (by decide) ?_
        refine el_nil ?_
        refine hQ112 _ _ _ ?_
        refine thn_n ?_
        replace hS := hS.keep 0
        exact ⟨x130, he108, rfl, hS, hF⟩
      · refine cw_cond_t rfl (bnot_f hb129) ?_
        refine cw_seq ?_
        refine cw_gen ?_
        intro Q131 hQ131
        refine cw_reg ?_
        refine el_pv (v := .bool false) (pv_assign rfl) (by decide) ?_
        refine el_nil ?_
        refine hQ131 _ _ _ ?_
        refine thn_n ?_
        refine cw_ret ?_
        refine hQ117 _ _ _ ?_
        refine inb_r ?_
        refine hQ116 _ _ _ ?_
        refine thn_r ?_
        refine hQ112 _ _ _ ?_
        refine thn_r ?_
        refine hQ104 _ _ _ ?_
        refine inb_r ?_
        refine hQ102 _ _ _ ?_
        refine thn_r ?_
        replace hF := exL hF hK106
        refine fin1 rfl rfl ?_
        have hr := Option.some.inj hF
        exact ⟨congrArg (fun (r : Bool) => Ending.returned (.bool r)) hr, hS.below⟩
    · refine cw_cond_f rfl hb115 ?_
      refine cw_exit ?_
      refine hQ113 _ _ _ ?_
      refine thn_x ?_
      refine hQ112 _ _ _ ?_
      refine thn_x ?_
      replace hF := exA hF hK106
      refine hQ104 _ _ _ ?_
      refine inb_s ?_
      refine hQ102 _ _ _ ?_
      refine thn_n ?_
      refine cw_seq ?_
      refine cw_gen ?_
      intro Q132 hQ132
      refine cw_reg ?_
      refine el_pv (v := u0) (pv_move he108) (by decide) ?_
      refine el_pv (v := .int .i64 (a0.length : Int)) (pv_len rfl ha0) (by decide) ?_
      refine el_pv (v := .bool (decide (0 < (a0.length : Int)))) (pv_gtr rfl rfl) (by decide) ?_
      refine el_pv (v := .bool (decide (0 < (a0.length : Int)))) (pv_assign rfl) (by decide) ?_
      refine el_nil ?_
      refine hQ132 _ _ _ ?_
      refine thn_n ?_
      refine cw_ret ?_
      refine fin1 rfl rfl ?_
      have hr := Option.some.inj hF
      exact ⟨congrArg (fun (r : Bool) => Ending.returned (.bool r)) hr, hS.below⟩
set_option maxHeartbeats 4000000 in
theorem spec_l7Find_ok {w0 : World} {u0 : Value} {a0 : List Int} {a1 : Int} (ha0 : (sliceR intR 3).rd w0 [u0] a0) {N : Nat} {r : Int} (hF : spec_l7Find N a0 a1 = some r) :
    Calls Try.prog 30 #[u0, .int .i64 a1] w0 fun e w' => e = .returned (.int .i64 r) ∧ Ext w0 w' := by
  unfold spec_l7Find at hF
  refine calls_E Try.func30 rfl rfl (of_decide_eq_true rfl) ?_
  have hS := Sat.start w0
  refine cw_seq ?_
  refine cw_gen ?_
  intro Q101 hQ101
  refine cw_reg ?_
  refine el_pv (v := .int .i64 0) (pv_assign rfl) (by decide) ?_
  refine el_nil ?_
  refine hQ101 _ _ _ ?_
  refine thn_n ?_
  refine cw_seq ?_
  refine cw_gen ?_
  intro Q102 hQ102
  refine cw_seq ?_
  refine cw_gen ?_
  intro Q103 hQ103
  refine cw_reg ?_
  refine el_pv (v := .int .i64 0) (pv_assign rfl) (by decide) ?_
  refine el_nil ?_
  refine hQ103 _ _ _ ?_
  refine thn_n ?_
  refine cw_block ?_
  refine cw_gen ?_
  intro Q104 hQ104
  obtain ⟨s105, hL, hK106⟩ := ob hF
  refine cw_loopS (fun k e w => ∃ (x107 : Int), e 0 = u0 ∧ e 1 = .int .i64 a1 ∧ e 5 = .int .i64 x107 ∧ Sat w0 w [] ∧ spec_l7Find_L1 N k a0 a1 x107 = some s105) N ?_ ?_ ?_
  · exact ⟨0, rfl, rfl, rfl, hS, hL⟩
  · rintro e w ⟨_, _, _, _, _, hz⟩; exact nomatch (show none = some _ from hz)
  · rintro k e112 w111 ⟨x107, he108, he109, he110, hS, hF⟩
    refine cw_gen ?_
    intro Q113 hQ113
    refine cw_seq ?_
    refine cw_gen ?_
    intro Q114 hQ114
    refine cw_seq ?_
    refine cw_gen ?_
    intro Q115 hQ115
    refine cw_reg ?_
    refine el_pv (v := .int .i64 x107) (pv_move he110) (by decide) ?_
    refine el_pv (v := u0) (pv_move he108) (by decide) ?_
    refine el_pv (v := .int .i64 (a0.length : Int)) (pv_len rfl ha0) (by decide) ?_
    refine el_pv (v := .bool (decide (x107 < (a0.length : Int)))) (pv_lss rfl rfl) (by decide) ?_
    refine el_nil ?_
    refine hQ115 _ _ _ ?_
    refine thn_n ?_
    replace hF := oif hF
    rcases hF with ⟨hb116, hF⟩ | ⟨hb116, hF⟩
    · refine cw_cond_t rfl hb116 ?_
      refine cw_skip ?_
      refine hQ114 _ _ _ ?_
      refine thn_n ?_
      refine cw_seq ?_
      refine cw_gen ?_
      intro Q117 hQ117
      refine cw_block ?_
      refine cw_gen ?_
      intro Q118 hQ118
      refine cw_seq ?_
      refine cw_gen ?_
      intro Q119 hQ119
      refine cw_reg ?_
      refine el_pv (v := u0) (pv_move he108) (by decide) ?_
      refine el_pv (v := .int .i64 x107) (pv_move he110) (by decide) ?_
      replace hF := ob hF
      obtain ⟨x120, hx120, hF⟩ := hF
      refine el_index (wA := w0) rfl ha0 rfl (by decide) rfl hx120 (by decide) ?_
      intro b121 of122 c123 hr124 hm125
      obtain rfl := hr124
      refine el_pv (v := .int .i64 x120) (pv_loadc rfl ((cells_up hS.below hm125) 0 _ rfl)) (by decide) ?_
      refine el_pv (v := .int .i64 a1) (pv_move he109) (by decide) ?_
      refine el_pv (v := .bool (x120 == a1)) (pv_eql rfl rfl) (by decide) ?_
      refine el_nil ?_
      refine hQ119 _ _ _ ?_
      refine thn_n ?_
      replace hF := oif hF
      rcases hF with ⟨hb126, hF⟩ | ⟨hb126, hF⟩
      · refine cw_cond_t rfl hb126 ?_
        refine cw_seq ?_
        refine cw_gen ?_
        intro Q127 hQ127
        refine cw_reg ?_
        refine el_pv (v := .int .i64 x107) (pv_move he110) (by decide) ?_
        refine el_pv (v := .int .i64 x107) (pv_assign rfl) (by decide) ?_
        refine el_nil ?_
        refine hQ127 _ _ _ ?_
        refine thn_n ?_
        refine cw_ret ?_
        refine hQ118 _ _ _ ?_
        refine inb_r ?_
        refine hQ117 _ _ _ ?_
        refine thn_r ?_
        refine hQ113 _ _ _ ?_
        refine thn_r ?_
        refine hQ104 _ _ _ ?_
        refine inb_r ?_
        refine hQ102 _ _ _ ?_
        refine thn_r ?_
        replace hF := exL hF hK106
        refine fin1 rfl rfl ?_
        have hr := Option.some.inj hF
        exact ⟨congrArg (fun (r : Int) => Ending.returned (.int .i64 r)) hr, hS.below⟩
      · refine cw_cond_f rfl hb126 ?_
        refine cw_skip ?_
        refine hQ118 _ _ _ ?_
        refine inb_n ?_
        refine hQ117 _ _ _ ?_
        refine thn_n ?_
        refine cw_reg ?_
        refine el_pv (v := .int .i64 x107) (pv_move he110) (by decide) ?_
        replace hF := ob hF
        obtain ⟨x128, hx128, hF⟩ := hF
        refine el_pv (v := .int .i64 x128) (pv_add rfl rfl hx128) (by decide) ?_
        refine el_pv (v := .int .i64 x128) (pv_assign rfl) (by decide) ?_
        refine el_nil ?_
        refine hQ113 _ _ _ ?_
        refine thn_n ?_
        replace hS := hS.keep 0
        exact ⟨x128, he108, he109, rfl, hS, hF⟩
    · refine cw_cond_f rfl hb116 ?_
      refine cw_exit ?_
      refine hQ114 _ _ _ ?_
      refine thn_x ?_
      refine hQ113 _ _ _ ?_
      refine thn_x ?_
      replace hF := exA hF hK106
      refine hQ104 _ _ _ ?_
      refine inb_s ?_
      refine hQ102 _ _ _ ?_
      refine thn_n ?_
      refine cw_seq ?_
      refine cw_gen ?_
      intro Q129 hQ129
      refine cw_reg ?_
      refine el_pv (v := .int .i64 (-1)) (pv_assign rfl) (by decide) ?_
      refine el_nil ?_
      refine hQ129 _ _ _ ?_
      refine thn_n ?_
      refine cw_ret ?_
      refine fin1 rfl rfl ?_
      have hr := Option.some.inj hF
      exact ⟨congrArg (fun (r : Int) => Ending.returned (.int .i64 r)) hr, hS.below⟩
set_option maxHeartbeats 4000000 in
theorem spec_IntersectByLookup_ok {w0 : World} {u0 : Value} {a0 : List (List Int)} (ha0 : (sliceR (sliceR intR 3) 24).rd w0 [u0] a0) {N : Nat} {r : (List Int) × Int} (hF : spec_IntersectByLookup N a0 = some r) :
    Calls Try.prog 7 #[u0] w0 fun e w' => ∃ (q0 : Value), e = .returned (.tuple #[q0, .int .i64 r.2]) ∧ Sat w0 w' [Own (sliceR intR 3) [q0] r.1] := by
  unfold spec_IntersectByLookup at hF
  refine calls_E Try.func7 rfl rfl (of_decide_eq_true rfl) ?_
  have hS := Sat.start w0
  refine cw_seq ?_
  refine cw_gen ?_
  intro Q101 hQ101
  refine cw_reg ?_
  refine el_pv (v := (.slice none 0 0)) (pv_assign rfl) (by decide) ?_
  refine el_pv (v := .int .i64 0) (pv_assign rfl) (by decide) ?_
  refine el_nil ?_
  refine hQ101 _ _ _ ?_
  refine thn_n ?_
  refine cw_seq ?_
  refine cw_gen ?_
  intro Q102 hQ102
  refine cw_reg ?_
  refine el_buildSlice0 intR hS (by decide) ?_
  intro w103 v105 hS hx104
  refine el_pv (v := v105) (pv_assign rfl) (by decide) ?_
  refine el_nil ?_
  refine hQ102 _ _ _ ?_
  refine thn_n ?_
  refine cw_seq ?_
  refine cw_gen ?_
  intro Q107 hQ107
  refine cw_reg ?_
  refine el_pv (v := .int .i64 0) (pv_assign rfl) (by decide) ?_
  refine el_nil ?_
  refine hQ107 _ _ _ ?_
  refine thn_n ?_
  refine cw_seq ?_
  refine cw_gen ?_
  intro Q108 hQ108
  refine cw_seq ?_
  refine cw_gen ?_
  intro Q109 hQ109
  refine cw_reg ?_
  refine el_pv (v := u0) (pv_move rfl) (by decide) ?_
  replace hF := ob hF
  obtain ⟨r110, hr110, hF⟩ := hF
  refine el_call goes29 (spec_l18All_ok (hS.up ha0) hr110) (congrArg List.toArray (mapc rfl rfl)) (by decide) ?_
  rintro _ w111 ⟨rfl, hx112⟩
  refine ⟨_, rfl, ?_⟩
  replace hS := hS.ext hx112
  refine el_pv (v := .bool (!r110)) (pv_not rfl) (by decide) ?_
  refine el_nil ?_
  refine hQ109 _ _ _ ?_
  refine thn_n ?_
  replace hF := oif hF
  rcases hF with ⟨hb113, hF⟩ | ⟨hb113, hF⟩
  · refine cw_cond_f rfl (bnot_t hb113) ?_
    refine cw_skip ?_
    refine hQ108 _ _ _ ?_
    refine thn_n ?_
    refine cw_seq ?_
    refine cw_gen ?_
    intro Q114 hQ114
    refine cw_reg ?_
    refine el_pv (v := .int .i64 0) (pv_assign rfl) (by decide) ?_
    refine el_nil ?_
    refine hQ114 _ _ _ ?_
    refine thn_n ?_
    refine cw_seq ?_
    refine cw_gen ?_
    intro Q115 hQ115
    refine cw_seq ?_
    refine cw_gen ?_
    intro Q116 hQ116
    refine cw_reg ?_
    refine el_pv (v := .int .i64 1) (pv_assign rfl) (by decide) ?_
    refine el_nil ?_
    refine hQ116 _ _ _ ?_
    refine thn_n ?_
    refine cw_block ?_
    refine cw_gen ?_
    intro Q117 hQ117
    obtain ⟨s118, hL, hK119⟩ := ob hF
    refine cw_loopS (fun k e w => ∃ (x120 : Int), ∃ (x121 : Int), e 0 = u0 ∧ e 4 = v105 ∧ e 5 = .int .i64 0 ∧ e 6 = .int .i64 x120 ∧ e 7 = .int .i64 x121 ∧ Sat w0 w [Own (sliceR intR 3) [v105] []] ∧ spec_IntersectByLookup_L1 N k a0 [] 0 x120 x121 = some s118) N ?_ ?_ ?_
    · exact ⟨0, 1, rfl, rfl, rfl, rfl, rfl, hS, hL⟩
    · rintro e w ⟨_, _, _, _, _, _, _, _, hz⟩; exact nomatch (show none = some _ from hz)
    · rintro k e128 w127 ⟨x120, x121, he122, he123, he124, he125, he126, hS, hF⟩
      refine cw_gen ?_
      intro Q129 hQ129
      refine cw_seq ?_
      refine cw_gen ?_
      intro Q130 hQ130
      refine cw_seq ?_
      refine cw_gen ?_
      intro Q131 hQ131
      refine cw_reg ?_
      refine el_pv (v := .int .i64 x121) (pv_move he126) (by decide) ?_
      refine el_pv (v := u0) (pv_move he122) (by decide) ?_
      refine el_pv (v := .int .i64 (a0.length : Int)) (pv_len rfl ha0) (by decide) ?_
      refine el_pv (v := .bool (decide (x121 < (a0.length : Int)))) (pv_lss rfl rfl) (by decide) ?_
      refine el_nil ?_
      refine hQ131 _ _ _ ?_
      refine thn_n ?_
      replace hF := oif hF
      rcases hF with ⟨hb132, hF⟩ | ⟨hb132, hF⟩
      · refine cw_cond_t rfl hb132 ?_
        refine cw_skip ?_
        refine hQ130 _ _ _ ?_
        refine thn_n ?_
        refine cw_seq ?_
        refine cw_gen ?_
        intro Q133 hQ133
        refine cw_block ?_
        refine cw_gen ?_
        intro Q134 hQ134
        refine cw_seq ?_
        refine cw_gen ?_
        intro Q135 hQ135
        refine cw_regq (by kernel_rfl) (by kernel_rfl) ?_
        refine ql_pv (v := u0) (pv_move he122) (by decide) ?_
        refine ql_pv (v := .int .i64 x121) (pv_move he126) (by decide) ?_
        replace hF := ob hF
        obtain ⟨x136, hx136, hF⟩ := hF
        refine ql_index (wA := w0) rfl ha0 rfl (by decide) rfl hx136 (by decide) ?_
        intro b137 of138 c139 hr140 hm141
        obtain ⟨v142, rfl⟩ := slice_one hr140
        refine ql_pv (v := v142) (pv_loadc rfl ((cells_up hS.below hm141) 0 _ rfl)) (by decide) ?_
        refine ql_pv (v := .int .i64 (x136.length : Int)) (pv_len rfl hr140) (by decide) ?_
        refine ql_pv (v := u0) (pv_move he122) (by decide) ?_
        refine ql_pv (v := .int .i64 x120) (pv_move he125) (by decide) ?_
        replace hF := ob hF
        obtain ⟨x143, hx143, hF⟩ := hF
        refine ql_index (wA := w0) rfl ha0 rfl (by decide) rfl hx143 (by decide) ?_
        intro b144 of145 c146 hr147 hm148
        obtain ⟨v149, rfl⟩ := slice_one hr147
        refine ql_pv (v := v149) (pv_loadc rfl ((cells_up hS.below hm148) 0 _ rfl)) (by decide) ?_
        refine ql_pv (v := .int .i64 (x143.length : Int)) (pv_len rfl hr147) (by decide) ?_
        refine ql_pv (v := .bool (decide ((x136.length : Int) < (x143.length : Int)))) (pv_lss rfl rfl) (by decide) ?_
        refine ql_nil ?_
        intro w150 hx151
        replace hS := hS.ext hx151
        refine hQ135 _ _ _ ?_
        refine thn_n ?_
        replace hF := oif hF
        rcases hF with ⟨hb152, hF⟩ | ⟨hb152, hF⟩
        · refine cw_cond_t rfl hb152 ?_
          refine cw_reg ?_
          refine el_pv (v := .int .i64 x121) (pv_move he126) (by decide) ?_
          refine el_pv (v := .int .i64 x121) (pv_assign rfl) (by decide) ?_
          refine el_nil ?_
          refine hQ134 _ _ _ ?_
          refine inb_n ?_
          refine hQ133 _ _ _ ?_
          refine thn_n ?_
          refine cw_reg ?_
          refine el_pv (v := .int .i64 x121) (pv_move he126) (by decide) ?_
          replace hF := ob hF
          obtain ⟨x153, hx153, hF⟩ := hF
          refine el_pv (v := .int .i64 x153) (pv_add rfl rfl hx153) (by decide) ?_
          refine el_pv (v := .int .i64 x153) (pv_assign rfl) (by decide) ?_
          refine el_nil ?_
          refine hQ129 _ _ _ ?_
          refine thn_n ?_
          replace hS := hS.keep 1
          exact ⟨x121, x153, he122, he123, he124, rfl, rfl, hS, hF⟩
        · refine cw_cond_f rfl hb152 ?_
          refine cw_skip ?_
          refine hQ134 _ _ _ ?_
          refine inb_n ?_
          refine hQ133 _ _ _ ?_
          refine thn_n ?_
          refine cw_reg ?_
          refine el_pv (v := .int .i64 x121) (pv_move he126) (by decide) ?_
          replace hF := ob hF
          obtain ⟨x154, hx154, hF⟩ := hF
          refine el_pv (v := .int .i64 x154) (pv_add rfl rfl hx154) (by decide) ?_
          refine el_pv (v := .int .i64 x154) (pv_assign rfl) (by decide) ?_
          refine el_nil ?_
          refine hQ129 _ _ _ ?_
          refine thn_n ?_
          replace hS := hS.keep 1
          exact ⟨x120, x154, he122, he123, he124, he125, rfl, hS, hF⟩
      · refine cw_cond_f rfl hb132 ?_
        refine cw_exit ?_
        refine hQ130 _ _ _ ?_
        refine thn_x ?_
        refine hQ129 _ _ _ ?_
        refine thn_x ?_
        replace hF := exB hF hK119
        refine hQ117 _ _ _ ?_
        refine inb_s ?_
        refine hQ115 _ _ _ ?_
        refine thn_n ?_
        refine cw_seq ?_
        refine cw_gen ?_
        intro Q155 hQ155
        refine cw_seq ?_
        refine cw_gen ?_
        intro Q156 hQ156
        refine cw_reg ?_
        refine el_pv (v := .int .i64 0) (pv_assign rfl) (by decide) ?_
        refine el_nil ?_
        refine hQ156 _ _ _ ?_
        refine thn_n ?_
        refine cw_block ?_
        refine cw_gen ?_
        intro Q157 hQ157
        obtain ⟨s158, hL, hK159⟩ := ob hF
        refine cw_loopS (fun k e w => ∃ (v161 : Value), ∃ (x160 : List Int), ∃ (x162 : Int), ∃ (x163 : Int), e 0 = u0 ∧ e 4 = v161 ∧ e 5 = .int .i64 x162 ∧ e 6 = .int .i64 x120 ∧ e 8 = .int .i64 x163 ∧ Sat w0 w [Own (sliceR intR 3) [v161] x160] ∧ spec_IntersectByLookup_L2 N k a0 x160 x162 x120 x163 = some s158) N ?_ ?_ ?_
        · exact ⟨v105, [], 0, 0, he122, he123, he124, he125, rfl, hS, hL⟩
        · rintro e w ⟨_, _, _, _, _, _, _, _, _, _, hz⟩; exact nomatch (show none = some _ from hz)
        · rintro k e170 w169 ⟨v161, x160, x162, x163, he164, he165, he166, he167, he168, hS, hF⟩
          refine cw_gen ?_
          intro Q171 hQ171
          refine cw_seq ?_
          refine cw_gen ?_
          intro Q172 hQ172
          refine cw_seq ?_
          refine cw_gen ?_
          intro Q173 hQ173
          refine cw_reg ?_
          refine el_pv (v := .int .i64 x163) (pv_move he168) (by decide) ?_
          refine el_pv (v := u0) (pv_move he164) (by decide) ?_
          refine el_pv (v := .int .i64 x120) (pv_move he167) (by decide) ?_
          replace hF := ob hF
          obtain ⟨x174, hx174, hF⟩ := hF
          refine el_index (wA := w0) rfl ha0 rfl (by decide) rfl hx174 (by decide) ?_
          intro b175 of176 c177 hr178 hm179
          obtain ⟨v180, rfl⟩ := slice_one hr178
          refine el_pv (v := v180) (pv_loadc rfl ((cells_up hS.below hm179) 0 _ rfl)) (by decide) ?_
          refine el_pv (v := .int .i64 (x174.length : Int)) (pv_len rfl hr178) (by decide) ?_
          refine el_pv (v := .bool (decide (x163 < (x174.length : Int)))) (pv_lss rfl rfl) (by decide) ?_
          refine el_nil ?_
          refine hQ173 _ _ _ ?_
          refine thn_n ?_
          replace hF := oif hF
          rcases hF with ⟨hb181, hF⟩ | ⟨hb181, hF⟩
          · refine cw_cond_t rfl hb181 ?_
            refine cw_skip ?_
            refine hQ172 _ _ _ ?_
            refine thn_n ?_
            refine cw_seq ?_
            refine cw_gen ?_
            intro Q182 hQ182
            refine cw_block ?_
            refine cw_gen ?_
            intro Q183 hQ183
            refine cw_seq ?_
            refine cw_gen ?_
            intro Q184 hQ184
            refine cw_reg ?_
            refine el_pv (v := .bool true) (pv_assign rfl) (by decide) ?_
            refine el_nil ?_
            refine hQ184 _ _ _ ?_
            refine thn_n ?_
            refine cw_seq ?_
            refine cw_gen ?_
            intro Q185 hQ185
            refine cw_seq ?_
            refine cw_gen ?_
            intro Q186 hQ186
            refine cw_reg ?_
            refine el_pv (v := .int .i64 0) (pv_assign rfl) (by decide) ?_
            refine el_nil ?_
            refine hQ186 _ _ _ ?_
            refine thn_n ?_
            refine cw_block ?_
            refine cw_gen ?_
            intro Q187 hQ187
            obtain ⟨s188, hL, hK189⟩ := ob hF
            refine cw_loopS (fun k e w => ∃ (x190 : Int), ∃ (x191 : Bool), ∃ (x192 : Int), e 0 = u0 ∧ e 4 = v161 ∧ e 5 = .int .i64 x190 ∧ e 6 = .int .i64 x120 ∧ e 8 = .int .i64 x163 ∧ e 9 = .bool x191 ∧ e 10 = .int .i64 x192 ∧ Sat w0 w [Own (sliceR intR 3) [v161] x160] ∧ spec_IntersectByLookup_L3 N k a0 x160 x190 x120 x163 x191 x192 = some s188) N ?_ ?_ ?_
            · exact ⟨x162, true, 0, he164, he165, he166, he167, he168, rfl, rfl, hS, hL⟩
            · rintro e w ⟨_, _, _, _, _, _, _, _, _, _, _, hz⟩; exact nomatch (show none = some _ from hz)
            · rintro k e201 w200 ⟨x190, x191, x192, he193, he194, he195, he196, he197, he198, he199, hS, hF⟩
              refine cw_gen ?_
              intro Q202 hQ202
              refine cw_seq ?_
              refine cw_gen ?_
              intro Q203 hQ203
              refine cw_seq ?_
              refine cw_gen ?_
              intro Q204 hQ204
              refine cw_reg ?_
              refine el_pv (v := .int .i64 x192) (pv_move he199) (by decide) ?_
              refine el_pv (v := u0) (pv_move he193) (by decide) ?_
              refine el_pv (v := .int .i64 (a0.length : Int)) (pv_len rfl ha0) (by decide) ?_
              refine el_pv (v := .bool (decide (x192 < (a0.length : Int)))) (pv_lss rfl rfl) (by decide) ?_
              refine el_pv (v := .bool (decide (x192 < (a0.length : Int)))) (pv_move rfl) (by decide) ?_
              replace hF := oif hF
              rcases hF with ⟨hb205, hF⟩ | ⟨hb205, hF⟩
              · refine el_on rfl hb205 ?_
                refine el_pv (v := .bool x191) (pv_move he198) (by decide) ?_
                refine el_pv (v := .bool x191) (pv_pick_t rfl hb205 rfl) (by decide) ?_
                refine el_nil ?_
                refine hQ204 _ _ _ ?_
                refine thn_n ?_
                replace hF := oif hF
                rcases hF with ⟨hb206, hF⟩ | ⟨hb206, hF⟩
                · refine cw_cond_t rfl hb206 ?_
                  refine cw_skip ?_
                  refine hQ203 _ _ _ ?_
                  refine thn_n ?_
                  refine cw_seq ?_
                  refine cw_gen ?_
                  intro Q207 hQ207
                  refine cw_block ?_
                  refine cw_gen ?_
                  intro Q208 hQ208
                  refine cw_seq ?_
                  refine cw_gen ?_
                  intro Q209 hQ209
                  refine cw_reg ?_
                  refine el_pv (v := .int .i64 x192) (pv_move he199) (by decide) ?_
                  refine el_pv (v := .int .i64 x120) (pv_move he196) (by decide) ?_
                  refine el_pv (v := .bool (x192 != x120)) (pv_neq rfl rfl) (by decide) ?_
                  refine el_nil ?_
                  refine hQ209 _ _ _ ?_
                  refine thn_n ?_
                  replace hF := oif hF
                  rcases hF with ⟨hb210, hF⟩ | ⟨hb210, hF⟩
                  · refine cw_cond_t rfl hb210 ?_
                    refine cw_seq ?_
                    refine cw_gen ?_
                    intro Q211 hQ211
                    refine cw_reg ?_
                    refine el_pv (v := .int .i64 x190) (pv_move he195) (by decide) ?_
                    replace hF := ob hF
                    obtain ⟨x212, hx212, hF⟩ := hF
                    refine el_pv (v := .int .i64 x212) (pv_add rfl rfl hx212) (by decide) ?_
                    refine el_pv (v := .int .i64 x212) (pv_assign rfl) (by decide) ?_
                    refine el_nil ?_
                    refine hQ211 _ _ _ ?_
                    refine thn_n ?_
                    refine cw_regq (by kernel_rfl) (by kernel_rfl) ?_
                    refine ql_pv (v := u0) (pv_move he193) (by decide) ?_
                    refine ql_pv (v := .int .i64 x192) (pv_move he199) (by decide) ?_
                    replace hF := ob hF
                    obtain ⟨x213, hx213, hF⟩ := hF
                    refine ql_index (wA := w0) rfl ha0 rfl (by decide) rfl hx213 (by decide) ?_
                    intro b214 of215 c216 hr217 hm218
                    obtain ⟨v219, rfl⟩ := slice_one hr217
                    refine ql_pv (v := v219) (pv_loadc rfl ((cells_up hS.below hm218) 0 _ rfl)) (by decide) ?_
                    refine ql_pv (v := u0) (pv_move he193) (by decide) ?_
                    refine ql_pv (v := .int .i64 x120) (pv_move he196) (by decide) ?_
                    replace hF := ob hF
                    obtain ⟨x220, hx220, hF⟩ := hF
                    refine ql_index (wA := w0) rfl ha0 rfl (by decide) rfl hx220 (by decide) ?_
                    intro b221 of222 c223 hr224 hm225
                    obtain ⟨v226, rfl⟩ := slice_one hr224
                    refine ql_pv (v := v226) (pv_loadc rfl ((cells_up hS.below hm225) 0 _ rfl)) (by decide) ?_
                    refine ql_pv (v := .int .i64 x163) (pv_move he197) (by decide) ?_
                    replace hF := ob hF
                    obtain ⟨x227, hx227, hF⟩ := hF
                    refine ql_index (wA := w0) rfl hr224 rfl (by decide) rfl hx227 (by decide) ?_
                    intro b228 of229 c230 hr231 hm232
                    obtain rfl := hr231
                    refine ql_pv (v := .int .i64 x227) (pv_loadc rfl ((cells_up hS.below hm232) 0 _ rfl)) (by decide) ?_
                    replace hF := ob hF
                    obtain ⟨r233, hr233, hF⟩ := hF
                    refine ql_call (.int .i64 r233) goes30 (fun w' hw' => spec_l7Find_ok (rd_up (hS.up hr217) hw') hr233) (congrArg List.toArray (mapc rfl (mapc rfl rfl))) (by decide) ?_
                    refine ql_pv (v := .bool (decide (0 ≤ r233))) (pv_geq rfl rfl) (by decide) ?_
                    refine ql_pv (v := .bool (decide (0 ≤ r233))) (pv_assign rfl) (by decide) ?_
                    refine ql_nil ?_
                    intro w234 hx235
                    replace hS := hS.ext hx235
                    refine hQ208 _ _ _ ?_
                    refine inb_n ?_
                    refine hQ207 _ _ _ ?_
                    refine thn_n ?_
                    refine cw_reg ?_
                    refine el_pv (v := .int .i64 x192) (pv_move he199) (by decide) ?_
                    replace hF := ob hF
                    obtain ⟨x236, hx236, hF⟩ := hF
                    refine el_pv (v := .int .i64 x236) (pv_add rfl rfl hx236) (by decide) ?_
                    refine el_pv (v := .int .i64 x236) (pv_assign rfl) (by decide) ?_
                    refine el_nil ?_
                    refine hQ202 _ _ _ ?_
                    refine thn_n ?_
                    replace hS := hS.keep 1
                    exact ⟨x212, decide (0 ≤ r233), x236, he193, he194, rfl, he196, he197, rfl, rfl, hS, hF⟩
                  · refine cw_cond_f rfl hb210 ?_
                    refine cw_skip ?_
                    refine hQ208 _ _ _ ?_
                    refine inb_n ?_
                    refine hQ207 _ _ _ ?_
                    refine thn_n ?_
                    refine cw_reg ?_
                    refine el_pv (v := .int .i64 x192) (pv_move he199) (by decide) ?_
                    replace hF := ob hF
                    obtain ⟨x237, hx237, hF⟩ := hF
                    refine el_pv (v := .int .i64 x237) (pv_add rfl rfl hx237) (by decide) ?_
                    refine el_pv (v := .int .i64 x237) (pv_assign rfl) (by decide) ?_
                    refine el_nil ?_
                    refine hQ202 _ _ _ ?_
                    refine thn_n ?_
                    replace hS := hS.keep 1
                    exact ⟨x190, x191, x237, he193, he194, he195, he196, he197, he198, rfl, hS, hF⟩
                · refine cw_cond_f rfl hb206 ?_
                  refine cw_exit ?_
                  refine hQ203 _ _ _ ?_
                  refine thn_x ?_
                  refine hQ202 _ _ _ ?_
                  refine thn_x ?_
                  replace hF := exB hF hK189
                  refine hQ187 _ _ _ ?_
                  refine inb_s ?_
                  refine hQ185 _ _ _ ?_
                  refine thn_n ?_
                  refine cw_seq ?_
                  refine cw_gen ?_
                  intro Q238 hQ238
                  refine cw_reg ?_
                  refine el_pv (v := .bool x191) (pv_move he198) (by decide) ?_
                  refine el_nil ?_
                  refine hQ238 _ _ _ ?_
                  refine thn_n ?_
                  replace hF := oif hF
                  rcases hF with ⟨hb239, hF⟩ | ⟨hb239, hF⟩
                  · refine cw_cond_t rfl hb239 ?_
                    refine cw_reg ?_
                    refine el_pv (v := v161) (pv_move he194) (by decide) ?_
                    refine el_pv (v := u0) (pv_move he193) (by decide) ?_
                    refine el_pv (v := .int .i64 x120) (pv_move he196) (by decide) ?_
                    replace hF := ob hF
                    obtain ⟨x240, hx240, hF⟩ := hF
                    refine el_index (wA := w0) rfl ha0 rfl (by decide) rfl hx240 (by decide) ?_
                    intro b241 of242 c243 hr244 hm245
                    obtain ⟨v246, rfl⟩ := slice_one hr244
                    refine el_pv (v := v246) (pv_loadc rfl ((cells_up hS.below hm245) 0 _ rfl)) (by decide) ?_
                    refine el_pv (v := .int .i64 x163) (pv_move he197) (by decide) ?_
                    replace hF := ob hF
                    obtain ⟨x247, hx247, hF⟩ := hF
                    refine el_index (wA := w0) rfl hr244 rfl (by decide) rfl hx247 (by decide) ?_
                    intro b248 of249 c250 hr251 hm252
                    obtain rfl := hr251
                    refine el_pv (v := .int .i64 x247) (pv_loadc rfl ((cells_up hS.below hm252) 0 _ rfl)) (by decide) ?_
                    refine el_buildSlice1 [.int .i64 x247] rfl (by rfl) (by decide) rfl (by decide) hS (by decide) ?_
                    intro w253 b255 hS hx254
                    replace hF := ob hF
                    obtain ⟨x259, hx259, hF⟩ := hF
                    have hrow260 := hS.boxRow 0 rfl
                    replace hS : Sat w0 w253 [Own (sliceR intR 3) [v161] x160, Box b255 3 [.int .i64 x247]] := hS.top 1 rfl
                    replace hS := hS.int x247
                    replace hS := hS.one
                    refine el_append rfl (by decide) rfl (by decide) hS rfl rfl rfl (by simp) hrow260 hx259 (by decide) ?_
                    intro w257 v258 hS
                    refine el_pv (v := v258) (pv_assign rfl) (by decide) ?_
                    refine el_nil ?_
                    refine hQ183 _ _ _ ?_
                    refine inb_n ?_
                    refine hQ182 _ _ _ ?_
                    refine thn_n ?_
                    replace hS : Sat w0 w257 [Own (sliceR intR 3) [v258] x259] := hS.rems 2 [1] rfl
                    refine cw_reg ?_
                    refine el_pv (v := .int .i64 x163) (pv_move he197) (by decide) ?_
                    replace hF := ob hF
                    obtain ⟨x262, hx262, hF⟩ := hF
                    refine el_pv (v := .int .i64 x262) (pv_add rfl rfl hx262) (by decide) ?_
                    refine el_pv (v := .int .i64 x262) (pv_assign rfl) (by decide) ?_
                    refine el_nil ?_
                    refine hQ171 _ _ _ ?_
                    refine thn_n ?_
                    replace hS := hS.keep 1
                    exact ⟨v258, x259, x190, x262, he193, rfl, he195, he196, rfl, hS, hF⟩
                  · refine cw_cond_f rfl hb239 ?_
                    refine cw_skip ?_
                    refine hQ183 _ _ _ ?_
                    refine inb_n ?_
                    refine hQ182 _ _ _ ?_
                    refine thn_n ?_
                    refine cw_reg ?_
                    refine el_pv (v := .int .i64 x163) (pv_move he197) (by decide) ?_
                    replace hF := ob hF
                    obtain ⟨x263, hx263, hF⟩ := hF
                    refine el_pv (v := .int .i64 x263) (pv_add rfl rfl hx263) (by decide) ?_
                    refine el_pv (v := .int .i64 x263) (pv_assign rfl) (by decide) ?_
                    refine el_nil ?_
                    refine hQ171 _ _ _ ?_
                    refine thn_n ?_
                    replace hS := hS.keep 1
                    exact ⟨v161, x160, x190, x263, he193, he194, he195, he196, rfl, hS, hF⟩
              · refine el_off rfl hb205 rfl (by decide) ?_
                refine el_pv (v := .bool false) (pv_pick_f rfl hb205 rfl) (by decide) ?_
                refine el_nil ?_
                refine hQ204 _ _ _ ?_
                refine thn_n ?_
                refine cw_cond_f rfl rfl ?_
                refine cw_exit ?_
                refine hQ203 _ _ _ ?_
                refine thn_x ?_
                refine hQ202 _ _ _ ?_
                refine thn_x ?_
                replace hF := exB hF hK189
                refine hQ187 _ _ _ ?_
                refine inb_s ?_
                refine hQ185 _ _ _ ?_
                refine thn_n ?_
                refine cw_seq ?_
                refine cw_gen ?_
                intro Q264 hQ264
                refine cw_reg ?_
                refine el_pv (v := .bool x191) (pv_move he198) (by decide) ?_
                refine el_nil ?_
                refine hQ264 _ _ _ ?_
                refine thn_n ?_
                replace hF := oif hF
                rcases hF with ⟨hb265, hF⟩ | ⟨hb265, hF⟩
                · refine cw_cond_t rfl hb265 ?_
                  refine cw_reg ?_
                  refine el_pv (v := v161) (pv_move he194) (by decide) ?_
                  refine el_pv (v := u0) (pv_move he193) (by decide) ?_
                  refine el_pv (v := .int .i64 x120) (pv_move he196) (by decide) ?_
                  replace hF := ob hF
                  obtain ⟨x266, hx266, hF⟩ := hF
                  refine el_index (wA := w0) rfl ha0 rfl (by decide) rfl hx266 (by decide) ?_
                  intro b267 of268 c269 hr270 hm271
                  obtain ⟨v272, rfl⟩ := slice_one hr270
                  refine el_pv (v := v272) (pv_loadc rfl ((cells_up hS.below hm271) 0 _ rfl)) (by decide) ?_
                  refine el_pv (v := .int .i64 x163) (pv_move he197) (by decide) ?_
                  replace hF := ob hF
                  obtain ⟨x273, hx273, hF⟩ := hF
                  refine el_index (wA := w0) rfl hr270 rfl (by decide) rfl hx273 (by decide) ?_
                  intro b274 of275 c276 hr277 hm278
                  obtain rfl := hr277
                  refine el_pv (v := .int .i64 x273) (pv_loadc rfl ((cells_up hS.below hm278) 0 _ rfl)) (by decide) ?_
                  refine el_buildSlice1 [.int .i64 x273] rfl (by rfl) (by decide) rfl (by decide) hS (by decide) ?_
                  intro w279 b281 hS hx280
                  replace hF := ob hF
                  obtain ⟨x285, hx285, hF⟩ := hF
                  have hrow286 := hS.boxRow 0 rfl
                  replace hS : Sat w0 w279 [Own (sliceR intR 3) [v161] x160, Box b281 3 [.int .i64 x273]] := hS.top 1 rfl
                  replace hS := hS.int x273
                  replace hS := hS.one
                  refine el_append rfl (by decide) rfl (by decide) hS rfl rfl rfl (by simp) hrow286 hx285 (by decide) ?_
                  intro w283 v284 hS
                  refine el_pv (v := v284) (pv_assign rfl) (by decide) ?_
                  refine el_nil ?_
                  refine hQ183 _ _ _ ?_
                  refine inb_n ?_
                  refine hQ182 _ _ _ ?_
                  refine thn_n ?_
                  replace hS : Sat w0 w283 [Own (sliceR intR 3) [v284] x285] := hS.rems 2 [1] rfl
                  refine cw_reg ?_
                  refine el_pv (v := .int .i64 x163) (pv_move he197) (by decide) ?_
                  replace hF := ob hF
                  obtain ⟨x288, hx288, hF⟩ := hF
                  refine el_pv (v := .int .i64 x288) (pv_add rfl rfl hx288) (by decide) ?_
                  refine el_pv (v := .int .i64 x288) (pv_assign rfl) (by decide) ?_
                  refine el_nil ?_
                  refine hQ171 _ _ _ ?_
                  refine thn_n ?_
                  replace hS := hS.keep 1
                  exact ⟨v284, x285, x190, x288, he193, rfl, he195, he196, rfl, hS, hF⟩
                · refine cw_cond_f rfl hb265 ?_
                  refine cw_skip ?_
                  refine hQ183 _ _ _ ?_
                  refine inb_n ?_
                  refine hQ182 _ _ _ ?_
                  refine thn_n ?_
                  refine cw_reg ?_
                  refine el_pv (v := .int .i64 x163) (pv_move he197) (by decide) ?_
                  replace hF := ob hF
                  obtain ⟨x289, hx289, hF⟩ := hF
                  refine el_pv (v := .int .i64 x289) (pv_add rfl rfl hx289) (by decide) ?_
                  refine el_pv (v := .int .i64 x289) (pv_assign rfl) (by decide) ?_
                  refine el_nil ?_
                  refine hQ171 _ _ _ ?_
                  refine thn_n ?_
                  replace hS := hS.keep 1
                  exact ⟨v161, x160, x190, x289, he193, he194, he195, he196, rfl, hS, hF⟩
          · refine cw_cond_f rfl hb181 ?_
            refine cw_exit ?_
            refine hQ172 _ _ _ ?_
            refine thn_x ?_
            refine hQ171 _ _ _ ?_
            refine thn_x ?_
            replace hF := exB hF hK159
            refine hQ157 _ _ _ ?_
            refine inb_s ?_
            refine hQ155 _ _ _ ?_
            refine thn_n ?_
            refine cw_seq ?_
            refine cw_gen ?_
            intro Q290 hQ290
            refine cw_reg ?_
            refine el_pv (v := v161) (pv_move he165) (by decide) ?_
            refine el_pv (v := .int .i64 x162) (pv_move he166) (by decide) ?_
            refine el_pv (v := v161) (pv_assign rfl) (by decide) ?_
            refine el_pv (v := .int .i64 x162) (pv_assign rfl) (by decide) ?_
            refine el_nil ?_
            refine hQ290 _ _ _ ?_
            refine thn_n ?_
            refine cw_ret ?_
            refine fin2 rfl rfl rfl ?_
            have hr := Option.some.inj hF
            exact ⟨v161, congrArg (fun (r : (List Int) × Int) => Ending.returned (.tuple #[v161, .int .i64 r.2])) hr, Eq.mp (congrArg (fun (r : (List Int) × Int) => Sat w0 w169 [Own (sliceR intR 3) [v161] r.1]) hr) (hS.keep 1)⟩
  · refine cw_cond_t rfl (bnot_f hb113) ?_
    refine cw_seq ?_
    refine cw_gen ?_
    intro Q291 hQ291
    refine cw_reg ?_
    refine el_pv (v := v105) (pv_move rfl) (by decide) ?_
    refine el_pv (v := v105) (pv_assign rfl) (by decide) ?_
    refine el_pv (v := .int .i64 0) (pv_assign rfl) (by decide) ?_
    refine el_nil ?_
    refine hQ291 _ _ _ ?_
    refine thn_n ?_
    refine cw_ret ?_
    refine hQ108 _ _ _ ?_
    refine thn_r ?_
    refine fin2 rfl rfl rfl ?_
    have hr := Option.some.inj hF
    exact ⟨v105, congrArg (fun (r : (List Int) × Int) => Ending.returned (.tuple #[v105, .int .i64 r.2])) hr, Eq.mp (congrArg (fun (r : (List Int) × Int) => Sat w0 w111 [Own (sliceR intR 3) [v105] r.1]) hr) (hS.keep 1)⟩
set_option maxHeartbeats 4000000 in
theorem laws_toIntS_ok {w0 : World} {u0 : Value} {a0 : List Int} (ha0 : (sliceR intR 3).rd w0 [u0] a0) {N : Nat} {r : (List Int)} (hF : laws_toIntS N a0 = some r) :
    Calls Try.prog 31 #[u0] w0 fun e w' => ∃ (q0 : Value), e = .returned (q0) ∧ Sat w0 w' [Own (sliceR intR 3) [q0] r] := by
  unfold laws_toIntS at hF
  refine calls_E Try.func31 rfl rfl (of_decide_eq_true rfl) ?_
  have hS := Sat.start w0
  refine cw_seq ?_
  refine cw_gen ?_
  intro Q101 hQ101
  refine cw_reg ?_
  refine el_pv (v := (.slice none 0 0)) (pv_assign rfl) (by decide) ?_
  refine el_nil ?_
  refine hQ101 _ _ _ ?_
  refine thn_n ?_
  refine cw_seq ?_
  refine cw_gen ?_
  intro Q102 hQ102
  refine cw_reg ?_
  refine el_pv (v := u0) (pv_move rfl) (by decide) ?_
  refine el_pv (v := .int .i64 (a0.length : Int)) (pv_len rfl ha0) (by decide) ?_
  replace hF := ob hF
  obtain ⟨x106, hx106, hF⟩ := hF
  refine el_make (R := intR) (x0 := 0) rfl (by decide) rfl (fun _ => ⟨rfl, rfl⟩) rfl rfl hx106 hS (by decide) ?_
  intro w103 g104 k105 hS hx107 hlx106
  refine el_pv (v := (.slice (some ⟨g104, 0, none⟩) k105 k105)) (pv_assign rfl) (by decide) ?_
  refine el_nil ?_
  refine hQ102 _ _ _ ?_
  refine thn_n ?_
  refine cw_seq ?_
  refine cw_gen ?_
  intro Q109 hQ109
  refine cw_seq ?_
  refine cw_gen ?_
  intro Q110 hQ110
  refine cw_reg ?_
  refine el_pv (v := .int .i64 0) (pv_assign rfl) (by decide) ?_
  refine el_nil ?_
  refine hQ110 _ _ _ ?_
  refine thn_n ?_
  refine cw_block ?_
  refine cw_gen ?_
  intro Q111 hQ111
  obtain ⟨s112, hL, hK113⟩ := ob hF
  refine cw_loopS (fun k e w => ∃ (v115 : Value), ∃ (x114 : List Int), ∃ (x116 : Int), e 0 = u0 ∧ e 3 = v115 ∧ e 4 = .int .i64 x116 ∧ Sat w0 w [Own (sliceR intR 3) [v115] x114] ∧ laws_toIntS_L1 N k a0 x114 x116 = some s112) N ?_ ?_ ?_
  · exact ⟨(.slice (some ⟨g104, 0, none⟩) k105 k105), x106, 0, rfl, rfl, rfl, hS, hL⟩
  · rintro e w ⟨_, _, _, _, _, _, _, hz⟩; exact nomatch (show none = some _ from hz)
  · rintro k e121 w120 ⟨v115, x114, x116, he117, he118, he119, hS, hF⟩
    refine cw_gen ?_
    intro Q122 hQ122
    refine cw_seq ?_
    refine cw_gen ?_
    intro Q123 hQ123
    refine cw_seq ?_
    refine cw_gen ?_
    intro Q124 hQ124
    refine cw_reg ?_
    refine el_pv (v := .int .i64 x116) (pv_move he119) (by decide) ?_
    refine el_pv (v := u0) (pv_move he117) (by decide) ?_
    refine el_pv (v := .int .i64 (a0.length : Int)) (pv_len rfl ha0) (by decide) ?_
    refine el_pv (v := .bool (decide (x116 < (a0.length : Int)))) (pv_lss rfl rfl) (by decide) ?_
    refine el_nil ?_
    refine hQ124 _ _ _ ?_
    refine thn_n ?_
    replace hF := oif hF
    rcases hF with ⟨hb125, hF⟩ | ⟨hb125, hF⟩
    · refine cw_cond_t rfl hb125 ?_
      refine cw_skip ?_
      refine hQ123 _ _ _ ?_
      refine thn_n ?_
      refine cw_seq ?_
      refine cw_gen ?_
      intro Q126 hQ126
      refine cw_block ?_
      refine cw_gen ?_
      intro Q127 hQ127
      refine cw_reg ?_
      refine el_pv (v := v115) (pv_move he118) (by decide) ?_
      refine el_pv (v := .int .i64 x116) (pv_move he119) (by decide) ?_
      refine el_pv (v := u0) (pv_move he117) (by decide) ?_
      refine el_pv (v := .int .i64 x116) (pv_move he119) (by decide) ?_
      replace hF := ob hF
      obtain ⟨x128, hx128, hF⟩ := hF
      refine el_index (wA := w0) rfl ha0 rfl (by decide) rfl hx128 (by decide) ?_
      intro b129 of130 c131 hr132 hm133
      obtain rfl := hr132
      refine el_pv (v := .int .i64 x128) (pv_loadc rfl ((cells_up hS.below hm133) 0 _ rfl)) (by decide) ?_
      replace hF := ob hF
      obtain ⟨x134, hx134, hF⟩ := hF
      obtain ⟨g135, cap136, hv137⟩ := ownShape 0 hS rfl hx134
      refine el_pv (v := .pointer (some ⟨g135, x116.toNat * 1, none⟩)) (pv_indexF (v := v115) rfl hv137 rfl hx134) (by decide) ?_
      replace hF := ob hF
      obtain ⟨x139, hx139, hF⟩ := hF
      replace hS := hS.int x128
      refine el_storeO rfl hv137 hS hx139 rfl rfl ?_
      intro w138 hS
      refine el_nil ?_
      refine hQ127 _ _ _ ?_
      refine inb_n ?_
      refine hQ126 _ _ _ ?_
      refine thn_n ?_
      refine cw_reg ?_
      refine el_pv (v := .int .i64 x116) (pv_move he119) (by decide) ?_
      replace hF := ob hF
      obtain ⟨x140, hx140, hF⟩ := hF
      refine el_pv (v := .int .i64 x140) (pv_add rfl rfl hx140) (by decide) ?_
      refine el_pv (v := .int .i64 x140) (pv_assign rfl) (by decide) ?_
      refine el_nil ?_
      refine hQ122 _ _ _ ?_
      refine thn_n ?_
      replace hS := hS.keep 1
      exact ⟨v115, x139, x140, he117, he118, rfl, hS, hF⟩
    · refine cw_cond_f rfl hb125 ?_
      refine cw_exit ?_
      refine hQ123 _ _ _ ?_
      refine thn_x ?_
      refine hQ122 _ _ _ ?_
      refine thn_x ?_
      replace hF := exB hF hK113
      refine hQ111 _ _ _ ?_
      refine inb_s ?_
      refine hQ109 _ _ _ ?_
      refine thn_n ?_
      refine cw_seq ?_
      refine cw_gen ?_
      intro Q141 hQ141
      refine cw_reg ?_
      refine el_pv (v := v115) (pv_move he118) (by decide) ?_
      refine el_pv (v := v115) (pv_assign rfl) (by decide) ?_
      refine el_nil ?_
      refine hQ141 _ _ _ ?_
      refine thn_n ?_
      refine cw_ret ?_
      refine fin1 rfl rfl ?_
      have hr := Option.some.inj hF
      exact ⟨v115, congrArg (fun (r : (List Int)) => Ending.returned (v115)) hr, Eq.mp (congrArg (fun (r : (List Int)) => Sat w0 w120 [Own (sliceR intR 3) [v115] r]) hr) (hS.keep 1)⟩
set_option maxHeartbeats 4000000 in
theorem laws_toIntSS_ok {w0 : World} {u0 : Value} {a0 : List (List Int)} (ha0 : (sliceR (sliceR intR 3) 24).rd w0 [u0] a0) {N : Nat} {r : (List (List Int))} (hF : laws_toIntSS N a0 = some r) :
    Calls Try.prog 8 #[u0] w0 fun e w' => ∃ (q0 : Value), e = .returned (q0) ∧ Sat w0 w' [Own (sliceR (sliceR intR 3) 24) [q0] r] := by
  unfold laws_toIntSS at hF
  refine calls_E Try.func8 rfl rfl (of_decide_eq_true rfl) ?_
  have hS := Sat.start w0
  refine cw_seq ?_
  refine cw_gen ?_
  intro Q101 hQ101
  refine cw_reg ?_
  refine el_pv (v := (.slice none 0 0)) (pv_assign rfl) (by decide) ?_
  refine el_nil ?_
  refine hQ101 _ _ _ ?_
  refine thn_n ?_
  refine cw_seq ?_
  refine cw_gen ?_
  intro Q102 hQ102
  refine cw_reg ?_
  refine el_pv (v := u0) (pv_move rfl) (by decide) ?_
  refine el_pv (v := .int .i64 (a0.length : Int)) (pv_len rfl ha0) (by decide) ?_
  replace hF := ob hF
  obtain ⟨x106, hx106, hF⟩ := hF
  refine el_make (R := (sliceR intR 3)) (x0 := []) rfl (by decide) rfl (fun _ => .inl ⟨rfl, rfl, rfl⟩) rfl rfl hx106 hS (by decide) ?_
  intro w103 g104 k105 hS hx107 hlx106
  refine el_pv (v := (.slice (some ⟨g104, 0, none⟩) k105 k105)) (pv_assign rfl) (by decide) ?_
  refine el_nil ?_
  refine hQ102 _ _ _ ?_
  refine thn_n ?_
  refine cw_seq ?_
  refine cw_gen ?_
  intro Q109 hQ109
  refine cw_seq ?_
  refine cw_gen ?_
  intro Q110 hQ110
  refine cw_reg ?_
  refine el_pv (v := .int .i64 0) (pv_assign rfl) (by decide) ?_
  refine el_nil ?_
  refine hQ110 _ _ _ ?_
  refine thn_n ?_
  refine cw_block ?_
  refine cw_gen ?_
  intro Q111 hQ111
  obtain ⟨s112, hL, hK113⟩ := ob hF
  refine cw_loopS (fun k e w => ∃ (v115 : Value), ∃ (x114 : List (List Int)), ∃ (x116 : Int), e 0 = u0 ∧ e 3 = v115 ∧ e 4 = .int .i64 x116 ∧ Sat w0 w [Own (sliceR (sliceR intR 3) 24) [v115] x114] ∧ laws_toIntSS_L1 N k a0 x114 x116 = some s112) N ?_ ?_ ?_
  · exact ⟨(.slice (some ⟨g104, 0, none⟩) k105 k105), x106, 0, rfl, rfl, rfl, hS, hL⟩
  · rintro e w ⟨_, _, _, _, _, _, _, hz⟩; exact nomatch (show none = some _ from hz)
  · rintro k e121 w120 ⟨v115, x114, x116, he117, he118, he119, hS, hF⟩
    refine cw_gen ?_
    intro Q122 hQ122
    refine cw_seq ?_
    refine cw_gen ?_
    intro Q123 hQ123
    refine cw_seq ?_
    refine cw_gen ?_
    intro Q124 hQ124
    refine cw_reg ?_
    refine el_pv (v := .int .i64 x116) (pv_move he119) (by decide) ?_
    refine el_pv (v := u0) (pv_move he117) (by decide) ?_
    refine el_pv (v := .int .i64 (a0.length : Int)) (pv_len rfl ha0) (by decide) ?_
    refine el_pv (v := .bool (decide (x116 < (a0.length : Int)))) (pv_lss rfl rfl) (by decide) ?_
    refine el_nil ?_
    refine hQ124 _ _ _ ?_
    refine thn_n ?_
    replace hF := oif hF
    rcases hF with ⟨hb125, hF⟩ | ⟨hb125, hF⟩
    · refine cw_cond_t rfl hb125 ?_
      refine cw_skip ?_
      refine hQ123 _ _ _ ?_
      refine thn_n ?_
      refine cw_seq ?_
      refine cw_gen ?_
      intro Q126 hQ126
      refine cw_block ?_
      refine cw_gen ?_
      intro Q127 hQ127
      refine cw_reg ?_
      refine el_pv (v := v115) (pv_move he118) (by decide) ?_
      refine el_pv (v := .int .i64 x116) (pv_move he119) (by decide) ?_
      refine el_pv (v := u0) (pv_move he117) (by decide) ?_
      refine el_pv (v := .int .i64 x116) (pv_move he119) (by decide) ?_
      replace hF := ob hF
      obtain ⟨x128, hx128, hF⟩ := hF
      refine el_index (wA := w0) rfl ha0 rfl (by decide) rfl hx128 (by decide) ?_
      intro b129 of130 c131 hr132 hm133
      obtain ⟨v134, rfl⟩ := slice_one hr132
      refine el_pv (v := v134) (pv_loadc rfl ((cells_up hS.below hm133) 0 _ rfl)) (by decide) ?_
      replace hF := ob hF
      obtain ⟨r135, hr135, hF⟩ := hF
      refine el_call goes31 (laws_toIntS_ok (hS.up hr132) hr135) (congrArg List.toArray (mapc rfl rfl)) (by decide) ?_
      rintro _ w138 ⟨v136, rfl, hS'⟩
      refine ⟨_, rfl, ?_⟩
      have hx139 := hS'.below
      replace hS := hS.call1 hS'
      replace hF := ob hF
      obtain ⟨x140, hx140, hF⟩ := hF
      replace hS : Sat w0 w138 [Own (sliceR (sliceR intR 3) 24) [v115] x114, Own (sliceR intR 3) [v136] r135] := hS.top 1 rfl
      refine el_indexO hS rfl rfl (by decide) rfl hx140 (by decide) ?_
      intro b141 of142 c143 hv146 hr144 hm145
      obtain ⟨v147, rfl⟩ := slice_one hr144
      replace hF := ob hF
      obtain ⟨x149, hx149, hF⟩ := hF
      have hoc150 : Value.oneCell' v136 = true := (oc (hS.rdAt (R := (sliceR intR 3)) 1 rfl))
      replace hS : Sat w0 w138 [Own (sliceR intR 3) [v136] r135, Own (sliceR (sliceR intR 3) 24) [v115] x114] := hS.top 1 rfl
      refine el_storeO rfl hv146 hS hx149 rfl (cells_of rfl hoc150) ?_
      intro w148 hS
      refine el_nil ?_
      refine hQ127 _ _ _ ?_
      refine inb_n ?_
      refine hQ126 _ _ _ ?_
      refine thn_n ?_
      refine cw_reg ?_
      refine el_pv (v := .int .i64 x116) (pv_move he119) (by decide) ?_
      replace hF := ob hF
      obtain ⟨x151, hx151, hF⟩ := hF
      refine el_pv (v := .int .i64 x151) (pv_add rfl rfl hx151) (by decide) ?_
      refine el_pv (v := .int .i64 x151) (pv_assign rfl) (by decide) ?_
      refine el_nil ?_
      refine hQ122 _ _ _ ?_
      refine thn_n ?_
      replace hS := hS.keep 1
      exact ⟨v115, x149, x151, he117, he118, rfl, hS, hF⟩
    · refine cw_cond_f rfl hb125 ?_
      refine cw_exit ?_
      refine hQ123 _ _ _ ?_
      refine thn_x ?_
      refine hQ122 _ _ _ ?_
      refine thn_x ?_
      replace hF := exB hF hK113
      refine hQ111 _ _ _ ?_
      refine inb_s ?_
      refine hQ109 _ _ _ ?_
      refine thn_n ?_
      refine cw_seq ?_
      refine cw_gen ?_
      intro Q152 hQ152
      refine cw_reg ?_
      refine el_pv (v := v115) (pv_move he118) (by decide) ?_
      refine el_pv (v := v115) (pv_assign rfl) (by decide) ?_
      refine el_nil ?_
      refine hQ152 _ _ _ ?_
      refine thn_n ?_
      refine cw_ret ?_
      refine fin1 rfl rfl ?_
      have hr := Option.some.inj hF
      exact ⟨v115, congrArg (fun (r : (List (List Int))) => Ending.returned (v115)) hr, Eq.mp (congrArg (fun (r : (List (List Int))) => Sat w0 w120 [Own (sliceR (sliceR intR 3) 24) [v115] r]) hr) (hS.keep 1)⟩
set_option maxHeartbeats 4000000 in
theorem impl_IsStrictlyAscending_ok {w0 : World} {u0 : Value} {a0 : List Int} (ha0 : (sliceR intR 3).rd w0 [u0] a0) {N : Nat} {r : Bool} (hF : impl_IsStrictlyAscending N a0 = some r) :
    Calls Try.prog 52 #[u0] w0 fun e w' => e = .returned (.bool r) ∧ Ext w0 w' := by
  unfold impl_IsStrictlyAscending at hF
  refine calls_E Try.func52 rfl rfl (of_decide_eq_true rfl) ?_
  have hS := Sat.start w0
  refine cw_seq ?_
  refine cw_gen ?_
  intro Q101 hQ101
  refine cw_reg ?_
  refine el_pv (v := .bool false) (pv_assign rfl) (by decide) ?_
  refine el_nil ?_
  refine hQ101 _ _ _ ?_
  refine thn_n ?_
  refine cw_seq ?_
  refine cw_gen ?_
  intro Q102 hQ102
  refine cw_seq ?_
  refine cw_gen ?_
  intro Q103 hQ103
  refine cw_reg ?_
  refine el_pv (v := .int .i64 1) (pv_assign rfl) (by decide) ?_
  refine el_nil ?_
  refine hQ103 _ _ _ ?_
  refine thn_n ?_
  refine cw_block ?_
  refine cw_gen ?_
  intro Q104 hQ104
  obtain ⟨s105, hL, hK106⟩ := ob hF
  refine cw_loopS (fun k e w => ∃ (x107 : Int), e 0 = u0 ∧ e 3 = .int .i64 x107 ∧ Sat w0 w [] ∧ impl_IsStrictlyAscending_L1 N k a0 x107 = some s105) N ?_ ?_ ?_
  · exact ⟨1, rfl, rfl, hS, hL⟩
  · rintro e w ⟨_, _, _, _, hz⟩; exact nomatch (show none = some _ from hz)
  · rintro k e111 w110 ⟨x107, he108, he109, hS, hF⟩
    refine cw_gen ?_
    intro Q112 hQ112
    refine cw_seq ?_
    refine cw_gen ?_
    intro Q113 hQ113
    refine cw_seq ?_
    refine cw_gen ?_
    intro Q114 hQ114
    refine cw_reg ?_
    refine el_pv (v := .int .i64 x107) (pv_move he109) (by decide) ?_
    refine el_pv (v := u0) (pv_move he108) (by decide) ?_
    refine el_pv (v := .int .i64 (a0.length : Int)) (pv_len rfl ha0) (by decide) ?_
    refine el_pv (v := .bool (decide (x107 < (a0.length : Int)))) (pv_lss rfl rfl) (by decide) ?_
    refine el_nil ?_
    refine hQ114 _ _ _ ?_
    refine thn_n ?_
    replace hF := oif hF
    rcases hF with ⟨hb115, hF⟩ | ⟨hb115, hF⟩
    · refine cw_cond_t rfl hb115 ?_
      refine cw_skip ?_
      refine hQ113 _ _ _ ?_
      refine thn_n ?_
      refine cw_seq ?_
      refine cw_gen ?_
      intro Q116 hQ116
      refine cw_block ?_
      refine cw_gen ?_
      intro Q117 hQ117
      refine cw_seq ?_
      refine cw_gen ?_
      intro Q118 hQ118
      refine cw_regq (by kernel_rfl) (by kernel_rfl) ?_
      refine ql_pv (v := u0) (pv_move he108) (by decide) ?_
      refine ql_pv (v := .int .i64 x107) (pv_move he109) (by decide) ?_
      replace hF := ob hF
      obtain ⟨x119, hx119, hF⟩ := hF
      refine ql_pv (v := .int .i64 x119) (pv_sub rfl rfl hx119) (by decide) ?_
      replace hF := ob hF
      obtain ⟨x120, hx120, hF⟩ := hF
      refine ql_index (wA := w0) rfl ha0 rfl (by decide) rfl hx120 (by decide) ?_
      intro b121 of122 c123 hr124 hm125
      obtain rfl := hr124
      refine ql_pv (v := .int .i64 x120) (pv_loadc rfl ((cells_up hS.below hm125) 0 _ rfl)) (by decide) ?_
      refine ql_pv (v := u0) (pv_move he108) (by decide) ?_
      refine ql_pv (v := .int .i64 x107) (pv_move he109) (by decide) ?_
      replace hF := ob hF
      obtain ⟨x126, hx126, hF⟩ := hF
      refine ql_index (wA := w0) rfl ha0 rfl (by decide) rfl hx126 (by decide) ?_
      intro b127 of128 c129 hr130 hm131
      obtain rfl := hr130
      refine ql_pv (v := .int .i64 x126) (pv_loadc rfl ((cells_up hS.below hm131) 0 _ rfl)) (by decide) ?_
      refine ql_pv (v := .bool (decide (x126 ≤ x120))) (pv_geq rfl rfl) (by decide) ?_
      refine ql_nil ?_
      intro w132 hx133
      replace hS := hS.ext hx133
      refine hQ118 _ _ _ ?_
      refine thn_n ?_
      replace hF := oif hF
      rcases hF with ⟨hb134, hF⟩ | ⟨hb134, hF⟩
      · refine cw_cond_t rfl hb134 ?_
        refine cw_seq ?_
        refine cw_gen ?_
        intro Q135 hQ135
        refine cw_reg ?_
        refine el_pv (v := .bool false) (pv_assign rfl) (by decide) ?_
        refine el_nil ?_
        refine hQ135 _ _ _ ?_
        refine thn_n ?_
        refine cw_ret ?_
        refine hQ117 _ _ _ ?_
        refine inb_r ?_
        refine hQ116 _ _ _ ?_
        refine thn_r ?_
        refine hQ112 _ _ _ ?_
        refine thn_r ?_
        refine hQ104 _ _ _ ?_
        refine inb_r ?_
        refine hQ102 _ _ _ ?_
        refine thn_r ?_
        replace hF := exL hF hK106
        refine fin1 rfl rfl ?_
        have hr := Option.some.inj hF
        exact ⟨congrArg (fun (r : Bool) => Ending.returned (.bool r)) hr, hS.below⟩
      · refine cw_cond_f rfl hb134 ?_
        refine cw_skip ?_
        refine hQ117 _ _ _ ?_
        refine inb_n ?_
        refine hQ116 _ _ _ ?_
        refine thn_n ?_
        refine cw_reg ?_
        refine el_pv (v := .int .i64 x107) (pv_move he109) (by decide) ?_
        replace hF := ob hF
        obtain ⟨x136, hx136, hF⟩ := hF
        refine el_pv (v := .int .i64 x136) (pv_add rfl rfl hx136) (by decide) ?_
        refine el_pv (v := .int .i64 x136) (pv_assign rfl) (by decide) ?_
        refine el_nil ?_
        refine hQ112 _ _ _ ?_
        refine thn_n ?_
        replace hS := hS.keep 0
        exact ⟨x136, he108, rfl, hS, hF⟩
    · refine cw_cond_f rfl hb115 ?_
      refine cw_exit ?_
      refine hQ113 _ _ _ ?_
      refine thn_x ?_
      refine hQ112 _ _ _ ?_
      refine thn_x ?_
      replace hF := exA hF hK106
      refine hQ104 _ _ _ ?_
      refine inb_s ?_
      refine hQ102 _ _ _ ?_
      refine thn_n ?_
      refine cw_seq ?_
      refine cw_gen ?_
      intro Q137 hQ137
      refine cw_reg ?_
      refine el_pv (v := .bool true) (pv_assign rfl) (by decide) ?_
      refine el_nil ?_
      refine hQ137 _ _ _ ?_
      refine thn_n ?_
      refine cw_ret ?_
      refine fin1 rfl rfl ?_
      have hr := Option.some.inj hF
      exact ⟨congrArg (fun (r : Bool) => Ending.returned (.bool r)) hr, hS.below⟩
set_option maxHeartbeats 4000000 in
theorem impl_ascendingLists_ok {w0 : World} {u0 : Value} {a0 : List (List Int)} (ha0 : (sliceR (sliceR intR 3) 24).rd w0 [u0] a0) {N : Nat} {r : Bool} (hF : impl_ascendingLists N a0 = some r) :
    Calls Try.prog 32 #[u0] w0 fun e w' => e = .returned (.bool r) ∧ Ext w0 w' := by
  unfold impl_ascendingLists at hF
  refine calls_E Try.func32 rfl rfl (of_decide_eq_true rfl) ?_
  have hS := Sat.start w0
  refine cw_seq ?_
  refine cw_gen ?_
  intro Q101 hQ101
  refine cw_reg ?_
  refine el_pv (v := .bool false) (pv_assign rfl) (by decide) ?_
  refine el_nil ?_
  refine hQ101 _ _ _ ?_
  refine thn_n ?_
  refine cw_seq ?_
  refine cw_gen ?_
  intro Q102 hQ102
  refine cw_seq ?_
  refine cw_gen ?_
  intro Q103 hQ103
  refine cw_reg ?_
  refine el_pv (v := u0) (pv_move rfl) (by decide) ?_
  refine el_pv (v := .int .i64 (a0.length : Int)) (pv_len rfl ha0) (by decide) ?_
  refine el_pv (v := .int .i64 0) (pv_move rfl) (by decide) ?_
  refine el_nil ?_
  refine hQ103 _ _ _ ?_
  refine thn_n ?_
  refine cw_block ?_
  refine cw_gen ?_
  intro Q104 hQ104
  obtain ⟨s105, hL, hK106⟩ := ob hF
  refine cw_loopS (fun k e w => ∃ (x107 : Int), e 0 = u0 ∧ e 5 = u0 ∧ e 6 = .int .i64 (a0.length : Int) ∧ e 7 = .int .i64 x107 ∧ Sat w0 w [] ∧ impl_ascendingLists_L1 N k a0 a0 (a0.length : Int) x107 = some s105) N ?_ ?_ ?_
  · exact ⟨0, rfl, rfl, rfl, rfl, hS, hL⟩
  · rintro e w ⟨_, _, _, _, _, _, hz⟩; exact nomatch (show none = some _ from hz)
  · rintro k e113 w112 ⟨x107, he108, he109, he110, he111, hS, hF⟩
    refine cw_gen ?_
    intro Q114 hQ114
    refine cw_seq ?_
    refine cw_gen ?_
    intro Q115 hQ115
    refine cw_reg ?_
    refine el_pv (v := .bool (decide (x107 < (a0.length : Int)))) (pv_lss he111 he110) (by decide) ?_
    refine el_nil ?_
    refine hQ115 _ _ _ ?_
    refine thn_n ?_
    refine cw_seq ?_
    refine cw_gen ?_
    intro Q116 hQ116
    replace hF := oif hF
    rcases hF with ⟨hb117, hF⟩ | ⟨hb117, hF⟩
    · refine cw_cond_t rfl hb117 ?_
      refine cw_skip ?_
      refine hQ116 _ _ _ ?_
      refine thn_n ?_
      refine cw_seq ?_
      refine cw_gen ?_
      intro Q118 hQ118
      refine cw_block ?_
      refine cw_gen ?_
      intro Q119 hQ119
      refine cw_seq ?_
      refine cw_gen ?_
      intro Q120 hQ120
      refine cw_reg ?_
      replace hF := ob hF
      obtain ⟨x121, hx121, hF⟩ := hF
      refine el_index (wA := w0) he109 ha0 rfl (by decide) he111 hx121 (by decide) ?_
      intro b122 of123 c124 hr125 hm126
      obtain ⟨v127, rfl⟩ := slice_one hr125
      refine el_pv (v := v127) (pv_loadc rfl ((cells_up hS.below hm126) 0 _ rfl)) (by decide) ?_
      refine el_pv (v := v127) (pv_assign rfl) (by decide) ?_
      refine el_nil ?_
      refine hQ120 _ _ _ ?_
      refine thn_n ?_
      refine cw_seq ?_
      refine cw_gen ?_
      intro Q128 hQ128
      refine cw_reg ?_
      refine el_pv (v := v127) (pv_move rfl) (by decide) ?_
      replace hF := ob hF
      obtain ⟨r129, hr129, hF⟩ := hF
      refine el_call goes52 (impl_IsStrictlyAscending_ok (hS.up hr125) hr129) (congrArg List.toArray (mapc rfl rfl)) (by decide) ?_
      rintro _ w130 ⟨rfl, hx131⟩
      refine ⟨_, rfl, ?_⟩
      replace hS := hS.ext hx131
      refine el_pv (v := .bool (!r129)) (pv_not rfl) (by decide) ?_
      refine el_nil ?_
      refine hQ128 _ _ _ ?_
      refine thn_n ?_
      replace hF := oif hF
      rcases hF with ⟨hb132, hF⟩ | ⟨hb132, hF⟩
      · refine cw_cond_f rfl (bnot_t hb132) ?_
        refine cw_skip ?_
        refine hQ119 _ _ _ ?_
        refine inb_n ?_
        refine hQ118 _ _ _ ?_
        refine thn_n ?_
        refine cw_reg ?_
        replace hF := ob hF
        obtain ⟨x133, hx133, hF⟩ := hF
        refine el_pv (v := .int .i64 x133) (pv_add he111 rfl hx133) (by decide) ?_
        refine el_pv (v := .int .i64 x133) (pv_move rfl) (by decide) ?_
        refine el_nil ?_
        refine hQ114 _ _ _ ?_
        refine thn_n ?_
        replace hS := hS.keep 0
        exact ⟨x133, he108, he109, he110, rfl, hS, hF⟩
      · refine cw_cond_t rfl (bnot_f hb132) ?_
        refine cw_seq ?_
        refine cw_gen ?_
        intro Q134 hQ134
        refine cw_reg ?_
        refine el_pv (v := .bool false) (pv_assign rfl) (by decide) ?_
        refine el_nil ?_
        refine hQ134 _ _ _ ?_
        refine thn_n ?_
        refine cw_ret ?_
        refine hQ119 _ _ _ ?_
        refine inb_r ?_
        refine hQ118 _ _ _ ?_
        refine thn_r ?_
        refine hQ114 _ _ _ ?_
        refine thn_r ?_
        refine hQ104 _ _ _ ?_
        refine inb_r ?_
        refine hQ102 _ _ _ ?_
        refine thn_r ?_
        replace hF := exL hF hK106
        refine fin1 rfl rfl ?_
        have hr := Option.some.inj hF
        exact ⟨congrArg (fun (r : Bool) => Ending.returned (.bool r)) hr, hS.below⟩
    · refine cw_cond_f rfl hb117 ?_
      refine cw_exit ?_
      refine hQ116 _ _ _ ?_
      refine thn_x ?_
      refine hQ114 _ _ _ ?_
      refine thn_x ?_
      replace hF := exA hF hK106
      refine hQ104 _ _ _ ?_
      refine inb_s ?_
      refine hQ102 _ _ _ ?_
      refine thn_n ?_
      refine cw_seq ?_
      refine cw_gen ?_
      intro Q135 hQ135
      refine cw_reg ?_
      refine el_pv (v := u0) (pv_move he108) (by decide) ?_
      refine el_pv (v := .int .i64 (a0.length : Int)) (pv_len rfl ha0) (by decide) ?_
      refine el_pv (v := .bool (decide (0 < (a0.length : Int)))) (pv_gtr rfl rfl) (by decide) ?_
      refine el_pv (v := .bool (decide (0 < (a0.length : Int)))) (pv_assign rfl) (by decide) ?_
      refine el_nil ?_
      refine hQ135 _ _ _ ?_
      refine thn_n ?_
      refine cw_ret ?_
      refine fin1 rfl rfl ?_
      have hr := Option.some.inj hF
      exact ⟨congrArg (fun (r : Bool) => Ending.returned (.bool r)) hr, hS.below⟩
set_option maxHeartbeats 4000000 in
theorem impl_indexOf_ok {w0 : World} {u0 : Value} {a0 : List Int} {a1 : Int} (ha0 : (sliceR intR 3).rd w0 [u0] a0) {N : Nat} {r : Int} (hF : impl_indexOf N a0 a1 = some r) :
    Calls Try.prog 53 #[u0, .int .i64 a1] w0 fun e w' => e = .returned (.int .i64 r) ∧ Ext w0 w' := by
  unfold impl_indexOf at hF
  refine calls_E Try.func53 rfl rfl (of_decide_eq_true rfl) ?_
  have hS := Sat.start w0
  refine cw_seq ?_
  refine cw_gen ?_
  intro Q101 hQ101
  refine cw_reg ?_
  refine el_pv (v := .int .i64 0) (pv_assign rfl) (by decide) ?_
  refine el_nil ?_
  refine hQ101 _ _ _ ?_
  refine thn_n ?_
  refine cw_seq ?_
  refine cw_gen ?_
  intro Q102 hQ102
  refine cw_seq ?_
  refine cw_gen ?_
  intro Q103 hQ103
  refine cw_reg ?_
  refine el_pv (v := u0) (pv_move rfl) (by decide) ?_
  refine el_pv (v := .int .i64 (a0.length : Int)) (pv_len rfl ha0) (by decide) ?_
  refine el_pv (v := .int .i64 0) (pv_move rfl) (by decide) ?_
  refine el_nil ?_
  refine hQ103 _ _ _ ?_
  refine thn_n ?_
  refine cw_block ?_
  refine cw_gen ?_
  intro Q104 hQ104
  obtain ⟨s105, hL, hK106⟩ := ob hF
  refine cw_loopS (fun k e w => ∃ (x107 : Int), e 1 = .int .i64 a1 ∧ e 7 = u0 ∧ e 8 = .int .i64 (a0.length : Int) ∧ e 9 = .int .i64 x107 ∧ Sat w0 w [] ∧ impl_indexOf_L1 N k a1 a0 (a0.length : Int) x107 = some s105) N ?_ ?_ ?_
  · exact ⟨0, rfl, rfl, rfl, rfl, hS, hL⟩
  · rintro e w ⟨_, _, _, _, _, _, hz⟩; exact nomatch (show none = some _ from hz)
  · rintro k e113 w112 ⟨x107, he108, he109, he110, he111, hS, hF⟩
    refine cw_gen ?_
    intro Q114 hQ114
    refine cw_seq ?_
    refine cw_gen ?_
    intro Q115 hQ115
    refine cw_reg ?_
    refine el_pv (v := .bool (decide (x107 < (a0.length : Int)))) (pv_lss he111 he110) (by decide) ?_
    refine el_nil ?_
    refine hQ115 _ _ _ ?_
    refine thn_n ?_
    refine cw_seq ?_
    refine cw_gen ?_
    intro Q116 hQ116
    replace hF := oif hF
    rcases hF with ⟨hb117, hF⟩ | ⟨hb117, hF⟩
    · refine cw_cond_t rfl hb117 ?_
      refine cw_skip ?_
      refine hQ116 _ _ _ ?_
      refine thn_n ?_
      refine cw_seq ?_
      refine cw_gen ?_
      intro Q118 hQ118
      refine cw_block ?_
      refine cw_gen ?_
      intro Q119 hQ119
      refine cw_seq ?_
      refine cw_gen ?_
      intro Q120 hQ120
      refine cw_reg ?_
      refine el_pv (v := .int .i64 x107) (pv_move he111) (by decide) ?_
      replace hF := ob hF
      obtain ⟨x121, hx121, hF⟩ := hF
      refine el_index (wA := w0) he109 ha0 rfl (by decide) he111 hx121 (by decide) ?_
      intro b122 of123 c124 hr125 hm126
      obtain rfl := hr125
      refine el_pv (v := .int .i64 x121) (pv_loadc rfl ((cells_up hS.below hm126) 0 _ rfl)) (by decide) ?_
      refine el_pv (v := .int .i64 x107) (pv_assign rfl) (by decide) ?_
      refine el_pv (v := .int .i64 x121) (pv_assign rfl) (by decide) ?_
      refine el_nil ?_
      refine hQ120 _ _ _ ?_
      refine thn_n ?_
      refine cw_seq ?_
      refine cw_gen ?_
      intro Q127 hQ127
      refine cw_reg ?_
      refine el_pv (v := .int .i64 x121) (pv_move rfl) (by decide) ?_
      refine el_pv (v := .int .i64 a1) (pv_move he108) (by decide) ?_
      refine el_pv (v := .bool (x121 == a1)) (pv_eql rfl rfl) (by decide) ?_
      refine el_nil ?_
      refine hQ127 _ _ _ ?_
      refine thn_n ?_
      replace hF := oif hF
      rcases hF with ⟨hb128, hF⟩ | ⟨hb128, hF⟩
      · refine cw_cond_t rfl hb128 ?_
        refine cw_seq ?_
        refine cw_gen ?_
        intro Q129 hQ129
        refine cw_reg ?_
        refine el_pv (v := .int .i64 x107) (pv_move rfl) (by decide) ?_
        refine el_pv (v := .int .i64 x107) (pv_assign rfl) (by decide) ?_
        refine el_nil ?_
        refine hQ129 _ _ _ ?_
        refine thn_n ?_
        refine cw_ret ?_
        refine hQ119 _ _ _ ?_
        refine inb_r ?_
        refine hQ118 _ _ _ ?_
        refine thn_r ?_
        refine hQ114 _ _ _ ?_
        refine thn_r ?_
        refine hQ104 _ _ _ ?_
        refine inb_r ?_
        refine hQ102 _ _ _ ?_
        refine thn_r ?_
        replace hF := exL hF hK106
        refine fin1 rfl rfl ?_
        have hr := Option.some.inj hF
        exact ⟨congrArg (fun (r : Int) => Ending.returned (.int .i64 r)) hr, hS.below⟩
      · refine cw_cond_f rfl hb128 ?_
        refine cw_skip ?_
        refine hQ119 _ _ _ ?_
        refine inb_n ?_
        refine hQ118 _ _ _ ?_
        refine thn_n ?_
        refine cw_reg ?_
        replace hF := ob hF
        obtain ⟨x130, hx130, hF⟩ := hF
        refine el_pv (v := .int .i64 x130) (pv_add he111 rfl hx130) (by decide) ?_
        refine el_pv (v := .int .i64 x130) (pv_move rfl) (by decide) ?_
        refine el_nil ?_
        refine hQ114 _ _ _ ?_
        refine thn_n ?_
        replace hS := hS.keep 0
        exact ⟨x130, he108, he109, he110, rfl, hS, hF⟩
    · refine cw_cond_f rfl hb117 ?_
      refine cw_exit ?_
      refine hQ116 _ _ _ ?_
      refine thn_x ?_
      refine hQ114 _ _ _ ?_
      refine thn_x ?_
      replace hF := exA hF hK106
      refine hQ104 _ _ _ ?_
      refine inb_s ?_
      refine hQ102 _ _ _ ?_
      refine thn_n ?_
      refine cw_seq ?_
      refine cw_gen ?_
      intro Q131 hQ131
      refine cw_reg ?_
      refine el_pv (v := .int .i64 (-1)) (pv_assign rfl) (by decide) ?_
      refine el_nil ?_
      refine hQ131 _ _ _ ?_
      refine thn_n ?_
      refine cw_ret ?_
      refine fin1 rfl rfl ?_
      have hr := Option.some.inj hF
      exact ⟨congrArg (fun (r : Int) => Ending.returned (.int .i64 r)) hr, hS.below⟩
set_option maxHeartbeats 4000000 in
theorem impl_hasInt_ok {w0 : World} {u0 : Value} {a0 : List Int} {a1 : Int} (ha0 : (sliceR intR 3).rd w0 [u0] a0) {N : Nat} {r : Bool} (hF : impl_hasInt N a0 a1 = some r) :
    Calls Try.prog 33 #[u0, .int .i64 a1] w0 fun e w' => e = .returned (.bool r) ∧ Ext w0 w' := by
  unfold impl_hasInt at hF
  refine calls_E Try.func33 rfl rfl (of_decide_eq_true rfl) ?_
  have hS := Sat.start w0
  refine cw_seq ?_
  refine cw_gen ?_
  intro Q101 hQ101
  refine cw_reg ?_
  refine el_pv (v := .bool false) (pv_assign rfl) (by decide) ?_
  refine el_nil ?_
  refine hQ101 _ _ _ ?_
  refine thn_n ?_
  refine cw_seq ?_
  refine cw_gen ?_
  intro Q102 hQ102
  refine cw_reg ?_
  refine el_pv (v := u0) (pv_move rfl) (by decide) ?_
  refine el_pv (v := .int .i64 a1) (pv_move rfl) (by decide) ?_
  replace hF := ob hF
  obtain ⟨r103, hr103, hF⟩ := hF
  refine el_call goes53 (impl_indexOf_ok (hS.up ha0) hr103) (congrArg List.toArray (mapc rfl (mapc rfl rfl))) (by decide) ?_
  rintro _ w104 ⟨rfl, hx105⟩
  refine ⟨_, rfl, ?_⟩
  replace hS := hS.ext hx105
  refine el_pv (v := .bool (decide (0 ≤ r103))) (pv_geq rfl rfl) (by decide) ?_
  refine el_pv (v := .bool (decide (0 ≤ r103))) (pv_assign rfl) (by decide) ?_
  refine el_nil ?_
  refine hQ102 _ _ _ ?_
  refine thn_n ?_
  refine cw_ret ?_
  refine fin1 rfl rfl ?_
  have hr := Option.some.inj hF
  exact ⟨congrArg (fun (r : Bool) => Ending.returned (.bool r)) hr, hS.below⟩
end Go.Proofs.Ytnanddmadghnnaa
