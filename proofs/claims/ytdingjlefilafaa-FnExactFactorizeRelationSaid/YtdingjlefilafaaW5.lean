/- The walks through functions of the program: each hands back what it comes to. No condition but that it comes to something. -/
import Derived.Test.YtdingjlefilafaaW4
import Derived.Test.YtdingjlefilafaaW5D
namespace Go.Proofs.Ytdingjlefilafaa
open Go.RowKit
set_option maxRecDepth 100000
set_option maxHeartbeats 4000000 in
theorem impl_CompareRows_ok {w0 : World} {u0 : Value} {a0 : List Int} {u1 : Value} {a1 : List Int} (ha0 : (sliceR intR 3).rd w0 [u0] a0) (ha1 : (sliceR intR 3).rd w0 [u1] a1) {N : Nat} {r : Int} (hF : impl_CompareRows N a0 a1 = some r) :
    Calls Try.prog 113 #[u0, u1] w0 fun e w' => e = .returned (.int .i64 r) ∧ Ext w0 w' := by
  unfold impl_CompareRows at hF
  refine calls_E Try.func113 rfl rfl (of_decide_eq_true rfl) ?_
  have hS := Sat.start w0
  refine cw_seq ?_
  refine cw_gen ?_
  intro Q101 hQ101
  refine cw_reg ?_
  refine el_pv (v := .int .i64 0) (pv_assign rfl) (by decide) ?_
  refine el_nil ?_
  refine hQ101 _ _ _ ?_
  refine thn_n ?_
  refine cw_seq ?_
  refine cw_gen ?_
  intro Q102 hQ102
  refine cw_seq ?_
  refine cw_gen ?_
  intro Q103 hQ103
  refine cw_reg ?_
  refine el_pv (v := .int .i64 0) (pv_assign rfl) (by decide) ?_
  refine el_nil ?_
  refine hQ103 _ _ _ ?_
  refine thn_n ?_
  refine cw_block ?_
  refine cw_gen ?_
  intro Q104 hQ104
  obtain ⟨s105, hL, hK106⟩ := ob hF
  refine cw_loopS (fun k e w => ∃ (x107 : Int), e 0 = u0 ∧ e 1 = u1 ∧ e 5 = .int .i64 x107 ∧ Sat w0 w [] ∧ impl_CompareRows_L1 N k a0 a1 x107 = some s105) N ?_ ?_ ?_
  · exact ⟨0, rfl, rfl, rfl, hS, hL⟩
  · rintro e w ⟨_, _, _, _, _, hz⟩; exact nomatch (show none = some _ from hz)
  · rintro k e112 w111 ⟨x107, he108, he109, he110, hS, hF⟩
    refine cw_gen ?_
    intro Q113 hQ113
    refine cw_seq ?_
    refine cw_gen ?_
    intro Q114 hQ114
    refine cw_seq ?_
    refine cw_gen ?_
    intro Q115 hQ115
    refine cw_reg ?_
    refine el_pv (v := .int .i64 x107) (pv_move he110) (by decide) ?_
    refine el_pv (v := u0) (pv_move he108) (by decide) ?_
    refine el_pv (v := .int .i64 (a0.length : Int)) (pv_len rfl ha0) (by decide) ?_
    refine el_pv (v := .bool (decide (x107 < (a0.length : Int)))) (pv_lss rfl rfl) (by decide) ?_
    refine el_pv (v := .bool (decide (x107 < (a0.length : Int)))) (pv_move rfl) (by decide) ?_
    replace hF := oif hF
    rcases hF with ⟨hb116, hF⟩ | ⟨hb116, hF⟩
    · refine el_on rfl hb116 ?_
      refine el_pv (v := .int .i64 x107) (pv_move he110) (by decide) ?_
      refine el_on rfl hb116 ?_
      refine el_pv (v := u1) (pv_move he109) (by decide) ?_
      refine el_on rfl hb116 ?_
      refine el_pv (v := .int .i64 (a1.length : Int)) (pv_len rfl ha1) (by decide) ?_
      refine el_on rfl hb116 ?_
      refine el_pv (v := .bool (decide (x107 < (a1.length : Int)))) (pv_lss rfl rfl) (by decide) ?_
      refine el_pv (v := .bool (decide (x107 < (a1.length : Int)))) (pv_pick_t rfl hb116 rfl) (by decide) ?_
      refine el_nil ?_
      refine hQ115 _ _ _ ?_
      refine thn_n ?_
      replace hF := oif hF
      rcases hF with ⟨hb117, hF⟩ | ⟨hb117, hF⟩
      · refine cw_cond_t rfl hb117 ?_
        refine cw_skip ?_
        refine hQ114 _ _ _ ?_
        refine thn_n ?_
        refine cw_seq ?_
        refine cw_gen ?_
        intro Q118 hQ118
        refine cw_block ?_
        refine cw_gen ?_
        intro Q119 hQ119
        refine cw_seq ?_
        refine cw_gen ?_
        intro Q120 hQ120
        refine cw_regq (by kernel_rfl) (by kernel_rfl) ?_
        refine ql_pv (v := u0) (pv_move he108) (by decide) ?_
        refine ql_pv (v := .int .i64 x107) (pv_move he110) (by decide) ?_
        replace hF := ob hF
        obtain ⟨x121, hx121, hF⟩ := hF
        refine ql_index (wA := w0) rfl ha0 rfl (by decide) rfl hx121 (by decide) ?_
        intro b122 of123 c124 hr125 hm126
        obtain rfl := hr125
        refine ql_pv (v := .int .i64 x121) (pv_loadc rfl ((cells_up hS.below hm126) 0 _ rfl)) (by decide) ?_
        refine ql_pv (v := u1) (pv_move he109) (by decide) ?_
        refine ql_pv (v := .int .i64 x107) (pv_move he110) (by decide) ?_
        replace hF := ob hF
        obtain ⟨x127, hx127, hF⟩ := hF
        refine ql_index (wA := w0) rfl ha1 rfl (by decide) rfl hx127 (by decide) ?_
        intro b128 of129 c130 hr131 hm132
        obtain rfl := hr131
        refine ql_pv (v := .int .i64 x127) (pv_loadc rfl ((cells_up hS.below hm132) 0 _ rfl)) (by decide) ?_
        refine ql_pv (v := .bool (x121 != x127)) (pv_neq rfl rfl) (by decide) ?_
        refine ql_nil ?_
        intro w133 hx134
        replace hS := hS.ext hx134
        refine hQ120 _ _ _ ?_
        refine thn_n ?_
        replace hF := oif hF
        rcases hF with ⟨hb135, hF⟩ | ⟨hb135, hF⟩
        · refine cw_cond_t rfl hb135 ?_
          refine cw_seq ?_
          refine cw_gen ?_
          intro Q136 hQ136
          refine cw_regq (by kernel_rfl) (by kernel_rfl) ?_
          refine ql_pv (v := u0) (pv_move he108) (by decide) ?_
          refine ql_pv (v := .int .i64 x107) (pv_move he110) (by decide) ?_
          replace hF := ob hF
          obtain ⟨x137, hx137, hF⟩ := hF
          refine ql_index (wA := w0) rfl ha0 rfl (by decide) rfl hx137 (by decide) ?_
          intro b138 of139 c140 hr141 hm142
          obtain rfl := hr141
          refine ql_pv (v := .int .i64 x137) (pv_loadc rfl ((cells_up hS.below hm142) 0 _ rfl)) (by decide) ?_
          refine ql_pv (v := u1) (pv_move he109) (by decide) ?_
          refine ql_pv (v := .int .i64 x107) (pv_move he110) (by decide) ?_
          replace hF := ob hF
          obtain ⟨x143, hx143, hF⟩ := hF
          refine ql_index (wA := w0) rfl ha1 rfl (by decide) rfl hx143 (by decide) ?_
          intro b144 of145 c146 hr147 hm148
          obtain rfl := hr147
          refine ql_pv (v := .int .i64 x143) (pv_loadc rfl ((cells_up hS.below hm148) 0 _ rfl)) (by decide) ?_
          replace hF := ob hF
          obtain ⟨r149, hr149, hF⟩ := hF
          refine ql_call (.int .i64 r149) goes119 (fun w' hw' => impl_compareInts_ok hr149) (congrArg List.toArray (mapc rfl (mapc rfl rfl))) (by decide) ?_
          refine ql_pv (v := .int .i64 r149) (pv_assign rfl) (by decide) ?_
          refine ql_nil ?_
          intro w150 hx151
          replace hS := hS.ext hx151
          refine hQ136 _ _ _ ?_
          refine thn_n ?_
          refine cw_ret ?_
          refine hQ119 _ _ _ ?_
          refine inb_r ?_
          refine hQ118 _ _ _ ?_
          refine thn_r ?_
          refine hQ113 _ _ _ ?_
          refine thn_r ?_
          refine hQ104 _ _ _ ?_
          refine inb_r ?_
          refine hQ102 _ _ _ ?_
          refine thn_r ?_
          replace hF := exL hF hK106
          refine fin1 rfl rfl ?_
          have hr := Option.some.inj hF
          exact ⟨congrArg (fun (r : Int) => Ending.returned (.int .i64 r)) hr, hS.below⟩
        · refine cw_cond_f rfl hb135 ?_
          refine cw_skip ?_
          refine hQ119 _ _ _ ?_
          refine inb_n ?_
          refine hQ118 _ _ _ ?_
          refine thn_n ?_
          refine cw_reg ?_
          refine el_pv (v := .int .i64 x107) (pv_move he110) (by decide) ?_
          replace hF := ob hF
          obtain ⟨x152, hx152, hF⟩ := hF
          refine el_pv (v := .int .i64 x152) (pv_add rfl rfl hx152) (by decide) ?_
          refine el_pv (v := .int .i64 x152) (pv_assign rfl) (by decide) ?_
          refine el_nil ?_
          refine hQ113 _ _ _ ?_
          refine thn_n ?_
          replace hS := hS.keep 0
          exact ⟨x152, he108, he109, rfl, hS, hF⟩
      · refine cw_cond_f rfl hb117 ?_
        refine cw_exit ?_
        refine hQ114 _ _ _ ?_
        refine thn_x ?_
        refine hQ113 _ _ _ ?_
        refine thn_x ?_
        replace hF := exA hF hK106
        refine hQ104 _ _ _ ?_
        refine inb_s ?_
        refine hQ102 _ _ _ ?_
        refine thn_n ?_
        refine cw_seq ?_
        refine cw_gen ?_
        intro Q153 hQ153
        refine cw_reg ?_
        refine el_pv (v := u0) (pv_move he108) (by decide) ?_
        refine el_pv (v := .int .i64 (a0.length : Int)) (pv_len rfl ha0) (by decide) ?_
        refine el_pv (v := u1) (pv_move he109) (by decide) ?_
        refine el_pv (v := .int .i64 (a1.length : Int)) (pv_len rfl ha1) (by decide) ?_
        replace hF := ob hF
        obtain ⟨r154, hr154, hF⟩ := hF
        refine el_call goes119 (impl_compareInts_ok hr154) (congrArg List.toArray (mapc rfl (mapc rfl rfl))) (by decide) ?_
        rintro _ w155 ⟨rfl, hx156⟩
        refine ⟨_, rfl, ?_⟩
        replace hS := hS.ext hx156
        refine el_pv (v := .int .i64 r154) (pv_assign rfl) (by decide) ?_
        refine el_nil ?_
        refine hQ153 _ _ _ ?_
        refine thn_n ?_
        refine cw_ret ?_
        refine fin1 rfl rfl ?_
        have hr := Option.some.inj hF
        exact ⟨congrArg (fun (r : Int) => Ending.returned (.int .i64 r)) hr, hS.below⟩
    · refine el_off rfl hb116 rfl (by decide) ?_
      refine el_off rfl hb116 rfl (by decide) ?_
      refine el_off rfl hb116 rfl (by decide) ?_
      refine el_off rfl hb116 rfl (by decide) ?_
      refine el_pv (v := .bool false) (pv_pick_f rfl hb116 rfl) (by decide) ?_
      refine el_nil ?_
      refine hQ115 _ _ _ ?_
      refine thn_n ?_
      refine cw_cond_f rfl rfl ?_
      refine cw_exit ?_
      refine hQ114 _ _ _ ?_
      refine thn_x ?_
      refine hQ113 _ _ _ ?_
      refine thn_x ?_
      replace hF := exA hF hK106
      refine hQ104 _ _ _ ?_
      refine inb_s ?_
      refine hQ102 _ _ _ ?_
      refine thn_n ?_
      refine cw_seq ?_
      refine cw_gen ?_
      intro Q157 hQ157
      refine cw_reg ?_
      refine el_pv (v := u0) (pv_move he108) (by decide) ?_
      refine el_pv (v := .int .i64 (a0.length : Int)) (pv_len rfl ha0) (by decide) ?_
      refine el_pv (v := u1) (pv_move he109) (by decide) ?_
      refine el_pv (v := .int .i64 (a1.length : Int)) (pv_len rfl ha1) (by decide) ?_
      replace hF := ob hF
      obtain ⟨r158, hr158, hF⟩ := hF
      refine el_call goes119 (impl_compareInts_ok hr158) (congrArg List.toArray (mapc rfl (mapc rfl rfl))) (by decide) ?_
      rintro _ w159 ⟨rfl, hx160⟩
      refine ⟨_, rfl, ?_⟩
      replace hS := hS.ext hx160
      refine el_pv (v := .int .i64 r158) (pv_assign rfl) (by decide) ?_
      refine el_nil ?_
      refine hQ157 _ _ _ ?_
      refine thn_n ?_
      refine cw_ret ?_
      refine fin1 rfl rfl ?_
      have hr := Option.some.inj hF
      exact ⟨congrArg (fun (r : Int) => Ending.returned (.int .i64 r)) hr, hS.below⟩
set_option maxHeartbeats 4000000 in
theorem impl_rowsValid_ok {w0 : World} {a0 : Int} {u1 : Value} {a1 : List (List Int)} (ha1 : (sliceR (sliceR intR 3) 26).rd w0 [u1] a1) {N : Nat} {r : Bool} (hF : impl_rowsValid N a0 a1 = some r) :
    Calls Try.prog 94 #[.int .i64 a0, u1] w0 fun e w' => e = .returned (.bool r) ∧ Ext w0 w' := by
  unfold impl_rowsValid at hF
  refine calls_E Try.func94 rfl rfl (of_decide_eq_true rfl) ?_
  have hS := Sat.start w0
  refine cw_seq ?_
  refine cw_gen ?_
  intro Q101 hQ101
  refine cw_reg ?_
  refine el_pv (v := .bool false) (pv_assign rfl) (by decide) ?_
  refine el_nil ?_
  refine hQ101 _ _ _ ?_
  refine thn_n ?_
  refine cw_seq ?_
  refine cw_gen ?_
  intro Q102 hQ102
  refine cw_seq ?_
  refine cw_gen ?_
  intro Q103 hQ103
  refine cw_reg ?_
  refine el_pv (v := .int .i64 a0) (pv_move rfl) (by decide) ?_
  replace hF := ob hF
  obtain ⟨r104, hr104, hF⟩ := hF
  refine el_call goes67 (impl_within_ok hr104) (congrArg List.toArray (mapc rfl (mapc rfl (mapc rfl rfl)))) (by decide) ?_
  rintro _ w105 ⟨rfl, hx106⟩
  refine ⟨_, rfl, ?_⟩
  replace hS := hS.ext hx106
  refine el_pv (v := .bool (!r104)) (pv_not rfl) (by decide) ?_
  refine el_pv (v := .bool (!r104)) (pv_move rfl) (by decide) ?_
  replace hF := oif hF
  rcases hF with ⟨hb107, hF⟩ | ⟨hb107, hF⟩
  · refine el_on rfl (bnot_t hb107) ?_
    refine el_pv (v := u1) (pv_move rfl) (by decide) ?_
    refine el_on rfl (bnot_t hb107) ?_
    refine el_pv (v := .int .i64 (a1.length : Int)) (pv_len rfl ha1) (by decide) ?_
    refine el_on rfl (bnot_t hb107) ?_
    refine el_pv (v := .bool (decide (4000 < (a1.length : Int)))) (pv_gtr rfl rfl) (by decide) ?_
    refine el_pv (v := .bool (decide (4000 < (a1.length : Int)))) (pv_pick_f rfl (bnot_t hb107) rfl) (by decide) ?_
    refine el_nil ?_
    refine hQ103 _ _ _ ?_
    refine thn_n ?_
    replace hF := oif hF
    rcases hF with ⟨hb108, hF⟩ | ⟨hb108, hF⟩
    · refine cw_cond_t rfl hb108 ?_
      refine cw_seq ?_
      refine cw_gen ?_
      intro Q109 hQ109
      refine cw_reg ?_
      refine el_pv (v := .bool false) (pv_assign rfl) (by decide) ?_
      refine el_nil ?_
      refine hQ109 _ _ _ ?_
      refine thn_n ?_
      refine cw_ret ?_
      refine hQ102 _ _ _ ?_
      refine thn_r ?_
      refine fin1 rfl rfl ?_
      have hr := Option.some.inj hF
      exact ⟨congrArg (fun (r : Bool) => Ending.returned (.bool r)) hr, hS.below⟩
    · refine cw_cond_f rfl hb108 ?_
      refine cw_skip ?_
      refine hQ102 _ _ _ ?_
      refine thn_n ?_
      refine cw_seq ?_
      refine cw_gen ?_
      intro Q110 hQ110
      refine cw_seq ?_
      refine cw_gen ?_
      intro Q111 hQ111
      refine cw_reg ?_
      refine el_pv (v := u1) (pv_move rfl) (by decide) ?_
      refine el_pv (v := .int .i64 (a1.length : Int)) (pv_len rfl ha1) (by decide) ?_
      refine el_pv (v := .int .i64 0) (pv_move rfl) (by decide) ?_
      refine el_nil ?_
      refine hQ111 _ _ _ ?_
      refine thn_n ?_
      refine cw_block ?_
      refine cw_gen ?_
      intro Q112 hQ112
      obtain ⟨s113, hL, hK114⟩ := ob hF
      refine cw_loopS (fun k e w => ∃ (x115 : Int), e 0 = .int .i64 a0 ∧ e 1 = u1 ∧ e 15 = u1 ∧ e 16 = .int .i64 (a1.length : Int) ∧ e 17 = .int .i64 x115 ∧ Sat w0 w [] ∧ impl_rowsValid_L1 N k a0 a1 a1 (a1.length : Int) x115 = some s113) N ?_ ?_ ?_
      · exact ⟨0, rfl, rfl, rfl, rfl, rfl, hS, hL⟩
      · rintro e w ⟨_, _, _, _, _, _, _, hz⟩; exact nomatch (show none = some _ from hz)
      · rintro k e122 w121 ⟨x115, he116, he117, he118, he119, he120, hS, hF⟩
        refine cw_gen ?_
        intro Q123 hQ123
        refine cw_seq ?_
        refine cw_gen ?_
        intro Q124 hQ124
        refine cw_reg ?_
        refine el_pv (v := .bool (decide (x115 < (a1.length : Int)))) (pv_lss he120 he119) (by decide) ?_
        refine el_nil ?_
        refine hQ124 _ _ _ ?_
        refine thn_n ?_
        refine cw_seq ?_
        refine cw_gen ?_
        intro Q125 hQ125
        replace hF := oif hF
        rcases hF with ⟨hb126, hF⟩ | ⟨hb126, hF⟩
        · refine cw_cond_t rfl hb126 ?_
          refine cw_skip ?_
          refine hQ125 _ _ _ ?_
          refine thn_n ?_
          refine cw_seq ?_
          refine cw_gen ?_
          intro Q127 hQ127
          refine cw_block ?_
          refine cw_gen ?_
          intro Q128 hQ128
          refine cw_seq ?_
          refine cw_gen ?_
          intro Q129 hQ129
          refine cw_reg ?_
          refine el_pv (v := .int .i64 x115) (pv_move he120) (by decide) ?_
          replace hF := ob hF
          obtain ⟨x130, hx130, hF⟩ := hF
          refine el_index (wA := w0) he118 ha1 rfl (by decide) he120 hx130 (by decide) ?_
          intro b131 of132 c133 hr134 hm135
          obtain ⟨v136, rfl⟩ := slice_one hr134
          refine el_pv (v := v136) (pv_loadc rfl ((cells_up hS.below hm135) 0 _ rfl)) (by decide) ?_
          refine el_pv (v := .int .i64 x115) (pv_assign rfl) (by decide) ?_
          refine el_pv (v := v136) (pv_assign rfl) (by decide) ?_
          refine el_nil ?_
          refine hQ129 _ _ _ ?_
          refine thn_n ?_
          refine cw_seq ?_
          refine cw_gen ?_
          intro Q137 hQ137
          refine cw_reg ?_
          refine el_pv (v := v136) (pv_move rfl) (by decide) ?_
          refine el_pv (v := .int .i64 (x130.length : Int)) (pv_len rfl hr134) (by decide) ?_
          refine el_pv (v := .int .i64 a0) (pv_move he116) (by decide) ?_
          refine el_pv (v := .bool ((x130.length : Int) != a0)) (pv_neq rfl rfl) (by decide) ?_
          refine el_pv (v := .bool ((x130.length : Int) != a0)) (pv_move rfl) (by decide) ?_
          replace hF := oif hF
          rcases hF with ⟨hb138, hF⟩ | ⟨hb138, hF⟩
          · refine el_off rfl hb138 rfl (by decide) ?_
            refine el_off rfl hb138 rfl (by decide) ?_
            refine el_off rfl hb138 rfl (by decide) ?_
            refine el_pv (v := .bool true) (pv_pick_t rfl hb138 rfl) (by decide) ?_
            refine el_pv (v := .bool true) (pv_move rfl) (by decide) ?_
            refine el_off rfl rfl rfl (by decide) ?_
            refine el_off rfl rfl rfl (by decide) ?_
            refine el_off rfl rfl rfl (by decide) ?_
            refine el_offu rfl (by decide) ?_
            refine el_offu rfl (by decide) ?_
            refine el_offu rfl (by decide) ?_
            refine el_offu rfl (by decide) ?_
            refine el_offu rfl (by decide) ?_
            refine el_offu rfl (by decide) ?_
            refine el_offu rfl (by decide) ?_
            refine el_offu rfl (by decide) ?_
            refine el_off rfl rfl rfl (by decide) ?_
            refine el_pv (v := .bool true) (pv_pick_t rfl rfl rfl) (by decide) ?_
            refine el_nil ?_
            refine hQ137 _ _ _ ?_
            refine thn_n ?_
            refine cw_cond_t rfl rfl ?_
            refine cw_seq ?_
            refine cw_gen ?_
            intro Q139 hQ139
            refine cw_reg ?_
            refine el_pv (v := .bool false) (pv_assign rfl) (by decide) ?_
            refine el_nil ?_
            refine hQ139 _ _ _ ?_
            refine thn_n ?_
            refine cw_ret ?_
            refine hQ128 _ _ _ ?_
            refine inb_r ?_
            refine hQ127 _ _ _ ?_
            refine thn_r ?_
            refine hQ123 _ _ _ ?_
            refine thn_r ?_
            refine hQ112 _ _ _ ?_
            refine inb_r ?_
            refine hQ110 _ _ _ ?_
            refine thn_r ?_
            replace hF := exL hF hK114
            refine fin1 rfl rfl ?_
            have hr := Option.some.inj hF
            exact ⟨congrArg (fun (r : Bool) => Ending.returned (.bool r)) hr, hS.below⟩
          · refine el_on rfl hb138 ?_
            refine el_pv (v := v136) (pv_move rfl) (by decide) ?_
            refine el_on rfl hb138 ?_
            replace hF := ob hF
            obtain ⟨r140, hr140, hF⟩ := hF
            refine el_call goes103 (impl_AreValidValues_ok (hS.up hr134) hr140) (congrArg List.toArray (mapc rfl rfl)) (by decide) ?_
            rintro _ w141 ⟨rfl, hx142⟩
            refine ⟨_, rfl, ?_⟩
            replace hS := hS.ext hx142
            refine el_on rfl hb138 ?_
            refine el_pv (v := .bool (!r140)) (pv_not rfl) (by decide) ?_
            refine el_pv (v := .bool (!r140)) (pv_pick_f rfl hb138 rfl) (by decide) ?_
            refine el_pv (v := .bool (!r140)) (pv_move rfl) (by decide) ?_
            replace hF := oif hF
            rcases hF with ⟨hb143, hF⟩ | ⟨hb143, hF⟩
            · refine el_on rfl (bnot_t hb143) ?_
              refine el_pv (v := .int .i64 x115) (pv_move rfl) (by decide) ?_
              refine el_on rfl (bnot_t hb143) ?_
              refine el_pv (v := .bool (decide (0 < x115))) (pv_gtr rfl rfl) (by decide) ?_
              refine el_on rfl (bnot_t hb143) ?_
              refine el_pv (v := .bool (decide (0 < x115))) (pv_move rfl) (by decide) ?_
              replace hF := oif hF
              rcases hF with ⟨hb144, hF⟩ | ⟨hb144, hF⟩
              · refine el_on rfl hb144 ?_
                refine el_pv (v := u1) (pv_move he117) (by decide) ?_
                refine el_on rfl hb144 ?_
                refine el_pv (v := .int .i64 x115) (pv_move rfl) (by decide) ?_
                refine el_on rfl hb144 ?_
                replace hF := ob hF
                obtain ⟨x145, hx145, hF⟩ := hF
                refine el_pv (v := .int .i64 x145) (pv_sub rfl rfl hx145) (by decide) ?_
                refine el_on rfl hb144 ?_
                replace hF := ob hF
                obtain ⟨x146, hx146, hF⟩ := hF
                refine el_index (wA := w0) rfl ha1 rfl (by decide) rfl hx146 (by decide) ?_
                intro b147 of148 c149 hr150 hm151
                obtain ⟨v152, rfl⟩ := slice_one hr150
                refine el_on rfl hb144 ?_
                refine el_pv (v := v152) (pv_loadc rfl ((cells_up hS.below hm151) 0 _ rfl)) (by decide) ?_
                refine el_on rfl hb144 ?_
                refine el_pv (v := v136) (pv_move rfl) (by decide) ?_
                refine el_on rfl hb144 ?_
                replace hF := ob hF
                obtain ⟨r153, hr153, hF⟩ := hF
                refine el_call goes113 (impl_CompareRows_ok (hS.up hr150) (hS.up hr134) hr153) (congrArg List.toArray (mapc rfl (mapc rfl rfl))) (by decide) ?_
                rintro _ w154 ⟨rfl, hx155⟩
                refine ⟨_, rfl, ?_⟩
                replace hS := hS.ext hx155
                refine el_on rfl hb144 ?_
                refine el_pv (v := .bool (decide (0 ≤ r153))) (pv_geq rfl rfl) (by decide) ?_
                refine el_on rfl (bnot_t hb143) ?_
                refine el_pv (v := .bool (decide (0 ≤ r153))) (pv_pick_t rfl hb144 rfl) (by decide) ?_
                refine el_pv (v := .bool (decide (0 ≤ r153))) (pv_pick_f rfl (bnot_t hb143) rfl) (by decide) ?_
                refine el_nil ?_
                refine hQ137 _ _ _ ?_
                refine thn_n ?_
                replace hF := oif hF
                rcases hF with ⟨hb156, hF⟩ | ⟨hb156, hF⟩
                · refine cw_cond_t rfl hb156 ?_
                  refine cw_seq ?_
                  refine cw_gen ?_
                  intro Q157 hQ157
                  refine cw_reg ?_
                  refine el_pv (v := .bool false) (pv_assign rfl) (by decide) ?_
                  refine el_nil ?_
                  refine hQ157 _ _ _ ?_
                  refine thn_n ?_
                  refine cw_ret ?_
                  refine hQ128 _ _ _ ?_
                  refine inb_r ?_
                  refine hQ127 _ _ _ ?_
                  refine thn_r ?_
                  refine hQ123 _ _ _ ?_
                  refine thn_r ?_
                  refine hQ112 _ _ _ ?_
                  refine inb_r ?_
                  refine hQ110 _ _ _ ?_
                  refine thn_r ?_
                  replace hF := exL hF hK114
                  refine fin1 rfl rfl ?_
                  have hr := Option.some.inj hF
                  exact ⟨congrArg (fun (r : Bool) => Ending.returned (.bool r)) hr, hS.below⟩
                · refine cw_cond_f rfl hb156 ?_
                  refine cw_skip ?_
                  refine hQ128 _ _ _ ?_
                  refine inb_n ?_
                  refine hQ127 _ _ _ ?_
                  refine thn_n ?_
                  refine cw_reg ?_
                  replace hF := ob hF
                  obtain ⟨x158, hx158, hF⟩ := hF
                  refine el_pv (v := .int .i64 x158) (pv_add he120 rfl hx158) (by decide) ?_
                  refine el_pv (v := .int .i64 x158) (pv_move rfl) (by decide) ?_
                  refine el_nil ?_
                  refine hQ123 _ _ _ ?_
                  refine thn_n ?_
                  replace hS := hS.keep 0
                  exact ⟨x158, he116, he117, he118, he119, rfl, hS, hF⟩
              · refine el_off rfl hb144 rfl (by decide) ?_
                refine el_off rfl hb144 rfl (by decide) ?_
                refine el_off rfl hb144 rfl (by decide) ?_
                refine el_off rfl hb144 rfl (by decide) ?_
                refine el_off rfl hb144 rfl (by decide) ?_
                refine el_off rfl hb144 rfl (by decide) ?_
                refine el_off rfl hb144 rfl (by decide) ?_
                refine el_off rfl hb144 rfl (by decide) ?_
                refine el_on rfl (bnot_t hb143) ?_
                refine el_pv (v := .bool false) (pv_pick_f rfl hb144 rfl) (by decide) ?_
                refine el_pv (v := .bool false) (pv_pick_f rfl (bnot_t hb143) rfl) (by decide) ?_
                refine el_nil ?_
                refine hQ137 _ _ _ ?_
                refine thn_n ?_
                refine cw_cond_f rfl rfl ?_
                refine cw_skip ?_
                refine hQ128 _ _ _ ?_
                refine inb_n ?_
                refine hQ127 _ _ _ ?_
                refine thn_n ?_
                refine cw_reg ?_
                replace hF := ob hF
                obtain ⟨x159, hx159, hF⟩ := hF
                refine el_pv (v := .int .i64 x159) (pv_add he120 rfl hx159) (by decide) ?_
                refine el_pv (v := .int .i64 x159) (pv_move rfl) (by decide) ?_
                refine el_nil ?_
                refine hQ123 _ _ _ ?_
                refine thn_n ?_
                replace hS := hS.keep 0
                exact ⟨x159, he116, he117, he118, he119, rfl, hS, hF⟩
            · refine el_off rfl (bnot_f hb143) rfl (by decide) ?_
              refine el_off rfl (bnot_f hb143) rfl (by decide) ?_
              refine el_off rfl (bnot_f hb143) rfl (by decide) ?_
              refine el_offu rfl (by decide) ?_
              refine el_offu rfl (by decide) ?_
              refine el_offu rfl (by decide) ?_
              refine el_offu rfl (by decide) ?_
              refine el_offu rfl (by decide) ?_
              refine el_offu rfl (by decide) ?_
              refine el_offu rfl (by decide) ?_
              refine el_offu rfl (by decide) ?_
              refine el_off rfl (bnot_f hb143) rfl (by decide) ?_
              refine el_pv (v := .bool true) (pv_pick_t rfl (bnot_f hb143) rfl) (by decide) ?_
              refine el_nil ?_
              refine hQ137 _ _ _ ?_
              refine thn_n ?_
              refine cw_cond_t rfl rfl ?_
              refine cw_seq ?_
              refine cw_gen ?_
              intro Q160 hQ160
              refine cw_reg ?_
              refine el_pv (v := .bool false) (pv_assign rfl) (by decide) ?_
              refine el_nil ?_
              refine hQ160 _ _ _ ?_
              refine thn_n ?_
              refine cw_ret ?_
              refine hQ128 _ _ _ ?_
              refine inb_r ?_
              refine hQ127 _ _ _ ?_
              refine thn_r ?_
              refine hQ123 _ _ _ ?_
              refine thn_r ?_
              refine hQ112 _ _ _ ?_
              refine inb_r ?_
              refine hQ110 _ _ _ ?_
              refine thn_r ?_
              replace hF := exL hF hK114
              refine fin1 rfl rfl ?_
              have hr := Option.some.inj hF
              exact ⟨congrArg (fun (r : Bool) => Ending.returned (.bool r)) hr, hS.below⟩
        · refine cw_cond_f rfl hb126 ?_
          refine cw_exit ?_
          refine hQ125 _ _ _ ?_
          refine thn_x ?_
          refine hQ123 _ _ _ ?_
          refine thn_x ?_
          replace hF := exA hF hK114
          refine hQ112 _ _ _ ?_
          refine inb_s ?_
          refine hQ110 _ _ _ ?_
          refine thn_n ?_
          refine cw_seq ?_
          refine cw_gen ?_
          intro Q161 hQ161
          refine cw_reg ?_
          refine el_pv (v := .bool true) (pv_assign rfl) (by decide) ?_
          refine el_nil ?_
          refine hQ161 _ _ _ ?_
          refine thn_n ?_
          refine cw_ret ?_
          refine fin1 rfl rfl ?_
          have hr := Option.some.inj hF
          exact ⟨congrArg (fun (r : Bool) => Ending.returned (.bool r)) hr, hS.below⟩
  · refine el_off rfl (bnot_f hb107) rfl (by decide) ?_
    refine el_off rfl (bnot_f hb107) rfl (by decide) ?_
    refine el_off rfl (bnot_f hb107) rfl (by decide) ?_
    refine el_pv (v := .bool true) (pv_pick_t rfl (bnot_f hb107) rfl) (by decide) ?_
    refine el_nil ?_
    refine hQ103 _ _ _ ?_
    refine thn_n ?_
    refine cw_cond_t rfl rfl ?_
    refine cw_seq ?_
    refine cw_gen ?_
    intro Q162 hQ162
    refine cw_reg ?_
    refine el_pv (v := .bool false) (pv_assign rfl) (by decide) ?_
    refine el_nil ?_
    refine hQ162 _ _ _ ?_
    refine thn_n ?_
    refine cw_ret ?_
    refine hQ102 _ _ _ ?_
    refine thn_r ?_
    refine fin1 rfl rfl ?_
    have hr := Option.some.inj hF
    exact ⟨congrArg (fun (r : Bool) => Ending.returned (.bool r)) hr, hS.below⟩
set_option maxHeartbeats 4000000 in
theorem impl_IsValidRelation_ok {w0 : World} {a0 : Int} {u1 : Value} {a1 : List (List Int)} (ha1 : (sliceR (sliceR intR 3) 26).rd w0 [u1] a1) {N : Nat} {r : Bool} (hF : impl_IsValidRelation N a0 a1 = some r) :
    Calls Try.prog 47 #[.agg #[.int .i64 a0, u1]] w0 fun e w' => e = .returned (.bool r) ∧ Ext w0 w' := by
  unfold impl_IsValidRelation at hF
  refine calls_E Try.func47 rfl rfl (of_decide_eq_true rfl) ?_
  have hS := Sat.start w0
  refine cw_seq ?_
  refine cw_gen ?_
  intro Q101 hQ101
  refine cw_reg ?_
  refine el_box [.int .i64 a0, u1] rfl hS (by decide) ?_
  intro w102 b103 hS hx104
  refine el_pv (v := .bool false) (pv_assign rfl) (by decide) ?_
  refine el_nil ?_
  refine hQ101 _ _ _ ?_
  refine thn_n ?_
  refine cw_seq ?_
  refine cw_gen ?_
  intro Q106 hQ106
  refine cw_reg ?_
  refine el_pv (v := .pointer (some ⟨b103, 0 + 0, none⟩)) (pv_fieldAddr rfl) (by decide) ?_
  refine el_pv (v := .int .i64 a0) (pv_loadc rfl ((hS.boxAt 0 rfl) 0 _ rfl)) (by decide) ?_
  refine el_pv (v := .pointer (some ⟨b103, 0 + 1, none⟩)) (pv_fieldAddr rfl) (by decide) ?_
  refine el_pv (v := u1) (pv_loadc rfl ((hS.boxAt 0 rfl) 1 _ rfl)) (by decide) ?_
  replace hF := ob hF
  obtain ⟨r107, hr107, hF⟩ := hF
  refine el_call goes94 (impl_rowsValid_ok (hS.up ha1) hr107) (congrArg List.toArray (mapc rfl (mapc rfl rfl))) (by decide) ?_
  rintro _ w108 ⟨rfl, hx109⟩
  refine ⟨_, rfl, ?_⟩
  replace hS := hS.ext hx109
  refine el_pv (v := .bool r107) (pv_assign rfl) (by decide) ?_
  refine el_nil ?_
  refine hQ106 _ _ _ ?_
  refine thn_n ?_
  refine cw_ret ?_
  refine fin1 rfl rfl ?_
  have hr := Option.some.inj hF
  exact ⟨congrArg (fun (r : Bool) => Ending.returned (.bool r)) hr, hS.below⟩
set_option maxHeartbeats 4000000 in
theorem impl_builder_add_ok {w0 : World} {w00 : World} {G0 : List Asn} {b0 : Nat} {u0 : Value} {a0 : List (List Int × List Int)} {u1 : Value} {a1 : List Int} {u2 : Value} {a2 : List Int} (hS : Sat w00 w0 (Box b0 103 [u0] :: Own (sliceR (pairR (sliceR intR 3) (sliceR intR 3)) 84) [u0] a0 :: Own (sliceR intR 3) [u1] a1 :: Own (sliceR intR 3) [u2] a2 :: G0)) {N : Nat} {r : Int × (List (List Int × List Int))} (hF : impl_builder_add N a0 a1 a2 = some r) :
    Calls Try.prog 114 #[.pointer (some ⟨b0, 0, none⟩), .agg #[u1, u2]] w0 fun e w' => ∃ (q0 : Value), e = .returned (.int .i64 r.1) ∧ Sat w00 w' (Box b0 103 [q0] :: Own (sliceR (pairR (sliceR intR 3) (sliceR intR 3)) 84) [q0] r.2 :: G0) := by
  unfold impl_builder_add at hF
  refine calls_E Try.func114 rfl rfl (of_decide_eq_true rfl) ?_
  refine cw_seq ?_
  refine cw_gen ?_
  intro Q101 hQ101
  refine cw_reg ?_
  refine el_box [u1, u2] rfl hS (by decide) ?_
  intro w102 b103 hS hx104
  refine el_pv (v := .int .i64 0) (pv_assign rfl) (by decide) ?_
  refine el_nil ?_
  refine hQ101 _ _ _ ?_
  refine thn_n ?_
  refine cw_seq ?_
  refine cw_gen ?_
  intro Q106 hQ106
  refine cw_seq ?_
  refine cw_gen ?_
  intro Q107 hQ107
  refine cw_reg ?_
  refine el_pv (v := .int .i64 1) (pv_assign rfl) (by decide) ?_
  refine el_nil ?_
  refine hQ107 _ _ _ ?_
  refine thn_n ?_
  refine cw_block ?_
  refine cw_gen ?_
  intro Q108 hQ108
  obtain ⟨s109, hL, hK110⟩ := ob hF
  refine cw_loopS (fun k e w => ∃ (x111 : Int), e 0 = .pointer (some ⟨b0, 0, none⟩) ∧ e 3 = .pointer (some ⟨b103, 0, none⟩) ∧ e 5 = .int .i64 x111 ∧ Sat w00 w (Box b103 84 [u1, u2] :: Box b0 103 [u0] :: Own (sliceR (pairR (sliceR intR 3) (sliceR intR 3)) 84) [u0] a0 :: Own (sliceR intR 3) [u1] a1 :: Own (sliceR intR 3) [u2] a2 :: G0) ∧ impl_builder_add_L1 N k a0 a1 a2 x111 = some s109) N ?_ ?_ ?_
  · exact ⟨1, rfl, rfl, rfl, hS, hL⟩
  · rintro e w ⟨_, _, _, _, _, hz⟩; exact nomatch (show none = some _ from hz)
  · rintro k e116 w115 ⟨x111, he112, he113, he114, hS, hF⟩
    refine cw_gen ?_
    intro Q117 hQ117
    refine cw_seq ?_
    refine cw_gen ?_
    intro Q118 hQ118
    refine cw_seq ?_
    refine cw_gen ?_
    intro Q119 hQ119
    refine cw_reg ?_
    refine el_pv (v := .int .i64 x111) (pv_move he114) (by decide) ?_
    refine el_pv (v := .pointer (some ⟨b0, 0, none⟩)) (pv_move he112) (by decide) ?_
    refine el_pv (v := .pointer (some ⟨b0, 0, none⟩)) (pv_nilCheck rfl) (by decide) ?_
    refine el_pv (v := .pointer (some ⟨b0, 0 + 0, none⟩)) (pv_fieldAddr rfl) (by decide) ?_
    refine el_pv (v := u0) (pv_loadc rfl ((hS.boxAt 1 rfl) 0 _ rfl)) (by decide) ?_
    refine el_pv (v := .int .i64 (a0.length : Int)) (pv_len rfl (hS.rdAt (R := (sliceR (pairR (sliceR intR 3) (sliceR intR 3)) 84)) 2 rfl)) (by decide) ?_
    refine el_pv (v := .bool (decide (x111 < (a0.length : Int)))) (pv_lss rfl rfl) (by decide) ?_
    refine el_nil ?_
    refine hQ119 _ _ _ ?_
    refine thn_n ?_
    replace hF := oif hF
    rcases hF with ⟨hb120, hF⟩ | ⟨hb120, hF⟩
    · refine cw_cond_t rfl hb120 ?_
      refine cw_skip ?_
      refine hQ118 _ _ _ ?_
      refine thn_n ?_
      refine cw_seq ?_
      refine cw_gen ?_
      intro Q121 hQ121
      refine cw_block ?_
      refine cw_gen ?_
      intro Q122 hQ122
      refine cw_seq ?_
      refine cw_gen ?_
      intro Q123 hQ123
      refine cw_regq (by kernel_rfl) (by kernel_rfl) ?_
      refine ql_pv (v := .pointer (some ⟨b0, 0, none⟩)) (pv_move he112) (by decide) ?_
      refine ql_pv (v := .pointer (some ⟨b0, 0, none⟩)) (pv_nilCheck rfl) (by decide) ?_
      refine ql_pv (v := .pointer (some ⟨b0, 0 + 0, none⟩)) (pv_fieldAddr rfl) (by decide) ?_
      refine ql_pv (v := u0) (pv_loadc rfl ((hS.boxAt 1 rfl) 0 _ rfl)) (by decide) ?_
      refine ql_pv (v := .int .i64 x111) (pv_move he114) (by decide) ?_
      replace hF := ob hF
      obtain ⟨x124, hx124, hF⟩ := hF
      refine ql_index (wA := w115) rfl (hS.rdAt (R := (sliceR (pairR (sliceR intR 3) (sliceR intR 3)) 84)) 2 rfl) rfl (by decide) rfl hx124 (by decide) ?_
      intro b125 of126 c127 hr128 hm129
      obtain ⟨_, _, rfl, hr130, hr131⟩ := hr128
      obtain ⟨v132, rfl⟩ := slice_one hr130
      obtain ⟨v133, rfl⟩ := slice_one hr131
      refine ql_pv (v := .agg #[v132, v133]) (pv_loada (cs := [v132, v133]) rfl rfl hm129) (by decide) ?_
      refine ql_pv (v := .agg #[u1, u2]) (pv_loada (cs := [u1, u2]) he113 rfl (boxc0 (hS.boxAt 0 rfl))) (by decide) ?_
      replace hF := ob hF
      obtain ⟨r134, hr134, hF⟩ := hF
      refine ql_call (.bool r134) goes65 (fun w' hw' => impl_sameNode_ok (rd_up hr130 hw') (rd_up hr131 hw') (rd_up (hS.rdAt (R := (sliceR intR 3)) 3 rfl) hw') (rd_up (hS.rdAt (R := (sliceR intR 3)) 4 rfl) hw') hr134) (congrArg List.toArray (mapc rfl (mapc rfl rfl))) (by decide) ?_
      refine ql_nil ?_
      intro w135 hx136
      replace hS := hS.ext hx136
      have hm129 := cells_up hx136 hm129
      have hr130 := rd_up hr130 hx136
      have hr131 := rd_up hr131 hx136
      refine hQ123 _ _ _ ?_
      refine thn_n ?_
      replace hF := oif hF
      rcases hF with ⟨hb137, hF⟩ | ⟨hb137, hF⟩
      · refine cw_cond_t rfl hb137 ?_
        refine cw_seq ?_
        refine cw_gen ?_
        intro Q138 hQ138
        replace hS : Sat w00 w135 (Box b0 103 [u0] :: Own (sliceR (pairR (sliceR intR 3) (sliceR intR 3)) 84) [u0] a0 :: Own (sliceR intR 3) [u1] a1 :: Own (sliceR intR 3) [u2] a2 :: G0) := hS.rems 5 [0] rfl
        refine cw_reg ?_
        refine el_pv (v := .int .i64 x111) (pv_move he114) (by decide) ?_
        refine el_pv (v := .int .i64 x111) (pv_assign rfl) (by decide) ?_
        refine el_nil ?_
        refine hQ138 _ _ _ ?_
        refine thn_n ?_
        refine cw_ret ?_
        refine hQ122 _ _ _ ?_
        refine inb_r ?_
        refine hQ121 _ _ _ ?_
        refine thn_r ?_
        refine hQ117 _ _ _ ?_
        refine thn_r ?_
        refine hQ108 _ _ _ ?_
        refine inb_r ?_
        refine hQ106 _ _ _ ?_
        refine thn_r ?_
        replace hF := exL hF hK110
        refine fin1 rfl rfl ?_
        have hr := Option.some.inj hF
        replace hS : Sat w00 w135 (Box b0 103 [u0] :: Own (sliceR (pairR (sliceR intR 3) (sliceR intR 3)) 84) [u0] a0 :: G0) := hS.rems 4 [2, 3] rfl
        exact ⟨u0, congrArg (fun (r : Int × (List (List Int × List Int))) => Ending.returned (.int .i64 r.1)) hr, Eq.mp (congrArg (fun (r : Int × (List (List Int × List Int))) => Sat w00 w135 (Box b0 103 [u0] :: Own (sliceR (pairR (sliceR intR 3) (sliceR intR 3)) 84) [u0] r.2 :: G0)) hr) hS⟩
      · refine cw_cond_f rfl hb137 ?_
        refine cw_skip ?_
        refine hQ122 _ _ _ ?_
        refine inb_n ?_
        refine hQ121 _ _ _ ?_
        refine thn_n ?_
        refine cw_reg ?_
        refine el_pv (v := .int .i64 x111) (pv_move he114) (by decide) ?_
        replace hF := ob hF
        obtain ⟨x139, hx139, hF⟩ := hF
        refine el_pv (v := .int .i64 x139) (pv_add rfl rfl hx139) (by decide) ?_
        refine el_pv (v := .int .i64 x139) (pv_assign rfl) (by decide) ?_
        refine el_nil ?_
        refine hQ117 _ _ _ ?_
        refine thn_n ?_
        exact ⟨x139, he112, he113, rfl, hS, hF⟩
    · refine cw_cond_f rfl hb120 ?_
      refine cw_exit ?_
      refine hQ118 _ _ _ ?_
      refine thn_x ?_
      refine hQ117 _ _ _ ?_
      refine thn_x ?_
      replace hF := exA hF hK110
      refine hQ108 _ _ _ ?_
      refine inb_s ?_
      refine hQ106 _ _ _ ?_
      refine thn_n ?_
      refine cw_seq ?_
      refine cw_gen ?_
      intro Q140 hQ140
      obtain ⟨C, hCd⟩ : ∃ C : World → Prop, ∀ w, C w ↔ ∃ G, Sat w00 w ([Box b103 84 [u1, u2], Box b0 103 [u0]] ++ G) := ⟨_, fun _ => Iff.rfl⟩
      refine cw_regb [0, 1, 2, 3, 4, 5, 6, 7, 8, 9] C (by kernel_rfl) ?_
      intro w141 hx142
      replace hS := hS.ext hx142
      have hC := (hCd _).2 ⟨_, hS⟩
      refine al_p (v := .pointer (some ⟨b0, 0, none⟩)) (by kernel_rfl) 0 rfl rfl (by decide) hC (by kernel_rfl) (by kernel_rfl) (sv_on rfl (fun w' hw' => by obtain ⟨_, hS⟩ := (hCd _).1 hw'; exact (pv_move he112))) ?_
      refine al_p (v := .pointer (some ⟨b0, 0, none⟩)) (by kernel_rfl) 1 rfl rfl (by decide) hC (by kernel_rfl) (by kernel_rfl) (sv_on rfl (fun w' hw' => by obtain ⟨_, hS⟩ := (hCd _).1 hw'; exact (pv_move he112))) ?_
      refine al_p (v := .pointer (some ⟨b0, 0, none⟩)) (by kernel_rfl) 2 rfl rfl (by decide) hC (by kernel_rfl) (by kernel_rfl) (sv_on rfl (fun w' hw' => by obtain ⟨_, hS⟩ := (hCd _).1 hw'; exact (pv_nilCheck rfl))) ?_
      refine al_p (v := .pointer (some ⟨b0, 0 + 0, none⟩)) (by kernel_rfl) 3 rfl rfl (by decide) hC (by kernel_rfl) (by kernel_rfl) (sv_on rfl (fun w' hw' => by obtain ⟨_, hS⟩ := (hCd _).1 hw'; exact (pv_fieldAddr rfl))) ?_
      refine al_p (v := u0) (by kernel_rfl) 4 rfl rfl (by decide) hC (by kernel_rfl) (by kernel_rfl) (sv_on rfl (fun w' hw' => by obtain ⟨_, hS⟩ := (hCd _).1 hw'; exact (pv_loadc rfl ((hS.boxAt 1 rfl) 0 _ rfl)))) ?_
      refine al_one 5 (by kernel_rfl) rfl ?_
      refine el_pv (v := .agg #[u1, u2]) (pv_loada (cs := [u1, u2]) he113 rfl (boxc0 (hS.boxAt 0 rfl))) (by decide) ?_
      refine el_nil ?_
      refine ⟨fun _ => hC, ?_⟩
      refine al_one 6 (by kernel_rfl) rfl ?_
      refine el_buildSlice1 [u1, u2] rfl (by rfl) (by decide) rfl (by decide) hS (by decide) ?_
      intro w143 b145 hS hx144
      refine el_nil ?_
      replace hS : Sat w00 w143 (Box b103 84 [u1, u2] :: Box b0 103 [u0] :: Box b145 84 [u1, u2] :: Own (sliceR (pairR (sliceR intR 3) (sliceR intR 3)) 84) [u0] a0 :: Own (sliceR intR 3) [u1] a1 :: Own (sliceR intR 3) [u2] a2 :: G0) := hS.tops 6 [1, 2] rfl
      have hC := (hCd _).2 ⟨_, hS⟩
      refine ⟨fun _ => hC, ?_⟩
      refine al_one 7 (by kernel_rfl) rfl ?_
      replace hF := ob hF
      obtain ⟨x149, hx149, hF⟩ := hF
      have hrow150 := hS.boxRow 2 rfl
      replace hS : Sat w00 w143 (Own (sliceR (pairR (sliceR intR 3) (sliceR intR 3)) 84) [u0] a0 :: Box b103 84 [u1, u2] :: Box b0 103 [u0] :: Box b145 84 [u1, u2] :: Own (sliceR intR 3) [u1] a1 :: Own (sliceR intR 3) [u2] a2 :: G0) := hS.top 3 rfl
      replace hS : Sat w00 w143 (Own (sliceR intR 3) [u2] a2 :: Own (sliceR (pairR (sliceR intR 3) (sliceR intR 3)) 84) [u0] a0 :: Box b103 84 [u1, u2] :: Box b0 103 [u0] :: Box b145 84 [u1, u2] :: Own (sliceR intR 3) [u1] a1 :: G0) := hS.top 5 rfl
      replace hS : Sat w00 w143 (Own (sliceR intR 3) [u1] a1 :: _ :: Own (sliceR (pairR (sliceR intR 3) (sliceR intR 3)) 84) [u0] a0 :: Box b103 84 [u1, u2] :: Box b0 103 [u0] :: Box b145 84 [u1, u2] :: G0) := hS.top 5 rfl
      replace hS := hS.pair
      replace hS := hS.one
      refine el_append rfl (by decide) rfl (by decide) hS rfl rfl rfl (by simp) hrow150 hx149 (by decide) ?_
      intro w147 v148 hS
      refine el_nil ?_
      replace hS : Sat w00 w147 (Box b103 84 [u1, u2] :: Box b0 103 [u0] :: Own (sliceR (pairR (sliceR intR 3) (sliceR intR 3)) 84) [v148] x149 :: Box b145 84 [u1, u2] :: G0) := hS.tops 4 [1, 2] rfl
      have hC := (hCd _).2 ⟨_, hS⟩
      refine ⟨fun _ => hC, ?_⟩
      refine al_one 8 (by kernel_rfl) rfl ?_
      refine el_pv (v := .pointer (some ⟨b0, 0, none⟩)) (pv_nilCheck rfl) (by decide) ?_
      refine el_nil ?_
      refine ⟨fun _ => hC, ?_⟩
      refine al_one 9 (by kernel_rfl) rfl ?_
      refine el_pv (v := .pointer (some ⟨b0, 0 + 0, none⟩)) (pv_fieldAddr rfl) (by decide) ?_
      refine el_nil ?_
      refine ⟨fun _ => hC, ?_⟩
      refine al_one 10 (by kernel_rfl) rfl ?_
      refine el_storev (hS.top 1 rfl) rfl [v148] (cells_of rfl (oc (hS.rdAt (R := (sliceR (pairR (sliceR intR 3) (sliceR intR 3)) 84)) 2 rfl))) rfl (of_decide_eq_true rfl) (all_cons (oc (hS.rdAt (R := (sliceR (pairR (sliceR intR 3) (sliceR intR 3)) 84)) 2 rfl)) rfl) ?_
      intro w152 hS
      replace hS : Sat w00 w152 (Box b0 103 [v148] :: Box b103 84 [u1, u2] :: Own (sliceR (pairR (sliceR intR 3) (sliceR intR 3)) 84) [v148] x149 :: Box b145 84 [u1, u2] :: G0) := hS
      refine el_nil ?_
      refine ⟨fun h => (nomatch (show false = true from h)), ?_⟩
      refine al_nil (by kernel_rfl) ?_
      refine hQ140 _ _ _ ?_
      refine thn_n ?_
      refine cw_seq ?_
      refine cw_gen ?_
      intro Q153 hQ153
      replace hS : Sat w00 w152 (Box b0 103 [v148] :: Own (sliceR (pairR (sliceR intR 3) (sliceR intR 3)) 84) [v148] x149 :: G0) := hS.rems 4 [1, 3] rfl
      refine cw_reg ?_
      refine el_pv (v := .pointer (some ⟨b0, 0, none⟩)) (pv_move he112) (by decide) ?_
      refine el_pv (v := .pointer (some ⟨b0, 0, none⟩)) (pv_nilCheck rfl) (by decide) ?_
      refine el_pv (v := .pointer (some ⟨b0, 0 + 0, none⟩)) (pv_fieldAddr rfl) (by decide) ?_
      refine el_pv (v := v148) (pv_loadc rfl ((hS.boxAt 0 rfl) 0 _ rfl)) (by decide) ?_
      refine el_pv (v := .int .i64 (x149.length : Int)) (pv_len rfl (hS.rdAt (R := (sliceR (pairR (sliceR intR 3) (sliceR intR 3)) 84)) 1 rfl)) (by decide) ?_
      replace hF := ob hF
      obtain ⟨x154, hx154, hF⟩ := hF
      refine el_pv (v := .int .i64 x154) (pv_sub rfl rfl hx154) (by decide) ?_
      refine el_pv (v := .int .i64 x154) (pv_assign rfl) (by decide) ?_
      refine el_nil ?_
      refine hQ153 _ _ _ ?_
      refine thn_n ?_
      refine cw_ret ?_
      refine fin1 rfl rfl ?_
      have hr := Option.some.inj hF
      exact ⟨v148, congrArg (fun (r : Int × (List (List Int × List Int))) => Ending.returned (.int .i64 r.1)) hr, Eq.mp (congrArg (fun (r : Int × (List (List Int × List Int))) => Sat w00 w152 (Box b0 103 [v148] :: Own (sliceR (pairR (sliceR intR 3) (sliceR intR 3)) 84) [v148] r.2 :: G0)) hr) hS⟩
set_option maxHeartbeats 4000000 in
theorem impl_builder_build_ok' (N : Nat) : ∀ {w0 : World} {w00 : World} {G0 : List Asn} {b0 : Nat} {u0 : Value} {a0 : List (List Int × List Int)} {u1 : Value} {a1 : List (List Int)} {a2 : Int} (_ : (sliceR (sliceR intR 3) 26).rd w00 [u1] a1) (_ : Sat w00 w0 (Box b0 103 [u0] :: Own (sliceR (pairR (sliceR intR 3) (sliceR intR 3)) 84) [u0] a0 :: G0)) {r : Int × (List (List Int × List Int))} (_ : impl_builder_build N a0 a1 a2 = some r),
    Calls Try.prog 95 #[.pointer (some ⟨b0, 0, none⟩), u1, .int .i64 a2] w0 fun e w' => ∃ (q0 : Value), e = .returned (.int .i64 r.1) ∧ Sat w00 w' (Box b0 103 [q0] :: Own (sliceR (pairR (sliceR intR 3) (sliceR intR 3)) 84) [q0] r.2 :: G0) := by
  induction N with
  | zero => intros; exact nomatch (show none = some _ by assumption)
  | succ N ih =>
    intro w0 w00 G0 b0 u0 a0 u1 a1 a2 ha1 hS r hF
    refine calls_E Try.func95 rfl rfl (of_decide_eq_true rfl) ?_
    refine cw_seq ?_
    refine cw_gen ?_
    intro Q101 hQ101
    refine cw_reg ?_
    refine el_pv (v := .int .i64 0) (pv_assign rfl) (by decide) ?_
    refine el_nil ?_
    refine hQ101 _ _ _ ?_
    refine thn_n ?_
    refine cw_seq ?_
    refine cw_gen ?_
    intro Q102 hQ102
    refine cw_seq ?_
    refine cw_gen ?_
    intro Q103 hQ103
    refine cw_reg ?_
    refine el_pv (v := u1) (pv_move rfl) (by decide) ?_
    refine el_pv (v := .int .i64 (a1.length : Int)) (pv_len rfl ha1) (by decide) ?_
    refine el_pv (v := .bool (decide (0 < (a1.length : Int)))) (pv_gtr rfl rfl) (by decide) ?_
    refine el_pv (v := .bool (decide (0 < (a1.length : Int)))) (pv_move rfl) (by decide) ?_
    replace hF := oif hF
    rcases hF with ⟨hb104, hF⟩ | ⟨hb104, hF⟩
    · refine el_on rfl hb104 ?_
      refine el_pv (v := .int .i64 a2) (pv_move rfl) (by decide) ?_
      refine el_on rfl hb104 ?_
      refine el_pv (v := u1) (pv_move rfl) (by decide) ?_
      refine el_on rfl hb104 ?_
      replace hF := ob hF
      obtain ⟨x105, hx105, hF⟩ := hF
      refine el_index (wA := w00) rfl ha1 rfl (by decide) rfl hx105 (by decide) ?_
      intro b106 of107 c108 hr109 hm110
      obtain ⟨v111, rfl⟩ := slice_one hr109
      refine el_on rfl hb104 ?_
      refine el_pv (v := v111) (pv_loadc rfl ((cells_up hS.below hm110) 0 _ rfl)) (by decide) ?_
      refine el_on rfl hb104 ?_
      refine el_pv (v := .int .i64 (x105.length : Int)) (pv_len rfl hr109) (by decide) ?_
      refine el_on rfl hb104 ?_
      refine el_pv (v := .bool (a2 == (x105.length : Int))) (pv_eql rfl rfl) (by decide) ?_
      refine el_pv (v := .bool (a2 == (x105.length : Int))) (pv_pick_t rfl hb104 rfl) (by decide) ?_
      refine el_nil ?_
      refine hQ103 _ _ _ ?_
      refine thn_n ?_
      replace hF := oif hF
      rcases hF with ⟨hb112, hF⟩ | ⟨hb112, hF⟩
      · refine cw_cond_t rfl hb112 ?_
        refine cw_seq ?_
        refine cw_gen ?_
        intro Q113 hQ113
        refine cw_reg ?_
        refine el_pv (v := .int .i64 0) (pv_assign rfl) (by decide) ?_
        refine el_nil ?_
        refine hQ113 _ _ _ ?_
        refine thn_n ?_
        refine cw_ret ?_
        refine hQ102 _ _ _ ?_
        refine thn_r ?_
        refine fin1 rfl rfl ?_
        have hr := Option.some.inj hF
        exact ⟨u0, congrArg (fun (r : Int × (List (List Int × List Int))) => Ending.returned (.int .i64 r.1)) hr, Eq.mp (congrArg (fun (r : Int × (List (List Int × List Int))) => Sat w00 w0 (Box b0 103 [u0] :: Own (sliceR (pairR (sliceR intR 3) (sliceR intR 3)) 84) [u0] r.2 :: G0)) hr) hS⟩
      · refine cw_cond_f rfl hb112 ?_
        refine cw_skip ?_
        refine hQ102 _ _ _ ?_
        refine thn_n ?_
        refine cw_seq ?_
        refine cw_gen ?_
        intro Q114 hQ114
        refine cw_reg ?_
        refine el_alloc hS (by decide) ?_
        intro w115 b116 hS hx117
        refine el_nil ?_
        refine hQ114 _ _ _ ?_
        refine thn_n ?_
        refine cw_seq ?_
        refine cw_gen ?_
        intro Q119 hQ119
        refine cw_seq ?_
        refine cw_gen ?_
        intro Q120 hQ120
        refine cw_reg ?_
        refine el_pv (v := .int .i64 0) (pv_assign rfl) (by decide) ?_
        refine el_nil ?_
        refine hQ120 _ _ _ ?_
        refine thn_n ?_
        refine cw_block ?_
        refine cw_gen ?_
        intro Q121 hQ121
        replace hS := hS.nil intR 3
        replace hS := hS.nil intR 3
        obtain ⟨s124, hL, hK125⟩ := ob hF
        refine cw_loopS (fun k e w => ∃ (v127 : Value), ∃ (x126 : List (List Int × List Int)), ∃ (v129 : Value), ∃ (x128 : List Int), ∃ (v131 : Value), ∃ (x130 : List Int), ∃ (x132 : Int), e 0 = .pointer (some ⟨b0, 0, none⟩) ∧ e 1 = u1 ∧ e 2 = .int .i64 a2 ∧ e 7 = .pointer (some ⟨b116, 0, none⟩) ∧ e 8 = .int .i64 x132 ∧ Sat w00 w (Own (sliceR intR 3) [v131] x130 :: Own (sliceR intR 3) [v129] x128 :: Box b116 84 [v129, v131] :: Box b0 103 [v127] :: Own (sliceR (pairR (sliceR intR 3) (sliceR intR 3)) 84) [v127] x126 :: G0) ∧ impl_builder_build_L1 (impl_builder_build N) N k x126 a1 a2 x128 x130 x132 = some s124) N ?_ ?_ ?_
        · exact ⟨u0, a0, (.slice none 0 0), [], (.slice none 0 0), [], 0, rfl, rfl, rfl, rfl, rfl, hS, hL⟩
        · rintro e w ⟨_, _, _, _, _, _, _, _, _, _, _, _, _, hz⟩; exact nomatch (show none = some _ from hz)
        · rintro k e139 w138 ⟨v127, x126, v129, x128, v131, x130, x132, he133, he134, he135, he136, he137, hS, hF⟩
          refine cw_gen ?_
          intro Q140 hQ140
          refine cw_seq ?_
          refine cw_gen ?_
          intro Q141 hQ141
          refine cw_seq ?_
          refine cw_gen ?_
          intro Q142 hQ142
          refine cw_reg ?_
          refine el_pv (v := .int .i64 x132) (pv_move he137) (by decide) ?_
          refine el_pv (v := u1) (pv_move he134) (by decide) ?_
          refine el_pv (v := .int .i64 (a1.length : Int)) (pv_len rfl ha1) (by decide) ?_
          refine el_pv (v := .bool (decide (x132 < (a1.length : Int)))) (pv_lss rfl rfl) (by decide) ?_
          refine el_nil ?_
          refine hQ142 _ _ _ ?_
          refine thn_n ?_
          replace hF := oif hF
          rcases hF with ⟨hb143, hF⟩ | ⟨hb143, hF⟩
          · refine cw_cond_t rfl hb143 ?_
            refine cw_skip ?_
            refine hQ141 _ _ _ ?_
            refine thn_n ?_
            refine cw_block ?_
            refine cw_gen ?_
            intro Q144 hQ144
            refine cw_seq ?_
            refine cw_gen ?_
            intro Q145 hQ145
            refine cw_reg ?_
            refine el_pv (v := .int .i64 x132) (pv_move he137) (by decide) ?_
            refine el_pv (v := .int .i64 x132) (pv_assign rfl) (by decide) ?_
            refine el_nil ?_
            refine hQ145 _ _ _ ?_
            refine thn_n ?_
            refine cw_seq ?_
            refine cw_gen ?_
            intro Q146 hQ146
            refine cw_block ?_
            refine cw_gen ?_
            intro Q147 hQ147
            obtain ⟨s148, hL, hK149⟩ := ob hF
            refine cw_loopS (fun k e w => ∃ (x150 : Int), e 0 = .pointer (some ⟨b0, 0, none⟩) ∧ e 1 = u1 ∧ e 2 = .int .i64 a2 ∧ e 7 = .pointer (some ⟨b116, 0, none⟩) ∧ e 8 = .int .i64 x132 ∧ e 9 = .int .i64 x150 ∧ Sat w00 w (Own (sliceR intR 3) [v131] x130 :: Own (sliceR intR 3) [v129] x128 :: Box b116 84 [v129, v131] :: Box b0 103 [v127] :: Own (sliceR (pairR (sliceR intR 3) (sliceR intR 3)) 84) [v127] x126 :: G0) ∧ impl_builder_build_L2 (impl_builder_build N) N k x126 a1 a2 x128 x130 x132 x150 = some s148) N ?_ ?_ ?_
            · exact ⟨x132, he133, he134, he135, he136, he137, rfl, hS, hL⟩
            · rintro e w ⟨_, _, _, _, _, _, _, _, hz⟩; exact nomatch (show none = some _ from hz)
            · rintro k e158 w157 ⟨x150, he151, he152, he153, he154, he155, he156, hS, hF⟩
              refine cw_gen ?_
              intro Q159 hQ159
              refine cw_seq ?_
              refine cw_gen ?_
              intro Q160 hQ160
              refine cw_seq ?_
              refine cw_gen ?_
              intro Q161 hQ161
              refine cw_regq (by kernel_rfl) (by kernel_rfl) ?_
              refine ql_pv (v := .int .i64 x150) (pv_move he156) (by decide) ?_
              refine ql_pv (v := u1) (pv_move he152) (by decide) ?_
              refine ql_pv (v := .int .i64 (a1.length : Int)) (pv_len rfl ha1) (by decide) ?_
              refine ql_pv (v := .bool (decide (x150 < (a1.length : Int)))) (pv_lss rfl rfl) (by decide) ?_
              refine ql_pv (v := .bool (decide (x150 < (a1.length : Int)))) (pv_move rfl) (by decide) ?_
              replace hF := oif hF
              rcases hF with ⟨hb162, hF⟩ | ⟨hb162, hF⟩
              · refine ql_on rfl hb162 ?_
                refine ql_pv (v := u1) (pv_move he152) (by decide) ?_
                refine ql_on rfl hb162 ?_
                refine ql_pv (v := .int .i64 x150) (pv_move he156) (by decide) ?_
                refine ql_on rfl hb162 ?_
                replace hF := ob hF
                obtain ⟨x163, hx163, hF⟩ := hF
                refine ql_index (wA := w00) rfl ha1 rfl (by decide) rfl hx163 (by decide) ?_
                intro b164 of165 c166 hr167 hm168
                obtain ⟨v169, rfl⟩ := slice_one hr167
                refine ql_on rfl hb162 ?_
                refine ql_pv (v := v169) (pv_loadc rfl ((cells_up hS.below hm168) 0 _ rfl)) (by decide) ?_
                refine ql_on rfl hb162 ?_
                refine ql_pv (v := .int .i64 a2) (pv_move he153) (by decide) ?_
                refine ql_on rfl hb162 ?_
                replace hF := ob hF
                obtain ⟨x170, hx170, hF⟩ := hF
                refine ql_index (wA := w00) rfl hr167 rfl (by decide) rfl hx170 (by decide) ?_
                intro b171 of172 c173 hr174 hm175
                obtain rfl := hr174
                refine ql_on rfl hb162 ?_
                refine ql_pv (v := .int .i64 x170) (pv_loadc rfl ((cells_up hS.below hm175) 0 _ rfl)) (by decide) ?_
                refine ql_on rfl hb162 ?_
                refine ql_pv (v := u1) (pv_move he152) (by decide) ?_
                refine ql_on rfl hb162 ?_
                refine ql_pv (v := .int .i64 x132) (pv_move he155) (by decide) ?_
                refine ql_on rfl hb162 ?_
                replace hF := ob hF
                obtain ⟨x176, hx176, hF⟩ := hF
                refine ql_index (wA := w00) rfl ha1 rfl (by decide) rfl hx176 (by decide) ?_
                intro b177 of178 c179 hr180 hm181
                obtain ⟨v182, rfl⟩ := slice_one hr180
                refine ql_on rfl hb162 ?_
                refine ql_pv (v := v182) (pv_loadc rfl ((cells_up hS.below hm181) 0 _ rfl)) (by decide) ?_
                refine ql_on rfl hb162 ?_
                refine ql_pv (v := .int .i64 a2) (pv_move he153) (by decide) ?_
                refine ql_on rfl hb162 ?_
                replace hF := ob hF
                obtain ⟨x183, hx183, hF⟩ := hF
                refine ql_index (wA := w00) rfl hr180 rfl (by decide) rfl hx183 (by decide) ?_
                intro b184 of185 c186 hr187 hm188
                obtain rfl := hr187
                refine ql_on rfl hb162 ?_
                refine ql_pv (v := .int .i64 x183) (pv_loadc rfl ((cells_up hS.below hm188) 0 _ rfl)) (by decide) ?_
                refine ql_on rfl hb162 ?_
                refine ql_pv (v := .bool (x170 == x183)) (pv_eql rfl rfl) (by decide) ?_
                refine ql_pv (v := .bool (x170 == x183)) (pv_pick_t rfl hb162 rfl) (by decide) ?_
                refine ql_nil ?_
                intro w189 hx190
                replace hS := hS.ext hx190
                refine hQ161 _ _ _ ?_
                refine thn_n ?_
                replace hF := oif hF
                rcases hF with ⟨hb191, hF⟩ | ⟨hb191, hF⟩
                · refine cw_cond_t rfl hb191 ?_
                  refine cw_skip ?_
                  refine hQ160 _ _ _ ?_
                  refine thn_n ?_
                  refine cw_block ?_
                  refine cw_gen ?_
                  intro Q192 hQ192
                  refine cw_reg ?_
                  refine el_pv (v := .int .i64 x150) (pv_move he156) (by decide) ?_
                  replace hF := ob hF
                  obtain ⟨x193, hx193, hF⟩ := hF
                  refine el_pv (v := .int .i64 x193) (pv_add rfl rfl hx193) (by decide) ?_
                  refine el_pv (v := .int .i64 x193) (pv_assign rfl) (by decide) ?_
                  refine el_nil ?_
                  refine hQ192 _ _ _ ?_
                  refine inb_n ?_
                  refine hQ159 _ _ _ ?_
                  refine thn_n ?_
                  exact ⟨x193, he151, he152, he153, he154, he155, rfl, hS, hF⟩
                · refine cw_cond_f rfl hb191 ?_
                  refine cw_exit ?_
                  refine hQ160 _ _ _ ?_
                  refine thn_x ?_
                  refine hQ159 _ _ _ ?_
                  refine thn_x ?_
                  replace hF := exB hF hK149
                  refine hQ147 _ _ _ ?_
                  refine inb_s ?_
                  refine hQ146 _ _ _ ?_
                  refine thn_n ?_
                  refine cw_seq ?_
                  refine cw_gen ?_
                  intro Q194 hQ194
                  obtain ⟨C, hCd⟩ : ∃ C : World → Prop, ∀ w, C w ↔ ∃ G, Sat w00 w ([Box b116 84 [v129, v131]] ++ G) := ⟨_, fun _ => Iff.rfl⟩
                  refine cw_regb [0, 1, 2, 3, 4, 5, 6, 7, 8, 9, 10, 11] C (by kernel_rfl) ?_
                  intro w195 hx196
                  replace hS := hS.ext hx196
                  replace hS : Sat w00 w195 (Box b116 84 [v129, v131] :: Own (sliceR intR 3) [v131] x130 :: Own (sliceR intR 3) [v129] x128 :: Box b0 103 [v127] :: Own (sliceR (pairR (sliceR intR 3) (sliceR intR 3)) 84) [v127] x126 :: G0) := hS.tops 5 [2] rfl
                  have hC := (hCd _).2 ⟨_, hS⟩
                  refine al_p (v := .pointer (some ⟨b116, 0 + 0, none⟩)) (by kernel_rfl) 0 rfl rfl (by decide) hC (by kernel_rfl) (by kernel_rfl) (sv_on rfl (fun w' hw' => by obtain ⟨_, hS⟩ := (hCd _).1 hw'; exact (pv_fieldAddr he154))) ?_
                  refine al_p (v := v129) (by kernel_rfl) 1 rfl rfl (by decide) hC (by kernel_rfl) (by kernel_rfl) (sv_on rfl (fun w' hw' => by obtain ⟨_, hS⟩ := (hCd _).1 hw'; exact (pv_loadc rfl ((hS.boxAt 0 rfl) 0 _ rfl)))) ?_
                  refine al_p (v := u1) (by kernel_rfl) 2 rfl rfl (by decide) hC (by kernel_rfl) (by kernel_rfl) (sv_on rfl (fun w' hw' => by obtain ⟨_, hS⟩ := (hCd _).1 hw'; exact (pv_move he152))) ?_
                  refine al_p (v := .int .i64 x132) (by kernel_rfl) 3 rfl rfl (by decide) hC (by kernel_rfl) (by kernel_rfl) (sv_on rfl (fun w' hw' => by obtain ⟨_, hS⟩ := (hCd _).1 hw'; exact (pv_move he155))) ?_
                  replace hF := ob hF
                  obtain ⟨x197, hx197, hF⟩ := hF
                  refine al_index (wA := w00) (by kernel_rfl) 4 rfl hC (by kernel_rfl) (by kernel_rfl) rfl ha1 rfl (by decide) rfl hx197 (by decide) ?_
                  intro b198 of199 c200 hr201 hm202
                  obtain ⟨v203, rfl⟩ := slice_one hr201
                  refine al_p (v := v203) (by kernel_rfl) 5 rfl rfl (by decide) hC (by kernel_rfl) (by kernel_rfl) (sv_on rfl (fun w' hw' => by obtain ⟨_, hS⟩ := (hCd _).1 hw'; exact (pv_loadc rfl ((cells_up hS.below hm202) 0 _ rfl)))) ?_
                  refine al_one 6 (by kernel_rfl) rfl ?_
                  refine el_pv (v := .int .i64 a2) (pv_move he153) (by decide) ?_
                  refine el_nil ?_
                  refine ⟨fun _ => hC, ?_⟩
                  refine al_one 7 (by kernel_rfl) rfl ?_
                  replace hF := ob hF
                  obtain ⟨x204, hx204, hF⟩ := hF
                  refine el_index (wA := w00) rfl hr201 rfl (by decide) rfl hx204 (by decide) ?_
                  intro b205 of206 c207 hr208 hm209
                  obtain rfl := hr208
                  refine el_nil ?_
                  refine ⟨fun _ => hC, ?_⟩
                  refine al_one 8 (by kernel_rfl) rfl ?_
                  refine el_pv (v := .int .i64 x204) (pv_loadc rfl ((cells_up hS.below hm209) 0 _ rfl)) (by decide) ?_
                  refine el_nil ?_
                  refine ⟨fun _ => hC, ?_⟩
                  refine al_one 9 (by kernel_rfl) rfl ?_
                  refine el_buildSlice1 [.int .i64 x204] rfl (by rfl) (by decide) rfl (by decide) hS (by decide) ?_
                  intro w210 b212 hS hx211
                  refine el_nil ?_
                  replace hS : Sat w00 w210 (Box b116 84 [v129, v131] :: Box b212 3 [.int .i64 x204] :: Own (sliceR intR 3) [v131] x130 :: Own (sliceR intR 3) [v129] x128 :: Box b0 103 [v127] :: Own (sliceR (pairR (sliceR intR 3) (sliceR intR 3)) 84) [v127] x126 :: G0) := hS.tops 6 [1] rfl
                  have hC := (hCd _).2 ⟨_, hS⟩
                  refine ⟨fun _ => hC, ?_⟩
                  refine al_one 10 (by kernel_rfl) rfl ?_
                  replace hF := ob hF
                  obtain ⟨x216, hx216, hF⟩ := hF
                  have hrow217 := hS.boxRow 1 rfl
                  replace hS : Sat w00 w210 (Own (sliceR intR 3) [v129] x128 :: Box b116 84 [v129, v131] :: Box b212 3 [.int .i64 x204] :: Own (sliceR intR 3) [v131] x130 :: Box b0 103 [v127] :: Own (sliceR (pairR (sliceR intR 3) (sliceR intR 3)) 84) [v127] x126 :: G0) := hS.top 3 rfl
                  replace hS := hS.int x204
                  replace hS := hS.one
                  refine el_append rfl (by decide) rfl (by decide) hS rfl rfl rfl (by simp) hrow217 hx216 (by decide) ?_
                  intro w214 v215 hS
                  refine el_nil ?_
                  replace hS : Sat w00 w214 (Box b116 84 [v129, v131] :: Own (sliceR intR 3) [v215] x216 :: Box b212 3 [.int .i64 x204] :: Own (sliceR intR 3) [v131] x130 :: Box b0 103 [v127] :: Own (sliceR (pairR (sliceR intR 3) (sliceR intR 3)) 84) [v127] x126 :: G0) := hS.tops 6 [1] rfl
                  have hC := (hCd _).2 ⟨_, hS⟩
                  refine ⟨fun _ => hC, ?_⟩
                  refine al_one 11 (by kernel_rfl) rfl ?_
                  refine el_pv (v := .pointer (some ⟨b116, 0 + 0, none⟩)) (pv_fieldAddr he154) (by decide) ?_
                  refine el_nil ?_
                  refine ⟨fun _ => hC, ?_⟩
                  refine al_one 12 (by kernel_rfl) rfl ?_
                  refine el_storev (hS.top 0 rfl) rfl [v215] (cells_of rfl (oc (hS.rdAt (R := (sliceR intR 3)) 1 rfl))) rfl (of_decide_eq_true rfl) (all_cons (oc (hS.rdAt (R := (sliceR intR 3)) 1 rfl)) rfl) ?_
                  intro w219 hS
                  replace hS : Sat w00 w219 (Box b116 84 [v215, v131] :: Own (sliceR intR 3) [v215] x216 :: Box b212 3 [.int .i64 x204] :: Own (sliceR intR 3) [v131] x130 :: Box b0 103 [v127] :: Own (sliceR (pairR (sliceR intR 3) (sliceR intR 3)) 84) [v127] x126 :: G0) := hS
                  refine el_nil ?_
                  refine ⟨fun h => (nomatch (show false = true from h)), ?_⟩
                  refine al_nil (by kernel_rfl) ?_
                  refine hQ194 _ _ _ ?_
                  refine thn_n ?_
                  refine cw_seq ?_
                  refine cw_gen ?_
                  intro Q220 hQ220
                  replace hS : Sat w00 w219 (Box b116 84 [v215, v131] :: Own (sliceR intR 3) [v215] x216 :: Own (sliceR intR 3) [v131] x130 :: Box b0 103 [v127] :: Own (sliceR (pairR (sliceR intR 3) (sliceR intR 3)) 84) [v127] x126 :: G0) := hS.rems 6 [2] rfl
                  obtain ⟨C, hCd⟩ : ∃ C : World → Prop, ∀ w, C w ↔ ∃ G, Sat w00 w ([Box b116 84 [v215, v131]] ++ G) := ⟨_, fun _ => Iff.rfl⟩
                  refine cw_regb [0, 1, 2, 3, 4, 5, 6, 7, 8, 9, 10, 11, 12] C (by kernel_rfl) ?_
                  intro w221 hx222
                  replace hS := hS.ext hx222
                  have hC := (hCd _).2 ⟨_, hS⟩
                  refine al_p (v := .pointer (some ⟨b116, 0 + 1, none⟩)) (by kernel_rfl) 0 rfl rfl (by decide) hC (by kernel_rfl) (by kernel_rfl) (sv_on rfl (fun w' hw' => by obtain ⟨_, hS⟩ := (hCd _).1 hw'; exact (pv_fieldAddr he154))) ?_
                  refine al_p (v := v131) (by kernel_rfl) 1 rfl rfl (by decide) hC (by kernel_rfl) (by kernel_rfl) (sv_on rfl (fun w' hw' => by obtain ⟨_, hS⟩ := (hCd _).1 hw'; exact (pv_loadc rfl ((hS.boxAt 0 rfl) 1 _ rfl)))) ?_
                  refine al_p (v := .pointer (some ⟨b0, 0, none⟩)) (by kernel_rfl) 2 rfl rfl (by decide) hC (by kernel_rfl) (by kernel_rfl) (sv_on rfl (fun w' hw' => by obtain ⟨_, hS⟩ := (hCd _).1 hw'; exact (pv_move he151))) ?_
                  refine al_p (v := u1) (by kernel_rfl) 3 rfl rfl (by decide) hC (by kernel_rfl) (by kernel_rfl) (sv_on rfl (fun w' hw' => by obtain ⟨_, hS⟩ := (hCd _).1 hw'; exact (pv_move he152))) ?_
                  refine al_p (v := .int .i64 x132) (by kernel_rfl) 4 rfl rfl (by decide) hC (by kernel_rfl) (by kernel_rfl) (sv_on rfl (fun w' hw' => by obtain ⟨_, hS⟩ := (hCd _).1 hw'; exact (pv_move he155))) ?_
                  refine al_p (v := .int .i64 x150) (by kernel_rfl) 5 rfl rfl (by decide) hC (by kernel_rfl) (by kernel_rfl) (sv_on rfl (fun w' hw' => by obtain ⟨_, hS⟩ := (hCd _).1 hw'; exact (pv_move he156))) ?_
                  replace hF := ob hF
                  obtain ⟨x223, hx223, hF⟩ := hF
                  refine al_slice (wA := w00) (by kernel_rfl) 6 rfl hC (by kernel_rfl) (by kernel_rfl) rfl rfl ha1 (.inl (congrArg some rfl)) (.inl (congrArg some rfl)) hx223 (by decide) ?_
                  intro v224 hr225
                  refine al_one 7 (by kernel_rfl) rfl ?_
                  refine el_pv (v := .int .i64 a2) (pv_move he153) (by decide) ?_
                  refine el_nil ?_
                  refine ⟨fun _ => hC, ?_⟩
                  refine al_one 8 (by kernel_rfl) rfl ?_
                  replace hF := ob hF
                  obtain ⟨x226, hx226, hF⟩ := hF
                  refine el_pv (v := .int .i64 x226) (pv_add rfl rfl hx226) (by decide) ?_
                  refine el_nil ?_
                  refine ⟨fun _ => hC, ?_⟩
                  refine al_one 9 (by kernel_rfl) rfl ?_
                  replace hS : Sat w00 w221 (Box b0 103 [v127] :: Own (sliceR (pairR (sliceR intR 3) (sliceR intR 3)) 84) [v127] x126 :: Box b116 84 [v215, v131] :: Own (sliceR intR 3) [v215] x216 :: Own (sliceR intR 3) [v131] x130 :: G0) := hS.tops 5 [3, 4] rfl
                  replace hF := ob hF
                  obtain ⟨r227, hr227, hF⟩ := hF
                  refine el_call goes95 (ih hr225 hS hr227) (congrArg List.toArray (mapc rfl (mapc rfl (mapc rfl rfl)))) (by decide) ?_
                  rintro _ w228 ⟨v229, rfl, hS⟩
                  refine ⟨_, rfl, ?_⟩
                  replace hS : Sat w00 w228 (Box b0 103 [v229] :: Own (sliceR (pairR (sliceR intR 3) (sliceR intR 3)) 84) [v229] r227.2 :: Box b116 84 [v215, v131] :: Own (sliceR intR 3) [v215] x216 :: Own (sliceR intR 3) [v131] x130 :: G0) := hS
                  refine el_nil ?_
                  replace hS : Sat w00 w228 (Box b116 84 [v215, v131] :: Box b0 103 [v229] :: Own (sliceR (pairR (sliceR intR 3) (sliceR intR 3)) 84) [v229] r227.2 :: Own (sliceR intR 3) [v215] x216 :: Own (sliceR intR 3) [v131] x130 :: G0) := hS.tops 5 [2] rfl
                  have hC := (hCd _).2 ⟨_, hS⟩
                  refine ⟨fun _ => hC, ?_⟩
                  refine al_one 10 (by kernel_rfl) rfl ?_
                  refine el_buildSlice1 [.int .i64 r227.1] rfl (by rfl) (by decide) rfl (by decide) hS (by decide) ?_
                  intro w230 b232 hS hx231
                  refine el_nil ?_
                  replace hS : Sat w00 w230 (Box b116 84 [v215, v131] :: Box b232 3 [.int .i64 r227.1] :: Box b0 103 [v229] :: Own (sliceR (pairR (sliceR intR 3) (sliceR intR 3)) 84) [v229] r227.2 :: Own (sliceR intR 3) [v215] x216 :: Own (sliceR intR 3) [v131] x130 :: G0) := hS.tops 6 [1] rfl
                  have hC := (hCd _).2 ⟨_, hS⟩
                  refine ⟨fun _ => hC, ?_⟩
                  refine al_one 11 (by kernel_rfl) rfl ?_
                  replace hF := ob hF
                  obtain ⟨x236, hx236, hF⟩ := hF
                  have hrow237 := hS.boxRow 1 rfl
                  replace hS : Sat w00 w230 (Own (sliceR intR 3) [v131] x130 :: Box b116 84 [v215, v131] :: Box b232 3 [.int .i64 r227.1] :: Box b0 103 [v229] :: Own (sliceR (pairR (sliceR intR 3) (sliceR intR 3)) 84) [v229] r227.2 :: Own (sliceR intR 3) [v215] x216 :: G0) := hS.top 5 rfl
                  replace hS := hS.int r227.1
                  replace hS := hS.one
                  refine el_append rfl (by decide) rfl (by decide) hS rfl rfl rfl (by simp) hrow237 hx236 (by decide) ?_
                  intro w234 v235 hS
                  refine el_nil ?_
                  replace hS : Sat w00 w234 (Box b116 84 [v215, v131] :: Own (sliceR intR 3) [v235] x236 :: Box b232 3 [.int .i64 r227.1] :: Box b0 103 [v229] :: Own (sliceR (pairR (sliceR intR 3) (sliceR intR 3)) 84) [v229] r227.2 :: Own (sliceR intR 3) [v215] x216 :: G0) := hS.tops 6 [1] rfl
                  have hC := (hCd _).2 ⟨_, hS⟩
                  refine ⟨fun _ => hC, ?_⟩
                  refine al_one 12 (by kernel_rfl) rfl ?_
                  refine el_pv (v := .pointer (some ⟨b116, 0 + 1, none⟩)) (pv_fieldAddr he154) (by decide) ?_
                  refine el_nil ?_
                  refine ⟨fun _ => hC, ?_⟩
                  refine al_one 13 (by kernel_rfl) rfl ?_
                  refine el_storev (hS.top 0 rfl) rfl [v235] (cells_of rfl (oc (hS.rdAt (R := (sliceR intR 3)) 1 rfl))) rfl (of_decide_eq_true rfl) (all_cons (oc (hS.rdAt (R := (sliceR intR 3)) 1 rfl)) rfl) ?_
                  intro w239 hS
                  replace hS : Sat w00 w239 (Box b116 84 [v215, v235] :: Own (sliceR intR 3) [v235] x236 :: Box b232 3 [.int .i64 r227.1] :: Box b0 103 [v229] :: Own (sliceR (pairR (sliceR intR 3) (sliceR intR 3)) 84) [v229] r227.2 :: Own (sliceR intR 3) [v215] x216 :: G0) := hS
                  refine el_nil ?_
                  refine ⟨fun h => (nomatch (show false = true from h)), ?_⟩
                  refine al_nil (by kernel_rfl) ?_
                  refine hQ220 _ _ _ ?_
                  refine thn_n ?_
                  replace hS : Sat w00 w239 (Box b116 84 [v215, v235] :: Own (sliceR intR 3) [v235] x236 :: Box b0 103 [v229] :: Own (sliceR (pairR (sliceR intR 3) (sliceR intR 3)) 84) [v229] r227.2 :: Own (sliceR intR 3) [v215] x216 :: G0) := hS.rems 6 [2] rfl
                  refine cw_reg ?_
                  refine el_pv (v := .int .i64 x150) (pv_move he156) (by decide) ?_
                  refine el_pv (v := .int .i64 x150) (pv_assign rfl) (by decide) ?_
                  refine el_nil ?_
                  refine hQ144 _ _ _ ?_
                  refine inb_n ?_
                  refine hQ140 _ _ _ ?_
                  refine thn_n ?_
                  replace hS : Sat w00 w239 (Own (sliceR intR 3) [v235] x236 :: Own (sliceR intR 3) [v215] x216 :: Box b116 84 [v215, v235] :: Box b0 103 [v229] :: Own (sliceR (pairR (sliceR intR 3) (sliceR intR 3)) 84) [v229] r227.2 :: G0) := hS.tops 5 [1, 4, 0, 2, 3] rfl
                  exact ⟨v229, r227.2, v215, x216, v235, x236, x150, he151, he152, he153, he154, rfl, hS, hF⟩
              · refine ql_off rfl hb162 rfl (by decide) ?_
                refine ql_off rfl hb162 rfl (by decide) ?_
                refine ql_off rfl hb162 rfl (by decide) ?_
                refine ql_off rfl hb162 rfl (by decide) ?_
                refine ql_off rfl hb162 rfl (by decide) ?_
                refine ql_off rfl hb162 rfl (by decide) ?_
                refine ql_off rfl hb162 rfl (by decide) ?_
                refine ql_off rfl hb162 rfl (by decide) ?_
                refine ql_off rfl hb162 rfl (by decide) ?_
                refine ql_off rfl hb162 rfl (by decide) ?_
                refine ql_off rfl hb162 rfl (by decide) ?_
                refine ql_off rfl hb162 rfl (by decide) ?_
                refine ql_off rfl hb162 rfl (by decide) ?_
                refine ql_off rfl hb162 rfl (by decide) ?_
                refine ql_off rfl hb162 rfl (by decide) ?_
                refine ql_pv (v := .bool false) (pv_pick_f rfl hb162 rfl) (by decide) ?_
                refine ql_nil ?_
                intro w240 hx241
                replace hS := hS.ext hx241
                refine hQ161 _ _ _ ?_
                refine thn_n ?_
                refine cw_cond_f rfl rfl ?_
                refine cw_exit ?_
                refine hQ160 _ _ _ ?_
                refine thn_x ?_
                refine hQ159 _ _ _ ?_
                refine thn_x ?_
                replace hF := exB hF hK149
                refine hQ147 _ _ _ ?_
                refine inb_s ?_
                refine hQ146 _ _ _ ?_
                refine thn_n ?_
                refine cw_seq ?_
                refine cw_gen ?_
                intro Q242 hQ242
                obtain ⟨C, hCd⟩ : ∃ C : World → Prop, ∀ w, C w ↔ ∃ G, Sat w00 w ([Box b116 84 [v129, v131]] ++ G) := ⟨_, fun _ => Iff.rfl⟩
                refine cw_regb [0, 1, 2, 3, 4, 5, 6, 7, 8, 9, 10, 11] C (by kernel_rfl) ?_
                intro w243 hx244
                replace hS := hS.ext hx244
                replace hS : Sat w00 w243 (Box b116 84 [v129, v131] :: Own (sliceR intR 3) [v131] x130 :: Own (sliceR intR 3) [v129] x128 :: Box b0 103 [v127] :: Own (sliceR (pairR (sliceR intR 3) (sliceR intR 3)) 84) [v127] x126 :: G0) := hS.tops 5 [2] rfl
                have hC := (hCd _).2 ⟨_, hS⟩
                refine al_p (v := .pointer (some ⟨b116, 0 + 0, none⟩)) (by kernel_rfl) 0 rfl rfl (by decide) hC (by kernel_rfl) (by kernel_rfl) (sv_on rfl (fun w' hw' => by obtain ⟨_, hS⟩ := (hCd _).1 hw'; exact (pv_fieldAddr he154))) ?_
                refine al_p (v := v129) (by kernel_rfl) 1 rfl rfl (by decide) hC (by kernel_rfl) (by kernel_rfl) (sv_on rfl (fun w' hw' => by obtain ⟨_, hS⟩ := (hCd _).1 hw'; exact (pv_loadc rfl ((hS.boxAt 0 rfl) 0 _ rfl)))) ?_
                refine al_p (v := u1) (by kernel_rfl) 2 rfl rfl (by decide) hC (by kernel_rfl) (by kernel_rfl) (sv_on rfl (fun w' hw' => by obtain ⟨_, hS⟩ := (hCd _).1 hw'; exact (pv_move he152))) ?_
                refine al_p (v := .int .i64 x132) (by kernel_rfl) 3 rfl rfl (by decide) hC (by kernel_rfl) (by kernel_rfl) (sv_on rfl (fun w' hw' => by obtain ⟨_, hS⟩ := (hCd _).1 hw'; exact (pv_move he155))) ?_
                replace hF := ob hF
                obtain ⟨x245, hx245, hF⟩ := hF
                refine al_index (wA := w00) (by kernel_rfl) 4 rfl hC (by kernel_rfl) (by kernel_rfl) rfl ha1 rfl (by decide) rfl hx245 (by decide) ?_
                intro b246 of247 c248 hr249 hm250
                obtain ⟨v251, rfl⟩ := slice_one hr249
                refine al_p (v := v251) (by kernel_rfl) 5 rfl rfl (by decide) hC (by kernel_rfl) (by kernel_rfl) (sv_on rfl (fun w' hw' => by obtain ⟨_, hS⟩ := (hCd _).1 hw'; exact (pv_loadc rfl ((cells_up hS.below hm250) 0 _ rfl)))) ?_
                refine al_one 6 (by kernel_rfl) rfl ?_
                refine el_pv (v := .int .i64 a2) (pv_move he153) (by decide) ?_
                refine el_nil ?_
                refine ⟨fun _ => hC, ?_⟩
                refine al_one 7 (by kernel_rfl) rfl ?_
                replace hF := ob hF
                obtain ⟨x252, hx252, hF⟩ := hF
                refine el_index (wA := w00) rfl hr249 rfl (by decide) rfl hx252 (by decide) ?_
                intro b253 of254 c255 hr256 hm257
                obtain rfl := hr256
                refine el_nil ?_
                refine ⟨fun _ => hC, ?_⟩
                refine al_one 8 (by kernel_rfl) rfl ?_
                refine el_pv (v := .int .i64 x252) (pv_loadc rfl ((cells_up hS.below hm257) 0 _ rfl)) (by decide) ?_
                refine el_nil ?_
                refine ⟨fun _ => hC, ?_⟩
                refine al_one 9 (by kernel_rfl) rfl ?_
                refine el_buildSlice1 [.int .i64 x252] rfl (by rfl) (by decide) rfl (by decide) hS (by decide) ?_
                intro w258 b260 hS hx259
                refine el_nil ?_
                replace hS : Sat w00 w258 (Box b116 84 [v129, v131] :: Box b260 3 [.int .i64 x252] :: Own (sliceR intR 3) [v131] x130 :: Own (sliceR intR 3) [v129] x128 :: Box b0 103 [v127] :: Own (sliceR (pairR (sliceR intR 3) (sliceR intR 3)) 84) [v127] x126 :: G0) := hS.tops 6 [1] rfl
                have hC := (hCd _).2 ⟨_, hS⟩
                refine ⟨fun _ => hC, ?_⟩
                refine al_one 10 (by kernel_rfl) rfl ?_
                replace hF := ob hF
                obtain ⟨x264, hx264, hF⟩ := hF
                have hrow265 := hS.boxRow 1 rfl
                replace hS : Sat w00 w258 (Own (sliceR intR 3) [v129] x128 :: Box b116 84 [v129, v131] :: Box b260 3 [.int .i64 x252] :: Own (sliceR intR 3) [v131] x130 :: Box b0 103 [v127] :: Own (sliceR (pairR (sliceR intR 3) (sliceR intR 3)) 84) [v127] x126 :: G0) := hS.top 3 rfl
                replace hS := hS.int x252
                replace hS := hS.one
                refine el_append rfl (by decide) rfl (by decide) hS rfl rfl rfl (by simp) hrow265 hx264 (by decide) ?_
                intro w262 v263 hS
                refine el_nil ?_
                replace hS : Sat w00 w262 (Box b116 84 [v129, v131] :: Own (sliceR intR 3) [v263] x264 :: Box b260 3 [.int .i64 x252] :: Own (sliceR intR 3) [v131] x130 :: Box b0 103 [v127] :: Own (sliceR (pairR (sliceR intR 3) (sliceR intR 3)) 84) [v127] x126 :: G0) := hS.tops 6 [1] rfl
                have hC := (hCd _).2 ⟨_, hS⟩
                refine ⟨fun _ => hC, ?_⟩
                refine al_one 11 (by kernel_rfl) rfl ?_
                refine el_pv (v := .pointer (some ⟨b116, 0 + 0, none⟩)) (pv_fieldAddr he154) (by decide) ?_
                refine el_nil ?_
                refine ⟨fun _ => hC, ?_⟩
                refine al_one 12 (by kernel_rfl) rfl ?_
                refine el_storev (hS.top 0 rfl) rfl [v263] (cells_of rfl (oc (hS.rdAt (R := (sliceR intR 3)) 1 rfl))) rfl (of_decide_eq_true rfl) (all_cons (oc (hS.rdAt (R := (sliceR intR 3)) 1 rfl)) rfl) ?_
                intro w267 hS
                replace hS : Sat w00 w267 (Box b116 84 [v263, v131] :: Own (sliceR intR 3) [v263] x264 :: Box b260 3 [.int .i64 x252] :: Own (sliceR intR 3) [v131] x130 :: Box b0 103 [v127] :: Own (sliceR (pairR (sliceR intR 3) (sliceR intR 3)) 84) [v127] x126 :: G0) := hS
                refine el_nil ?_
                refine ⟨fun h => (nomatch (show false = true from h)), ?_⟩
                refine al_nil (by kernel_rfl) ?_
                refine hQ242 _ _ _ ?_
                refine thn_n ?_
                refine cw_seq ?_
                refine cw_gen ?_
                intro Q268 hQ268
                replace hS : Sat w00 w267 (Box b116 84 [v263, v131] :: Own (sliceR intR 3) [v263] x264 :: Own (sliceR intR 3) [v131] x130 :: Box b0 103 [v127] :: Own (sliceR (pairR (sliceR intR 3) (sliceR intR 3)) 84) [v127] x126 :: G0) := hS.rems 6 [2] rfl
                obtain ⟨C, hCd⟩ : ∃ C : World → Prop, ∀ w, C w ↔ ∃ G, Sat w00 w ([Box b116 84 [v263, v131]] ++ G) := ⟨_, fun _ => Iff.rfl⟩
                refine cw_regb [0, 1, 2, 3, 4, 5, 6, 7, 8, 9, 10, 11, 12] C (by kernel_rfl) ?_
                intro w269 hx270
                replace hS := hS.ext hx270
                have hC := (hCd _).2 ⟨_, hS⟩
                refine al_p (v := .pointer (some ⟨b116, 0 + 1, none⟩)) (by kernel_rfl) 0 rfl rfl (by decide) hC (by kernel_rfl) (by kernel_rfl) (sv_on rfl (fun w' hw' => by obtain ⟨_, hS⟩ := (hCd _).1 hw'; exact (pv_fieldAddr he154))) ?_
                refine al_p (v := v131) (by kernel_rfl) 1 rfl rfl (by decide) hC (by kernel_rfl) (by kernel_rfl) (sv_on rfl (fun w' hw' => by obtain ⟨_, hS⟩ := (hCd _).1 hw'; exact (pv_loadc rfl ((hS.boxAt 0 rfl) 1 _ rfl)))) ?_
                refine al_p (v := .pointer (some ⟨b0, 0, none⟩)) (by kernel_rfl) 2 rfl rfl (by decide) hC (by kernel_rfl) (by kernel_rfl) (sv_on rfl (fun w' hw' => by obtain ⟨_, hS⟩ := (hCd _).1 hw'; exact (pv_move he151))) ?_
                refine al_p (v := u1) (by kernel_rfl) 3 rfl rfl (by decide) hC (by kernel_rfl) (by kernel_rfl) (sv_on rfl (fun w' hw' => by obtain ⟨_, hS⟩ := (hCd _).1 hw'; exact (pv_move he152))) ?_
                refine al_p (v := .int .i64 x132) (by kernel_rfl) 4 rfl rfl (by decide) hC (by kernel_rfl) (by kernel_rfl) (sv_on rfl (fun w' hw' => by obtain ⟨_, hS⟩ := (hCd _).1 hw'; exact (pv_move he155))) ?_
                refine al_p (v := .int .i64 x150) (by kernel_rfl) 5 rfl rfl (by decide) hC (by kernel_rfl) (by kernel_rfl) (sv_on rfl (fun w' hw' => by obtain ⟨_, hS⟩ := (hCd _).1 hw'; exact (pv_move he156))) ?_
                replace hF := ob hF
                obtain ⟨x271, hx271, hF⟩ := hF
                refine al_slice (wA := w00) (by kernel_rfl) 6 rfl hC (by kernel_rfl) (by kernel_rfl) rfl rfl ha1 (.inl (congrArg some rfl)) (.inl (congrArg some rfl)) hx271 (by decide) ?_
                intro v272 hr273
                refine al_one 7 (by kernel_rfl) rfl ?_
                refine el_pv (v := .int .i64 a2) (pv_move he153) (by decide) ?_
                refine el_nil ?_
                refine ⟨fun _ => hC, ?_⟩
                refine al_one 8 (by kernel_rfl) rfl ?_
                replace hF := ob hF
                obtain ⟨x274, hx274, hF⟩ := hF
                refine el_pv (v := .int .i64 x274) (pv_add rfl rfl hx274) (by decide) ?_
                refine el_nil ?_
                refine ⟨fun _ => hC, ?_⟩
                refine al_one 9 (by kernel_rfl) rfl ?_
                replace hS : Sat w00 w269 (Box b0 103 [v127] :: Own (sliceR (pairR (sliceR intR 3) (sliceR intR 3)) 84) [v127] x126 :: Box b116 84 [v263, v131] :: Own (sliceR intR 3) [v263] x264 :: Own (sliceR intR 3) [v131] x130 :: G0) := hS.tops 5 [3, 4] rfl
                replace hF := ob hF
                obtain ⟨r275, hr275, hF⟩ := hF
                refine el_call goes95 (ih hr273 hS hr275) (congrArg List.toArray (mapc rfl (mapc rfl (mapc rfl rfl)))) (by decide) ?_
                rintro _ w276 ⟨v277, rfl, hS⟩
                refine ⟨_, rfl, ?_⟩
                replace hS : Sat w00 w276 (Box b0 103 [v277] :: Own (sliceR (pairR (sliceR intR 3) (sliceR intR 3)) 84) [v277] r275.2 :: Box b116 84 [v263, v131] :: Own (sliceR intR 3) [v263] x264 :: Own (sliceR intR 3) [v131] x130 :: G0) := hS
                refine el_nil ?_
                replace hS : Sat w00 w276 (Box b116 84 [v263, v131] :: Box b0 103 [v277] :: Own (sliceR (pairR (sliceR intR 3) (sliceR intR 3)) 84) [v277] r275.2 :: Own (sliceR intR 3) [v263] x264 :: Own (sliceR intR 3) [v131] x130 :: G0) := hS.tops 5 [2] rfl
                have hC := (hCd _).2 ⟨_, hS⟩
                refine ⟨fun _ => hC, ?_⟩
                refine al_one 10 (by kernel_rfl) rfl ?_
                refine el_buildSlice1 [.int .i64 r275.1] rfl (by rfl) (by decide) rfl (by decide) hS (by decide) ?_
                intro w278 b280 hS hx279
                refine el_nil ?_
                replace hS : Sat w00 w278 (Box b116 84 [v263, v131] :: Box b280 3 [.int .i64 r275.1] :: Box b0 103 [v277] :: Own (sliceR (pairR (sliceR intR 3) (sliceR intR 3)) 84) [v277] r275.2 :: Own (sliceR intR 3) [v263] x264 :: Own (sliceR intR 3) [v131] x130 :: G0) := hS.tops 6 [1] rfl
                have hC := (hCd _).2 ⟨_, hS⟩
                refine ⟨fun _ => hC, ?_⟩
                refine al_one 11 (by kernel_rfl) rfl ?_
                replace hF := ob hF
                obtain ⟨x284, hx284, hF⟩ := hF
                have hrow285 := hS.boxRow 1 rfl
                replace hS : Sat w00 w278 (Own (sliceR intR 3) [v131] x130 :: Box b116 84 [v263, v131] :: Box b280 3 [.int .i64 r275.1] :: Box b0 103 [v277] :: Own (sliceR (pairR (sliceR intR 3) (sliceR intR 3)) 84) [v277] r275.2 :: Own (sliceR intR 3) [v263] x264 :: G0) := hS.top 5 rfl
                replace hS := hS.int r275.1
                replace hS := hS.one
                refine el_append rfl (by decide) rfl (by decide) hS rfl rfl rfl (by simp) hrow285 hx284 (by decide) ?_
                intro w282 v283 hS
                refine el_nil ?_
                replace hS : Sat w00 w282 (Box b116 84 [v263, v131] :: Own (sliceR intR 3) [v283] x284 :: Box b280 3 [.int .i64 r275.1] :: Box b0 103 [v277] :: Own (sliceR (pairR (sliceR intR 3) (sliceR intR 3)) 84) [v277] r275.2 :: Own (sliceR intR 3) [v263] x264 :: G0) := hS.tops 6 [1] rfl
                have hC := (hCd _).2 ⟨_, hS⟩
                refine ⟨fun _ => hC, ?_⟩
                refine al_one 12 (by kernel_rfl) rfl ?_
                refine el_pv (v := .pointer (some ⟨b116, 0 + 1, none⟩)) (pv_fieldAddr he154) (by decide) ?_
                refine el_nil ?_
                refine ⟨fun _ => hC, ?_⟩
                refine al_one 13 (by kernel_rfl) rfl ?_
                refine el_storev (hS.top 0 rfl) rfl [v283] (cells_of rfl (oc (hS.rdAt (R := (sliceR intR 3)) 1 rfl))) rfl (of_decide_eq_true rfl) (all_cons (oc (hS.rdAt (R := (sliceR intR 3)) 1 rfl)) rfl) ?_
                intro w287 hS
                replace hS : Sat w00 w287 (Box b116 84 [v263, v283] :: Own (sliceR intR 3) [v283] x284 :: Box b280 3 [.int .i64 r275.1] :: Box b0 103 [v277] :: Own (sliceR (pairR (sliceR intR 3) (sliceR intR 3)) 84) [v277] r275.2 :: Own (sliceR intR 3) [v263] x264 :: G0) := hS
                refine el_nil ?_
                refine ⟨fun h => (nomatch (show false = true from h)), ?_⟩
                refine al_nil (by kernel_rfl) ?_
                refine hQ268 _ _ _ ?_
                refine thn_n ?_
                replace hS : Sat w00 w287 (Box b116 84 [v263, v283] :: Own (sliceR intR 3) [v283] x284 :: Box b0 103 [v277] :: Own (sliceR (pairR (sliceR intR 3) (sliceR intR 3)) 84) [v277] r275.2 :: Own (sliceR intR 3) [v263] x264 :: G0) := hS.rems 6 [2] rfl
                refine cw_reg ?_
                refine el_pv (v := .int .i64 x150) (pv_move he156) (by decide) ?_
                refine el_pv (v := .int .i64 x150) (pv_assign rfl) (by decide) ?_
                refine el_nil ?_
                refine hQ144 _ _ _ ?_
                refine inb_n ?_
                refine hQ140 _ _ _ ?_
                refine thn_n ?_
                replace hS : Sat w00 w287 (Own (sliceR intR 3) [v283] x284 :: Own (sliceR intR 3) [v263] x264 :: Box b116 84 [v263, v283] :: Box b0 103 [v277] :: Own (sliceR (pairR (sliceR intR 3) (sliceR intR 3)) 84) [v277] r275.2 :: G0) := hS.tops 5 [1, 4, 0, 2, 3] rfl
                exact ⟨v277, r275.2, v263, x264, v283, x284, x150, he151, he152, he153, he154, rfl, hS, hF⟩
          · refine cw_cond_f rfl hb143 ?_
            refine cw_exit ?_
            refine hQ141 _ _ _ ?_
            refine thn_x ?_
            refine hQ140 _ _ _ ?_
            refine thn_x ?_
            replace hF := exB hF hK125
            refine hQ121 _ _ _ ?_
            refine inb_s ?_
            refine hQ119 _ _ _ ?_
            refine thn_n ?_
            refine cw_seq ?_
            refine cw_gen ?_
            intro Q288 hQ288
            refine cw_reg ?_
            refine el_pv (v := .pointer (some ⟨b0, 0, none⟩)) (pv_move he133) (by decide) ?_
            refine el_pv (v := .agg #[v129, v131]) (pv_loada (cs := [v129, v131]) he136 rfl (boxc0 (hS.boxAt 2 rfl))) (by decide) ?_
            replace hS : Sat w00 w138 (Box b0 103 [v127] :: Own (sliceR (pairR (sliceR intR 3) (sliceR intR 3)) 84) [v127] x126 :: Own (sliceR intR 3) [v129] x128 :: Own (sliceR intR 3) [v131] x130 :: Box b116 84 [v129, v131] :: G0) := hS.tops 5 [3, 4, 1, 0] rfl
            replace hF := ob hF
            obtain ⟨r289, hr289, hF⟩ := hF
            refine el_call goes114 (impl_builder_add_ok hS hr289) (congrArg List.toArray (mapc rfl (mapc rfl rfl))) (by decide) ?_
            rintro _ w290 ⟨v291, rfl, hS⟩
            refine ⟨_, rfl, ?_⟩
            replace hS : Sat w00 w290 (Box b0 103 [v291] :: Own (sliceR (pairR (sliceR intR 3) (sliceR intR 3)) 84) [v291] r289.2 :: Box b116 84 [v129, v131] :: G0) := hS
            refine el_pv (v := .int .i64 r289.1) (pv_assign rfl) (by decide) ?_
            refine el_nil ?_
            refine hQ288 _ _ _ ?_
            refine thn_n ?_
            refine cw_ret ?_
            refine fin1 rfl rfl ?_
            have hr := Option.some.inj hF
            replace hS : Sat w00 w290 (Box b0 103 [v291] :: Own (sliceR (pairR (sliceR intR 3) (sliceR intR 3)) 84) [v291] r289.2 :: G0) := hS.rems 3 [2] rfl
            exact ⟨v291, congrArg (fun (r : Int × (List (List Int × List Int))) => Ending.returned (.int .i64 r.1)) hr, Eq.mp (congrArg (fun (r : Int × (List (List Int × List Int))) => Sat w00 w290 (Box b0 103 [v291] :: Own (sliceR (pairR (sliceR intR 3) (sliceR intR 3)) 84) [v291] r.2 :: G0)) hr) hS⟩
    · refine el_off rfl hb104 rfl (by decide) ?_
      refine el_off rfl hb104 rfl (by decide) ?_
      refine el_off rfl hb104 rfl (by decide) ?_
      refine el_off rfl hb104 rfl (by decide) ?_
      refine el_off rfl hb104 rfl (by decide) ?_
      refine el_off rfl hb104 rfl (by decide) ?_
      refine el_pv (v := .bool false) (pv_pick_f rfl hb104 rfl) (by decide) ?_
      refine el_nil ?_
      refine hQ103 _ _ _ ?_
      refine thn_n ?_
      refine cw_cond_f rfl rfl ?_
      refine cw_skip ?_
      refine hQ102 _ _ _ ?_
      refine thn_n ?_
      refine cw_seq ?_
      refine cw_gen ?_
      intro Q292 hQ292
      refine cw_reg ?_
      refine el_alloc hS (by decide) ?_
      intro w293 b294 hS hx295
      refine el_nil ?_
      refine hQ292 _ _ _ ?_
      refine thn_n ?_
      refine cw_seq ?_
      refine cw_gen ?_
      intro Q297 hQ297
      refine cw_seq ?_
      refine cw_gen ?_
      intro Q298 hQ298
      refine cw_reg ?_
      refine el_pv (v := .int .i64 0) (pv_assign rfl) (by decide) ?_
      refine el_nil ?_
      refine hQ298 _ _ _ ?_
      refine thn_n ?_
      refine cw_block ?_
      refine cw_gen ?_
      intro Q299 hQ299
      replace hS := hS.nil intR 3
      replace hS := hS.nil intR 3
      obtain ⟨s302, hL, hK303⟩ := ob hF
      refine cw_loopS (fun k e w => ∃ (v305 : Value), ∃ (x304 : List (List Int × List Int)), ∃ (v307 : Value), ∃ (x306 : List Int), ∃ (v309 : Value), ∃ (x308 : List Int), ∃ (x310 : Int), e 0 = .pointer (some ⟨b0, 0, none⟩) ∧ e 1 = u1 ∧ e 2 = .int .i64 a2 ∧ e 7 = .pointer (some ⟨b294, 0, none⟩) ∧ e 8 = .int .i64 x310 ∧ Sat w00 w (Own (sliceR intR 3) [v309] x308 :: Own (sliceR intR 3) [v307] x306 :: Box b294 84 [v307, v309] :: Box b0 103 [v305] :: Own (sliceR (pairR (sliceR intR 3) (sliceR intR 3)) 84) [v305] x304 :: G0) ∧ impl_builder_build_L1 (impl_builder_build N) N k x304 a1 a2 x306 x308 x310 = some s302) N ?_ ?_ ?_
      · exact ⟨u0, a0, (.slice none 0 0), [], (.slice none 0 0), [], 0, rfl, rfl, rfl, rfl, rfl, hS, hL⟩
      · rintro e w ⟨_, _, _, _, _, _, _, _, _, _, _, _, _, hz⟩; exact nomatch (show none = some _ from hz)
      · rintro k e317 w316 ⟨v305, x304, v307, x306, v309, x308, x310, he311, he312, he313, he314, he315, hS, hF⟩
        refine cw_gen ?_
        intro Q318 hQ318
        refine cw_seq ?_
        refine cw_gen ?_
        intro Q319 hQ319
        refine cw_seq ?_
        refine cw_gen ?_
        intro Q320 hQ320
        refine cw_reg ?_
        refine el_pv (v := .int .i64 x310) (pv_move he315) (by decide) ?_
        refine el_pv (v := u1) (pv_move he312) (by decide) ?_
        refine el_pv (v := .int .i64 (a1.length : Int)) (pv_len rfl ha1) (by decide) ?_
        refine el_pv (v := .bool (decide (x310 < (a1.length : Int)))) (pv_lss rfl rfl) (by decide) ?_
        refine el_nil ?_
        refine hQ320 _ _ _ ?_
        refine thn_n ?_
        replace hF := oif hF
        rcases hF with ⟨hb321, hF⟩ | ⟨hb321, hF⟩
        · refine cw_cond_t rfl hb321 ?_
          refine cw_skip ?_
          refine hQ319 _ _ _ ?_
          refine thn_n ?_
          refine cw_block ?_
          refine cw_gen ?_
          intro Q322 hQ322
          refine cw_seq ?_
          refine cw_gen ?_
          intro Q323 hQ323
          refine cw_reg ?_
          refine el_pv (v := .int .i64 x310) (pv_move he315) (by decide) ?_
          refine el_pv (v := .int .i64 x310) (pv_assign rfl) (by decide) ?_
          refine el_nil ?_
          refine hQ323 _ _ _ ?_
          refine thn_n ?_
          refine cw_seq ?_
          refine cw_gen ?_
          intro Q324 hQ324
          refine cw_block ?_
          refine cw_gen ?_
          intro Q325 hQ325
          obtain ⟨s326, hL, hK327⟩ := ob hF
          refine cw_loopS (fun k e w => ∃ (x328 : Int), e 0 = .pointer (some ⟨b0, 0, none⟩) ∧ e 1 = u1 ∧ e 2 = .int .i64 a2 ∧ e 7 = .pointer (some ⟨b294, 0, none⟩) ∧ e 8 = .int .i64 x310 ∧ e 9 = .int .i64 x328 ∧ Sat w00 w (Own (sliceR intR 3) [v309] x308 :: Own (sliceR intR 3) [v307] x306 :: Box b294 84 [v307, v309] :: Box b0 103 [v305] :: Own (sliceR (pairR (sliceR intR 3) (sliceR intR 3)) 84) [v305] x304 :: G0) ∧ impl_builder_build_L2 (impl_builder_build N) N k x304 a1 a2 x306 x308 x310 x328 = some s326) N ?_ ?_ ?_
          · exact ⟨x310, he311, he312, he313, he314, he315, rfl, hS, hL⟩
          · rintro e w ⟨_, _, _, _, _, _, _, _, hz⟩; exact nomatch (show none = some _ from hz)
          · rintro k e336 w335 ⟨x328, he329, he330, he331, he332, he333, he334, hS, hF⟩
            refine cw_gen ?_
            intro Q337 hQ337
            refine cw_seq ?_
            refine cw_gen ?_
            intro Q338 hQ338
            refine cw_seq ?_
            refine cw_gen ?_
            intro Q339 hQ339
            refine cw_regq (by kernel_rfl) (by kernel_rfl) ?_
            refine ql_pv (v := .int .i64 x328) (pv_move he334) (by decide) ?_
            refine ql_pv (v := u1) (pv_move he330) (by decide) ?_
            refine ql_pv (v := .int .i64 (a1.length : Int)) (pv_len rfl ha1) (by decide) ?_
            refine ql_pv (v := .bool (decide (x328 < (a1.length : Int)))) (pv_lss rfl rfl) (by decide) ?_
            refine ql_pv (v := .bool (decide (x328 < (a1.length : Int)))) (pv_move rfl) (by decide) ?_
            replace hF := oif hF
            rcases hF with ⟨hb340, hF⟩ | ⟨hb340, hF⟩
            · refine ql_on rfl hb340 ?_
              refine ql_pv (v := u1) (pv_move he330) (by decide) ?_
              refine ql_on rfl hb340 ?_
              refine ql_pv (v := .int .i64 x328) (pv_move he334) (by decide) ?_
              refine ql_on rfl hb340 ?_
              replace hF := ob hF
              obtain ⟨x341, hx341, hF⟩ := hF
              refine ql_index (wA := w00) rfl ha1 rfl (by decide) rfl hx341 (by decide) ?_
              intro b342 of343 c344 hr345 hm346
              obtain ⟨v347, rfl⟩ := slice_one hr345
              refine ql_on rfl hb340 ?_
              refine ql_pv (v := v347) (pv_loadc rfl ((cells_up hS.below hm346) 0 _ rfl)) (by decide) ?_
              refine ql_on rfl hb340 ?_
              refine ql_pv (v := .int .i64 a2) (pv_move he331) (by decide) ?_
              refine ql_on rfl hb340 ?_
              replace hF := ob hF
              obtain ⟨x348, hx348, hF⟩ := hF
              refine ql_index (wA := w00) rfl hr345 rfl (by decide) rfl hx348 (by decide) ?_
              intro b349 of350 c351 hr352 hm353
              obtain rfl := hr352
              refine ql_on rfl hb340 ?_
              refine ql_pv (v := .int .i64 x348) (pv_loadc rfl ((cells_up hS.below hm353) 0 _ rfl)) (by decide) ?_
              refine ql_on rfl hb340 ?_
              refine ql_pv (v := u1) (pv_move he330) (by decide) ?_
              refine ql_on rfl hb340 ?_
              refine ql_pv (v := .int .i64 x310) (pv_move he333) (by decide) ?_
              refine ql_on rfl hb340 ?_
              replace hF := ob hF
              obtain ⟨x354, hx354, hF⟩ := hF
              refine ql_index (wA := w00) rfl ha1 rfl (by decide) rfl hx354 (by decide) ?_
              intro b355 of356 c357 hr358 hm359
              obtain ⟨v360, rfl⟩ := slice_one hr358
              refine ql_on rfl hb340 ?_
              refine ql_pv (v := v360) (pv_loadc rfl ((cells_up hS.below hm359) 0 _ rfl)) (by decide) ?_
              refine ql_on rfl hb340 ?_
              refine ql_pv (v := .int .i64 a2) (pv_move he331) (by decide) ?_
              refine ql_on rfl hb340 ?_
              replace hF := ob hF
              obtain ⟨x361, hx361, hF⟩ := hF
              refine ql_index (wA := w00) rfl hr358 rfl (by decide) rfl hx361 (by decide) ?_
              intro b362 of363 c364 hr365 hm366
              obtain rfl := hr365
              refine ql_on rfl hb340 ?_
              refine ql_pv (v := .int .i64 x361) (pv_loadc rfl ((cells_up hS.below hm366) 0 _ rfl)) (by decide) ?_
              refine ql_on rfl hb340 ?_
              refine ql_pv (v := .bool (x348 == x361)) (pv_eql rfl rfl) (by decide) ?_
              refine ql_pv (v := .bool (x348 == x361)) (pv_pick_t rfl hb340 rfl) (by decide) ?_
              refine ql_nil ?_
              intro w367 hx368
              replace hS := hS.ext hx368
              refine hQ339 _ _ _ ?_
              refine thn_n ?_
              replace hF := oif hF
              rcases hF with ⟨hb369, hF⟩ | ⟨hb369, hF⟩
              · refine cw_cond_t rfl hb369 ?_
                refine cw_skip ?_
                refine hQ338 _ _ _ ?_
                refine thn_n ?_
                refine cw_block ?_
                refine cw_gen ?_
                intro Q370 hQ370
                refine cw_reg ?_
                refine el_pv (v := .int .i64 x328) (pv_move he334) (by decide) ?_
                replace hF := ob hF
                obtain ⟨x371, hx371, hF⟩ := hF
                refine el_pv (v := .int .i64 x371) (pv_add rfl rfl hx371) (by decide) ?_
                refine el_pv (v := .int .i64 x371) (pv_assign rfl) (by decide) ?_
                refine el_nil ?_
                refine hQ370 _ _ _ ?_
                refine inb_n ?_
                refine hQ337 _ _ _ ?_
                refine thn_n ?_
                exact ⟨x371, he329, he330, he331, he332, he333, rfl, hS, hF⟩
              · refine cw_cond_f rfl hb369 ?_
                refine cw_exit ?_
                refine hQ338 _ _ _ ?_
                refine thn_x ?_
                refine hQ337 _ _ _ ?_
                refine thn_x ?_
                replace hF := exB hF hK327
                refine hQ325 _ _ _ ?_
                refine inb_s ?_
                refine hQ324 _ _ _ ?_
                refine thn_n ?_
                refine cw_seq ?_
                refine cw_gen ?_
                intro Q372 hQ372
                obtain ⟨C, hCd⟩ : ∃ C : World → Prop, ∀ w, C w ↔ ∃ G, Sat w00 w ([Box b294 84 [v307, v309]] ++ G) := ⟨_, fun _ => Iff.rfl⟩
                refine cw_regb [0, 1, 2, 3, 4, 5, 6, 7, 8, 9, 10, 11] C (by kernel_rfl) ?_
                intro w373 hx374
                replace hS := hS.ext hx374
                replace hS : Sat w00 w373 (Box b294 84 [v307, v309] :: Own (sliceR intR 3) [v309] x308 :: Own (sliceR intR 3) [v307] x306 :: Box b0 103 [v305] :: Own (sliceR (pairR (sliceR intR 3) (sliceR intR 3)) 84) [v305] x304 :: G0) := hS.tops 5 [2] rfl
                have hC := (hCd _).2 ⟨_, hS⟩
                refine al_p (v := .pointer (some ⟨b294, 0 + 0, none⟩)) (by kernel_rfl) 0 rfl rfl (by decide) hC (by kernel_rfl) (by kernel_rfl) (sv_on rfl (fun w' hw' => by obtain ⟨_, hS⟩ := (hCd _).1 hw'; exact (pv_fieldAddr he332))) ?_
                refine al_p (v := v307) (by kernel_rfl) 1 rfl rfl (by decide) hC (by kernel_rfl) (by kernel_rfl) (sv_on rfl (fun w' hw' => by obtain ⟨_, hS⟩ := (hCd _).1 hw'; exact (pv_loadc rfl ((hS.boxAt 0 rfl) 0 _ rfl)))) ?_
                refine al_p (v := u1) (by kernel_rfl) 2 rfl rfl (by decide) hC (by kernel_rfl) (by kernel_rfl) (sv_on rfl (fun w' hw' => by obtain ⟨_, hS⟩ := (hCd _).1 hw'; exact (pv_move he330))) ?_
                refine al_p (v := .int .i64 x310) (by kernel_rfl) 3 rfl rfl (by decide) hC (by kernel_rfl) (by kernel_rfl) (sv_on rfl (fun w' hw' => by obtain ⟨_, hS⟩ := (hCd _).1 hw'; exact (pv_move he333))) ?_
                replace hF := ob hF
                obtain ⟨x375, hx375, hF⟩ := hF
                refine al_index (wA := w00) (by kernel_rfl) 4 rfl hC (by kernel_rfl) (by kernel_rfl) rfl ha1 rfl (by decide) rfl hx375 (by decide) ?_
                intro b376 of377 c378 hr379 hm380
                obtain ⟨v381, rfl⟩ := slice_one hr379
                refine al_p (v := v381) (by kernel_rfl) 5 rfl rfl (by decide) hC (by kernel_rfl) (by kernel_rfl) (sv_on rfl (fun w' hw' => by obtain ⟨_, hS⟩ := (hCd _).1 hw'; exact (pv_loadc rfl ((cells_up hS.below hm380) 0 _ rfl)))) ?_
                refine al_one 6 (by kernel_rfl) rfl ?_
                refine el_pv (v := .int .i64 a2) (pv_move he331) (by decide) ?_
                refine el_nil ?_
                refine ⟨fun _ => hC, ?_⟩
                refine al_one 7 (by kernel_rfl) rfl ?_
                replace hF := ob hF
                obtain ⟨x382, hx382, hF⟩ := hF
                refine el_index (wA := w00) rfl hr379 rfl (by decide) rfl hx382 (by decide) ?_
                intro b383 of384 c385 hr386 hm387
                obtain rfl := hr386
                refine el_nil ?_
                refine ⟨fun _ => hC, ?_⟩
                refine al_one 8 (by kernel_rfl) rfl ?_
                refine el_pv (v := .int .i64 x382) (pv_loadc rfl ((cells_up hS.below hm387) 0 _ rfl)) (by decide) ?_
                refine el_nil ?_
                refine ⟨fun _ => hC, ?_⟩
                refine al_one 9 (by kernel_rfl) rfl ?_
                refine el_buildSlice1 [.int .i64 x382] rfl (by rfl) (by decide) rfl (by decide) hS (by decide) ?_
                intro w388 b390 hS hx389
                refine el_nil ?_
                replace hS : Sat w00 w388 (Box b294 84 [v307, v309] :: Box b390 3 [.int .i64 x382] :: Own (sliceR intR 3) [v309] x308 :: Own (sliceR intR 3) [v307] x306 :: Box b0 103 [v305] :: Own (sliceR (pairR (sliceR intR 3) (sliceR intR 3)) 84) [v305] x304 :: G0) := hS.tops 6 [1] rfl
                have hC := (hCd _).2 ⟨_, hS⟩
                refine ⟨fun _ => hC, ?_⟩
                refine al_one 10 (by kernel_rfl) rfl ?_
                replace hF := ob hF
                obtain ⟨x394, hx394, hF⟩ := hF
                have hrow395 := hS.boxRow 1 rfl
                replace hS : Sat w00 w388 (Own (sliceR intR 3) [v307] x306 :: Box b294 84 [v307, v309] :: Box b390 3 [.int .i64 x382] :: Own (sliceR intR 3) [v309] x308 :: Box b0 103 [v305] :: Own (sliceR (pairR (sliceR intR 3) (sliceR intR 3)) 84) [v305] x304 :: G0) := hS.top 3 rfl
                replace hS := hS.int x382
                replace hS := hS.one
                refine el_append rfl (by decide) rfl (by decide) hS rfl rfl rfl (by simp) hrow395 hx394 (by decide) ?_
                intro w392 v393 hS
                refine el_nil ?_
                replace hS : Sat w00 w392 (Box b294 84 [v307, v309] :: Own (sliceR intR 3) [v393] x394 :: Box b390 3 [.int .i64 x382] :: Own (sliceR intR 3) [v309] x308 :: Box b0 103 [v305] :: Own (sliceR (pairR (sliceR intR 3) (sliceR intR 3)) 84) [v305] x304 :: G0) := hS.tops 6 [1] rfl
                have hC := (hCd _).2 ⟨_, hS⟩
                refine ⟨fun _ => hC, ?_⟩
                refine al_one 11 (by kernel_rfl) rfl ?_
                refine el_pv (v := .pointer (some ⟨b294, 0 + 0, none⟩)) (pv_fieldAddr he332) (by decide) ?_
                refine el_nil ?_
                refine ⟨fun _ => hC, ?_⟩
                refine al_one 12 (by kernel_rfl) rfl ?_
                refine el_storev (hS.top 0 rfl) rfl [v393] (cells_of rfl (oc (hS.rdAt (R := (sliceR intR 3)) 1 rfl))) rfl (of_decide_eq_true rfl) (all_cons (oc (hS.rdAt (R := (sliceR intR 3)) 1 rfl)) rfl) ?_
                intro w397 hS
                replace hS : Sat w00 w397 (Box b294 84 [v393, v309] :: Own (sliceR intR 3) [v393] x394 :: Box b390 3 [.int .i64 x382] :: Own (sliceR intR 3) [v309] x308 :: Box b0 103 [v305] :: Own (sliceR (pairR (sliceR intR 3) (sliceR intR 3)) 84) [v305] x304 :: G0) := hS
                refine el_nil ?_
                refine ⟨fun h => (nomatch (show false = true from h)), ?_⟩
                refine al_nil (by kernel_rfl) ?_
                refine hQ372 _ _ _ ?_
                refine thn_n ?_
                refine cw_seq ?_
                refine cw_gen ?_
                intro Q398 hQ398
                replace hS : Sat w00 w397 (Box b294 84 [v393, v309] :: Own (sliceR intR 3) [v393] x394 :: Own (sliceR intR 3) [v309] x308 :: Box b0 103 [v305] :: Own (sliceR (pairR (sliceR intR 3) (sliceR intR 3)) 84) [v305] x304 :: G0) := hS.rems 6 [2] rfl
                obtain ⟨C, hCd⟩ : ∃ C : World → Prop, ∀ w, C w ↔ ∃ G, Sat w00 w ([Box b294 84 [v393, v309]] ++ G) := ⟨_, fun _ => Iff.rfl⟩
                refine cw_regb [0, 1, 2, 3, 4, 5, 6, 7, 8, 9, 10, 11, 12] C (by kernel_rfl) ?_
                intro w399 hx400
                replace hS := hS.ext hx400
                have hC := (hCd _).2 ⟨_, hS⟩
                refine al_p (v := .pointer (some ⟨b294, 0 + 1, none⟩)) (by kernel_rfl) 0 rfl rfl (by decide) hC (by kernel_rfl) (by kernel_rfl) (sv_on rfl (fun w' hw' => by obtain ⟨_, hS⟩ := (hCd _).1 hw'; exact (pv_fieldAddr he332))) ?_
                refine al_p (v := v309) (by kernel_rfl) 1 rfl rfl (by decide) hC (by kernel_rfl) (by kernel_rfl) (sv_on rfl (fun w' hw' => by obtain ⟨_, hS⟩ := (hCd _).1 hw'; exact (pv_loadc rfl ((hS.boxAt 0 rfl) 1 _ rfl)))) ?_
                refine al_p (v := .pointer (some ⟨b0, 0, none⟩)) (by kernel_rfl) 2 rfl rfl (by decide) hC (by kernel_rfl) (by kernel_rfl) (sv_on rfl (fun w' hw' => by obtain ⟨_, hS⟩ := (hCd _).1 hw'; exact (pv_move he329))) ?_
                refine al_p (v := u1) (by kernel_rfl) 3 rfl rfl (by decide) hC (by kernel_rfl) (by kernel_rfl) (sv_on rfl (fun w' hw' => by obtain ⟨_, hS⟩ := (hCd _).1 hw'; exact (pv_move he330))) ?_
                refine al_p (v := .int .i64 x310) (by kernel_rfl) 4 rfl rfl (by decide) hC (by kernel_rfl) (by kernel_rfl) (sv_on rfl (fun w' hw' => by obtain ⟨_, hS⟩ := (hCd _).1 hw'; exact (pv_move he333))) ?_
                refine al_p (v := .int .i64 x328) (by kernel_rfl) 5 rfl rfl (by decide) hC (by kernel_rfl) (by kernel_rfl) (sv_on rfl (fun w' hw' => by obtain ⟨_, hS⟩ := (hCd _).1 hw'; exact (pv_move he334))) ?_
                replace hF := ob hF
                obtain ⟨x401, hx401, hF⟩ := hF
                refine al_slice (wA := w00) (by kernel_rfl) 6 rfl hC (by kernel_rfl) (by kernel_rfl) rfl rfl ha1 (.inl (congrArg some rfl)) (.inl (congrArg some rfl)) hx401 (by decide) ?_
                intro v402 hr403
                refine al_one 7 (by kernel_rfl) rfl ?_
                refine el_pv (v := .int .i64 a2) (pv_move he331) (by decide) ?_
                refine el_nil ?_
                refine ⟨fun _ => hC, ?_⟩
                refine al_one 8 (by kernel_rfl) rfl ?_
                replace hF := ob hF
                obtain ⟨x404, hx404, hF⟩ := hF
                refine el_pv (v := .int .i64 x404) (pv_add rfl rfl hx404) (by decide) ?_
                refine el_nil ?_
                refine ⟨fun _ => hC, ?_⟩
                refine al_one 9 (by kernel_rfl) rfl ?_
                replace hS : Sat w00 w399 (Box b0 103 [v305] :: Own (sliceR (pairR (sliceR intR 3) (sliceR intR 3)) 84) [v305] x304 :: Box b294 84 [v393, v309] :: Own (sliceR intR 3) [v393] x394 :: Own (sliceR intR 3) [v309] x308 :: G0) := hS.tops 5 [3, 4] rfl
                replace hF := ob hF
                obtain ⟨r405, hr405, hF⟩ := hF
                refine el_call goes95 (ih hr403 hS hr405) (congrArg List.toArray (mapc rfl (mapc rfl (mapc rfl rfl)))) (by decide) ?_
                rintro _ w406 ⟨v407, rfl, hS⟩
                refine ⟨_, rfl, ?_⟩
                replace hS : Sat w00 w406 (Box b0 103 [v407] :: Own (sliceR (pairR (sliceR intR 3) (sliceR intR 3)) 84) [v407] r405.2 :: Box b294 84 [v393, v309] :: Own (sliceR intR 3) [v393] x394 :: Own (sliceR intR 3) [v309] x308 :: G0) := hS
                refine el_nil ?_
                replace hS : Sat w00 w406 (Box b294 84 [v393, v309] :: Box b0 103 [v407] :: Own (sliceR (pairR (sliceR intR 3) (sliceR intR 3)) 84) [v407] r405.2 :: Own (sliceR intR 3) [v393] x394 :: Own (sliceR intR 3) [v309] x308 :: G0) := hS.tops 5 [2] rfl
                have hC := (hCd _).2 ⟨_, hS⟩
                refine ⟨fun _ => hC, ?_⟩
                refine al_one 10 (by kernel_rfl) rfl ?_
                refine el_buildSlice1 [.int .i64 r405.1] rfl (by rfl) (by decide) rfl (by decide) hS (by decide) ?_
                intro w408 b410 hS hx409
                refine el_nil ?_
                replace hS : Sat w00 w408 (Box b294 84 [v393, v309] :: Box b410 3 [.int .i64 r405.1] :: Box b0 103 [v407] :: Own (sliceR (pairR (sliceR intR 3) (sliceR intR 3)) 84) [v407] r405.2 :: Own (sliceR intR 3) [v393] x394 :: Own (sliceR intR 3) [v309] x308 :: G0) := hS.tops 6 [1] rfl
                have hC := (hCd _).2 ⟨_, hS⟩
                refine ⟨fun _ => hC, ?_⟩
                refine al_one 11 (by kernel_rfl) rfl ?_
                replace hF := ob hF
                obtain ⟨x414, hx414, hF⟩ := hF
                have hrow415 := hS.boxRow 1 rfl
                replace hS : Sat w00 w408 (Own (sliceR intR 3) [v309] x308 :: Box b294 84 [v393, v309] :: Box b410 3 [.int .i64 r405.1] :: Box b0 103 [v407] :: Own (sliceR (pairR (sliceR intR 3) (sliceR intR 3)) 84) [v407] r405.2 :: Own (sliceR intR 3) [v393] x394 :: G0) := hS.top 5 rfl
                replace hS := hS.int r405.1
                replace hS := hS.one
                refine el_append rfl (by decide) rfl (by decide) hS rfl rfl rfl (by simp) hrow415 hx414 (by decide) ?_
                intro w412 v413 hS
                refine el_nil ?_
                replace hS : Sat w00 w412 (Box b294 84 [v393, v309] :: Own (sliceR intR 3) [v413] x414 :: Box b410 3 [.int .i64 r405.1] :: Box b0 103 [v407] :: Own (sliceR (pairR (sliceR intR 3) (sliceR intR 3)) 84) [v407] r405.2 :: Own (sliceR intR 3) [v393] x394 :: G0) := hS.tops 6 [1] rfl
                have hC := (hCd _).2 ⟨_, hS⟩
                refine ⟨fun _ => hC, ?_⟩
                refine al_one 12 (by kernel_rfl) rfl ?_
                refine el_pv (v := .pointer (some ⟨b294, 0 + 1, none⟩)) (pv_fieldAddr he332) (by decide) ?_
                refine el_nil ?_
                refine ⟨fun _ => hC, ?_⟩
                refine al_one 13 (by kernel_rfl) rfl ?_
                refine el_storev (hS.top 0 rfl) rfl [v413] (cells_of rfl (oc (hS.rdAt (R := (sliceR intR 3)) 1 rfl))) rfl (of_decide_eq_true rfl) (all_cons (oc (hS.rdAt (R := (sliceR intR 3)) 1 rfl)) rfl) ?_
                intro w417 hS
                replace hS : Sat w00 w417 (Box b294 84 [v393, v413] :: Own (sliceR intR 3) [v413] x414 :: Box b410 3 [.int .i64 r405.1] :: Box b0 103 [v407] :: Own (sliceR (pairR (sliceR intR 3) (sliceR intR 3)) 84) [v407] r405.2 :: Own (sliceR intR 3) [v393] x394 :: G0) := hS
                refine el_nil ?_
                refine ⟨fun h => (nomatch (show false = true from h)), ?_⟩
                refine al_nil (by kernel_rfl) ?_
                refine hQ398 _ _ _ ?_
                refine thn_n ?_
                replace hS : Sat w00 w417 (Box b294 84 [v393, v413] :: Own (sliceR intR 3) [v413] x414 :: Box b0 103 [v407] :: Own (sliceR (pairR (sliceR intR 3) (sliceR intR 3)) 84) [v407] r405.2 :: Own (sliceR intR 3) [v393] x394 :: G0) := hS.rems 6 [2] rfl
                refine cw_reg ?_
                refine el_pv (v := .int .i64 x328) (pv_move he334) (by decide) ?_
                refine el_pv (v := .int .i64 x328) (pv_assign rfl) (by decide) ?_
                refine el_nil ?_
                refine hQ322 _ _ _ ?_
                refine inb_n ?_
                refine hQ318 _ _ _ ?_
                refine thn_n ?_
                replace hS : Sat w00 w417 (Own (sliceR intR 3) [v413] x414 :: Own (sliceR intR 3) [v393] x394 :: Box b294 84 [v393, v413] :: Box b0 103 [v407] :: Own (sliceR (pairR (sliceR intR 3) (sliceR intR 3)) 84) [v407] r405.2 :: G0) := hS.tops 5 [1, 4, 0, 2, 3] rfl
                exact ⟨v407, r405.2, v393, x394, v413, x414, x328, he329, he330, he331, he332, rfl, hS, hF⟩
            · refine ql_off rfl hb340 rfl (by decide) ?_
              refine ql_off rfl hb340 rfl (by decide) ?_
              refine ql_off rfl hb340 rfl (by decide) ?_
              refine ql_off rfl hb340 rfl (by decide) ?_
              refine ql_off rfl hb340 rfl (by decide) ?_
              refine ql_off rfl hb340 rfl (by decide) ?_
              refine ql_off rfl hb340 rfl (by decide) ?_
              refine ql_off rfl hb340 rfl (by decide) ?_
              refine ql_off rfl hb340 rfl (by decide) ?_
              refine ql_off rfl hb340 rfl (by decide) ?_
              refine ql_off rfl hb340 rfl (by decide) ?_
              refine ql_off rfl hb340 rfl (by decide) ?_
              refine ql_off rfl hb340 rfl (by decide) ?_
              refine ql_off rfl hb340 rfl (by decide) ?_
              refine ql_off rfl hb340 rfl (by decide) ?_
              refine ql_pv (v := .bool false) (pv_pick_f rfl hb340 rfl) (by decide) ?_
              refine ql_nil ?_
              intro w418 hx419
              replace hS := hS.ext hx419
              refine hQ339 _ _ _ ?_
              refine thn_n ?_
              refine cw_cond_f rfl rfl ?_
              refine cw_exit ?_
              refine hQ338 _ _ _ ?_
              refine thn_x ?_
              refine hQ337 _ _ _ ?_
              refine thn_x ?_
              replace hF := exB hF hK327
              refine hQ325 _ _ _ ?_
              refine inb_s ?_
              refine hQ324 _ _ _ ?_
              refine thn_n ?_
              refine cw_seq ?_
              refine cw_gen ?_
              intro Q420 hQ420
              obtain ⟨C, hCd⟩ : ∃ C : World → Prop, ∀ w, C w ↔ ∃ G, Sat w00 w ([Box b294 84 [v307, v309]] ++ G) := ⟨_, fun _ => Iff.rfl⟩
              refine cw_regb [0, 1, 2, 3, 4, 5, 6, 7, 8, 9, 10, 11] C (by kernel_rfl) ?_
              intro w421 hx422
              replace hS := hS.ext hx422
              replace hS : Sat w00 w421 (Box b294 84 [v307, v309] :: Own (sliceR intR 3) [v309] x308 :: Own (sliceR intR 3) [v307] x306 :: Box b0 103 [v305] :: Own (sliceR (pairR (sliceR intR 3) (sliceR intR 3)) 84) [v305] x304 :: G0) := hS.tops 5 [2] rfl
              have hC := (hCd _).2 ⟨_, hS⟩
              refine al_p (v := .pointer (some ⟨b294, 0 + 0, none⟩)) (by kernel_rfl) 0 rfl rfl (by decide) hC (by kernel_rfl) (by kernel_rfl) (sv_on rfl (fun w' hw' => by obtain ⟨_, hS⟩ := (hCd _).1 hw'; exact (pv_fieldAddr he332))) ?_
              refine al_p (v := v307) (by kernel_rfl) 1 rfl rfl (by decide) hC (by kernel_rfl) (by kernel_rfl) (sv_on rfl (fun w' hw' => by obtain ⟨_, hS⟩ := (hCd _).1 hw'; exact (pv_loadc rfl ((hS.boxAt 0 rfl) 0 _ rfl)))) ?_
              refine al_p (v := u1) (by kernel_rfl) 2 rfl rfl (by decide) hC (by kernel_rfl) (by kernel_rfl) (sv_on rfl (fun w' hw' => by obtain ⟨_, hS⟩ := (hCd _).1 hw'; exact (pv_move he330))) ?_
              refine al_p (v := .int .i64 x310) (by kernel_rfl) 3 rfl rfl (by decide) hC (by kernel_rfl) (by kernel_rfl) (sv_on rfl (fun w' hw' => by obtain ⟨_, hS⟩ := (hCd _).1 hw'; exact (pv_move he333))) ?_
              replace hF := ob hF
              obtain ⟨x423, hx423, hF⟩ := hF
              refine al_index (wA := w00) (by kernel_rfl) 4 rfl hC (by kernel_rfl) (by kernel_rfl) rfl ha1 rfl (by decide) rfl hx423 (by decide) ?_
              intro b424 of425 c426 hr427 hm428
              obtain ⟨v429, rfl⟩ := slice_one hr427
              refine al_p (v := v429) (by kernel_rfl) 5 rfl rfl (by decide) hC (by kernel_rfl) (by kernel_rfl) (sv_on rfl (fun w' hw' => by obtain ⟨_, hS⟩ := (hCd _).1 hw'; exact (pv_loadc rfl ((cells_up hS.below hm428) 0 _ rfl)))) ?_
              refine al_one 6 (by kernel_rfl) rfl ?_
              refine el_pv (v := .int .i64 a2) (pv_move he331) (by decide) ?_
              refine el_nil ?_
              refine ⟨fun _ => hC, ?_⟩
              refine al_one 7 (by kernel_rfl) rfl ?_
              replace hF := ob hF
              obtain ⟨x430, hx430, hF⟩ := hF
              refine el_index (wA := w00) rfl hr427 rfl (by decide) rfl hx430 (by decide) ?_
              intro b431 of432 c433 hr434 hm435
              obtain rfl := hr434
              refine el_nil ?_
              refine ⟨fun _ => hC, ?_⟩
              refine al_one 8 (by kernel_rfl) rfl ?_
              refine el_pv (v := .int .i64 x430) (pv_loadc rfl ((cells_up hS.below hm435) 0 _ rfl)) (by decide) ?_
              refine el_nil ?_
              refine ⟨fun _ => hC, ?_⟩
              refine al_one 9 (by kernel_rfl) rfl ?_
              refine el_buildSlice1 [.int .i64 x430] rfl (by rfl) (by decide) rfl (by decide) hS (by decide) ?_
              intro w436 b438 hS hx437
              refine el_nil ?_
              replace hS : Sat w00 w436 (Box b294 84 [v307, v309] :: Box b438 3 [.int .i64 x430] :: Own (sliceR intR 3) [v309] x308 :: Own (sliceR intR 3) [v307] x306 :: Box b0 103 [v305] :: Own (sliceR (pairR (sliceR intR 3) (sliceR intR 3)) 84) [v305] x304 :: G0) := hS.tops 6 [1] rfl
              have hC := (hCd _).2 ⟨_, hS⟩
              refine ⟨fun _ => hC, ?_⟩
              refine al_one 10 (by kernel_rfl) rfl ?_
              replace hF := ob hF
              obtain ⟨x442, hx442, hF⟩ := hF
              have hrow443 := hS.boxRow 1 rfl
              replace hS : Sat w00 w436 (Own (sliceR intR 3) [v307] x306 :: Box b294 84 [v307, v309] :: Box b438 3 [.int .i64 x430] :: Own (sliceR intR 3) [v309] x308 :: Box b0 103 [v305] :: Own (sliceR (pairR (sliceR intR 3) (sliceR intR 3)) 84) [v305] x304 :: G0) := hS.top 3 rfl
              replace hS := hS.int x430
              replace hS := hS.one
              refine el_append rfl (by decide) rfl (by decide) hS rfl rfl rfl (by simp) hrow443 hx442 (by decide) ?_
              intro w440 v441 hS
              refine el_nil ?_
              replace hS : Sat w00 w440 (Box b294 84 [v307, v309] :: Own (sliceR intR 3) [v441] x442 :: Box b438 3 [.int .i64 x430] :: Own (sliceR intR 3) [v309] x308 :: Box b0 103 [v305] :: Own (sliceR (pairR (sliceR intR 3) (sliceR intR 3)) 84) [v305] x304 :: G0) := hS.tops 6 [1] rfl
              have hC := (hCd _).2 ⟨_, hS⟩
              refine ⟨fun _ => hC, ?_⟩
              refine al_one 11 (by kernel_rfl) rfl ?_
              refine el_pv (v := .pointer (some ⟨b294, 0 + 0, none⟩)) (pv_fieldAddr he332) (by decide) ?_
              refine el_nil ?_
              refine ⟨fun _ => hC, ?_⟩
              refine al_one 12 (by kernel_rfl) rfl ?_
              refine el_storev (hS.top 0 rfl) rfl [v441] (cells_of rfl (oc (hS.rdAt (R := (sliceR intR 3)) 1 rfl))) rfl (of_decide_eq_true rfl) (all_cons (oc (hS.rdAt (R := (sliceR intR 3)) 1 rfl)) rfl) ?_
              intro w445 hS
              replace hS : Sat w00 w445 (Box b294 84 [v441, v309] :: Own (sliceR intR 3) [v441] x442 :: Box b438 3 [.int .i64 x430] :: Own (sliceR intR 3) [v309] x308 :: Box b0 103 [v305] :: Own (sliceR (pairR (sliceR intR 3) (sliceR intR 3)) 84) [v305] x304 :: G0) := hS
              refine el_nil ?_
              refine ⟨fun h => (nomatch (show false = true from h)), ?_⟩
              refine al_nil (by kernel_rfl) ?_
              refine hQ420 _ _ _ ?_
              refine thn_n ?_
              refine cw_seq ?_
              refine cw_gen ?_
              intro Q446 hQ446
              replace hS : Sat w00 w445 (Box b294 84 [v441, v309] :: Own (sliceR intR 3) [v441] x442 :: Own (sliceR intR 3) [v309] x308 :: Box b0 103 [v305] :: Own (sliceR (pairR (sliceR intR 3) (sliceR intR 3)) 84) [v305] x304 :: G0) := hS.rems 6 [2] rfl
              obtain ⟨C, hCd⟩ : ∃ C : World → Prop, ∀ w, C w ↔ ∃ G, Sat w00 w ([Box b294 84 [v441, v309]] ++ G) := ⟨_, fun _ => Iff.rfl⟩
              refine cw_regb [0, 1, 2, 3, 4, 5, 6, 7, 8, 9, 10, 11, 12] C (by kernel_rfl) ?_
              intro w447 hx448
              replace hS := hS.ext hx448
              have hC := (hCd _).2 ⟨_, hS⟩
              refine al_p (v := .pointer (some ⟨b294, 0 + 1, none⟩)) (by kernel_rfl) 0 rfl rfl (by decide) hC (by kernel_rfl) (by kernel_rfl) (sv_on rfl (fun w' hw' => by obtain ⟨_, hS⟩ := (hCd _).1 hw'; exact (pv_fieldAddr he332))) ?_
              refine al_p (v := v309) (by kernel_rfl) 1 rfl rfl (by decide) hC (by kernel_rfl) (by kernel_rfl) (sv_on rfl (fun w' hw' => by obtain ⟨_, hS⟩ := (hCd _).1 hw'; exact (pv_loadc rfl ((hS.boxAt 0 rfl) 1 _ rfl)))) ?_
              refine al_p (v := .pointer (some ⟨b0, 0, none⟩)) (by kernel_rfl) 2 rfl rfl (by decide) hC (by kernel_rfl) (by kernel_rfl) (sv_on rfl (fun w' hw' => by obtain ⟨_, hS⟩ := (hCd _).1 hw'; exact (pv_move he329))) ?_
              refine al_p (v := u1) (by kernel_rfl) 3 rfl rfl (by decide) hC (by kernel_rfl) (by kernel_rfl) (sv_on rfl (fun w' hw' => by obtain ⟨_, hS⟩ := (hCd _).1 hw'; exact (pv_move he330))) ?_
              refine al_p (v := .int .i64 x310) (by kernel_rfl) 4 rfl rfl (by decide) hC (by kernel_rfl) (by kernel_rfl) (sv_on rfl (fun w' hw' => by obtain ⟨_, hS⟩ := (hCd _).1 hw'; exact (pv_move he333))) ?_
              refine al_p (v := .int .i64 x328) (by kernel_rfl) 5 rfl rfl (by decide) hC (by kernel_rfl) (by kernel_rfl) (sv_on rfl (fun w' hw' => by obtain ⟨_, hS⟩ := (hCd _).1 hw'; exact (pv_move he334))) ?_
              replace hF := ob hF
              obtain ⟨x449, hx449, hF⟩ := hF
              refine al_slice (wA := w00) (by kernel_rfl) 6 rfl hC (by kernel_rfl) (by kernel_rfl) rfl rfl ha1 (.inl (congrArg some rfl)) (.inl (congrArg some rfl)) hx449 (by decide) ?_
              intro v450 hr451
              refine al_one 7 (by kernel_rfl) rfl ?_
              refine el_pv (v := .int .i64 a2) (pv_move he331) (by decide) ?_
              refine el_nil ?_
              refine ⟨fun _ => hC, ?_⟩
              refine al_one 8 (by kernel_rfl) rfl ?_
              replace hF := ob hF
              obtain ⟨x452, hx452, hF⟩ := hF
              refine el_pv (v := .int .i64 x452) (pv_add rfl rfl hx452) (by decide) ?_
              refine el_nil ?_
              refine ⟨fun _ => hC, ?_⟩
              refine al_one 9 (by kernel_rfl) rfl ?_
              replace hS : Sat w00 w447 (Box b0 103 [v305] :: Own (sliceR (pairR (sliceR intR 3) (sliceR intR 3)) 84) [v305] x304 :: Box b294 84 [v441, v309] :: Own (sliceR intR 3) [v441] x442 :: Own (sliceR intR 3) [v309] x308 :: G0) := hS.tops 5 [3, 4] rfl
              replace hF := ob hF
              obtain ⟨r453, hr453, hF⟩ := hF
              refine el_call goes95 (ih hr451 hS hr453) (congrArg List.toArray (mapc rfl (mapc rfl (mapc rfl rfl)))) (by decide) ?_
              rintro _ w454 ⟨v455, rfl, hS⟩
              refine ⟨_, rfl, ?_⟩
              replace hS : Sat w00 w454 (Box b0 103 [v455] :: Own (sliceR (pairR (sliceR intR 3) (sliceR intR 3)) 84) [v455] r453.2 :: Box b294 84 [v441, v309] :: Own (sliceR intR 3) [v441] x442 :: Own (sliceR intR 3) [v309] x308 :: G0) := hS
              refine el_nil ?_
              replace hS : Sat w00 w454 (Box b294 84 [v441, v309] :: Box b0 103 [v455] :: Own (sliceR (pairR (sliceR intR 3) (sliceR intR 3)) 84) [v455] r453.2 :: Own (sliceR intR 3) [v441] x442 :: Own (sliceR intR 3) [v309] x308 :: G0) := hS.tops 5 [2] rfl
              have hC := (hCd _).2 ⟨_, hS⟩
              refine ⟨fun _ => hC, ?_⟩
              refine al_one 10 (by kernel_rfl) rfl ?_
              refine el_buildSlice1 [.int .i64 r453.1] rfl (by rfl) (by decide) rfl (by decide) hS (by decide) ?_
              intro w456 b458 hS hx457
              refine el_nil ?_
              replace hS : Sat w00 w456 (Box b294 84 [v441, v309] :: Box b458 3 [.int .i64 r453.1] :: Box b0 103 [v455] :: Own (sliceR (pairR (sliceR intR 3) (sliceR intR 3)) 84) [v455] r453.2 :: Own (sliceR intR 3) [v441] x442 :: Own (sliceR intR 3) [v309] x308 :: G0) := hS.tops 6 [1] rfl
              have hC := (hCd _).2 ⟨_, hS⟩
              refine ⟨fun _ => hC, ?_⟩
              refine al_one 11 (by kernel_rfl) rfl ?_
              replace hF := ob hF
              obtain ⟨x462, hx462, hF⟩ := hF
              have hrow463 := hS.boxRow 1 rfl
              replace hS : Sat w00 w456 (Own (sliceR intR 3) [v309] x308 :: Box b294 84 [v441, v309] :: Box b458 3 [.int .i64 r453.1] :: Box b0 103 [v455] :: Own (sliceR (pairR (sliceR intR 3) (sliceR intR 3)) 84) [v455] r453.2 :: Own (sliceR intR 3) [v441] x442 :: G0) := hS.top 5 rfl
              replace hS := hS.int r453.1
              replace hS := hS.one
              refine el_append rfl (by decide) rfl (by decide) hS rfl rfl rfl (by simp) hrow463 hx462 (by decide) ?_
              intro w460 v461 hS
              refine el_nil ?_
              replace hS : Sat w00 w460 (Box b294 84 [v441, v309] :: Own (sliceR intR 3) [v461] x462 :: Box b458 3 [.int .i64 r453.1] :: Box b0 103 [v455] :: Own (sliceR (pairR (sliceR intR 3) (sliceR intR 3)) 84) [v455] r453.2 :: Own (sliceR intR 3) [v441] x442 :: G0) := hS.tops 6 [1] rfl
              have hC := (hCd _).2 ⟨_, hS⟩
              refine ⟨fun _ => hC, ?_⟩
              refine al_one 12 (by kernel_rfl) rfl ?_
              refine el_pv (v := .pointer (some ⟨b294, 0 + 1, none⟩)) (pv_fieldAddr he332) (by decide) ?_
              refine el_nil ?_
              refine ⟨fun _ => hC, ?_⟩
              refine al_one 13 (by kernel_rfl) rfl ?_
              refine el_storev (hS.top 0 rfl) rfl [v461] (cells_of rfl (oc (hS.rdAt (R := (sliceR intR 3)) 1 rfl))) rfl (of_decide_eq_true rfl) (all_cons (oc (hS.rdAt (R := (sliceR intR 3)) 1 rfl)) rfl) ?_
              intro w465 hS
              replace hS : Sat w00 w465 (Box b294 84 [v441, v461] :: Own (sliceR intR 3) [v461] x462 :: Box b458 3 [.int .i64 r453.1] :: Box b0 103 [v455] :: Own (sliceR (pairR (sliceR intR 3) (sliceR intR 3)) 84) [v455] r453.2 :: Own (sliceR intR 3) [v441] x442 :: G0) := hS
              refine el_nil ?_
              refine ⟨fun h => (nomatch (show false = true from h)), ?_⟩
              refine al_nil (by kernel_rfl) ?_
              refine hQ446 _ _ _ ?_
              refine thn_n ?_
              replace hS : Sat w00 w465 (Box b294 84 [v441, v461] :: Own (sliceR intR 3) [v461] x462 :: Box b0 103 [v455] :: Own (sliceR (pairR (sliceR intR 3) (sliceR intR 3)) 84) [v455] r453.2 :: Own (sliceR intR 3) [v441] x442 :: G0) := hS.rems 6 [2] rfl
              refine cw_reg ?_
              refine el_pv (v := .int .i64 x328) (pv_move he334) (by decide) ?_
              refine el_pv (v := .int .i64 x328) (pv_assign rfl) (by decide) ?_
              refine el_nil ?_
              refine hQ322 _ _ _ ?_
              refine inb_n ?_
              refine hQ318 _ _ _ ?_
              refine thn_n ?_
              replace hS : Sat w00 w465 (Own (sliceR intR 3) [v461] x462 :: Own (sliceR intR 3) [v441] x442 :: Box b294 84 [v441, v461] :: Box b0 103 [v455] :: Own (sliceR (pairR (sliceR intR 3) (sliceR intR 3)) 84) [v455] r453.2 :: G0) := hS.tops 5 [1, 4, 0, 2, 3] rfl
              exact ⟨v455, r453.2, v441, x442, v461, x462, x328, he329, he330, he331, he332, rfl, hS, hF⟩
        · refine cw_cond_f rfl hb321 ?_
          refine cw_exit ?_
          refine hQ319 _ _ _ ?_
          refine thn_x ?_
          refine hQ318 _ _ _ ?_
          refine thn_x ?_
          replace hF := exB hF hK303
          refine hQ299 _ _ _ ?_
          refine inb_s ?_
          refine hQ297 _ _ _ ?_
          refine thn_n ?_
          refine cw_seq ?_
          refine cw_gen ?_
          intro Q466 hQ466
          refine cw_reg ?_
          refine el_pv (v := .pointer (some ⟨b0, 0, none⟩)) (pv_move he311) (by decide) ?_
          refine el_pv (v := .agg #[v307, v309]) (pv_loada (cs := [v307, v309]) he314 rfl (boxc0 (hS.boxAt 2 rfl))) (by decide) ?_
          replace hS : Sat w00 w316 (Box b0 103 [v305] :: Own (sliceR (pairR (sliceR intR 3) (sliceR intR 3)) 84) [v305] x304 :: Own (sliceR intR 3) [v307] x306 :: Own (sliceR intR 3) [v309] x308 :: Box b294 84 [v307, v309] :: G0) := hS.tops 5 [3, 4, 1, 0] rfl
          replace hF := ob hF
          obtain ⟨r467, hr467, hF⟩ := hF
          refine el_call goes114 (impl_builder_add_ok hS hr467) (congrArg List.toArray (mapc rfl (mapc rfl rfl))) (by decide) ?_
          rintro _ w468 ⟨v469, rfl, hS⟩
          refine ⟨_, rfl, ?_⟩
          replace hS : Sat w00 w468 (Box b0 103 [v469] :: Own (sliceR (pairR (sliceR intR 3) (sliceR intR 3)) 84) [v469] r467.2 :: Box b294 84 [v307, v309] :: G0) := hS
          refine el_pv (v := .int .i64 r467.1) (pv_assign rfl) (by decide) ?_
          refine el_nil ?_
          refine hQ466 _ _ _ ?_
          refine thn_n ?_
          refine cw_ret ?_
          refine fin1 rfl rfl ?_
          have hr := Option.some.inj hF
          replace hS : Sat w00 w468 (Box b0 103 [v469] :: Own (sliceR (pairR (sliceR intR 3) (sliceR intR 3)) 84) [v469] r467.2 :: G0) := hS.rems 3 [2] rfl
          exact ⟨v469, congrArg (fun (r : Int × (List (List Int × List Int))) => Ending.returned (.int .i64 r.1)) hr, Eq.mp (congrArg (fun (r : Int × (List (List Int × List Int))) => Sat w00 w468 (Box b0 103 [v469] :: Own (sliceR (pairR (sliceR intR 3) (sliceR intR 3)) 84) [v469] r.2 :: G0)) hr) hS⟩
theorem impl_builder_build_ok {w0 : World} {w00 : World} {G0 : List Asn} {b0 : Nat} {u0 : Value} {a0 : List (List Int × List Int)} {u1 : Value} {a1 : List (List Int)} {a2 : Int} (ha1 : (sliceR (sliceR intR 3) 26).rd w00 [u1] a1) (hS : Sat w00 w0 (Box b0 103 [u0] :: Own (sliceR (pairR (sliceR intR 3) (sliceR intR 3)) 84) [u0] a0 :: G0)) {N : Nat} {r : Int × (List (List Int × List Int))} (hF : impl_builder_build N a0 a1 a2 = some r) :
    Calls Try.prog 95 #[.pointer (some ⟨b0, 0, none⟩), u1, .int .i64 a2] w0 fun e w' => ∃ (q0 : Value), e = .returned (.int .i64 r.1) ∧ Sat w00 w' (Box b0 103 [q0] :: Own (sliceR (pairR (sliceR intR 3) (sliceR intR 3)) 84) [q0] r.2 :: G0) := impl_builder_build_ok' N ha1 hS hF
set_option maxHeartbeats 4000000 in
theorem impl_factorized_ok {w0 : World} {u0 : Value} {a0 : List Int} {u1 : Value} {a1 : List (List Int)} (ha0 : (sliceR intR 3).rd w0 [u0] a0) (ha1 : (sliceR (sliceR intR 3) 26).rd w0 [u1] a1) {N : Nat} {r : (List Int × List (List Int × List Int))} (hF : impl_factorized N a0 a1 = some r) :
    Calls Try.prog 48 #[u0, u1] w0 fun e w' => ∃ (q0 : Value) (q1 : Value), e = .returned (.agg #[q0, q1]) ∧ Sat w0 w' [Own (sliceR intR 3) [q0] r.1, Own (sliceR (pairR (sliceR intR 3) (sliceR intR 3)) 84) [q1] r.2] := by
  unfold impl_factorized at hF
  refine calls_E Try.func48 rfl rfl (of_decide_eq_true rfl) ?_
  have hS := Sat.start w0
  refine cw_seq ?_
  refine cw_gen ?_
  intro Q101 hQ101
  refine cw_reg ?_
  refine el_alloc hS (by decide) ?_
  intro w102 b103 hS hx104
  refine el_nil ?_
  refine hQ101 _ _ _ ?_
  refine thn_n ?_
  refine cw_seq ?_
  refine cw_gen ?_
  intro Q106 hQ106
  refine cw_reg ?_
  replace hF := ob hF
  obtain ⟨x110, hx110, hF⟩ := hF
  refine el_make (R := (pairR (sliceR intR 3) (sliceR intR 3))) (x0 := ([], [])) rfl (by decide) rfl (fun _ => ⟨_, _, [], [], rfl, rfl, .inl ⟨rfl, rfl, rfl⟩, .inl ⟨rfl, rfl, rfl⟩⟩) rfl rfl hx110 hS (by decide) ?_
  intro w107 g108 k109 hS hx111 hlx110
  refine el_pv (v := .agg #[(.slice (some ⟨g108, 0, none⟩) k109 k109)]) (pv_build [(0, [(.slice (some ⟨g108, 0, none⟩) k109 k109)])] [(.slice (some ⟨g108, 0, none⟩) k109 k109)] (partc (cells_of rfl (oc (hS.rdAt (R := (sliceR (pairR (sliceR intR 3) (sliceR intR 3)) 84)) 0 rfl))) rfl) rfl) (by decide) ?_
  refine el_box [(.slice (some ⟨g108, 0, none⟩) k109 k109)] rfl hS (by decide) ?_
  intro w113 b114 hS hx115
  refine el_pv (v := .pointer (some ⟨b114, 0, none⟩)) (pv_assign rfl) (by decide) ?_
  refine el_nil ?_
  refine hQ106 _ _ _ ?_
  refine thn_n ?_
  refine cw_seq ?_
  refine cw_gen ?_
  intro Q117 hQ117
  refine cw_reg ?_
  refine el_pv (v := .pointer (some ⟨b114, 0, none⟩)) (pv_move rfl) (by decide) ?_
  refine el_pv (v := u1) (pv_move rfl) (by decide) ?_
  replace hF := ob hF
  obtain ⟨r118, hr118, hF⟩ := hF
  refine el_call goes95 (impl_builder_build_ok ha1 hS hr118) (congrArg List.toArray (mapc rfl (mapc rfl (mapc rfl rfl)))) (by decide) ?_
  rintro _ w119 ⟨v120, rfl, hS⟩
  refine ⟨_, rfl, ?_⟩
  replace hS : Sat w0 w119 [Box b114 103 [v120], Own (sliceR (pairR (sliceR intR 3) (sliceR intR 3)) 84) [v120] r118.2, Box b103 29 [(.slice none 0 0), (.slice none 0 0)]] := hS
  refine el_nil ?_
  refine hQ117 _ _ _ ?_
  refine thn_n ?_
  refine cw_seq ?_
  refine cw_gen ?_
  intro Q121 hQ121
  obtain ⟨C, hCd⟩ : ∃ C : World → Prop, ∀ w, C w ↔ ∃ G, Sat w0 w ([Box b114 103 [v120], Own (sliceR (pairR (sliceR intR 3) (sliceR intR 3)) 84) [v120] r118.2] ++ G) := ⟨_, fun _ => Iff.rfl⟩
  refine cw_regb [0, 1, 2, 3, 4, 5, 6, 7] C (by kernel_rfl) ?_
  intro w122 hx123
  replace hS := hS.ext hx123
  have hC := (hCd _).2 ⟨_, hS⟩
  refine al_p (v := u0) (by kernel_rfl) 0 rfl rfl (by decide) hC (by kernel_rfl) (by kernel_rfl) (sv_on rfl (fun w' hw' => by obtain ⟨_, hS⟩ := (hCd _).1 hw'; exact (pv_move rfl))) ?_
  refine al_p (v := .pointer (some ⟨b114, 0, none⟩)) (by kernel_rfl) 2 rfl rfl (by decide) hC (by kernel_rfl) (by kernel_rfl) (sv_on rfl (fun w' hw' => by obtain ⟨_, hS⟩ := (hCd _).1 hw'; exact (pv_move rfl))) ?_
  refine al_p (v := .pointer (some ⟨b114, 0, none⟩)) (by kernel_rfl) 3 rfl rfl (by decide) hC (by kernel_rfl) (by kernel_rfl) (sv_on rfl (fun w' hw' => by obtain ⟨_, hS⟩ := (hCd _).1 hw'; exact (pv_nilCheck rfl))) ?_
  refine al_p (v := .pointer (some ⟨b114, 0 + 0, none⟩)) (by kernel_rfl) 4 rfl rfl (by decide) hC (by kernel_rfl) (by kernel_rfl) (sv_on rfl (fun w' hw' => by obtain ⟨_, hS⟩ := (hCd _).1 hw'; exact (pv_fieldAddr rfl))) ?_
  refine al_p (v := v120) (by kernel_rfl) 5 rfl rfl (by decide) hC (by kernel_rfl) (by kernel_rfl) (sv_on rfl (fun w' hw' => by obtain ⟨_, hS⟩ := (hCd _).1 hw'; exact (pv_loadc rfl ((hS.boxAt 0 rfl) 0 _ rfl)))) ?_
  refine al_one 1 (by kernel_rfl) rfl ?_
  replace hF := ob hF
  obtain ⟨r124, hr124, hF⟩ := hF
  refine el_call goes84 (impl_copyInts_ok (hS.up ha0) hr124) (congrArg List.toArray (mapc rfl rfl)) (by decide) ?_
  rintro _ w127 ⟨v125, rfl, hS'⟩
  refine ⟨_, rfl, ?_⟩
  have hx128 := hS'.below
  replace hS := hS.call1 hS'
  refine el_nil ?_
  replace hS : Sat w0 w127 [Box b114 103 [v120], Own (sliceR (pairR (sliceR intR 3) (sliceR intR 3)) 84) [v120] r118.2, Own (sliceR intR 3) [v125] r124, Box b103 29 [(.slice none 0 0), (.slice none 0 0)]] := hS.tops 4 [1, 2] rfl
  have hC := (hCd _).2 ⟨_, hS⟩
  refine ⟨fun _ => hC, ?_⟩
  refine al_one 6 (by kernel_rfl) rfl ?_
  refine el_pv (v := .agg #[v125, v120]) (pv_build [(0, [v125]), (1, [v120])] [v125, v120] (partc (cells_of rfl (oc (hS.rdAt (R := (sliceR intR 3)) 2 rfl))) (partc (cells_of rfl (oc (hS.rdAt (R := (sliceR (pairR (sliceR intR 3) (sliceR intR 3)) 84)) 1 rfl))) rfl)) rfl) (by decide) ?_
  refine el_nil ?_
  refine ⟨fun _ => hC, ?_⟩
  refine al_one 7 (by kernel_rfl) rfl ?_
  refine el_storev (hS.top 3 rfl) rfl [v125, v120] rfl rfl (of_decide_eq_true rfl) (all_cons (oc (hS.rdAt (R := (sliceR intR 3)) 2 rfl)) (all_cons (oc (hS.rdAt (R := (sliceR (pairR (sliceR intR 3) (sliceR intR 3)) 84)) 1 rfl)) rfl)) ?_
  intro w129 hS
  replace hS : Sat w0 w129 [Box b103 29 [v125, v120], Box b114 103 [v120], Own (sliceR (pairR (sliceR intR 3) (sliceR intR 3)) 84) [v120] r118.2, Own (sliceR intR 3) [v125] r124] := hS
  refine el_nil ?_
  replace hS : Sat w0 w129 [Box b114 103 [v120], Own (sliceR (pairR (sliceR intR 3) (sliceR intR 3)) 84) [v120] r118.2, Box b103 29 [v125, v120], Own (sliceR intR 3) [v125] r124] := hS.tops 4 [1, 2] rfl
  have hC := (hCd _).2 ⟨_, hS⟩
  refine ⟨fun _ => hC, ?_⟩
  refine al_nil (by kernel_rfl) ?_
  refine hQ121 _ _ _ ?_
  refine thn_n ?_
  refine cw_ret ?_
  refine finC (cs := [v125, v120]) rfl rfl rfl (boxc0 (hS.boxAt 2 rfl))  ?_
  replace hS : Sat w0 w129 [Own (sliceR intR 3) [v125] r124, Own (sliceR (pairR (sliceR intR 3) (sliceR intR 3)) 84) [v120] r118.2, Box b114 103 [v120], Box b103 29 [v125, v120]] := hS.tops 4 [3, 1] rfl
  have hr := Option.some.inj hF
  exact ⟨v125, v120, congrArg (fun (r : (List Int × List (List Int × List Int))) => Ending.returned (.agg #[v125, v120])) hr, Eq.mp (congrArg (fun (r : (List Int × List (List Int × List Int))) => Sat w0 w129 [Own (sliceR intR 3) [v125] r.1, Own (sliceR (pairR (sliceR intR 3) (sliceR intR 3)) 84) [v120] r.2]) hr) (hS.keep 2)⟩
set_option maxHeartbeats 4000000 in
theorem impl_FactorizeRelation_ok {w0 : World} {a0 : Int} {u1 : Value} {a1 : List (List Int)} (ha1 : (sliceR (sliceR intR 3) 26).rd w0 [u1] a1) {N : Nat} {r : (List Int × List (List Int × List Int)) × Bool} (hF : impl_FactorizeRelation N a0 a1 = some r) :
    Calls Try.prog 12 #[.agg #[.int .i64 a0, u1]] w0 fun e w' => ∃ (q0 : Value) (q1 : Value), e = .returned (.tuple #[.agg #[q0, q1], .bool r.2]) ∧ Sat w0 w' [Own (sliceR intR 3) [q0] r.1.1, Own (sliceR (pairR (sliceR intR 3) (sliceR intR 3)) 84) [q1] r.1.2] := by
  unfold impl_FactorizeRelation at hF
  refine calls_E Try.func12 rfl rfl (of_decide_eq_true rfl) ?_
  have hS := Sat.start w0
  refine cw_seq ?_
  refine cw_gen ?_
  intro Q101 hQ101
  refine cw_reg ?_
  refine el_box [.int .i64 a0, u1] rfl hS (by decide) ?_
  intro w102 b103 hS hx104
  refine el_alloc hS (by decide) ?_
  intro w106 b107 hS hx108
  refine el_pv (v := .bool false) (pv_assign rfl) (by decide) ?_
  refine el_nil ?_
  refine hQ101 _ _ _ ?_
  refine thn_n ?_
  refine cw_seq ?_
  refine cw_gen ?_
  intro Q110 hQ110
  refine cw_seq ?_
  refine cw_gen ?_
  intro Q111 hQ111
  refine cw_reg ?_
  refine el_pv (v := .agg #[.int .i64 a0, u1]) (pv_loada (cs := [.int .i64 a0, u1]) rfl rfl (boxc0 (hS.boxAt 1 rfl))) (by decide) ?_
  replace hF := ob hF
  obtain ⟨r112, hr112, hF⟩ := hF
  refine el_call goes47 (impl_IsValidRelation_ok (hS.up ha1) hr112) (congrArg List.toArray (mapc rfl rfl)) (by decide) ?_
  rintro _ w113 ⟨rfl, hx114⟩
  refine ⟨_, rfl, ?_⟩
  replace hS := hS.ext hx114
  refine el_pv (v := .bool (!r112)) (pv_not rfl) (by decide) ?_
  refine el_nil ?_
  refine hQ111 _ _ _ ?_
  refine thn_n ?_
  replace hF := oif hF
  rcases hF with ⟨hb115, hF⟩ | ⟨hb115, hF⟩
  · refine cw_cond_f rfl (bnot_t hb115) ?_
    refine cw_skip ?_
    refine hQ110 _ _ _ ?_
    refine thn_n ?_
    refine cw_seq ?_
    refine cw_gen ?_
    intro Q116 hQ116
    refine cw_reg ?_
    refine el_pv (v := (.slice none 0 0)) (pv_assign rfl) (by decide) ?_
    refine el_nil ?_
    refine hQ116 _ _ _ ?_
    refine thn_n ?_
    refine cw_seq ?_
    refine cw_gen ?_
    intro Q117 hQ117
    refine cw_seq ?_
    refine cw_gen ?_
    intro Q118 hQ118
    refine cw_reg ?_
    refine el_pv (v := .int .i64 0) (pv_assign rfl) (by decide) ?_
    refine el_nil ?_
    refine hQ118 _ _ _ ?_
    refine thn_n ?_
    refine cw_block ?_
    refine cw_gen ?_
    intro Q119 hQ119
    replace hS := hS.nil intR 3
    obtain ⟨s121, hL, hK122⟩ := ob hF
    refine cw_loopS (fun k e w => ∃ (v124 : Value), ∃ (x123 : List Int), ∃ (x125 : Int), e 1 = .pointer (some ⟨b103, 0, none⟩) ∧ e 2 = .pointer (some ⟨b107, 0, none⟩) ∧ e 4 = v124 ∧ e 5 = .int .i64 x125 ∧ Sat w0 w [Own (sliceR intR 3) [v124] x123, Box b107 29 [(.slice none 0 0), (.slice none 0 0)], Box b103 32 [.int .i64 a0, u1]] ∧ impl_FactorizeRelation_L1 N k a0 a1 [] [] x123 x125 = some s121) N ?_ ?_ ?_
    · exact ⟨(.slice none 0 0), [], 0, rfl, rfl, rfl, rfl, hS, hL⟩
    · rintro e w ⟨_, _, _, _, _, _, _, _, hz⟩; exact nomatch (show none = some _ from hz)
    · rintro k e131 w130 ⟨v124, x123, x125, he126, he127, he128, he129, hS, hF⟩
      refine cw_gen ?_
      intro Q132 hQ132
      refine cw_seq ?_
      refine cw_gen ?_
      intro Q133 hQ133
      refine cw_seq ?_
      refine cw_gen ?_
      intro Q134 hQ134
      refine cw_reg ?_
      refine el_pv (v := .int .i64 x125) (pv_move he129) (by decide) ?_
      refine el_pv (v := .pointer (some ⟨b103, 0 + 0, none⟩)) (pv_fieldAddr he126) (by decide) ?_
      refine el_pv (v := .int .i64 a0) (pv_loadc rfl ((hS.boxAt 2 rfl) 0 _ rfl)) (by decide) ?_
      refine el_pv (v := .bool (decide (x125 < a0))) (pv_lss rfl rfl) (by decide) ?_
      refine el_nil ?_
      refine hQ134 _ _ _ ?_
      refine thn_n ?_
      replace hF := oif hF
      rcases hF with ⟨hb135, hF⟩ | ⟨hb135, hF⟩
      · refine cw_cond_t rfl hb135 ?_
        refine cw_skip ?_
        refine hQ133 _ _ _ ?_
        refine thn_n ?_
        refine cw_seq ?_
        refine cw_gen ?_
        intro Q136 hQ136
        refine cw_block ?_
        refine cw_gen ?_
        intro Q137 hQ137
        refine cw_reg ?_
        refine el_pv (v := v124) (pv_move he128) (by decide) ?_
        refine el_pv (v := .int .i64 x125) (pv_move he129) (by decide) ?_
        refine el_buildSlice1 [.int .i64 x125] rfl (by rfl) (by decide) rfl (by decide) hS (by decide) ?_
        intro w138 b140 hS hx139
        replace hF := ob hF
        obtain ⟨x144, hx144, hF⟩ := hF
        have hrow145 := hS.boxRow 0 rfl
        replace hS : Sat w0 w138 [Own (sliceR intR 3) [v124] x123, Box b140 3 [.int .i64 x125], Box b107 29 [(.slice none 0 0), (.slice none 0 0)], Box b103 32 [.int .i64 a0, u1]] := hS.top 1 rfl
        replace hS := hS.int x125
        replace hS := hS.one
        refine el_append rfl (by decide) rfl (by decide) hS rfl rfl rfl (by simp) hrow145 hx144 (by decide) ?_
        intro w142 v143 hS
        refine el_pv (v := v143) (pv_assign rfl) (by decide) ?_
        refine el_nil ?_
        refine hQ137 _ _ _ ?_
        refine inb_n ?_
        refine hQ136 _ _ _ ?_
        refine thn_n ?_
        replace hS : Sat w0 w142 [Own (sliceR intR 3) [v143] x144, Box b107 29 [(.slice none 0 0), (.slice none 0 0)], Box b103 32 [.int .i64 a0, u1]] := hS.rems 4 [1] rfl
        refine cw_reg ?_
        refine el_pv (v := .int .i64 x125) (pv_move he129) (by decide) ?_
        replace hF := ob hF
        obtain ⟨x147, hx147, hF⟩ := hF
        refine el_pv (v := .int .i64 x147) (pv_add rfl rfl hx147) (by decide) ?_
        refine el_pv (v := .int .i64 x147) (pv_assign rfl) (by decide) ?_
        refine el_nil ?_
        refine hQ132 _ _ _ ?_
        refine thn_n ?_
        replace hS := hS.keep 3
        exact ⟨v143, x144, x147, he126, he127, rfl, rfl, hS, hF⟩
      · refine cw_cond_f rfl hb135 ?_
        refine cw_exit ?_
        refine hQ133 _ _ _ ?_
        refine thn_x ?_
        refine hQ132 _ _ _ ?_
        refine thn_x ?_
        replace hF := exB hF hK122
        refine hQ119 _ _ _ ?_
        refine inb_s ?_
        refine hQ117 _ _ _ ?_
        refine thn_n ?_
        refine cw_seq ?_
        refine cw_gen ?_
        intro Q148 hQ148
        refine cw_reg ?_
        refine el_pv (v := v124) (pv_move he128) (by decide) ?_
        refine el_pv (v := .pointer (some ⟨b103, 0 + 1, none⟩)) (pv_fieldAddr he126) (by decide) ?_
        refine el_pv (v := u1) (pv_loadc rfl ((hS.boxAt 2 rfl) 1 _ rfl)) (by decide) ?_
        replace hF := ob hF
        obtain ⟨r149, hr149, hF⟩ := hF
        refine el_call goes48 (impl_factorized_ok (hS.rdAt (R := (sliceR intR 3)) 0 rfl) (hS.up ha1) hr149) (congrArg List.toArray (mapc rfl (mapc rfl rfl))) (by decide) ?_
        rintro _ w154 ⟨v150, v151, rfl, hS'⟩
        refine ⟨_, rfl, ?_⟩
        have hx155 := hS'.below
        replace hS := hS.call2 hS'
        refine el_storev (hS.top 3 rfl) he127 [v150, v151] rfl rfl (of_decide_eq_true rfl) (all_cons (oc (hS.rdAt (R := (sliceR intR 3)) 0 rfl)) (all_cons (oc (hS.rdAt (R := (sliceR (pairR (sliceR intR 3) (sliceR intR 3)) 84)) 1 rfl)) rfl)) ?_
        intro w156 hS
        replace hS : Sat w0 w156 [Box b107 29 [v150, v151], Own (sliceR intR 3) [v150] r149.1, Own (sliceR (pairR (sliceR intR 3) (sliceR intR 3)) 84) [v151] r149.2, Own (sliceR intR 3) [v124] x123, Box b103 32 [.int .i64 a0, u1]] := hS
        refine el_pv (v := .bool true) (pv_assign rfl) (by decide) ?_
        refine el_nil ?_
        refine hQ148 _ _ _ ?_
        refine thn_n ?_
        refine cw_ret ?_
        refine finCT (cs := [v150, v151]) rfl he127 rfl (boxc0 (hS.boxAt 0 rfl)) rfl ?_
        replace hS : Sat w0 w156 [Own (sliceR intR 3) [v150] r149.1, Own (sliceR (pairR (sliceR intR 3) (sliceR intR 3)) 84) [v151] r149.2, Box b107 29 [v150, v151], Own (sliceR intR 3) [v124] x123, Box b103 32 [.int .i64 a0, u1]] := hS.tops 5 [1, 2] rfl
        have hr := Option.some.inj hF
        exact ⟨v150, v151, congrArg (fun (r : (List Int × List (List Int × List Int)) × Bool) => Ending.returned (.tuple #[.agg #[v150, v151], .bool r.2])) hr, Eq.mp (congrArg (fun (r : (List Int × List (List Int × List Int)) × Bool) => Sat w0 w156 [Own (sliceR intR 3) [v150] r.1.1, Own (sliceR (pairR (sliceR intR 3) (sliceR intR 3)) 84) [v151] r.1.2]) hr) (hS.keep 2)⟩
  · refine cw_cond_t rfl (bnot_f hb115) ?_
    refine cw_seq ?_
    refine cw_gen ?_
    intro Q157 hQ157
    replace hS : Sat w0 w113 [Box b107 29 [(.slice none 0 0), (.slice none 0 0)]] := hS.rems 2 [1] rfl
    refine cw_reg ?_
    refine el_pv (v := .agg #[(.slice none 0 0), (.slice none 0 0)]) (pv_build [] [(.slice none 0 0), (.slice none 0 0)] rfl rfl) (by decide) ?_
    refine el_storev (hS.top 0 rfl) rfl [(.slice none 0 0), (.slice none 0 0)] rfl rfl (of_decide_eq_true rfl) (all_cons rfl (all_cons rfl rfl)) ?_
    intro w158 hS
    replace hS : Sat w0 w158 [Box b107 29 [(.slice none 0 0), (.slice none 0 0)]] := hS
    refine el_pv (v := .bool false) (pv_assign rfl) (by decide) ?_
    refine el_nil ?_
    refine hQ157 _ _ _ ?_
    refine thn_n ?_
    refine cw_ret ?_
    refine hQ110 _ _ _ ?_
    refine thn_r ?_
    replace hS := hS.nil intR 3
    replace hS := hS.nil (pairR (sliceR intR 3) (sliceR intR 3)) 84
    refine finCT (cs := [(.slice none 0 0), (.slice none 0 0)]) rfl rfl rfl (boxc0 (hS.boxAt 2 rfl)) rfl ?_
    replace hS : Sat w0 w158 [Own (sliceR intR 3) [(.slice none 0 0)] [], Own (sliceR (pairR (sliceR intR 3) (sliceR intR 3)) 84) [(.slice none 0 0)] [], Box b107 29 [(.slice none 0 0), (.slice none 0 0)]] := hS.tops 3 [1, 0] rfl
    have hr := Option.some.inj hF
    exact ⟨(.slice none 0 0), (.slice none 0 0), congrArg (fun (r : (List Int × List (List Int × List Int)) × Bool) => Ending.returned (.tuple #[.agg #[(.slice none 0 0), (.slice none 0 0)], .bool r.2])) hr, Eq.mp (congrArg (fun (r : (List Int × List (List Int × List Int)) × Bool) => Sat w0 w158 [Own (sliceR intR 3) [(.slice none 0 0)] r.1.1, Own (sliceR (pairR (sliceR intR 3) (sliceR intR 3)) 84) [(.slice none 0 0)] r.1.2]) hr) (hS.keep 2)⟩
set_option maxHeartbeats 4000000 in
theorem laws_heldFactorNodeS_ok {w0 : World} {u0 : Value} {a0 : List (List Int × List Int)} {a1 : Int} (ha0 : (sliceR (pairR (sliceR intR 3) (sliceR intR 3)) 84).rd w0 [u0] a0) {N : Nat} {r : Int} (hF : laws_heldFactorNodeS N a0 a1 = some r) :
    Calls Try.prog 53 #[u0, .int .i64 a1] w0 fun e w' => e = .returned (.int .i64 r) ∧ Ext w0 w' := by
  unfold laws_heldFactorNodeS at hF
  refine calls_E Try.func53 rfl rfl (of_decide_eq_true rfl) ?_
  have hS := Sat.start w0
  refine cw_seq ?_
  refine cw_gen ?_
  intro Q101 hQ101
  refine cw_reg ?_
  refine el_pv (v := .int .i64 0) (pv_assign rfl) (by decide) ?_
  refine el_nil ?_
  refine hQ101 _ _ _ ?_
  refine thn_n ?_
  refine cw_seq ?_
  refine cw_gen ?_
  intro Q102 hQ102
  refine cw_seq ?_
  refine cw_gen ?_
  intro Q103 hQ103
  refine cw_reg ?_
  refine el_pv (v := .int .i64 0) (pv_assign rfl) (by decide) ?_
  refine el_nil ?_
  refine hQ103 _ _ _ ?_
  refine thn_n ?_
  refine cw_block ?_
  refine cw_gen ?_
  intro Q104 hQ104
  obtain ⟨s105, hL, hK106⟩ := ob hF
  refine cw_loopS (fun k e w => ∃ (x107 : Int), ∃ (x108 : Int), e 0 = u0 ∧ e 1 = .int .i64 x107 ∧ e 5 = .int .i64 x108 ∧ Sat w0 w [] ∧ laws_heldFactorNodeS_L1 N k a0 x107 x108 = some s105) N ?_ ?_ ?_
  · exact ⟨a1, 0, rfl, rfl, rfl, hS, hL⟩
  · rintro e w ⟨_, _, _, _, _, _, hz⟩; exact nomatch (show none = some _ from hz)
  · rintro k e113 w112 ⟨x107, x108, he109, he110, he111, hS, hF⟩
    refine cw_gen ?_
    intro Q114 hQ114
    refine cw_seq ?_
    refine cw_gen ?_
    intro Q115 hQ115
    refine cw_seq ?_
    refine cw_gen ?_
    intro Q116 hQ116
    refine cw_reg ?_
    refine el_pv (v := .int .i64 x108) (pv_move he111) (by decide) ?_
    refine el_pv (v := u0) (pv_move he109) (by decide) ?_
    refine el_pv (v := .int .i64 (a0.length : Int)) (pv_len rfl ha0) (by decide) ?_
    refine el_pv (v := .bool (decide (x108 < (a0.length : Int)))) (pv_lss rfl rfl) (by decide) ?_
    refine el_nil ?_
    refine hQ116 _ _ _ ?_
    refine thn_n ?_
    replace hF := oif hF
    rcases hF with ⟨hb117, hF⟩ | ⟨hb117, hF⟩
    · refine cw_cond_t rfl hb117 ?_
      refine cw_skip ?_
      refine hQ115 _ _ _ ?_
      refine thn_n ?_
      refine cw_seq ?_
      refine cw_gen ?_
      intro Q118 hQ118
      refine cw_block ?_
      refine cw_gen ?_
      intro Q119 hQ119
      refine cw_seq ?_
      refine cw_gen ?_
      intro Q120 hQ120
      refine cw_reg ?_
      refine el_pv (v := u0) (pv_move he109) (by decide) ?_
      refine el_pv (v := .int .i64 x108) (pv_move he111) (by decide) ?_
      replace hF := ob hF
      obtain ⟨x121, hx121, hF⟩ := hF
      refine el_index (wA := w0) rfl ha0 rfl (by decide) rfl hx121 (by decide) ?_
      intro b122 of123 c124 hr125 hm126
      obtain ⟨_, _, rfl, hr127, hr128⟩ := hr125
      obtain ⟨v129, rfl⟩ := slice_one hr127
      obtain ⟨v130, rfl⟩ := slice_one hr128
      refine el_pv (v := .pointer (some ⟨b122, of123 + 0, none⟩)) (pv_fieldAddr rfl) (by decide) ?_
      refine el_pv (v := v129) (pv_loadc rfl ((cells_up hS.below hm126) 0 _ rfl)) (by decide) ?_
      refine el_pv (v := .int .i64 x107) (pv_move he110) (by decide) ?_
      replace hF := ob hF
      obtain ⟨r131, hr131, hF⟩ := hF
      refine el_call goes36 (laws_heldIntS_ok (hS.up hr127) hr131) (congrArg List.toArray (mapc rfl (mapc rfl rfl))) (by decide) ?_
      rintro _ w132 ⟨rfl, hx133⟩
      refine ⟨_, rfl, ?_⟩
      replace hS := hS.ext hx133
      refine el_pv (v := .int .i64 r131) (pv_assign rfl) (by decide) ?_
      refine el_nil ?_
      refine hQ120 _ _ _ ?_
      refine thn_n ?_
      refine cw_seq ?_
      refine cw_gen ?_
      intro Q134 hQ134
      refine cw_seq ?_
      refine cw_gen ?_
      intro Q135 hQ135
      refine cw_reg ?_
      refine el_pv (v := .int .i64 r131) (pv_move rfl) (by decide) ?_
      refine el_pv (v := .bool (decide (r131 < 0))) (pv_lss rfl rfl) (by decide) ?_
      refine el_nil ?_
      refine hQ135 _ _ _ ?_
      refine thn_n ?_
      replace hF := oif hF
      rcases hF with ⟨hb136, hF⟩ | ⟨hb136, hF⟩
      · refine cw_cond_t rfl hb136 ?_
        refine cw_seq ?_
        refine cw_gen ?_
        intro Q137 hQ137
        refine cw_reg ?_
        refine el_pv (v := .int .i64 (-1)) (pv_assign rfl) (by decide) ?_
        refine el_nil ?_
        refine hQ137 _ _ _ ?_
        refine thn_n ?_
        refine cw_ret ?_
        refine hQ134 _ _ _ ?_
        refine thn_r ?_
        refine hQ119 _ _ _ ?_
        refine inb_r ?_
        refine hQ118 _ _ _ ?_
        refine thn_r ?_
        refine hQ114 _ _ _ ?_
        refine thn_r ?_
        refine hQ104 _ _ _ ?_
        refine inb_r ?_
        refine hQ102 _ _ _ ?_
        refine thn_r ?_
        replace hF := exL hF hK106
        refine fin1 rfl rfl ?_
        have hr := Option.some.inj hF
        exact ⟨congrArg (fun (r : Int) => Ending.returned (.int .i64 r)) hr, hS.below⟩
      · refine cw_cond_f rfl hb136 ?_
        refine cw_skip ?_
        refine hQ134 _ _ _ ?_
        refine thn_n ?_
        refine cw_seq ?_
        refine cw_gen ?_
        intro Q138 hQ138
        refine cw_reg ?_
        refine el_pv (v := u0) (pv_move he109) (by decide) ?_
        refine el_pv (v := .int .i64 x108) (pv_move he111) (by decide) ?_
        replace hF := ob hF
        obtain ⟨x139, hx139, hF⟩ := hF
        refine el_index (wA := w0) rfl ha0 rfl (by decide) rfl hx139 (by decide) ?_
        intro b140 of141 c142 hr143 hm144
        obtain ⟨_, _, rfl, hr145, hr146⟩ := hr143
        obtain ⟨v147, rfl⟩ := slice_one hr145
        obtain ⟨v148, rfl⟩ := slice_one hr146
        refine el_pv (v := .pointer (some ⟨b140, of141 + 1, none⟩)) (pv_fieldAddr rfl) (by decide) ?_
        refine el_pv (v := v148) (pv_loadc rfl ((cells_up hS.below hm144) 1 _ rfl)) (by decide) ?_
        refine el_pv (v := .int .i64 r131) (pv_move rfl) (by decide) ?_
        replace hF := ob hF
        obtain ⟨r149, hr149, hF⟩ := hF
        refine el_call goes36 (laws_heldIntS_ok (hS.up hr146) hr149) (congrArg List.toArray (mapc rfl (mapc rfl rfl))) (by decide) ?_
        rintro _ w150 ⟨rfl, hx151⟩
        refine ⟨_, rfl, ?_⟩
        replace hS := hS.ext hx151
        refine el_pv (v := .int .i64 r149) (pv_assign rfl) (by decide) ?_
        refine el_nil ?_
        refine hQ138 _ _ _ ?_
        refine thn_n ?_
        refine cw_seq ?_
        refine cw_gen ?_
        intro Q152 hQ152
        refine cw_reg ?_
        refine el_pv (v := .int .i64 r149) (pv_move rfl) (by decide) ?_
        refine el_pv (v := .bool (decide (r149 < 0))) (pv_lss rfl rfl) (by decide) ?_
        refine el_nil ?_
        refine hQ152 _ _ _ ?_
        refine thn_n ?_
        replace hF := oif hF
        rcases hF with ⟨hb153, hF⟩ | ⟨hb153, hF⟩
        · refine cw_cond_t rfl hb153 ?_
          refine cw_seq ?_
          refine cw_gen ?_
          intro Q154 hQ154
          refine cw_reg ?_
          refine el_pv (v := .int .i64 (-1)) (pv_assign rfl) (by decide) ?_
          refine el_nil ?_
          refine hQ154 _ _ _ ?_
          refine thn_n ?_
          refine cw_ret ?_
          refine hQ119 _ _ _ ?_
          refine inb_r ?_
          refine hQ118 _ _ _ ?_
          refine thn_r ?_
          refine hQ114 _ _ _ ?_
          refine thn_r ?_
          refine hQ104 _ _ _ ?_
          refine inb_r ?_
          refine hQ102 _ _ _ ?_
          refine thn_r ?_
          replace hF := exL hF hK106
          refine fin1 rfl rfl ?_
          have hr := Option.some.inj hF
          exact ⟨congrArg (fun (r : Int) => Ending.returned (.int .i64 r)) hr, hS.below⟩
        · refine cw_cond_f rfl hb153 ?_
          refine cw_skip ?_
          refine hQ119 _ _ _ ?_
          refine inb_n ?_
          refine hQ118 _ _ _ ?_
          refine thn_n ?_
          refine cw_reg ?_
          refine el_pv (v := .int .i64 x108) (pv_move he111) (by decide) ?_
          replace hF := ob hF
          obtain ⟨x155, hx155, hF⟩ := hF
          refine el_pv (v := .int .i64 x155) (pv_add rfl rfl hx155) (by decide) ?_
          refine el_pv (v := .int .i64 x155) (pv_assign rfl) (by decide) ?_
          refine el_nil ?_
          refine hQ114 _ _ _ ?_
          refine thn_n ?_
          replace hS := hS.keep 0
          exact ⟨r149, x155, he109, rfl, rfl, hS, hF⟩
    · refine cw_cond_f rfl hb117 ?_
      refine cw_exit ?_
      refine hQ115 _ _ _ ?_
      refine thn_x ?_
      refine hQ114 _ _ _ ?_
      refine thn_x ?_
      replace hF := exA hF hK106
      refine hQ104 _ _ _ ?_
      refine inb_s ?_
      refine hQ102 _ _ _ ?_
      refine thn_n ?_
      refine cw_seq ?_
      refine cw_gen ?_
      intro Q156 hQ156
      refine cw_reg ?_
      refine el_pv (v := .int .i64 x107) (pv_move he110) (by decide) ?_
      refine el_pv (v := .int .i64 x107) (pv_assign rfl) (by decide) ?_
      refine el_nil ?_
      refine hQ156 _ _ _ ?_
      refine thn_n ?_
      refine cw_ret ?_
      refine fin1 rfl rfl ?_
      have hr := Option.some.inj hF
      exact ⟨congrArg (fun (r : Int) => Ending.returned (.int .i64 r)) hr, hS.below⟩
set_option maxHeartbeats 4000000 in
theorem laws_heldFactorization_ok {w0 : World} {u0 : Value} {a0 : List Int} {u1 : Value} {a1 : List (List Int × List Int)} {a2 : Int} (ha0 : (sliceR intR 3).rd w0 [u0] a0) (ha1 : (sliceR (pairR (sliceR intR 3) (sliceR intR 3)) 84).rd w0 [u1] a1) {N : Nat} {r : Int} (hF : laws_heldFactorization N a0 a1 a2 = some r) :
    Calls Try.prog 17 #[.agg #[u0, u1], .int .i64 a2] w0 fun e w' => e = .returned (.int .i64 r) ∧ Ext w0 w' := by
  unfold laws_heldFactorization at hF
  refine calls_E Try.func17 rfl rfl (of_decide_eq_true rfl) ?_
  have hS := Sat.start w0
  refine cw_seq ?_
  refine cw_gen ?_
  intro Q101 hQ101
  refine cw_reg ?_
  refine el_box [u0, u1] rfl hS (by decide) ?_
  intro w102 b103 hS hx104
  refine el_pv (v := .int .i64 0) (pv_assign rfl) (by decide) ?_
  refine el_nil ?_
  refine hQ101 _ _ _ ?_
  refine thn_n ?_
  refine cw_seq ?_
  refine cw_gen ?_
  intro Q106 hQ106
  refine cw_reg ?_
  refine el_pv (v := .pointer (some ⟨b103, 0 + 0, none⟩)) (pv_fieldAddr rfl) (by decide) ?_
  refine el_pv (v := u0) (pv_loadc rfl ((hS.boxAt 0 rfl) 0 _ rfl)) (by decide) ?_
  refine el_pv (v := .int .i64 a2) (pv_move rfl) (by decide) ?_
  replace hF := ob hF
  obtain ⟨r107, hr107, hF⟩ := hF
  refine el_call goes36 (laws_heldIntS_ok (hS.up ha0) hr107) (congrArg List.toArray (mapc rfl (mapc rfl rfl))) (by decide) ?_
  rintro _ w108 ⟨rfl, hx109⟩
  refine ⟨_, rfl, ?_⟩
  replace hS := hS.ext hx109
  refine el_pv (v := .int .i64 r107) (pv_assign rfl) (by decide) ?_
  refine el_nil ?_
  refine hQ106 _ _ _ ?_
  refine thn_n ?_
  refine cw_seq ?_
  refine cw_gen ?_
  intro Q110 hQ110
  refine cw_seq ?_
  refine cw_gen ?_
  intro Q111 hQ111
  refine cw_reg ?_
  refine el_pv (v := .int .i64 r107) (pv_move rfl) (by decide) ?_
  refine el_pv (v := .bool (decide (r107 < 0))) (pv_lss rfl rfl) (by decide) ?_
  refine el_nil ?_
  refine hQ111 _ _ _ ?_
  refine thn_n ?_
  replace hF := oif hF
  rcases hF with ⟨hb112, hF⟩ | ⟨hb112, hF⟩
  · refine cw_cond_t rfl hb112 ?_
    refine cw_seq ?_
    refine cw_gen ?_
    intro Q113 hQ113
    replace hS : Sat w0 w108 [] := hS.rems 1 [0] rfl
    refine cw_reg ?_
    refine el_pv (v := .int .i64 (-1)) (pv_assign rfl) (by decide) ?_
    refine el_nil ?_
    refine hQ113 _ _ _ ?_
    refine thn_n ?_
    refine cw_ret ?_
    refine hQ110 _ _ _ ?_
    refine thn_r ?_
    refine fin1 rfl rfl ?_
    have hr := Option.some.inj hF
    exact ⟨congrArg (fun (r : Int) => Ending.returned (.int .i64 r)) hr, hS.below⟩
  · refine cw_cond_f rfl hb112 ?_
    refine cw_skip ?_
    refine hQ110 _ _ _ ?_
    refine thn_n ?_
    refine cw_seq ?_
    refine cw_gen ?_
    intro Q114 hQ114
    refine cw_reg ?_
    refine el_pv (v := .pointer (some ⟨b103, 0 + 1, none⟩)) (pv_fieldAddr rfl) (by decide) ?_
    refine el_pv (v := u1) (pv_loadc rfl ((hS.boxAt 0 rfl) 1 _ rfl)) (by decide) ?_
    refine el_pv (v := .int .i64 r107) (pv_move rfl) (by decide) ?_
    replace hF := ob hF
    obtain ⟨r115, hr115, hF⟩ := hF
    refine el_call goes53 (laws_heldFactorNodeS_ok (hS.up ha1) hr115) (congrArg List.toArray (mapc rfl (mapc rfl rfl))) (by decide) ?_
    rintro _ w116 ⟨rfl, hx117⟩
    refine ⟨_, rfl, ?_⟩
    replace hS := hS.ext hx117
    refine el_pv (v := .int .i64 r115) (pv_assign rfl) (by decide) ?_
    refine el_nil ?_
    refine hQ114 _ _ _ ?_
    refine thn_n ?_
    refine cw_seq ?_
    refine cw_gen ?_
    intro Q118 hQ118
    refine cw_seq ?_
    refine cw_gen ?_
    intro Q119 hQ119
    replace hS : Sat w0 w116 [] := hS.rems 1 [0] rfl
    refine cw_reg ?_
    refine el_pv (v := .int .i64 r115) (pv_move rfl) (by decide) ?_
    refine el_pv (v := .bool (decide (r115 < 0))) (pv_lss rfl rfl) (by decide) ?_
    refine el_nil ?_
    refine hQ119 _ _ _ ?_
    refine thn_n ?_
    replace hF := oif hF
    rcases hF with ⟨hb120, hF⟩ | ⟨hb120, hF⟩
    · refine cw_cond_t rfl hb120 ?_
      refine cw_seq ?_
      refine cw_gen ?_
      intro Q121 hQ121
      refine cw_reg ?_
      refine el_pv (v := .int .i64 (-1)) (pv_assign rfl) (by decide) ?_
      refine el_nil ?_
      refine hQ121 _ _ _ ?_
      refine thn_n ?_
      refine cw_ret ?_
      refine hQ118 _ _ _ ?_
      refine thn_r ?_
      refine fin1 rfl rfl ?_
      have hr := Option.some.inj hF
      exact ⟨congrArg (fun (r : Int) => Ending.returned (.int .i64 r)) hr, hS.below⟩
    · refine cw_cond_f rfl hb120 ?_
      refine cw_skip ?_
      refine hQ118 _ _ _ ?_
      refine thn_n ?_
      refine cw_seq ?_
      refine cw_gen ?_
      intro Q122 hQ122
      refine cw_reg ?_
      refine el_pv (v := .int .i64 r115) (pv_move rfl) (by decide) ?_
      refine el_pv (v := .int .i64 r115) (pv_assign rfl) (by decide) ?_
      refine el_nil ?_
      refine hQ122 _ _ _ ?_
      refine thn_n ?_
      refine cw_ret ?_
      refine fin1 rfl rfl ?_
      have hr := Option.some.inj hF
      exact ⟨congrArg (fun (r : Int) => Ending.returned (.int .i64 r)) hr, hS.below⟩
set_option maxHeartbeats 4000000 in
theorem laws_FnExactFactorizeRelation_ok {w0 : World} {a0 : Int} {u1 : Value} {a1 : List (List Int)} (ha1 : (sliceR (sliceR intR 3) 26).rd w0 [u1] a1) {N : Nat} {r : Bool} (hF : laws_FnExactFactorizeRelation N a0 a1 = some r) :
    Calls Try.prog 3 #[.agg #[.int .i64 a0, u1]] w0 fun e w' => e = .returned (.bool r) ∧ Ext w0 w' := by
  unfold laws_FnExactFactorizeRelation at hF
  refine calls_E Try.func3 rfl rfl (of_decide_eq_true rfl) ?_
  have hS := Sat.start w0
  refine cw_seq ?_
  refine cw_gen ?_
  intro Q101 hQ101
  refine cw_reg ?_
  refine el_box [.int .i64 a0, u1] rfl hS (by decide) ?_
  intro w102 b103 hS hx104
  refine el_pv (v := .bool false) (pv_assign rfl) (by decide) ?_
  refine el_nil ?_
  refine hQ101 _ _ _ ?_
  refine thn_n ?_
  refine cw_seq ?_
  refine cw_gen ?_
  intro Q106 hQ106
  refine cw_reg ?_
  refine el_pv (v := .int .i64 1048576) (pv_assign rfl) (by decide) ?_
  refine el_nil ?_
  refine hQ106 _ _ _ ?_
  refine thn_n ?_
  refine cw_seq ?_
  refine cw_gen ?_
  intro Q107 hQ107
  refine cw_reg ?_
  refine el_pv (v := .agg #[.int .i64 a0, u1]) (pv_loada (cs := [.int .i64 a0, u1]) rfl rfl (boxc0 (hS.boxAt 0 rfl))) (by decide) ?_
  refine el_pv (v := .int .i64 1048576) (pv_move rfl) (by decide) ?_
  replace hF := ob hF
  obtain ⟨r108, hr108, hF⟩ := hF
  refine el_call goes9 (laws_szRelation_ok (hS.up ha1) hr108) (congrArg List.toArray (mapc rfl (mapc rfl rfl))) (by decide) ?_
  rintro _ w109 ⟨rfl, hx110⟩
  refine ⟨_, rfl, ?_⟩
  replace hS := hS.ext hx110
  refine el_pv (v := .int .i64 r108) (pv_assign rfl) (by decide) ?_
  refine el_nil ?_
  refine hQ107 _ _ _ ?_
  refine thn_n ?_
  refine cw_seq ?_
  refine cw_gen ?_
  intro Q111 hQ111
  refine cw_seq ?_
  refine cw_gen ?_
  intro Q112 hQ112
  refine cw_reg ?_
  refine el_pv (v := .int .i64 r108) (pv_move rfl) (by decide) ?_
  refine el_pv (v := .bool (decide (r108 < 0))) (pv_lss rfl rfl) (by decide) ?_
  refine el_nil ?_
  refine hQ112 _ _ _ ?_
  refine thn_n ?_
  replace hF := oif hF
  rcases hF with ⟨hb113, hF⟩ | ⟨hb113, hF⟩
  · refine cw_cond_t rfl hb113 ?_
    refine cw_seq ?_
    refine cw_gen ?_
    intro Q114 hQ114
    replace hS : Sat w0 w109 [] := hS.rems 1 [0] rfl
    refine cw_reg ?_
    refine el_pv (v := .bool true) (pv_assign rfl) (by decide) ?_
    refine el_nil ?_
    refine hQ114 _ _ _ ?_
    refine thn_n ?_
    refine cw_ret ?_
    refine hQ111 _ _ _ ?_
    refine thn_r ?_
    refine fin1 rfl rfl ?_
    have hr := Option.some.inj hF
    exact ⟨congrArg (fun (r : Bool) => Ending.returned (.bool r)) hr, hS.below⟩
  · refine cw_cond_f rfl hb113 ?_
    refine cw_skip ?_
    refine hQ111 _ _ _ ?_
    refine thn_n ?_
    refine cw_seq ?_
    refine cw_gen ?_
    intro Q115 hQ115
    refine cw_reg ?_
    refine el_pv (v := .agg #[.int .i64 a0, u1]) (pv_loada (cs := [.int .i64 a0, u1]) rfl rfl (boxc0 (hS.boxAt 0 rfl))) (by decide) ?_
    replace hF := ob hF
    obtain ⟨r116, hr116, hF⟩ := hF
    refine el_call goes11 (laws_toRelation_ok (hS.up ha1) hr116) (congrArg List.toArray (mapc rfl rfl)) (by decide) ?_
    rintro _ w119 ⟨v117, rfl, hS'⟩
    refine ⟨_, rfl, ?_⟩
    have hx120 := hS'.below
    replace hS := hS.call1 hS'
    replace hF := ob hF
    obtain ⟨r121, hr121, hF⟩ := hF
    refine el_call goes10 (spec_FactorizeRelation_ok (hS.rdAt (R := (sliceR (sliceR intR 3) 26)) 0 rfl) hr121) (congrArg List.toArray (mapc rfl rfl)) (by decide) ?_
    rintro _ w126 ⟨v122, v123, rfl, hS'⟩
    refine ⟨_, rfl, ?_⟩
    have hx127 := hS'.below
    replace hS := hS.call2 hS'
    refine el_pv (v := .tuple #[.agg #[v122, v123], .bool r121.2]) (pv_move rfl) (by decide) ?_
    refine el_pv (v := .agg #[v122, v123]) (pv_extract rfl rfl) (by decide) ?_
    refine el_pv (v := .bool r121.2) (pv_extract rfl rfl) (by decide) ?_
    refine el_alloc hS (by decide) ?_
    intro w128 b129 hS hx130
    refine el_storev (hS.top 0 rfl) rfl [v122, v123] rfl rfl (of_decide_eq_true rfl) (all_cons (oc (hS.rdAt (R := (sliceR intR 3)) 1 rfl)) (all_cons (oc (hS.rdAt (R := (sliceR (pairR (sliceR intR 3) (sliceR intR 3)) 84)) 2 rfl)) rfl)) ?_
    intro w132 hS
    replace hS : Sat w0 w132 [Box b129 29 [v122, v123], Own (sliceR intR 3) [v122] r121.1.1, Own (sliceR (pairR (sliceR intR 3) (sliceR intR 3)) 84) [v123] r121.1.2, Own (sliceR (sliceR intR 3) 26) [v117] r116.2, Box b103 24 [.int .i64 a0, u1]] := hS
    refine el_pv (v := .bool r121.2) (pv_assign rfl) (by decide) ?_
    refine el_nil ?_
    refine hQ115 _ _ _ ?_
    refine thn_n ?_
    refine cw_seq ?_
    refine cw_gen ?_
    intro Q133 hQ133
    replace hS : Sat w0 w132 [Box b129 29 [v122, v123], Own (sliceR intR 3) [v122] r121.1.1, Own (sliceR (pairR (sliceR intR 3) (sliceR intR 3)) 84) [v123] r121.1.2, Box b103 24 [.int .i64 a0, u1]] := hS.rems 5 [3] rfl
    refine cw_reg ?_
    refine el_pv (v := .agg #[.int .i64 a0, u1]) (pv_loada (cs := [.int .i64 a0, u1]) rfl rfl (boxc0 (hS.boxAt 3 rfl))) (by decide) ?_
    replace hF := ob hF
    obtain ⟨r134, hr134, hF⟩ := hF
    refine el_call goes11 (laws_toRelation_ok (hS.up ha1) hr134) (congrArg List.toArray (mapc rfl rfl)) (by decide) ?_
    rintro _ w137 ⟨v135, rfl, hS'⟩
    refine ⟨_, rfl, ?_⟩
    have hx138 := hS'.below
    replace hS := hS.call1 hS'
    refine el_alloc hS (by decide) ?_
    intro w139 b140 hS hx141
    refine el_storev (hS.top 0 rfl) rfl [.int .i64 r134.1, v135] rfl rfl (of_decide_eq_true rfl) (all_cons rfl (all_cons (oc (hS.rdAt (R := (sliceR (sliceR intR 3) 26)) 1 rfl)) rfl)) ?_
    intro w143 hS
    replace hS : Sat w0 w143 [Box b140 32 [.int .i64 r134.1, v135], Own (sliceR (sliceR intR 3) 26) [v135] r134.2, Box b129 29 [v122, v123], Own (sliceR intR 3) [v122] r121.1.1, Own (sliceR (pairR (sliceR intR 3) (sliceR intR 3)) 84) [v123] r121.1.2, Box b103 24 [.int .i64 a0, u1]] := hS
    refine el_nil ?_
    refine hQ133 _ _ _ ?_
    refine thn_n ?_
    refine cw_seq ?_
    refine cw_gen ?_
    intro Q144 hQ144
    refine cw_reg ?_
    refine el_pv (v := .agg #[.int .i64 r134.1, v135]) (pv_loada (cs := [.int .i64 r134.1, v135]) rfl rfl (boxc0 (hS.boxAt 0 rfl))) (by decide) ?_
    replace hF := ob hF
    obtain ⟨r145, hr145, hF⟩ := hF
    refine el_call goes12 (impl_FactorizeRelation_ok (hS.rdAt (R := (sliceR (sliceR intR 3) 26)) 1 rfl) hr145) (congrArg List.toArray (mapc rfl rfl)) (by decide) ?_
    rintro _ w150 ⟨v146, v147, rfl, hS'⟩
    refine ⟨_, rfl, ?_⟩
    have hx151 := hS'.below
    replace hS := hS.call2 hS'
    refine el_pv (v := .tuple #[.agg #[v146, v147], .bool r145.2]) (pv_move rfl) (by decide) ?_
    refine el_pv (v := .agg #[v146, v147]) (pv_extract rfl rfl) (by decide) ?_
    refine el_pv (v := .bool r145.2) (pv_extract rfl rfl) (by decide) ?_
    refine el_alloc hS (by decide) ?_
    intro w152 b153 hS hx154
    refine el_storev (hS.top 0 rfl) rfl [v146, v147] rfl rfl (of_decide_eq_true rfl) (all_cons (oc (hS.rdAt (R := (sliceR intR 3)) 1 rfl)) (all_cons (oc (hS.rdAt (R := (sliceR (pairR (sliceR intR 3) (sliceR intR 3)) 84)) 2 rfl)) rfl)) ?_
    intro w156 hS
    replace hS : Sat w0 w156 [Box b153 29 [v146, v147], Own (sliceR intR 3) [v146] r145.1.1, Own (sliceR (pairR (sliceR intR 3) (sliceR intR 3)) 84) [v147] r145.1.2, Box b140 32 [.int .i64 r134.1, v135], Own (sliceR (sliceR intR 3) 26) [v135] r134.2, Box b129 29 [v122, v123], Own (sliceR intR 3) [v122] r121.1.1, Own (sliceR (pairR (sliceR intR 3) (sliceR intR 3)) 84) [v123] r121.1.2, Box b103 24 [.int .i64 a0, u1]] := hS
    refine el_pv (v := .bool r145.2) (pv_assign rfl) (by decide) ?_
    refine el_nil ?_
    refine hQ144 _ _ _ ?_
    refine thn_n ?_
    refine cw_seq ?_
    refine cw_gen ?_
    intro Q157 hQ157
    refine cw_seq ?_
    refine cw_gen ?_
    intro Q158 hQ158
    refine cw_reg ?_
    refine el_pv (v := .agg #[v146, v147]) (pv_loada (cs := [v146, v147]) rfl rfl (boxc0 (hS.boxAt 0 rfl))) (by decide) ?_
    refine el_pv (v := .agg #[v122, v123]) (pv_loada (cs := [v122, v123]) rfl rfl (boxc0 (hS.boxAt 5 rfl))) (by decide) ?_
    replace hF := ob hF
    obtain ⟨r159, hr159, hF⟩ := hF
    refine el_call goes13 (laws_eqFactorization_ok (hS.rdAt (R := (sliceR intR 3)) 1 rfl) (hS.rdAt (R := (sliceR (pairR (sliceR intR 3) (sliceR intR 3)) 84)) 2 rfl) (hS.rdAt (R := (sliceR intR 3)) 6 rfl) (hS.rdAt (R := (sliceR (pairR (sliceR intR 3) (sliceR intR 3)) 84)) 7 rfl) hr159) (congrArg List.toArray (mapc rfl (mapc rfl rfl))) (by decide) ?_
    rintro _ w160 ⟨rfl, hx161⟩
    refine ⟨_, rfl, ?_⟩
    replace hS := hS.ext hx161
    refine el_pv (v := .bool (!r159)) (pv_not rfl) (by decide) ?_
    refine el_pv (v := .bool (!r159)) (pv_move rfl) (by decide) ?_
    replace hF := oif hF
    rcases hF with ⟨hb162, hF⟩ | ⟨hb162, hF⟩
    · refine el_on rfl (bnot_t hb162) ?_
      refine el_pv (v := .bool r145.2) (pv_move rfl) (by decide) ?_
      refine el_on rfl (bnot_t hb162) ?_
      refine el_pv (v := .bool r121.2) (pv_move rfl) (by decide) ?_
      refine el_on rfl (bnot_t hb162) ?_
      refine el_pv (v := .bool (r145.2 != r121.2)) (pv_neqB Try.underlying4 rfl rfl) (by decide) ?_
      refine el_pv (v := .bool (r145.2 != r121.2)) (pv_pick_f rfl (bnot_t hb162) rfl) (by decide) ?_
      refine el_nil ?_
      refine hQ158 _ _ _ ?_
      refine thn_n ?_
      replace hF := oif hF
      rcases hF with ⟨hb163, hF⟩ | ⟨hb163, hF⟩
      · refine cw_cond_t rfl hb163 ?_
        refine cw_seq ?_
        refine cw_gen ?_
        intro Q164 hQ164
        replace hS : Sat w0 w160 [] := hS.rems 9 [0, 1, 2, 3, 4, 5, 6, 7, 8] rfl
        refine cw_reg ?_
        refine el_pv (v := .bool false) (pv_assign rfl) (by decide) ?_
        refine el_nil ?_
        refine hQ164 _ _ _ ?_
        refine thn_n ?_
        refine cw_ret ?_
        refine hQ157 _ _ _ ?_
        refine thn_r ?_
        refine fin1 rfl rfl ?_
        have hr := Option.some.inj hF
        exact ⟨congrArg (fun (r : Bool) => Ending.returned (.bool r)) hr, hS.below⟩
      · refine cw_cond_f rfl hb163 ?_
        refine cw_skip ?_
        refine hQ157 _ _ _ ?_
        refine thn_n ?_
        refine cw_seq ?_
        refine cw_gen ?_
        intro Q165 hQ165
        refine cw_seq ?_
        refine cw_gen ?_
        intro Q166 hQ166
        obtain ⟨C, hCd⟩ : ∃ C : World → Prop, ∀ w, C w ↔ ∃ G, Sat w0 w ([Box b140 32 [.int .i64 r134.1, v135], Box b103 24 [.int .i64 a0, u1], Own (sliceR (sliceR intR 3) 26) [v135] r134.2] ++ G) := ⟨_, fun _ => Iff.rfl⟩
        refine cw_regb [0, 1, 2, 3, 4] C (by kernel_rfl) ?_
        intro w167 hx168
        replace hS := hS.ext hx168
        replace hS : Sat w0 w167 [Box b140 32 [.int .i64 r134.1, v135], Box b103 24 [.int .i64 a0, u1], Own (sliceR (sliceR intR 3) 26) [v135] r134.2, Box b153 29 [v146, v147], Own (sliceR intR 3) [v146] r145.1.1, Own (sliceR (pairR (sliceR intR 3) (sliceR intR 3)) 84) [v147] r145.1.2, Box b129 29 [v122, v123], Own (sliceR intR 3) [v122] r121.1.1, Own (sliceR (pairR (sliceR intR 3) (sliceR intR 3)) 84) [v123] r121.1.2] := hS.tops 9 [3, 8, 4] rfl
        have hC := (hCd _).2 ⟨_, hS⟩
        refine al_p (v := .agg #[.int .i64 r134.1, v135]) (by kernel_rfl) 0 rfl rfl (by decide) hC (by kernel_rfl) (by kernel_rfl) (sv_on rfl (fun w' hw' => by obtain ⟨_, hS⟩ := (hCd _).1 hw'; exact (pv_loada (cs := [.int .i64 r134.1, v135]) rfl rfl (boxc0 (hS.boxAt 0 rfl))))) ?_
        refine al_one 1 (by kernel_rfl) rfl ?_
        refine el_pv (v := .agg #[.int .i64 a0, u1]) (pv_loada (cs := [.int .i64 a0, u1]) rfl rfl (boxc0 (hS.boxAt 1 rfl))) (by decide) ?_
        refine el_nil ?_
        refine ⟨fun _ => hC, ?_⟩
        refine al_one 2 (by kernel_rfl) rfl ?_
        replace hF := ob hF
        obtain ⟨r169, hr169, hF⟩ := hF
        refine el_call goes11 (laws_toRelation_ok (hS.up ha1) hr169) (congrArg List.toArray (mapc rfl rfl)) (by decide) ?_
        rintro _ w172 ⟨v170, rfl, hS'⟩
        refine ⟨_, rfl, ?_⟩
        have hx173 := hS'.below
        replace hS := hS.call1 hS'
        refine el_nil ?_
        replace hS : Sat w0 w172 [Box b140 32 [.int .i64 r134.1, v135], Box b103 24 [.int .i64 a0, u1], Own (sliceR (sliceR intR 3) 26) [v135] r134.2, Own (sliceR (sliceR intR 3) 26) [v170] r169.2, Box b153 29 [v146, v147], Own (sliceR intR 3) [v146] r145.1.1, Own (sliceR (pairR (sliceR intR 3) (sliceR intR 3)) 84) [v147] r145.1.2, Box b129 29 [v122, v123], Own (sliceR intR 3) [v122] r121.1.1, Own (sliceR (pairR (sliceR intR 3) (sliceR intR 3)) 84) [v123] r121.1.2] := hS.tops 10 [1, 2, 3] rfl
        have hC := (hCd _).2 ⟨_, hS⟩
        refine ⟨fun _ => hC, ?_⟩
        refine al_one 3 (by kernel_rfl) rfl ?_
        replace hF := ob hF
        obtain ⟨r174, hr174, hF⟩ := hF
        refine el_call goes14 (laws_eqRelation_ok (hS.rdAt (R := (sliceR (sliceR intR 3) 26)) 2 rfl) (hS.rdAt (R := (sliceR (sliceR intR 3) 26)) 3 rfl) hr174) (congrArg List.toArray (mapc rfl (mapc rfl rfl))) (by decide) ?_
        rintro _ w175 ⟨rfl, hx176⟩
        refine ⟨_, rfl, ?_⟩
        replace hS := hS.ext hx176
        refine el_nil ?_
        have hC := (hCd _).2 ⟨_, hS⟩
        refine ⟨fun _ => hC, ?_⟩
        refine al_one 4 (by kernel_rfl) rfl ?_
        refine el_pv (v := .bool (!r174)) (pv_not rfl) (by decide) ?_
        refine el_nil ?_
        refine ⟨fun _ => hC, ?_⟩
        refine al_nil (by kernel_rfl) ?_
        refine hQ166 _ _ _ ?_
        refine thn_n ?_
        replace hF := oif hF
        rcases hF with ⟨hb177, hF⟩ | ⟨hb177, hF⟩
        · refine cw_cond_f rfl (bnot_t hb177) ?_
          refine cw_skip ?_
          refine hQ165 _ _ _ ?_
          refine thn_n ?_
          refine cw_seq ?_
          refine cw_gen ?_
          intro Q178 hQ178
          replace hS : Sat w0 w175 [Box b140 32 [.int .i64 r134.1, v135], Box b103 24 [.int .i64 a0, u1], Own (sliceR (sliceR intR 3) 26) [v135] r134.2, Box b153 29 [v146, v147], Own (sliceR intR 3) [v146] r145.1.1, Own (sliceR (pairR (sliceR intR 3) (sliceR intR 3)) 84) [v147] r145.1.2, Box b129 29 [v122, v123], Own (sliceR intR 3) [v122] r121.1.1, Own (sliceR (pairR (sliceR intR 3) (sliceR intR 3)) 84) [v123] r121.1.2] := hS.rems 10 [3] rfl
          refine cw_reg ?_
          refine el_pv (v := .int .i64 1) (pv_assign rfl) (by decide) ?_
          refine el_nil ?_
          refine hQ178 _ _ _ ?_
          refine thn_n ?_
          refine cw_seq ?_
          refine cw_gen ?_
          intro Q179 hQ179
          refine cw_reg ?_
          refine el_pv (v := .agg #[.int .i64 r134.1, v135]) (pv_loada (cs := [.int .i64 r134.1, v135]) rfl rfl (boxc0 (hS.boxAt 0 rfl))) (by decide) ?_
          refine el_pv (v := .int .i64 1) (pv_move rfl) (by decide) ?_
          replace hS : Sat w0 w175 [Own (sliceR (sliceR intR 3) 26) [v135] r134.2, Box b140 32 [.int .i64 r134.1, v135], Box b103 24 [.int .i64 a0, u1], Box b153 29 [v146, v147], Own (sliceR intR 3) [v146] r145.1.1, Own (sliceR (pairR (sliceR intR 3) (sliceR intR 3)) 84) [v147] r145.1.2, Box b129 29 [v122, v123], Own (sliceR intR 3) [v122] r121.1.1, Own (sliceR (pairR (sliceR intR 3) (sliceR intR 3)) 84) [v123] r121.1.2] := hS.tops 9 [2] rfl
          replace hF := ob hF
          obtain ⟨r180, hr180, hF⟩ := hF
          refine el_call goes15 (laws_markRelation_ok hS hr180) (congrArg List.toArray (mapc rfl (mapc rfl rfl))) (by decide) ?_
          rintro _ w181 ⟨rfl, hS⟩
          refine ⟨_, rfl, ?_⟩
          replace hS : Sat w0 w181 [Own (sliceR (sliceR intR 3) 26) [v135] r180.2, Box b140 32 [.int .i64 r134.1, v135], Box b103 24 [.int .i64 a0, u1], Box b153 29 [v146, v147], Own (sliceR intR 3) [v146] r145.1.1, Own (sliceR (pairR (sliceR intR 3) (sliceR intR 3)) 84) [v147] r145.1.2, Box b129 29 [v122, v123], Own (sliceR intR 3) [v122] r121.1.1, Own (sliceR (pairR (sliceR intR 3) (sliceR intR 3)) 84) [v123] r121.1.2] := hS
          refine el_pv (v := .int .i64 r180.1) (pv_assign rfl) (by decide) ?_
          refine el_nil ?_
          refine hQ179 _ _ _ ?_
          refine thn_n ?_
          refine cw_seq ?_
          refine cw_gen ?_
          intro Q182 hQ182
          refine cw_seq ?_
          refine cw_gen ?_
          intro Q183 hQ183
          replace hS : Sat w0 w181 [Box b103 24 [.int .i64 a0, u1], Box b153 29 [v146, v147], Own (sliceR intR 3) [v146] r145.1.1, Own (sliceR (pairR (sliceR intR 3) (sliceR intR 3)) 84) [v147] r145.1.2, Box b129 29 [v122, v123], Own (sliceR intR 3) [v122] r121.1.1, Own (sliceR (pairR (sliceR intR 3) (sliceR intR 3)) 84) [v123] r121.1.2] := hS.rems 9 [0, 1] rfl
          refine cw_reg ?_
          refine el_pv (v := .int .i64 r180.1) (pv_move rfl) (by decide) ?_
          refine el_pv (v := .bool (decide (r180.1 < 0))) (pv_lss rfl rfl) (by decide) ?_
          refine el_pv (v := .bool (decide (r180.1 < 0))) (pv_move rfl) (by decide) ?_
          replace hF := oif hF
          rcases hF with ⟨hb184, hF⟩ | ⟨hb184, hF⟩
          · refine el_off rfl hb184 rfl (by decide) ?_
            refine el_off rfl hb184 rfl (by decide) ?_
            refine el_off rfl hb184 rfl (by decide) ?_
            refine el_off rfl hb184 rfl (by decide) ?_
            refine el_pv (v := .bool true) (pv_pick_t rfl hb184 rfl) (by decide) ?_
            refine el_pv (v := .bool true) (pv_move rfl) (by decide) ?_
            refine el_off rfl rfl rfl (by decide) ?_
            refine el_off rfl rfl rfl (by decide) ?_
            refine el_off rfl rfl rfl (by decide) ?_
            refine el_pv (v := .bool true) (pv_pick_t rfl rfl rfl) (by decide) ?_
            refine el_nil ?_
            refine hQ183 _ _ _ ?_
            refine thn_n ?_
            refine cw_cond_t rfl rfl ?_
            refine cw_seq ?_
            refine cw_gen ?_
            intro Q185 hQ185
            replace hS : Sat w0 w181 [] := hS.rems 7 [0, 1, 2, 3, 4, 5, 6] rfl
            refine cw_reg ?_
            refine el_pv (v := .bool false) (pv_assign rfl) (by decide) ?_
            refine el_nil ?_
            refine hQ185 _ _ _ ?_
            refine thn_n ?_
            refine cw_ret ?_
            refine hQ182 _ _ _ ?_
            refine thn_r ?_
            refine fin1 rfl rfl ?_
            have hr := Option.some.inj hF
            exact ⟨congrArg (fun (r : Bool) => Ending.returned (.bool r)) hr, hS.below⟩
          · refine el_on rfl hb184 ?_
            refine el_pv (v := .agg #[v146, v147]) (pv_loada (cs := [v146, v147]) rfl rfl (boxc0 (hS.boxAt 1 rfl))) (by decide) ?_
            refine el_on rfl hb184 ?_
            refine el_pv (v := .agg #[v122, v123]) (pv_loada (cs := [v122, v123]) rfl rfl (boxc0 (hS.boxAt 4 rfl))) (by decide) ?_
            refine el_on rfl hb184 ?_
            replace hF := ob hF
            obtain ⟨r186, hr186, hF⟩ := hF
            refine el_call goes13 (laws_eqFactorization_ok (hS.rdAt (R := (sliceR intR 3)) 2 rfl) (hS.rdAt (R := (sliceR (pairR (sliceR intR 3) (sliceR intR 3)) 84)) 3 rfl) (hS.rdAt (R := (sliceR intR 3)) 5 rfl) (hS.rdAt (R := (sliceR (pairR (sliceR intR 3) (sliceR intR 3)) 84)) 6 rfl) hr186) (congrArg List.toArray (mapc rfl (mapc rfl rfl))) (by decide) ?_
            rintro _ w187 ⟨rfl, hx188⟩
            refine ⟨_, rfl, ?_⟩
            replace hS := hS.ext hx188
            refine el_on rfl hb184 ?_
            refine el_pv (v := .bool (!r186)) (pv_not rfl) (by decide) ?_
            refine el_pv (v := .bool (!r186)) (pv_pick_f rfl hb184 rfl) (by decide) ?_
            refine el_pv (v := .bool (!r186)) (pv_move rfl) (by decide) ?_
            replace hF := oif hF
            rcases hF with ⟨hb189, hF⟩ | ⟨hb189, hF⟩
            · refine el_on rfl (bnot_t hb189) ?_
              refine el_pv (v := .bool r145.2) (pv_move rfl) (by decide) ?_
              refine el_on rfl (bnot_t hb189) ?_
              refine el_pv (v := .bool r121.2) (pv_move rfl) (by decide) ?_
              refine el_on rfl (bnot_t hb189) ?_
              refine el_pv (v := .bool (r145.2 != r121.2)) (pv_neqB Try.underlying4 rfl rfl) (by decide) ?_
              refine el_pv (v := .bool (r145.2 != r121.2)) (pv_pick_f rfl (bnot_t hb189) rfl) (by decide) ?_
              refine el_nil ?_
              refine hQ183 _ _ _ ?_
              refine thn_n ?_
              refine cw_cond_f rfl hb163 ?_
              refine cw_skip ?_
              refine hQ182 _ _ _ ?_
              refine thn_n ?_
              refine cw_seq ?_
              refine cw_gen ?_
              intro Q190 hQ190
              refine cw_reg ?_
              refine el_pv (v := .int .i64 1) (pv_assign rfl) (by decide) ?_
              refine el_nil ?_
              refine hQ190 _ _ _ ?_
              refine thn_n ?_
              refine cw_seq ?_
              refine cw_gen ?_
              intro Q191 hQ191
              refine cw_reg ?_
              refine el_pv (v := .agg #[v146, v147]) (pv_loada (cs := [v146, v147]) rfl rfl (boxc0 (hS.boxAt 1 rfl))) (by decide) ?_
              refine el_pv (v := .int .i64 1) (pv_move rfl) (by decide) ?_
              replace hS : Sat w0 w187 [Own (sliceR intR 3) [v146] r145.1.1, Own (sliceR (pairR (sliceR intR 3) (sliceR intR 3)) 84) [v147] r145.1.2, Box b103 24 [.int .i64 a0, u1], Box b153 29 [v146, v147], Box b129 29 [v122, v123], Own (sliceR intR 3) [v122] r121.1.1, Own (sliceR (pairR (sliceR intR 3) (sliceR intR 3)) 84) [v123] r121.1.2] := hS.tops 7 [2, 3] rfl
              replace hF := ob hF
              obtain ⟨r192, hr192, hF⟩ := hF
              refine el_call goes16 (laws_markFactorization_ok hS hr192) (congrArg List.toArray (mapc rfl (mapc rfl rfl))) (by decide) ?_
              rintro _ w193 ⟨rfl, hS⟩
              refine ⟨_, rfl, ?_⟩
              replace hS : Sat w0 w193 [Own (sliceR intR 3) [v146] r192.2.1, Own (sliceR (pairR (sliceR intR 3) (sliceR intR 3)) 84) [v147] r192.2.2, Box b103 24 [.int .i64 a0, u1], Box b153 29 [v146, v147], Box b129 29 [v122, v123], Own (sliceR intR 3) [v122] r121.1.1, Own (sliceR (pairR (sliceR intR 3) (sliceR intR 3)) 84) [v123] r121.1.2] := hS
              refine el_pv (v := .int .i64 r192.1) (pv_assign rfl) (by decide) ?_
              refine el_nil ?_
              refine hQ191 _ _ _ ?_
              refine thn_n ?_
              refine cw_seq ?_
              refine cw_gen ?_
              intro Q194 hQ194
              refine cw_reg ?_
              refine el_pv (v := .int .i64 1) (pv_assign rfl) (by decide) ?_
              refine el_nil ?_
              refine hQ194 _ _ _ ?_
              refine thn_n ?_
              refine cw_seq ?_
              refine cw_gen ?_
              intro Q195 hQ195
              refine cw_reg ?_
              refine el_pv (v := .agg #[v146, v147]) (pv_loada (cs := [v146, v147]) rfl rfl (boxc0 (hS.boxAt 3 rfl))) (by decide) ?_
              refine el_pv (v := .int .i64 1) (pv_move rfl) (by decide) ?_
              replace hF := ob hF
              obtain ⟨r196, hr196, hF⟩ := hF
              refine el_call goes17 (laws_heldFactorization_ok (hS.rdAt (R := (sliceR intR 3)) 0 rfl) (hS.rdAt (R := (sliceR (pairR (sliceR intR 3) (sliceR intR 3)) 84)) 1 rfl) hr196) (congrArg List.toArray (mapc rfl (mapc rfl rfl))) (by decide) ?_
              rintro _ w197 ⟨rfl, hx198⟩
              refine ⟨_, rfl, ?_⟩
              replace hS := hS.ext hx198
              refine el_pv (v := .int .i64 r196) (pv_assign rfl) (by decide) ?_
              refine el_nil ?_
              refine hQ195 _ _ _ ?_
              refine thn_n ?_
              refine cw_seq ?_
              refine cw_gen ?_
              intro Q199 hQ199
              refine cw_seq ?_
              refine cw_gen ?_
              intro Q200 hQ200
              refine cw_reg ?_
              refine el_pv (v := .int .i64 r196) (pv_move rfl) (by decide) ?_
              refine el_pv (v := .bool (decide (r196 < 0))) (pv_lss rfl rfl) (by decide) ?_
              refine el_nil ?_
              refine hQ200 _ _ _ ?_
              refine thn_n ?_
              replace hF := oif hF
              rcases hF with ⟨hb201, hF⟩ | ⟨hb201, hF⟩
              · refine cw_cond_t rfl hb201 ?_
                refine cw_seq ?_
                refine cw_gen ?_
                intro Q202 hQ202
                replace hS : Sat w0 w197 [] := hS.rems 7 [0, 1, 2, 3, 4, 5, 6] rfl
                refine cw_reg ?_
                refine el_pv (v := .bool false) (pv_assign rfl) (by decide) ?_
                refine el_nil ?_
                refine hQ202 _ _ _ ?_
                refine thn_n ?_
                refine cw_ret ?_
                refine hQ199 _ _ _ ?_
                refine thn_r ?_
                refine fin1 rfl rfl ?_
                have hr := Option.some.inj hF
                exact ⟨congrArg (fun (r : Bool) => Ending.returned (.bool r)) hr, hS.below⟩
              · refine cw_cond_f rfl hb201 ?_
                refine cw_skip ?_
                refine hQ199 _ _ _ ?_
                refine thn_n ?_
                refine cw_seq ?_
                refine cw_gen ?_
                intro Q203 hQ203
                refine cw_seq ?_
                refine cw_gen ?_
                intro Q204 hQ204
                refine cw_reg ?_
                refine el_pv (v := .int .i64 r196) (pv_move rfl) (by decide) ?_
                refine el_pv (v := .int .i64 r192.1) (pv_move rfl) (by decide) ?_
                refine el_pv (v := .bool (r196 != r192.1)) (pv_neq rfl rfl) (by decide) ?_
                refine el_nil ?_
                refine hQ204 _ _ _ ?_
                refine thn_n ?_
                replace hF := oif hF
                rcases hF with ⟨hb205, hF⟩ | ⟨hb205, hF⟩
                · refine cw_cond_t rfl hb205 ?_
                  refine cw_seq ?_
                  refine cw_gen ?_
                  intro Q206 hQ206
                  replace hS : Sat w0 w197 [] := hS.rems 7 [0, 1, 2, 3, 4, 5, 6] rfl
                  refine cw_reg ?_
                  refine el_pv (v := .bool false) (pv_assign rfl) (by decide) ?_
                  refine el_nil ?_
                  refine hQ206 _ _ _ ?_
                  refine thn_n ?_
                  refine cw_ret ?_
                  refine hQ203 _ _ _ ?_
                  refine thn_r ?_
                  refine fin1 rfl rfl ?_
                  have hr := Option.some.inj hF
                  exact ⟨congrArg (fun (r : Bool) => Ending.returned (.bool r)) hr, hS.below⟩
                · refine cw_cond_f rfl hb205 ?_
                  refine cw_skip ?_
                  refine hQ203 _ _ _ ?_
                  refine thn_n ?_
                  refine cw_seq ?_
                  refine cw_gen ?_
                  intro Q207 hQ207
                  refine cw_reg ?_
                  refine el_pv (v := .agg #[.int .i64 a0, u1]) (pv_loada (cs := [.int .i64 a0, u1]) rfl rfl (boxc0 (hS.boxAt 2 rfl))) (by decide) ?_
                  replace hF := ob hF
                  obtain ⟨r208, hr208, hF⟩ := hF
                  refine el_call goes11 (laws_toRelation_ok (hS.up ha1) hr208) (congrArg List.toArray (mapc rfl rfl)) (by decide) ?_
                  rintro _ w211 ⟨v209, rfl, hS'⟩
                  refine ⟨_, rfl, ?_⟩
                  have hx212 := hS'.below
                  replace hS := hS.call1 hS'
                  replace hF := ob hF
                  obtain ⟨r213, hr213, hF⟩ := hF
                  refine el_call goes12 (impl_FactorizeRelation_ok (hS.rdAt (R := (sliceR (sliceR intR 3) 26)) 0 rfl) hr213) (congrArg List.toArray (mapc rfl rfl)) (by decide) ?_
                  rintro _ w218 ⟨v214, v215, rfl, hS'⟩
                  refine ⟨_, rfl, ?_⟩
                  have hx219 := hS'.below
                  replace hS := hS.call2 hS'
                  refine el_pv (v := .tuple #[.agg #[v214, v215], .bool r213.2]) (pv_move rfl) (by decide) ?_
                  refine el_pv (v := .agg #[v214, v215]) (pv_extract rfl rfl) (by decide) ?_
                  refine el_pv (v := .bool r213.2) (pv_extract rfl rfl) (by decide) ?_
                  refine el_alloc hS (by decide) ?_
                  intro w220 b221 hS hx222
                  refine el_storev (hS.top 0 rfl) rfl [v214, v215] rfl rfl (of_decide_eq_true rfl) (all_cons (oc (hS.rdAt (R := (sliceR intR 3)) 1 rfl)) (all_cons (oc (hS.rdAt (R := (sliceR (pairR (sliceR intR 3) (sliceR intR 3)) 84)) 2 rfl)) rfl)) ?_
                  intro w224 hS
                  replace hS : Sat w0 w224 [Box b221 29 [v214, v215], Own (sliceR intR 3) [v214] r213.1.1, Own (sliceR (pairR (sliceR intR 3) (sliceR intR 3)) 84) [v215] r213.1.2, Own (sliceR (sliceR intR 3) 26) [v209] r208.2, Own (sliceR intR 3) [v146] r192.2.1, Own (sliceR (pairR (sliceR intR 3) (sliceR intR 3)) 84) [v147] r192.2.2, Box b103 24 [.int .i64 a0, u1], Box b153 29 [v146, v147], Box b129 29 [v122, v123], Own (sliceR intR 3) [v122] r121.1.1, Own (sliceR (pairR (sliceR intR 3) (sliceR intR 3)) 84) [v123] r121.1.2] := hS
                  refine el_pv (v := .bool r213.2) (pv_assign rfl) (by decide) ?_
                  refine el_nil ?_
                  refine hQ207 _ _ _ ?_
                  refine thn_n ?_
                  refine cw_seq ?_
                  refine cw_gen ?_
                  intro Q225 hQ225
                  refine cw_seq ?_
                  refine cw_gen ?_
                  intro Q226 hQ226
                  replace hS : Sat w0 w224 [Box b221 29 [v214, v215], Own (sliceR intR 3) [v214] r213.1.1, Own (sliceR (pairR (sliceR intR 3) (sliceR intR 3)) 84) [v215] r213.1.2, Own (sliceR intR 3) [v146] r192.2.1, Own (sliceR (pairR (sliceR intR 3) (sliceR intR 3)) 84) [v147] r192.2.2, Box b153 29 [v146, v147], Box b129 29 [v122, v123], Own (sliceR intR 3) [v122] r121.1.1, Own (sliceR (pairR (sliceR intR 3) (sliceR intR 3)) 84) [v123] r121.1.2] := hS.rems 11 [3, 6] rfl
                  refine cw_reg ?_
                  refine el_pv (v := .agg #[v214, v215]) (pv_loada (cs := [v214, v215]) rfl rfl (boxc0 (hS.boxAt 0 rfl))) (by decide) ?_
                  refine el_pv (v := .agg #[v122, v123]) (pv_loada (cs := [v122, v123]) rfl rfl (boxc0 (hS.boxAt 6 rfl))) (by decide) ?_
                  replace hF := ob hF
                  obtain ⟨r227, hr227, hF⟩ := hF
                  refine el_call goes13 (laws_eqFactorization_ok (hS.rdAt (R := (sliceR intR 3)) 1 rfl) (hS.rdAt (R := (sliceR (pairR (sliceR intR 3) (sliceR intR 3)) 84)) 2 rfl) (hS.rdAt (R := (sliceR intR 3)) 7 rfl) (hS.rdAt (R := (sliceR (pairR (sliceR intR 3) (sliceR intR 3)) 84)) 8 rfl) hr227) (congrArg List.toArray (mapc rfl (mapc rfl rfl))) (by decide) ?_
                  rintro _ w228 ⟨rfl, hx229⟩
                  refine ⟨_, rfl, ?_⟩
                  replace hS := hS.ext hx229
                  refine el_pv (v := .bool (!r227)) (pv_not rfl) (by decide) ?_
                  refine el_pv (v := .bool (!r227)) (pv_move rfl) (by decide) ?_
                  replace hF := oif hF
                  rcases hF with ⟨hb230, hF⟩ | ⟨hb230, hF⟩
                  · refine el_on rfl (bnot_t hb230) ?_
                    refine el_pv (v := .bool r213.2) (pv_move rfl) (by decide) ?_
                    refine el_on rfl (bnot_t hb230) ?_
                    refine el_pv (v := .bool r121.2) (pv_move rfl) (by decide) ?_
                    refine el_on rfl (bnot_t hb230) ?_
                    refine el_pv (v := .bool (r213.2 != r121.2)) (pv_neqB Try.underlying4 rfl rfl) (by decide) ?_
                    refine el_pv (v := .bool (r213.2 != r121.2)) (pv_pick_f rfl (bnot_t hb230) rfl) (by decide) ?_
                    refine el_nil ?_
                    refine hQ226 _ _ _ ?_
                    refine thn_n ?_
                    replace hF := oif hF
                    rcases hF with ⟨hb231, hF⟩ | ⟨hb231, hF⟩
                    · refine cw_cond_t rfl hb231 ?_
                      refine cw_seq ?_
                      refine cw_gen ?_
                      intro Q232 hQ232
                      replace hS : Sat w0 w228 [] := hS.rems 9 [0, 1, 2, 3, 4, 5, 6, 7, 8] rfl
                      refine cw_reg ?_
                      refine el_pv (v := .bool false) (pv_assign rfl) (by decide) ?_
                      refine el_nil ?_
                      refine hQ232 _ _ _ ?_
                      refine thn_n ?_
                      refine cw_ret ?_
                      refine hQ225 _ _ _ ?_
                      refine thn_r ?_
                      refine fin1 rfl rfl ?_
                      have hr := Option.some.inj hF
                      exact ⟨congrArg (fun (r : Bool) => Ending.returned (.bool r)) hr, hS.below⟩
                    · refine cw_cond_f rfl hb231 ?_
                      refine cw_skip ?_
                      refine hQ225 _ _ _ ?_
                      refine thn_n ?_
                      refine cw_seq ?_
                      refine cw_gen ?_
                      intro Q233 hQ233
                      replace hS : Sat w0 w228 [Own (sliceR intR 3) [v146] r192.2.1, Own (sliceR (pairR (sliceR intR 3) (sliceR intR 3)) 84) [v147] r192.2.2, Box b153 29 [v146, v147]] := hS.rems 9 [0, 1, 2, 6, 7, 8] rfl
                      refine cw_reg ?_
                      refine el_pv (v := .int .i64 1) (pv_assign rfl) (by decide) ?_
                      refine el_nil ?_
                      refine hQ233 _ _ _ ?_
                      refine thn_n ?_
                      refine cw_seq ?_
                      refine cw_gen ?_
                      intro Q234 hQ234
                      refine cw_reg ?_
                      refine el_pv (v := .agg #[v146, v147]) (pv_loada (cs := [v146, v147]) rfl rfl (boxc0 (hS.boxAt 2 rfl))) (by decide) ?_
                      refine el_pv (v := .int .i64 1) (pv_move rfl) (by decide) ?_
                      replace hF := ob hF
                      obtain ⟨r235, hr235, hF⟩ := hF
                      refine el_call goes17 (laws_heldFactorization_ok (hS.rdAt (R := (sliceR intR 3)) 0 rfl) (hS.rdAt (R := (sliceR (pairR (sliceR intR 3) (sliceR intR 3)) 84)) 1 rfl) hr235) (congrArg List.toArray (mapc rfl (mapc rfl rfl))) (by decide) ?_
                      rintro _ w236 ⟨rfl, hx237⟩
                      refine ⟨_, rfl, ?_⟩
                      replace hS := hS.ext hx237
                      refine el_pv (v := .int .i64 r235) (pv_assign rfl) (by decide) ?_
                      refine el_nil ?_
                      refine hQ234 _ _ _ ?_
                      refine thn_n ?_
                      refine cw_seq ?_
                      refine cw_gen ?_
                      intro Q238 hQ238
                      refine cw_seq ?_
                      refine cw_gen ?_
                      intro Q239 hQ239
                      replace hS : Sat w0 w236 [] := hS.rems 3 [0, 1, 2] rfl
                      refine cw_reg ?_
                      refine el_pv (v := .int .i64 r235) (pv_move rfl) (by decide) ?_
                      refine el_pv (v := .bool (decide (r235 < 0))) (pv_lss rfl rfl) (by decide) ?_
                      refine el_nil ?_
                      refine hQ239 _ _ _ ?_
                      refine thn_n ?_
                      replace hF := oif hF
                      rcases hF with ⟨hb240, hF⟩ | ⟨hb240, hF⟩
                      · refine cw_cond_t rfl hb240 ?_
                        refine cw_seq ?_
                        refine cw_gen ?_
                        intro Q241 hQ241
                        refine cw_reg ?_
                        refine el_pv (v := .bool false) (pv_assign rfl) (by decide) ?_
                        refine el_nil ?_
                        refine hQ241 _ _ _ ?_
                        refine thn_n ?_
                        refine cw_ret ?_
                        refine hQ238 _ _ _ ?_
                        refine thn_r ?_
                        refine fin1 rfl rfl ?_
                        have hr := Option.some.inj hF
                        exact ⟨congrArg (fun (r : Bool) => Ending.returned (.bool r)) hr, hS.below⟩
                      · refine cw_cond_f rfl hb240 ?_
                        refine cw_skip ?_
                        refine hQ238 _ _ _ ?_
                        refine thn_n ?_
                        refine cw_seq ?_
                        refine cw_gen ?_
                        intro Q242 hQ242
                        refine cw_seq ?_
                        refine cw_gen ?_
                        intro Q243 hQ243
                        refine cw_reg ?_
                        refine el_pv (v := .int .i64 r235) (pv_move rfl) (by decide) ?_
                        refine el_pv (v := .int .i64 r192.1) (pv_move rfl) (by decide) ?_
                        refine el_pv (v := .bool (r235 != r192.1)) (pv_neq rfl rfl) (by decide) ?_
                        refine el_nil ?_
                        refine hQ243 _ _ _ ?_
                        refine thn_n ?_
                        replace hF := oif hF
                        rcases hF with ⟨hb244, hF⟩ | ⟨hb244, hF⟩
                        · refine cw_cond_t rfl hb244 ?_
                          refine cw_seq ?_
                          refine cw_gen ?_
                          intro Q245 hQ245
                          refine cw_reg ?_
                          refine el_pv (v := .bool false) (pv_assign rfl) (by decide) ?_
                          refine el_nil ?_
                          refine hQ245 _ _ _ ?_
                          refine thn_n ?_
                          refine cw_ret ?_
                          refine hQ242 _ _ _ ?_
                          refine thn_r ?_
                          refine fin1 rfl rfl ?_
                          have hr := Option.some.inj hF
                          exact ⟨congrArg (fun (r : Bool) => Ending.returned (.bool r)) hr, hS.below⟩
                        · refine cw_cond_f rfl hb244 ?_
                          refine cw_skip ?_
                          refine hQ242 _ _ _ ?_
                          refine thn_n ?_
                          refine cw_seq ?_
                          refine cw_gen ?_
                          intro Q246 hQ246
                          refine cw_reg ?_
                          refine el_pv (v := .bool true) (pv_assign rfl) (by decide) ?_
                          refine el_nil ?_
                          refine hQ246 _ _ _ ?_
                          refine thn_n ?_
                          refine cw_ret ?_
                          refine fin1 rfl rfl ?_
                          have hr := Option.some.inj hF
                          exact ⟨congrArg (fun (r : Bool) => Ending.returned (.bool r)) hr, hS.below⟩
                  · refine el_off rfl (bnot_f hb230) rfl (by decide) ?_
                    refine el_off rfl (bnot_f hb230) rfl (by decide) ?_
                    refine el_off rfl (bnot_f hb230) rfl (by decide) ?_
                    refine el_pv (v := .bool true) (pv_pick_t rfl (bnot_f hb230) rfl) (by decide) ?_
                    refine el_nil ?_
                    refine hQ226 _ _ _ ?_
                    refine thn_n ?_
                    refine cw_cond_t rfl rfl ?_
                    refine cw_seq ?_
                    refine cw_gen ?_
                    intro Q247 hQ247
                    replace hS : Sat w0 w228 [] := hS.rems 9 [0, 1, 2, 3, 4, 5, 6, 7, 8] rfl
                    refine cw_reg ?_
                    refine el_pv (v := .bool false) (pv_assign rfl) (by decide) ?_
                    refine el_nil ?_
                    refine hQ247 _ _ _ ?_
                    refine thn_n ?_
                    refine cw_ret ?_
                    refine hQ225 _ _ _ ?_
                    refine thn_r ?_
                    refine fin1 rfl rfl ?_
                    have hr := Option.some.inj hF
                    exact ⟨congrArg (fun (r : Bool) => Ending.returned (.bool r)) hr, hS.below⟩
            · refine el_off rfl (bnot_f hb189) rfl (by decide) ?_
              refine el_off rfl (bnot_f hb189) rfl (by decide) ?_
              refine el_off rfl (bnot_f hb189) rfl (by decide) ?_
              refine el_pv (v := .bool true) (pv_pick_t rfl (bnot_f hb189) rfl) (by decide) ?_
              refine el_nil ?_
              refine hQ183 _ _ _ ?_
              refine thn_n ?_
              refine cw_cond_t rfl rfl ?_
              refine cw_seq ?_
              refine cw_gen ?_
              intro Q248 hQ248
              replace hS : Sat w0 w187 [] := hS.rems 7 [0, 1, 2, 3, 4, 5, 6] rfl
              refine cw_reg ?_
              refine el_pv (v := .bool false) (pv_assign rfl) (by decide) ?_
              refine el_nil ?_
              refine hQ248 _ _ _ ?_
              refine thn_n ?_
              refine cw_ret ?_
              refine hQ182 _ _ _ ?_
              refine thn_r ?_
              refine fin1 rfl rfl ?_
              have hr := Option.some.inj hF
              exact ⟨congrArg (fun (r : Bool) => Ending.returned (.bool r)) hr, hS.below⟩
        · refine cw_cond_t rfl (bnot_f hb177) ?_
          refine cw_seq ?_
          refine cw_gen ?_
          intro Q249 hQ249
          replace hS : Sat w0 w175 [] := hS.rems 10 [0, 1, 2, 3, 4, 5, 6, 7, 8, 9] rfl
          refine cw_reg ?_
          refine el_pv (v := .bool false) (pv_assign rfl) (by decide) ?_
          refine el_nil ?_
          refine hQ249 _ _ _ ?_
          refine thn_n ?_
          refine cw_ret ?_
          refine hQ165 _ _ _ ?_
          refine thn_r ?_
          refine fin1 rfl rfl ?_
          have hr := Option.some.inj hF
          exact ⟨congrArg (fun (r : Bool) => Ending.returned (.bool r)) hr, hS.below⟩
    · refine el_off rfl (bnot_f hb162) rfl (by decide) ?_
      refine el_off rfl (bnot_f hb162) rfl (by decide) ?_
      refine el_off rfl (bnot_f hb162) rfl (by decide) ?_
      refine el_pv (v := .bool true) (pv_pick_t rfl (bnot_f hb162) rfl) (by decide) ?_
      refine el_nil ?_
      refine hQ158 _ _ _ ?_
      refine thn_n ?_
      refine cw_cond_t rfl rfl ?_
      refine cw_seq ?_
      refine cw_gen ?_
      intro Q250 hQ250
      replace hS : Sat w0 w160 [] := hS.rems 9 [0, 1, 2, 3, 4, 5, 6, 7, 8] rfl
      refine cw_reg ?_
      refine el_pv (v := .bool false) (pv_assign rfl) (by decide) ?_
      refine el_nil ?_
      refine hQ250 _ _ _ ?_
      refine thn_n ?_
      refine cw_ret ?_
      refine hQ157 _ _ _ ?_
      refine thn_r ?_
      refine fin1 rfl rfl ?_
      have hr := Option.some.inj hF
      exact ⟨congrArg (fun (r : Bool) => Ending.returned (.bool r)) hr, hS.below⟩
end Go.Proofs.Ytdingjlefilafaa
