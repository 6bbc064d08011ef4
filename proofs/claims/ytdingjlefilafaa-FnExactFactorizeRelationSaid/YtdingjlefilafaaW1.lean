/- The walks through functions of the program: each hands back what it comes to. No condition but that it comes to something. -/
import Derived.Test.YtdingjlefilafaaW0
import Derived.Test.YtdingjlefilafaaW1D
namespace Go.Proofs.Ytdingjlefilafaa
open Go.RowKit
set_option maxRecDepth 100000
set_option maxHeartbeats 4000000 in
theorem impl_indexOf_ok {w0 : World} {u0 : Value} {a0 : List Int} {a1 : Int} (ha0 : (sliceR intR 3).rd w0 [u0] a0) {N : Nat} {r : Int} (hF : impl_indexOf N a0 a1 = some r) :
    Calls Try.prog 121 #[u0, .int .i64 a1] w0 fun e w' => e = .returned (.int .i64 r) ∧ Ext w0 w' := by
  unfold impl_indexOf at hF
  refine calls_E Try.func121 rfl rfl (of_decide_eq_true rfl) ?_
  have hS := Sat.start w0
  refine cw_seq ?_
  refine cw_gen ?_
  intro Q101 hQ101
  refine cw_reg ?_
  refine el_pv (v := .int .i64 0) (pv_assign rfl) (by decide) ?_
  refine el_nil ?_
  refine hQ101 _ _ _ ?_
  refine thn_n ?_
  refine cw_seq ?_
  refine cw_gen ?_
  intro Q102 hQ102
  refine cw_seq ?_
  refine cw_gen ?_
  intro Q103 hQ103
  refine cw_reg ?_
  refine el_pv (v := u0) (pv_move rfl) (by decide) ?_
  refine el_pv (v := .int .i64 (a0.length : Int)) (pv_len rfl ha0) (by decide) ?_
  refine el_pv (v := .int .i64 0) (pv_move rfl) (by decide) ?_
  refine el_nil ?_
  refine hQ103 _ _ _ ?_
  refine thn_n ?_
  refine cw_block ?_
  refine cw_gen ?_
  intro Q104 hQ104
  obtain ⟨s105, hL, hK106⟩ := ob hF
  refine cw_loopS (fun k e w => ∃ (x107 : Int), e 1 = .int .i64 a1 ∧ e 7 = u0 ∧ e 8 = .int .i64 (a0.length : Int) ∧ e 9 = .int .i64 x107 ∧ Sat w0 w [] ∧ impl_indexOf_L1 N k a1 a0 (a0.length : Int) x107 = some s105) N ?_ ?_ ?_
  · exact ⟨0, rfl, rfl, rfl, rfl, hS, hL⟩
  · rintro e w ⟨_, _, _, _, _, _, hz⟩; exact nomatch (show none = some _ from hz)
  · rintro k e113 w112 ⟨x107, he108, he109, he110, he111, hS, hF⟩
    refine cw_gen ?_
    intro Q114 hQ114
    refine cw_seq ?_
    refine cw_gen ?_
    intro Q115 hQ115
    refine cw_reg ?_
    refine el_pv (v := .bool (decide (x107 < (a0.length : Int)))) (pv_lss he111 he110) (by decide) ?_
    refine el_nil ?_
    refine hQ115 _ _ _ ?_
    refine thn_n ?_
    refine cw_seq ?_
    refine cw_gen ?_
    intro Q116 hQ116
    replace hF := oif hF
    rcases hF with ⟨hb117, hF⟩ | ⟨hb117, hF⟩
    · refine cw_cond_t rfl hb117 ?_
      refine cw_skip ?_
      refine hQ116 _ _ _ ?_
      refine thn_n ?_
      refine cw_seq ?_
      refine cw_gen ?_
      intro Q118 hQ118
      refine cw_block ?_
      refine cw_gen ?_
      intro Q119 hQ119
      refine cw_seq ?_
      refine cw_gen ?_
      intro Q120 hQ120
      refine cw_reg ?_
      refine el_pv (v := .int .i64 x107) (pv_move he111) (by decide) ?_
      replace hF := ob hF
      obtain ⟨x121, hx121, hF⟩ := hF
      refine el_index (wA := w0) he109 ha0 rfl (by decide) he111 hx121 (by decide) ?_
      intro b122 of123 c124 hr125 hm126
      obtain rfl := hr125
      refine el_pv (v := .int .i64 x121) (pv_loadc rfl ((cells_up hS.below hm126) 0 _ rfl)) (by decide) ?_
      refine el_pv (v := .int .i64 x107) (pv_assign rfl) (by decide) ?_
      refine el_pv (v := .int .i64 x121) (pv_assign rfl) (by decide) ?_
      refine el_nil ?_
      refine hQ120 _ _ _ ?_
      refine thn_n ?_
      refine cw_seq ?_
      refine cw_gen ?_
      intro Q127 hQ127
      refine cw_reg ?_
      refine el_pv (v := .int .i64 x121) (pv_move rfl) (by decide) ?_
      refine el_pv (v := .int .i64 a1) (pv_move he108) (by decide) ?_
      refine el_pv (v := .bool (x121 == a1)) (pv_eql rfl rfl) (by decide) ?_
      refine el_nil ?_
      refine hQ127 _ _ _ ?_
      refine thn_n ?_
      replace hF := oif hF
      rcases hF with ⟨hb128, hF⟩ | ⟨hb128, hF⟩
      · refine cw_cond_t rfl hb128 ?_
        refine cw_seq ?_
        refine cw_gen ?_
        intro Q129 hQ129
        refine cw_reg ?_
        refine el_pv (v := .int .i64 x107) (pv_move rfl) (by decide) ?_
        refine el_pv (v := .int .i64 x107) (pv_assign rfl) (by decide) ?_
        refine el_nil ?_
        refine hQ129 _ _ _ ?_
        refine thn_n ?_
        refine cw_ret ?_
        refine hQ119 _ _ _ ?_
        refine inb_r ?_
        refine hQ118 _ _ _ ?_
        refine thn_r ?_
        refine hQ114 _ _ _ ?_
        refine thn_r ?_
        refine hQ104 _ _ _ ?_
        refine inb_r ?_
        refine hQ102 _ _ _ ?_
        refine thn_r ?_
        replace hF := exL hF hK106
        refine fin1 rfl rfl ?_
        have hr := Option.some.inj hF
        exact ⟨congrArg (fun (r : Int) => Ending.returned (.int .i64 r)) hr, hS.below⟩
      · refine cw_cond_f rfl hb128 ?_
        refine cw_skip ?_
        refine hQ119 _ _ _ ?_
        refine inb_n ?_
        refine hQ118 _ _ _ ?_
        refine thn_n ?_
        refine cw_reg ?_
        replace hF := ob hF
        obtain ⟨x130, hx130, hF⟩ := hF
        refine el_pv (v := .int .i64 x130) (pv_add he111 rfl hx130) (by decide) ?_
        refine el_pv (v := .int .i64 x130) (pv_move rfl) (by decide) ?_
        refine el_nil ?_
        refine hQ114 _ _ _ ?_
        refine thn_n ?_
        replace hS := hS.keep 0
        exact ⟨x130, he108, he109, he110, rfl, hS, hF⟩
    · refine cw_cond_f rfl hb117 ?_
      refine cw_exit ?_
      refine hQ116 _ _ _ ?_
      refine thn_x ?_
      refine hQ114 _ _ _ ?_
      refine thn_x ?_
      replace hF := exA hF hK106
      refine hQ104 _ _ _ ?_
      refine inb_s ?_
      refine hQ102 _ _ _ ?_
      refine thn_n ?_
      refine cw_seq ?_
      refine cw_gen ?_
      intro Q131 hQ131
      refine cw_reg ?_
      refine el_pv (v := .int .i64 (-1)) (pv_assign rfl) (by decide) ?_
      refine el_nil ?_
      refine hQ131 _ _ _ ?_
      refine thn_n ?_
      refine cw_ret ?_
      refine fin1 rfl rfl ?_
      have hr := Option.some.inj hF
      exact ⟨congrArg (fun (r : Int) => Ending.returned (.int .i64 r)) hr, hS.below⟩
set_option maxHeartbeats 4000000 in
theorem impl_hasInt_ok {w0 : World} {u0 : Value} {a0 : List Int} {a1 : Int} (ha0 : (sliceR intR 3).rd w0 [u0] a0) {N : Nat} {r : Bool} (hF : impl_hasInt N a0 a1 = some r) :
    Calls Try.prog 117 #[u0, .int .i64 a1] w0 fun e w' => e = .returned (.bool r) ∧ Ext w0 w' := by
  unfold impl_hasInt at hF
  refine calls_E Try.func117 rfl rfl (of_decide_eq_true rfl) ?_
  have hS := Sat.start w0
  refine cw_seq ?_
  refine cw_gen ?_
  intro Q101 hQ101
  refine cw_reg ?_
  refine el_pv (v := .bool false) (pv_assign rfl) (by decide) ?_
  refine el_nil ?_
  refine hQ101 _ _ _ ?_
  refine thn_n ?_
  refine cw_seq ?_
  refine cw_gen ?_
  intro Q102 hQ102
  refine cw_reg ?_
  refine el_pv (v := u0) (pv_move rfl) (by decide) ?_
  refine el_pv (v := .int .i64 a1) (pv_move rfl) (by decide) ?_
  replace hF := ob hF
  obtain ⟨r103, hr103, hF⟩ := hF
  refine el_call goes121 (impl_indexOf_ok (hS.up ha0) hr103) (congrArg List.toArray (mapc rfl (mapc rfl rfl))) (by decide) ?_
  rintro _ w104 ⟨rfl, hx105⟩
  refine ⟨_, rfl, ?_⟩
  replace hS := hS.ext hx105
  refine el_pv (v := .bool (decide (0 ≤ r103))) (pv_geq rfl rfl) (by decide) ?_
  refine el_pv (v := .bool (decide (0 ≤ r103))) (pv_assign rfl) (by decide) ?_
  refine el_nil ?_
  refine hQ102 _ _ _ ?_
  refine thn_n ?_
  refine cw_ret ?_
  refine fin1 rfl rfl ?_
  have hr := Option.some.inj hF
  exact ⟨congrArg (fun (r : Bool) => Ending.returned (.bool r)) hr, hS.below⟩
set_option maxHeartbeats 4000000 in
theorem impl_isSetOf_ok {w0 : World} {u0 : Value} {a0 : List Int} {a1 : Int} (ha0 : (sliceR intR 3).rd w0 [u0] a0) {N : Nat} {r : Bool} (hF : impl_isSetOf N a0 a1 = some r) :
    Calls Try.prog 102 #[u0, .int .i64 a1] w0 fun e w' => e = .returned (.bool r) ∧ Ext w0 w' := by
  unfold impl_isSetOf at hF
  refine calls_E Try.func102 rfl rfl (of_decide_eq_true rfl) ?_
  have hS := Sat.start w0
  refine cw_seq ?_
  refine cw_gen ?_
  intro Q101 hQ101
  refine cw_reg ?_
  refine el_pv (v := .bool false) (pv_assign rfl) (by decide) ?_
  refine el_nil ?_
  refine hQ101 _ _ _ ?_
  refine thn_n ?_
  refine cw_seq ?_
  refine cw_gen ?_
  intro Q102 hQ102
  refine cw_seq ?_
  refine cw_gen ?_
  intro Q103 hQ103
  refine cw_reg ?_
  refine el_pv (v := u0) (pv_move rfl) (by decide) ?_
  refine el_pv (v := .int .i64 (a0.length : Int)) (pv_len rfl ha0) (by decide) ?_
  refine el_pv (v := .int .i64 0) (pv_move rfl) (by decide) ?_
  refine el_nil ?_
  refine hQ103 _ _ _ ?_
  refine thn_n ?_
  refine cw_block ?_
  refine cw_gen ?_
  intro Q104 hQ104
  obtain ⟨s105, hL, hK106⟩ := ob hF
  refine cw_loopS (fun k e w => ∃ (x107 : Int), e 0 = u0 ∧ e 1 = .int .i64 a1 ∧ e 7 = u0 ∧ e 8 = .int .i64 (a0.length : Int) ∧ e 9 = .int .i64 x107 ∧ Sat w0 w [] ∧ impl_isSetOf_L1 N k a0 a1 a0 (a0.length : Int) x107 = some s105) N ?_ ?_ ?_
  · exact ⟨0, rfl, rfl, rfl, rfl, rfl, hS, hL⟩
  · rintro e w ⟨_, _, _, _, _, _, _, hz⟩; exact nomatch (show none = some _ from hz)
  · rintro k e114 w113 ⟨x107, he108, he109, he110, he111, he112, hS, hF⟩
    refine cw_gen ?_
    intro Q115 hQ115
    refine cw_seq ?_
    refine cw_gen ?_
    intro Q116 hQ116
    refine cw_reg ?_
    refine el_pv (v := .bool (decide (x107 < (a0.length : Int)))) (pv_lss he112 he111) (by decide) ?_
    refine el_nil ?_
    refine hQ116 _ _ _ ?_
    refine thn_n ?_
    refine cw_seq ?_
    refine cw_gen ?_
    intro Q117 hQ117
    replace hF := oif hF
    rcases hF with ⟨hb118, hF⟩ | ⟨hb118, hF⟩
    · refine cw_cond_t rfl hb118 ?_
      refine cw_skip ?_
      refine hQ117 _ _ _ ?_
      refine thn_n ?_
      refine cw_seq ?_
      refine cw_gen ?_
      intro Q119 hQ119
      refine cw_block ?_
      refine cw_gen ?_
      intro Q120 hQ120
      refine cw_seq ?_
      refine cw_gen ?_
      intro Q121 hQ121
      refine cw_reg ?_
      refine el_pv (v := .int .i64 x107) (pv_move he112) (by decide) ?_
      replace hF := ob hF
      obtain ⟨x122, hx122, hF⟩ := hF
      refine el_index (wA := w0) he110 ha0 rfl (by decide) he112 hx122 (by decide) ?_
      intro b123 of124 c125 hr126 hm127
      obtain rfl := hr126
      refine el_pv (v := .int .i64 x122) (pv_loadc rfl ((cells_up hS.below hm127) 0 _ rfl)) (by decide) ?_
      refine el_pv (v := .int .i64 x107) (pv_assign rfl) (by decide) ?_
      refine el_pv (v := .int .i64 x122) (pv_assign rfl) (by decide) ?_
      refine el_nil ?_
      refine hQ121 _ _ _ ?_
      refine thn_n ?_
      refine cw_seq ?_
      refine cw_gen ?_
      intro Q128 hQ128
      refine cw_reg ?_
      refine el_pv (v := .int .i64 x122) (pv_move rfl) (by decide) ?_
      refine el_pv (v := .int .i64 a1) (pv_move he109) (by decide) ?_
      replace hF := ob hF
      obtain ⟨x129, hx129, hF⟩ := hF
      refine el_pv (v := .int .i64 x129) (pv_sub rfl rfl hx129) (by decide) ?_
      replace hF := ob hF
      obtain ⟨r130, hr130, hF⟩ := hF
      refine el_call goes67 (impl_within_ok hr130) (congrArg List.toArray (mapc rfl (mapc rfl (mapc rfl rfl)))) (by decide) ?_
      rintro _ w131 ⟨rfl, hx132⟩
      refine ⟨_, rfl, ?_⟩
      replace hS := hS.ext hx132
      refine el_pv (v := .bool (!r130)) (pv_not rfl) (by decide) ?_
      refine el_pv (v := .bool (!r130)) (pv_move rfl) (by decide) ?_
      replace hF := oif hF
      rcases hF with ⟨hb133, hF⟩ | ⟨hb133, hF⟩
      · refine el_on rfl (bnot_t hb133) ?_
        refine el_pv (v := u0) (pv_move he108) (by decide) ?_
        refine el_on rfl (bnot_t hb133) ?_
        refine el_pv (v := .int .i64 x107) (pv_move rfl) (by decide) ?_
        refine el_on rfl (bnot_t hb133) ?_
        replace hF := ob hF
        obtain ⟨x134, hx134, hF⟩ := hF
        refine el_slice (wA := w0) rfl rfl ha0 (.inr ⟨rfl, rfl⟩) (.inl (congrArg some rfl)) hx134 (by decide) ?_
        intro v135 hr136
        refine el_on rfl (bnot_t hb133) ?_
        refine el_pv (v := .int .i64 x122) (pv_move rfl) (by decide) ?_
        refine el_on rfl (bnot_t hb133) ?_
        replace hF := ob hF
        obtain ⟨r137, hr137, hF⟩ := hF
        refine el_call goes117 (impl_hasInt_ok (hS.up hr136) hr137) (congrArg List.toArray (mapc rfl (mapc rfl rfl))) (by decide) ?_
        rintro _ w138 ⟨rfl, hx139⟩
        refine ⟨_, rfl, ?_⟩
        replace hS := hS.ext hx139
        refine el_pv (v := .bool r137) (pv_pick_f rfl (bnot_t hb133) rfl) (by decide) ?_
        refine el_nil ?_
        refine hQ128 _ _ _ ?_
        refine thn_n ?_
        replace hF := oif hF
        rcases hF with ⟨hb140, hF⟩ | ⟨hb140, hF⟩
        · refine cw_cond_t rfl hb140 ?_
          refine cw_seq ?_
          refine cw_gen ?_
          intro Q141 hQ141
          refine cw_reg ?_
          refine el_pv (v := .bool false) (pv_assign rfl) (by decide) ?_
          refine el_nil ?_
          refine hQ141 _ _ _ ?_
          refine thn_n ?_
          refine cw_ret ?_
          refine hQ120 _ _ _ ?_
          refine inb_r ?_
          refine hQ119 _ _ _ ?_
          refine thn_r ?_
          refine hQ115 _ _ _ ?_
          refine thn_r ?_
          refine hQ104 _ _ _ ?_
          refine inb_r ?_
          refine hQ102 _ _ _ ?_
          refine thn_r ?_
          replace hF := exL hF hK106
          refine fin1 rfl rfl ?_
          have hr := Option.some.inj hF
          exact ⟨congrArg (fun (r : Bool) => Ending.returned (.bool r)) hr, hS.below⟩
        · refine cw_cond_f rfl hb140 ?_
          refine cw_skip ?_
          refine hQ120 _ _ _ ?_
          refine inb_n ?_
          refine hQ119 _ _ _ ?_
          refine thn_n ?_
          refine cw_reg ?_
          replace hF := ob hF
          obtain ⟨x142, hx142, hF⟩ := hF
          refine el_pv (v := .int .i64 x142) (pv_add he112 rfl hx142) (by decide) ?_
          refine el_pv (v := .int .i64 x142) (pv_move rfl) (by decide) ?_
          refine el_nil ?_
          refine hQ115 _ _ _ ?_
          refine thn_n ?_
          replace hS := hS.keep 0
          exact ⟨x142, he108, he109, he110, he111, rfl, hS, hF⟩
      · refine el_off rfl (bnot_f hb133) rfl (by decide) ?_
        refine el_off rfl (bnot_f hb133) rfl (by decide) ?_
        refine el_off rfl (bnot_f hb133) rfl (by decide) ?_
        refine el_off rfl (bnot_f hb133) rfl (by decide) ?_
        refine el_off rfl (bnot_f hb133) rfl (by decide) ?_
        refine el_pv (v := .bool true) (pv_pick_t rfl (bnot_f hb133) rfl) (by decide) ?_
        refine el_nil ?_
        refine hQ128 _ _ _ ?_
        refine thn_n ?_
        refine cw_cond_t rfl rfl ?_
        refine cw_seq ?_
        refine cw_gen ?_
        intro Q143 hQ143
        refine cw_reg ?_
        refine el_pv (v := .bool false) (pv_assign rfl) (by decide) ?_
        refine el_nil ?_
        refine hQ143 _ _ _ ?_
        refine thn_n ?_
        refine cw_ret ?_
        refine hQ120 _ _ _ ?_
        refine inb_r ?_
        refine hQ119 _ _ _ ?_
        refine thn_r ?_
        refine hQ115 _ _ _ ?_
        refine thn_r ?_
        refine hQ104 _ _ _ ?_
        refine inb_r ?_
        refine hQ102 _ _ _ ?_
        refine thn_r ?_
        replace hF := exL hF hK106
        refine fin1 rfl rfl ?_
        have hr := Option.some.inj hF
        exact ⟨congrArg (fun (r : Bool) => Ending.returned (.bool r)) hr, hS.below⟩
    · refine cw_cond_f rfl hb118 ?_
      refine cw_exit ?_
      refine hQ117 _ _ _ ?_
      refine thn_x ?_
      refine hQ115 _ _ _ ?_
      refine thn_x ?_
      replace hF := exA hF hK106
      refine hQ104 _ _ _ ?_
      refine inb_s ?_
      refine hQ102 _ _ _ ?_
      refine thn_n ?_
      refine cw_seq ?_
      refine cw_gen ?_
      intro Q144 hQ144
      refine cw_reg ?_
      refine el_pv (v := .bool true) (pv_assign rfl) (by decide) ?_
      refine el_nil ?_
      refine hQ144 _ _ _ ?_
      refine thn_n ?_
      refine cw_ret ?_
      refine fin1 rfl rfl ?_
      have hr := Option.some.inj hF
      exact ⟨congrArg (fun (r : Bool) => Ending.returned (.bool r)) hr, hS.below⟩
set_option maxHeartbeats 4000000 in
theorem impl_IsPermutation_ok {w0 : World} {u0 : Value} {a0 : List Int} (ha0 : (sliceR intR 3).rd w0 [u0] a0) {N : Nat} {r : Bool} (hF : impl_IsPermutation N a0 = some r) :
    Calls Try.prog 66 #[u0] w0 fun e w' => e = .returned (.bool r) ∧ Ext w0 w' := by
  unfold impl_IsPermutation at hF
  refine calls_E Try.func66 rfl rfl (of_decide_eq_true rfl) ?_
  have hS := Sat.start w0
  refine cw_seq ?_
  refine cw_gen ?_
  intro Q101 hQ101
  refine cw_reg ?_
  refine el_pv (v := .bool false) (pv_assign rfl) (by decide) ?_
  refine el_nil ?_
  refine hQ101 _ _ _ ?_
  refine thn_n ?_
  refine cw_seq ?_
  refine cw_gen ?_
  intro Q102 hQ102
  refine cw_reg ?_
  refine el_pv (v := u0) (pv_move rfl) (by decide) ?_
  refine el_pv (v := .int .i64 (a0.length : Int)) (pv_len rfl ha0) (by decide) ?_
  refine el_pv (v := .bool (decide ((a0.length : Int) ≤ 5))) (pv_leq rfl rfl) (by decide) ?_
  refine el_pv (v := .bool (decide ((a0.length : Int) ≤ 5))) (pv_move rfl) (by decide) ?_
  replace hF := oif hF
  rcases hF with ⟨hb103, hF⟩ | ⟨hb103, hF⟩
  · refine el_on rfl hb103 ?_
    refine el_pv (v := u0) (pv_move rfl) (by decide) ?_
    refine el_on rfl hb103 ?_
    refine el_pv (v := u0) (pv_move rfl) (by decide) ?_
    refine el_on rfl hb103 ?_
    refine el_pv (v := .int .i64 (a0.length : Int)) (pv_len rfl ha0) (by decide) ?_
    refine el_on rfl hb103 ?_
    replace hF := ob hF
    obtain ⟨r104, hr104, hF⟩ := hF
    refine el_call goes102 (impl_isSetOf_ok (hS.up ha0) hr104) (congrArg List.toArray (mapc rfl (mapc rfl rfl))) (by decide) ?_
    rintro _ w105 ⟨rfl, hx106⟩
    refine ⟨_, rfl, ?_⟩
    replace hS := hS.ext hx106
    refine el_pv (v := .bool r104) (pv_pick_t rfl hb103 rfl) (by decide) ?_
    refine el_pv (v := .bool r104) (pv_assign rfl) (by decide) ?_
    refine el_nil ?_
    refine hQ102 _ _ _ ?_
    refine thn_n ?_
    refine cw_ret ?_
    refine fin1 rfl rfl ?_
    have hr := Option.some.inj hF
    exact ⟨congrArg (fun (r : Bool) => Ending.returned (.bool r)) hr, hS.below⟩
  · refine el_off rfl hb103 rfl (by decide) ?_
    refine el_off rfl hb103 rfl (by decide) ?_
    refine el_off rfl hb103 rfl (by decide) ?_
    refine el_off rfl hb103 rfl (by decide) ?_
    refine el_pv (v := .bool false) (pv_pick_f rfl hb103 rfl) (by decide) ?_
    refine el_pv (v := .bool false) (pv_assign rfl) (by decide) ?_
    refine el_nil ?_
    refine hQ102 _ _ _ ?_
    refine thn_n ?_
    refine cw_ret ?_
    refine fin1 rfl rfl ?_
    have hr := Option.some.inj hF
    exact ⟨congrArg (fun (r : Bool) => Ending.returned (.bool r)) hr, hS.below⟩
set_option maxHeartbeats 4000000 in
theorem impl_sameInts_ok {w0 : World} {u0 : Value} {a0 : List Int} {u1 : Value} {a1 : List Int} (ha0 : (sliceR intR 3).rd w0 [u0] a0) (ha1 : (sliceR intR 3).rd w0 [u1] a1) {N : Nat} {r : Bool} (hF : impl_sameInts N a0 a1 = some r) :
    Calls Try.prog 64 #[u0, u1] w0 fun e w' => e = .returned (.bool r) ∧ Ext w0 w' := by
  unfold impl_sameInts at hF
  refine calls_E Try.func64 rfl rfl (of_decide_eq_true rfl) ?_
  have hS := Sat.start w0
  refine cw_seq ?_
  refine cw_gen ?_
  intro Q101 hQ101
  refine cw_reg ?_
  refine el_pv (v := .bool false) (pv_assign rfl) (by decide) ?_
  refine el_nil ?_
  refine hQ101 _ _ _ ?_
  refine thn_n ?_
  refine cw_seq ?_
  refine cw_gen ?_
  intro Q102 hQ102
  refine cw_seq ?_
  refine cw_gen ?_
  intro Q103 hQ103
  refine cw_reg ?_
  refine el_pv (v := u0) (pv_move rfl) (by decide) ?_
  refine el_pv (v := .int .i64 (a0.length : Int)) (pv_len rfl ha0) (by decide) ?_
  refine el_pv (v := u1) (pv_move rfl) (by decide) ?_
  refine el_pv (v := .int .i64 (a1.length : Int)) (pv_len rfl ha1) (by decide) ?_
  refine el_pv (v := .bool ((a0.length : Int) != (a1.length : Int))) (pv_neq rfl rfl) (by decide) ?_
  refine el_nil ?_
  refine hQ103 _ _ _ ?_
  refine thn_n ?_
  replace hF := oif hF
  rcases hF with ⟨hb104, hF⟩ | ⟨hb104, hF⟩
  · refine cw_cond_t rfl hb104 ?_
    refine cw_seq ?_
    refine cw_gen ?_
    intro Q105 hQ105
    refine cw_reg ?_
    refine el_pv (v := .bool false) (pv_assign rfl) (by decide) ?_
    refine el_nil ?_
    refine hQ105 _ _ _ ?_
    refine thn_n ?_
    refine cw_ret ?_
    refine hQ102 _ _ _ ?_
    refine thn_r ?_
    refine fin1 rfl rfl ?_
    have hr := Option.some.inj hF
    exact ⟨congrArg (fun (r : Bool) => Ending.returned (.bool r)) hr, hS.below⟩
  · refine cw_cond_f rfl hb104 ?_
    refine cw_skip ?_
    refine hQ102 _ _ _ ?_
    refine thn_n ?_
    refine cw_seq ?_
    refine cw_gen ?_
    intro Q106 hQ106
    refine cw_seq ?_
    refine cw_gen ?_
    intro Q107 hQ107
    refine cw_reg ?_
    refine el_pv (v := u0) (pv_move rfl) (by decide) ?_
    refine el_pv (v := .int .i64 (a0.length : Int)) (pv_len rfl ha0) (by decide) ?_
    refine el_pv (v := .int .i64 0) (pv_move rfl) (by decide) ?_
    refine el_nil ?_
    refine hQ107 _ _ _ ?_
    refine thn_n ?_
    refine cw_block ?_
    refine cw_gen ?_
    intro Q108 hQ108
    obtain ⟨s109, hL, hK110⟩ := ob hF
    refine cw_loopS (fun k e w => ∃ (x111 : Int), e 0 = u0 ∧ e 1 = u1 ∧ e 12 = .int .i64 (a0.length : Int) ∧ e 13 = .int .i64 x111 ∧ Sat w0 w [] ∧ impl_sameInts_L1 N k a0 a1 (a0.length : Int) x111 = some s109) N ?_ ?_ ?_
    · exact ⟨0, rfl, rfl, rfl, rfl, hS, hL⟩
    · rintro e w ⟨_, _, _, _, _, _, hz⟩; exact nomatch (show none = some _ from hz)
    · rintro k e117 w116 ⟨x111, he112, he113, he114, he115, hS, hF⟩
      refine cw_gen ?_
      intro Q118 hQ118
      refine cw_seq ?_
      refine cw_gen ?_
      intro Q119 hQ119
      refine cw_reg ?_
      refine el_pv (v := .bool (decide (x111 < (a0.length : Int)))) (pv_lss he115 he114) (by decide) ?_
      refine el_nil ?_
      refine hQ119 _ _ _ ?_
      refine thn_n ?_
      refine cw_seq ?_
      refine cw_gen ?_
      intro Q120 hQ120
      replace hF := oif hF
      rcases hF with ⟨hb121, hF⟩ | ⟨hb121, hF⟩
      · refine cw_cond_t rfl hb121 ?_
        refine cw_skip ?_
        refine hQ120 _ _ _ ?_
        refine thn_n ?_
        refine cw_seq ?_
        refine cw_gen ?_
        intro Q122 hQ122
        refine cw_block ?_
        refine cw_gen ?_
        intro Q123 hQ123
        refine cw_seq ?_
        refine cw_gen ?_
        intro Q124 hQ124
        refine cw_reg ?_
        refine el_pv (v := .int .i64 x111) (pv_move he115) (by decide) ?_
        refine el_pv (v := .int .i64 x111) (pv_assign rfl) (by decide) ?_
        refine el_nil ?_
        refine hQ124 _ _ _ ?_
        refine thn_n ?_
        refine cw_seq ?_
        refine cw_gen ?_
        intro Q125 hQ125
        refine cw_regq (by kernel_rfl) (by kernel_rfl) ?_
        refine ql_pv (v := u0) (pv_move he112) (by decide) ?_
        refine ql_pv (v := .int .i64 x111) (pv_move rfl) (by decide) ?_
        replace hF := ob hF
        obtain ⟨x126, hx126, hF⟩ := hF
        refine ql_index (wA := w0) rfl ha0 rfl (by decide) rfl hx126 (by decide) ?_
        intro b127 of128 c129 hr130 hm131
        obtain rfl := hr130
        refine ql_pv (v := .int .i64 x126) (pv_loadc rfl ((cells_up hS.below hm131) 0 _ rfl)) (by decide) ?_
        refine ql_pv (v := u1) (pv_move he113) (by decide) ?_
        refine ql_pv (v := .int .i64 x111) (pv_move rfl) (by decide) ?_
        replace hF := ob hF
        obtain ⟨x132, hx132, hF⟩ := hF
        refine ql_index (wA := w0) rfl ha1 rfl (by decide) rfl hx132 (by decide) ?_
        intro b133 of134 c135 hr136 hm137
        obtain rfl := hr136
        refine ql_pv (v := .int .i64 x132) (pv_loadc rfl ((cells_up hS.below hm137) 0 _ rfl)) (by decide) ?_
        refine ql_pv (v := .bool (x126 != x132)) (pv_neq rfl rfl) (by decide) ?_
        refine ql_nil ?_
        intro w138 hx139
        replace hS := hS.ext hx139
        refine hQ125 _ _ _ ?_
        refine thn_n ?_
        replace hF := oif hF
        rcases hF with ⟨hb140, hF⟩ | ⟨hb140, hF⟩
        · refine cw_cond_t rfl hb140 ?_
          refine cw_seq ?_
          refine cw_gen ?_
          intro Q141 hQ141
          refine cw_reg ?_
          refine el_pv (v := .bool false) (pv_assign rfl) (by decide) ?_
          refine el_nil ?_
          refine hQ141 _ _ _ ?_
          refine thn_n ?_
          refine cw_ret ?_
          refine hQ123 _ _ _ ?_
          refine inb_r ?_
          refine hQ122 _ _ _ ?_
          refine thn_r ?_
          refine hQ118 _ _ _ ?_
          refine thn_r ?_
          refine hQ108 _ _ _ ?_
          refine inb_r ?_
          refine hQ106 _ _ _ ?_
          refine thn_r ?_
          replace hF := exL hF hK110
          refine fin1 rfl rfl ?_
          have hr := Option.some.inj hF
          exact ⟨congrArg (fun (r : Bool) => Ending.returned (.bool r)) hr, hS.below⟩
        · refine cw_cond_f rfl hb140 ?_
          refine cw_skip ?_
          refine hQ123 _ _ _ ?_
          refine inb_n ?_
          refine hQ122 _ _ _ ?_
          refine thn_n ?_
          refine cw_reg ?_
          replace hF := ob hF
          obtain ⟨x142, hx142, hF⟩ := hF
          refine el_pv (v := .int .i64 x142) (pv_add he115 rfl hx142) (by decide) ?_
          refine el_pv (v := .int .i64 x142) (pv_move rfl) (by decide) ?_
          refine el_nil ?_
          refine hQ118 _ _ _ ?_
          refine thn_n ?_
          replace hS := hS.keep 0
          exact ⟨x142, he112, he113, he114, rfl, hS, hF⟩
      · refine cw_cond_f rfl hb121 ?_
        refine cw_exit ?_
        refine hQ120 _ _ _ ?_
        refine thn_x ?_
        refine hQ118 _ _ _ ?_
        refine thn_x ?_
        replace hF := exA hF hK110
        refine hQ108 _ _ _ ?_
        refine inb_s ?_
        refine hQ106 _ _ _ ?_
        refine thn_n ?_
        refine cw_seq ?_
        refine cw_gen ?_
        intro Q143 hQ143
        refine cw_reg ?_
        refine el_pv (v := .bool true) (pv_assign rfl) (by decide) ?_
        refine el_nil ?_
        refine hQ143 _ _ _ ?_
        refine thn_n ?_
        refine cw_ret ?_
        refine fin1 rfl rfl ?_
        have hr := Option.some.inj hF
        exact ⟨congrArg (fun (r : Bool) => Ending.returned (.bool r)) hr, hS.below⟩
set_option maxHeartbeats 4000000 in
theorem impl_sameNode_ok {w0 : World} {u0 : Value} {a0 : List Int} {u1 : Value} {a1 : List Int} {u2 : Value} {a2 : List Int} {u3 : Value} {a3 : List Int} (ha0 : (sliceR intR 3).rd w0 [u0] a0) (ha1 : (sliceR intR 3).rd w0 [u1] a1) (ha2 : (sliceR intR 3).rd w0 [u2] a2) (ha3 : (sliceR intR 3).rd w0 [u3] a3) {N : Nat} {r : Bool} (hF : impl_sameNode N a0 a1 a2 a3 = some r) :
    Calls Try.prog 65 #[.agg #[u0, u1], .agg #[u2, u3]] w0 fun e w' => e = .returned (.bool r) ∧ Ext w0 w' := by
  unfold impl_sameNode at hF
  refine calls_E Try.func65 rfl rfl (of_decide_eq_true rfl) ?_
  have hS := Sat.start w0
  refine cw_seq ?_
  refine cw_gen ?_
  intro Q101 hQ101
  refine cw_reg ?_
  refine el_box [u0, u1] rfl hS (by decide) ?_
  intro w102 b103 hS hx104
  refine el_box [u2, u3] rfl hS (by decide) ?_
  intro w106 b107 hS hx108
  refine el_pv (v := .bool false) (pv_assign rfl) (by decide) ?_
  refine el_nil ?_
  refine hQ101 _ _ _ ?_
  refine thn_n ?_
  refine cw_seq ?_
  refine cw_gen ?_
  intro Q110 hQ110
  refine cw_reg ?_
  refine el_pv (v := .pointer (some ⟨b103, 0 + 0, none⟩)) (pv_fieldAddr rfl) (by decide) ?_
  refine el_pv (v := u0) (pv_loadc rfl ((hS.boxAt 1 rfl) 0 _ rfl)) (by decide) ?_
  refine el_pv (v := .pointer (some ⟨b107, 0 + 0, none⟩)) (pv_fieldAddr rfl) (by decide) ?_
  refine el_pv (v := u2) (pv_loadc rfl ((hS.boxAt 0 rfl) 0 _ rfl)) (by decide) ?_
  replace hF := ob hF
  obtain ⟨r111, hr111, hF⟩ := hF
  refine el_call goes64 (impl_sameInts_ok (hS.up ha0) (hS.up ha2) hr111) (congrArg List.toArray (mapc rfl (mapc rfl rfl))) (by decide) ?_
  rintro _ w112 ⟨rfl, hx113⟩
  refine ⟨_, rfl, ?_⟩
  replace hS := hS.ext hx113
  refine el_pv (v := .bool r111) (pv_move rfl) (by decide) ?_
  replace hF := oif hF
  rcases hF with ⟨hb114, hF⟩ | ⟨hb114, hF⟩
  · refine el_on rfl hb114 ?_
    refine el_pv (v := .pointer (some ⟨b103, 0 + 1, none⟩)) (pv_fieldAddr rfl) (by decide) ?_
    refine el_on rfl hb114 ?_
    refine el_pv (v := u1) (pv_loadc rfl ((hS.boxAt 1 rfl) 1 _ rfl)) (by decide) ?_
    refine el_on rfl hb114 ?_
    refine el_pv (v := .pointer (some ⟨b107, 0 + 1, none⟩)) (pv_fieldAddr rfl) (by decide) ?_
    refine el_on rfl hb114 ?_
    refine el_pv (v := u3) (pv_loadc rfl ((hS.boxAt 0 rfl) 1 _ rfl)) (by decide) ?_
    refine el_on rfl hb114 ?_
    replace hF := ob hF
    obtain ⟨r115, hr115, hF⟩ := hF
    refine el_call goes64 (impl_sameInts_ok (hS.up ha1) (hS.up ha3) hr115) (congrArg List.toArray (mapc rfl (mapc rfl rfl))) (by decide) ?_
    rintro _ w116 ⟨rfl, hx117⟩
    refine ⟨_, rfl, ?_⟩
    replace hS := hS.ext hx117
    refine el_pv (v := .bool r115) (pv_pick_t rfl hb114 rfl) (by decide) ?_
    refine el_pv (v := .bool r115) (pv_assign rfl) (by decide) ?_
    refine el_nil ?_
    refine hQ110 _ _ _ ?_
    refine thn_n ?_
    refine cw_ret ?_
    refine fin1 rfl rfl ?_
    have hr := Option.some.inj hF
    exact ⟨congrArg (fun (r : Bool) => Ending.returned (.bool r)) hr, hS.below⟩
  · refine el_off rfl hb114 rfl (by decide) ?_
    refine el_off rfl hb114 rfl (by decide) ?_
    refine el_off rfl hb114 rfl (by decide) ?_
    refine el_off rfl hb114 rfl (by decide) ?_
    refine el_off rfl hb114 rfl (by decide) ?_
    refine el_pv (v := .bool false) (pv_pick_f rfl hb114 rfl) (by decide) ?_
    refine el_pv (v := .bool false) (pv_assign rfl) (by decide) ?_
    refine el_nil ?_
    refine hQ110 _ _ _ ?_
    refine thn_n ?_
    refine cw_ret ?_
    refine fin1 rfl rfl ?_
    have hr := Option.some.inj hF
    exact ⟨congrArg (fun (r : Bool) => Ending.returned (.bool r)) hr, hS.below⟩
set_option maxHeartbeats 4000000 in
theorem impl_AreValidValues_ok {w0 : World} {u0 : Value} {a0 : List Int} (ha0 : (sliceR intR 3).rd w0 [u0] a0) {N : Nat} {r : Bool} (hF : impl_AreValidValues N a0 = some r) :
    Calls Try.prog 103 #[u0] w0 fun e w' => e = .returned (.bool r) ∧ Ext w0 w' := by
  unfold impl_AreValidValues at hF
  refine calls_E Try.func103 rfl rfl (of_decide_eq_true rfl) ?_
  have hS := Sat.start w0
  refine cw_seq ?_
  refine cw_gen ?_
  intro Q101 hQ101
  refine cw_reg ?_
  refine el_pv (v := .bool false) (pv_assign rfl) (by decide) ?_
  refine el_nil ?_
  refine hQ101 _ _ _ ?_
  refine thn_n ?_
  refine cw_seq ?_
  refine cw_gen ?_
  intro Q102 hQ102
  refine cw_seq ?_
  refine cw_gen ?_
  intro Q103 hQ103
  refine cw_reg ?_
  refine el_pv (v := u0) (pv_move rfl) (by decide) ?_
  refine el_pv (v := .int .i64 (a0.length : Int)) (pv_len rfl ha0) (by decide) ?_
  refine el_pv (v := .int .i64 0) (pv_move rfl) (by decide) ?_
  refine el_nil ?_
  refine hQ103 _ _ _ ?_
  refine thn_n ?_
  refine cw_block ?_
  refine cw_gen ?_
  intro Q104 hQ104
  obtain ⟨s105, hL, hK106⟩ := ob hF
  refine cw_loopS (fun k e w => ∃ (x107 : Int), e 5 = u0 ∧ e 6 = .int .i64 (a0.length : Int) ∧ e 7 = .int .i64 x107 ∧ Sat w0 w [] ∧ impl_AreValidValues_L1 N k a0 (a0.length : Int) x107 = some s105) N ?_ ?_ ?_
  · exact ⟨0, rfl, rfl, rfl, hS, hL⟩
  · rintro e w ⟨_, _, _, _, _, hz⟩; exact nomatch (show none = some _ from hz)
  · rintro k e112 w111 ⟨x107, he108, he109, he110, hS, hF⟩
    refine cw_gen ?_
    intro Q113 hQ113
    refine cw_seq ?_
    refine cw_gen ?_
    intro Q114 hQ114
    refine cw_reg ?_
    refine el_pv (v := .bool (decide (x107 < (a0.length : Int)))) (pv_lss he110 he109) (by decide) ?_
    refine el_nil ?_
    refine hQ114 _ _ _ ?_
    refine thn_n ?_
    refine cw_seq ?_
    refine cw_gen ?_
    intro Q115 hQ115
    replace hF := oif hF
    rcases hF with ⟨hb116, hF⟩ | ⟨hb116, hF⟩
    · refine cw_cond_t rfl hb116 ?_
      refine cw_skip ?_
      refine hQ115 _ _ _ ?_
      refine thn_n ?_
      refine cw_seq ?_
      refine cw_gen ?_
      intro Q117 hQ117
      refine cw_block ?_
      refine cw_gen ?_
      intro Q118 hQ118
      refine cw_seq ?_
      refine cw_gen ?_
      intro Q119 hQ119
      refine cw_reg ?_
      replace hF := ob hF
      obtain ⟨x120, hx120, hF⟩ := hF
      refine el_index (wA := w0) he108 ha0 rfl (by decide) he110 hx120 (by decide) ?_
      intro b121 of122 c123 hr124 hm125
      obtain rfl := hr124
      refine el_pv (v := .int .i64 x120) (pv_loadc rfl ((cells_up hS.below hm125) 0 _ rfl)) (by decide) ?_
      refine el_pv (v := .int .i64 x120) (pv_assign rfl) (by decide) ?_
      refine el_nil ?_
      refine hQ119 _ _ _ ?_
      refine thn_n ?_
      refine cw_seq ?_
      refine cw_gen ?_
      intro Q126 hQ126
      refine cw_reg ?_
      refine el_pv (v := .int .i64 x120) (pv_move rfl) (by decide) ?_
      replace hF := ob hF
      obtain ⟨r127, hr127, hF⟩ := hF
      refine el_call goes67 (impl_within_ok hr127) (congrArg List.toArray (mapc rfl (mapc rfl (mapc rfl rfl)))) (by decide) ?_
      rintro _ w128 ⟨rfl, hx129⟩
      refine ⟨_, rfl, ?_⟩
      replace hS := hS.ext hx129
      refine el_pv (v := .bool (!r127)) (pv_not rfl) (by decide) ?_
      refine el_nil ?_
      refine hQ126 _ _ _ ?_
      refine thn_n ?_
      replace hF := oif hF
      rcases hF with ⟨hb130, hF⟩ | ⟨hb130, hF⟩
      · refine cw_cond_f rfl (bnot_t hb130) ?_
        refine cw_skip ?_
        refine hQ118 _ _ _ ?_
        refine inb_n ?_
        refine hQ117 _ _ _ ?_
        refine thn_n ?_
        refine cw_reg ?_
        replace hF := ob hF
        obtain ⟨x131, hx131, hF⟩ := hF
        refine el_pv (v := .int .i64 x131) (pv_add he110 rfl hx131) (by decide) ?_
        refine el_pv (v := .int .i64 x131) (pv_move rfl) (by decide) ?_
        refine el_nil ?_
        refine hQ113 _ _ _ ?_
        refine thn_n ?_
        replace hS := hS.keep 0
        exact ⟨x131, he108, he109, rfl, hS, hF⟩
      · refine cw_cond_t rfl (bnot_f hb130) ?_
        refine cw_seq ?_
        refine cw_gen ?_
        intro Q132 hQ132
        refine cw_reg ?_
        refine el_pv (v := .bool false) (pv_assign rfl) (by decide) ?_
        refine el_nil ?_
        refine hQ132 _ _ _ ?_
        refine thn_n ?_
        refine cw_ret ?_
        refine hQ118 _ _ _ ?_
        refine inb_r ?_
        refine hQ117 _ _ _ ?_
        refine thn_r ?_
        refine hQ113 _ _ _ ?_
        refine thn_r ?_
        refine hQ104 _ _ _ ?_
        refine inb_r ?_
        refine hQ102 _ _ _ ?_
        refine thn_r ?_
        replace hF := exL hF hK106
        refine fin1 rfl rfl ?_
        have hr := Option.some.inj hF
        exact ⟨congrArg (fun (r : Bool) => Ending.returned (.bool r)) hr, hS.below⟩
    · refine cw_cond_f rfl hb116 ?_
      refine cw_exit ?_
      refine hQ115 _ _ _ ?_
      refine thn_x ?_
      refine hQ113 _ _ _ ?_
      refine thn_x ?_
      replace hF := exA hF hK106
      refine hQ104 _ _ _ ?_
      refine inb_s ?_
      refine hQ102 _ _ _ ?_
      refine thn_n ?_
      refine cw_seq ?_
      refine cw_gen ?_
      intro Q133 hQ133
      refine cw_reg ?_
      refine el_pv (v := .bool true) (pv_assign rfl) (by decide) ?_
      refine el_nil ?_
      refine hQ133 _ _ _ ?_
      refine thn_n ?_
      refine cw_ret ?_
      refine fin1 rfl rfl ?_
      have hr := Option.some.inj hF
      exact ⟨congrArg (fun (r : Bool) => Ending.returned (.bool r)) hr, hS.below⟩
set_option maxHeartbeats 4000000 in
theorem impl_IsStrictlyAscending_ok {w0 : World} {u0 : Value} {a0 : List Int} (ha0 : (sliceR intR 3).rd w0 [u0] a0) {N : Nat} {r : Bool} (hF : impl_IsStrictlyAscending N a0 = some r) :
    Calls Try.prog 104 #[u0] w0 fun e w' => e = .returned (.bool r) ∧ Ext w0 w' := by
  unfold impl_IsStrictlyAscending at hF
  refine calls_E Try.func104 rfl rfl (of_decide_eq_true rfl) ?_
  have hS := Sat.start w0
  refine cw_seq ?_
  refine cw_gen ?_
  intro Q101 hQ101
  refine cw_reg ?_
  refine el_pv (v := .bool false) (pv_assign rfl) (by decide) ?_
  refine el_nil ?_
  refine hQ101 _ _ _ ?_
  refine thn_n ?_
  refine cw_seq ?_
  refine cw_gen ?_
  intro Q102 hQ102
  refine cw_seq ?_
  refine cw_gen ?_
  intro Q103 hQ103
  refine cw_reg ?_
  refine el_pv (v := .int .i64 1) (pv_assign rfl) (by decide) ?_
  refine el_nil ?_
  refine hQ103 _ _ _ ?_
  refine thn_n ?_
  refine cw_block ?_
  refine cw_gen ?_
  intro Q104 hQ104
  obtain ⟨s105, hL, hK106⟩ := ob hF
  refine cw_loopS (fun k e w => ∃ (x107 : Int), e 0 = u0 ∧ e 3 = .int .i64 x107 ∧ Sat w0 w [] ∧ impl_IsStrictlyAscending_L1 N k a0 x107 = some s105) N ?_ ?_ ?_
  · exact ⟨1, rfl, rfl, hS, hL⟩
  · rintro e w ⟨_, _, _, _, hz⟩; exact nomatch (show none = some _ from hz)
  · rintro k e111 w110 ⟨x107, he108, he109, hS, hF⟩
    refine cw_gen ?_
    intro Q112 hQ112
    refine cw_seq ?_
    refine cw_gen ?_
    intro Q113 hQ113
    refine cw_seq ?_
    refine cw_gen ?_
    intro Q114 hQ114
    refine cw_reg ?_
    refine el_pv (v := .int .i64 x107) (pv_move he109) (by decide) ?_
    refine el_pv (v := u0) (pv_move he108) (by decide) ?_
    refine el_pv (v := .int .i64 (a0.length : Int)) (pv_len rfl ha0) (by decide) ?_
    refine el_pv (v := .bool (decide (x107 < (a0.length : Int)))) (pv_lss rfl rfl) (by decide) ?_
    refine el_nil ?_
    refine hQ114 _ _ _ ?_
    refine thn_n ?_
    replace hF := oif hF
    rcases hF with ⟨hb115, hF⟩ | ⟨hb115, hF⟩
    · refine cw_cond_t rfl hb115 ?_
      refine cw_skip ?_
      refine hQ113 _ _ _ ?_
      refine thn_n ?_
      refine cw_seq ?_
      refine cw_gen ?_
      intro Q116 hQ116
      refine cw_block ?_
      refine cw_gen ?_
      intro Q117 hQ117
      refine cw_seq ?_
      refine cw_gen ?_
      intro Q118 hQ118
      refine cw_regq (by kernel_rfl) (by kernel_rfl) ?_
      refine ql_pv (v := u0) (pv_move he108) (by decide) ?_
      refine ql_pv (v := .int .i64 x107) (pv_move he109) (by decide) ?_
      replace hF := ob hF
      obtain ⟨x119, hx119, hF⟩ := hF
      refine ql_pv (v := .int .i64 x119) (pv_sub rfl rfl hx119) (by decide) ?_
      replace hF := ob hF
      obtain ⟨x120, hx120, hF⟩ := hF
      refine ql_index (wA := w0) rfl ha0 rfl (by decide) rfl hx120 (by decide) ?_
      intro b121 of122 c123 hr124 hm125
      obtain rfl := hr124
      refine ql_pv (v := .int .i64 x120) (pv_loadc rfl ((cells_up hS.below hm125) 0 _ rfl)) (by decide) ?_
      refine ql_pv (v := u0) (pv_move he108) (by decide) ?_
      refine ql_pv (v := .int .i64 x107) (pv_move he109) (by decide) ?_
      replace hF := ob hF
      obtain ⟨x126, hx126, hF⟩ := hF
      refine ql_index (wA := w0) rfl ha0 rfl (by decide) rfl hx126 (by decide) ?_
      intro b127 of128 c129 hr130 hm131
      obtain rfl := hr130
      refine ql_pv (v := .int .i64 x126) (pv_loadc rfl ((cells_up hS.below hm131) 0 _ rfl)) (by decide) ?_
      refine ql_pv (v := .bool (decide (x126 ≤ x120))) (pv_geq rfl rfl) (by decide) ?_
      refine ql_nil ?_
      intro w132 hx133
      replace hS := hS.ext hx133
      refine hQ118 _ _ _ ?_
      refine thn_n ?_
      replace hF := oif hF
      rcases hF with ⟨hb134, hF⟩ | ⟨hb134, hF⟩
      · refine cw_cond_t rfl hb134 ?_
        refine cw_seq ?_
        refine cw_gen ?_
        intro Q135 hQ135
        refine cw_reg ?_
        refine el_pv (v := .bool false) (pv_assign rfl) (by decide) ?_
        refine el_nil ?_
        refine hQ135 _ _ _ ?_
        refine thn_n ?_
        refine cw_ret ?_
        refine hQ117 _ _ _ ?_
        refine inb_r ?_
        refine hQ116 _ _ _ ?_
        refine thn_r ?_
        refine hQ112 _ _ _ ?_
        refine thn_r ?_
        refine hQ104 _ _ _ ?_
        refine inb_r ?_
        refine hQ102 _ _ _ ?_
        refine thn_r ?_
        replace hF := exL hF hK106
        refine fin1 rfl rfl ?_
        have hr := Option.some.inj hF
        exact ⟨congrArg (fun (r : Bool) => Ending.returned (.bool r)) hr, hS.below⟩
      · refine cw_cond_f rfl hb134 ?_
        refine cw_skip ?_
        refine hQ117 _ _ _ ?_
        refine inb_n ?_
        refine hQ116 _ _ _ ?_
        refine thn_n ?_
        refine cw_reg ?_
        refine el_pv (v := .int .i64 x107) (pv_move he109) (by decide) ?_
        replace hF := ob hF
        obtain ⟨x136, hx136, hF⟩ := hF
        refine el_pv (v := .int .i64 x136) (pv_add rfl rfl hx136) (by decide) ?_
        refine el_pv (v := .int .i64 x136) (pv_assign rfl) (by decide) ?_
        refine el_nil ?_
        refine hQ112 _ _ _ ?_
        refine thn_n ?_
        replace hS := hS.keep 0
        exact ⟨x136, he108, rfl, hS, hF⟩
    · refine cw_cond_f rfl hb115 ?_
      refine cw_exit ?_
      refine hQ113 _ _ _ ?_
      refine thn_x ?_
      refine hQ112 _ _ _ ?_
      refine thn_x ?_
      replace hF := exA hF hK106
      refine hQ104 _ _ _ ?_
      refine inb_s ?_
      refine hQ102 _ _ _ ?_
      refine thn_n ?_
      refine cw_seq ?_
      refine cw_gen ?_
      intro Q137 hQ137
      refine cw_reg ?_
      refine el_pv (v := .bool true) (pv_assign rfl) (by decide) ?_
      refine el_nil ?_
      refine hQ137 _ _ _ ?_
      refine thn_n ?_
      refine cw_ret ?_
      refine fin1 rfl rfl ?_
      have hr := Option.some.inj hF
      exact ⟨congrArg (fun (r : Bool) => Ending.returned (.bool r)) hr, hS.below⟩
set_option maxHeartbeats 4000000 in
theorem impl_nodeOk_ok {w0 : World} {u0 : Value} {a0 : List Int} {u1 : Value} {a1 : List (List Int × List Int)} {u2 : Value} {a2 : List Int} {a3 : Int} (ha0 : (sliceR intR 3).rd w0 [u0] a0) (ha1 : (sliceR (pairR (sliceR intR 3) (sliceR intR 3)) 84).rd w0 [u1] a1) (ha2 : (sliceR intR 3).rd w0 [u2] a2) {N : Nat} {r : Int × Bool} (hF : impl_nodeOk N a0 a1 a2 a3 = some r) :
    Calls Try.prog 68 #[.agg #[u0, u1], u2, .int .i64 a3] w0 fun e w' => e = .returned (.tuple #[.int .i64 r.1, .bool r.2]) ∧ Ext w0 w' := by
  unfold impl_nodeOk at hF
  refine calls_E Try.func68 rfl rfl (of_decide_eq_true rfl) ?_
  have hS := Sat.start w0
  refine cw_seq ?_
  refine cw_gen ?_
  intro Q101 hQ101
  refine cw_reg ?_
  refine el_box [u0, u1] rfl hS (by decide) ?_
  intro w102 b103 hS hx104
  refine el_pv (v := .int .i64 0) (pv_assign rfl) (by decide) ?_
  refine el_pv (v := .bool false) (pv_assign rfl) (by decide) ?_
  refine el_nil ?_
  refine hQ101 _ _ _ ?_
  refine thn_n ?_
  refine cw_seq ?_
  refine cw_gen ?_
  intro Q106 hQ106
  refine cw_reg ?_
  refine el_pv (v := .pointer (some ⟨b103, 0 + 1, none⟩)) (pv_fieldAddr rfl) (by decide) ?_
  refine el_pv (v := u1) (pv_loadc rfl ((hS.boxAt 0 rfl) 1 _ rfl)) (by decide) ?_
  refine el_pv (v := .int .i64 a3) (pv_move rfl) (by decide) ?_
  replace hF := ob hF
  obtain ⟨x107, hx107, hF⟩ := hF
  refine el_index (wA := w0) rfl ha1 rfl (by decide) rfl hx107 (by decide) ?_
  intro b108 of109 c110 hr111 hm112
  obtain ⟨_, _, rfl, hr113, hr114⟩ := hr111
  obtain ⟨v115, rfl⟩ := slice_one hr113
  obtain ⟨v116, rfl⟩ := slice_one hr114
  refine el_pv (v := .agg #[v115, v116]) (pv_loada (cs := [v115, v116]) rfl rfl (cells_up hS.below hm112)) (by decide) ?_
  refine el_alloc hS (by decide) ?_
  intro w117 b118 hS hx119
  refine el_storev (hS.top 0 rfl) rfl [v115, v116] rfl rfl (of_decide_eq_true rfl) (all_cons (oc hr113) (all_cons (oc hr114) rfl)) ?_
  intro w121 hS
  replace hS : Sat w0 w121 [Box b118 84 [v115, v116], Box b103 29 [u0, u1]] := hS
  refine el_nil ?_
  refine hQ106 _ _ _ ?_
  refine thn_n ?_
  refine cw_seq ?_
  refine cw_gen ?_
  intro Q122 hQ122
  refine cw_seq ?_
  refine cw_gen ?_
  intro Q123 hQ123
  refine cw_reg ?_
  refine el_pv (v := .pointer (some ⟨b118, 0 + 0, none⟩)) (pv_fieldAddr rfl) (by decide) ?_
  refine el_pv (v := v115) (pv_loadc rfl ((hS.boxAt 0 rfl) 0 _ rfl)) (by decide) ?_
  refine el_pv (v := .int .i64 (x107.1.length : Int)) (pv_len rfl hr113) (by decide) ?_
  refine el_pv (v := .pointer (some ⟨b118, 0 + 1, none⟩)) (pv_fieldAddr rfl) (by decide) ?_
  refine el_pv (v := v116) (pv_loadc rfl ((hS.boxAt 0 rfl) 1 _ rfl)) (by decide) ?_
  refine el_pv (v := .int .i64 (x107.2.length : Int)) (pv_len rfl hr114) (by decide) ?_
  refine el_pv (v := .bool ((x107.1.length : Int) != (x107.2.length : Int))) (pv_neq rfl rfl) (by decide) ?_
  refine el_pv (v := .bool ((x107.1.length : Int) != (x107.2.length : Int))) (pv_move rfl) (by decide) ?_
  replace hF := oif hF
  rcases hF with ⟨hb124, hF⟩ | ⟨hb124, hF⟩
  · refine el_off rfl hb124 rfl (by decide) ?_
    refine el_off rfl hb124 rfl (by decide) ?_
    refine el_off rfl hb124 rfl (by decide) ?_
    refine el_off rfl hb124 rfl (by decide) ?_
    refine el_pv (v := .bool true) (pv_pick_t rfl hb124 rfl) (by decide) ?_
    refine el_pv (v := .bool true) (pv_move rfl) (by decide) ?_
    refine el_off rfl rfl rfl (by decide) ?_
    refine el_off rfl rfl rfl (by decide) ?_
    refine el_off rfl rfl rfl (by decide) ?_
    refine el_off rfl rfl rfl (by decide) ?_
    refine el_pv (v := .bool true) (pv_pick_t rfl rfl rfl) (by decide) ?_
    refine el_nil ?_
    refine hQ123 _ _ _ ?_
    refine thn_n ?_
    refine cw_cond_t rfl rfl ?_
    refine cw_seq ?_
    refine cw_gen ?_
    intro Q125 hQ125
    replace hS : Sat w0 w121 [] := hS.rems 2 [0, 1] rfl
    refine cw_reg ?_
    refine el_pv (v := .int .i64 0) (pv_assign rfl) (by decide) ?_
    refine el_pv (v := .bool false) (pv_assign rfl) (by decide) ?_
    refine el_nil ?_
    refine hQ125 _ _ _ ?_
    refine thn_n ?_
    refine cw_ret ?_
    refine hQ122 _ _ _ ?_
    refine thn_r ?_
    refine fin2 rfl rfl rfl ?_
    have hr := Option.some.inj hF
    exact ⟨congrArg (fun (r : Int × Bool) => Ending.returned (.tuple #[.int .i64 r.1, .bool r.2])) hr, hS.below⟩
  · refine el_on rfl hb124 ?_
    refine el_pv (v := .pointer (some ⟨b118, 0 + 0, none⟩)) (pv_fieldAddr rfl) (by decide) ?_
    refine el_on rfl hb124 ?_
    refine el_pv (v := v115) (pv_loadc rfl ((hS.boxAt 0 rfl) 0 _ rfl)) (by decide) ?_
    refine el_on rfl hb124 ?_
    replace hF := ob hF
    obtain ⟨r126, hr126, hF⟩ := hF
    refine el_call goes103 (impl_AreValidValues_ok (hS.up hr113) hr126) (congrArg List.toArray (mapc rfl rfl)) (by decide) ?_
    rintro _ w127 ⟨rfl, hx128⟩
    refine ⟨_, rfl, ?_⟩
    replace hS := hS.ext hx128
    refine el_on rfl hb124 ?_
    refine el_pv (v := .bool (!r126)) (pv_not rfl) (by decide) ?_
    refine el_pv (v := .bool (!r126)) (pv_pick_f rfl hb124 rfl) (by decide) ?_
    refine el_pv (v := .bool (!r126)) (pv_move rfl) (by decide) ?_
    replace hF := oif hF
    rcases hF with ⟨hb129, hF⟩ | ⟨hb129, hF⟩
    · refine el_on rfl (bnot_t hb129) ?_
      refine el_pv (v := .pointer (some ⟨b118, 0 + 0, none⟩)) (pv_fieldAddr rfl) (by decide) ?_
      refine el_on rfl (bnot_t hb129) ?_
      refine el_pv (v := v115) (pv_loadc rfl ((hS.boxAt 0 rfl) 0 _ rfl)) (by decide) ?_
      refine el_on rfl (bnot_t hb129) ?_
      replace hF := ob hF
      obtain ⟨r130, hr130, hF⟩ := hF
      refine el_call goes104 (impl_IsStrictlyAscending_ok (hS.up hr113) hr130) (congrArg List.toArray (mapc rfl rfl)) (by decide) ?_
      rintro _ w131 ⟨rfl, hx132⟩
      refine ⟨_, rfl, ?_⟩
      replace hS := hS.ext hx132
      refine el_on rfl (bnot_t hb129) ?_
      refine el_pv (v := .bool (!r130)) (pv_not rfl) (by decide) ?_
      refine el_pv (v := .bool (!r130)) (pv_pick_f rfl (bnot_t hb129) rfl) (by decide) ?_
      refine el_nil ?_
      refine hQ123 _ _ _ ?_
      refine thn_n ?_
      replace hF := oif hF
      rcases hF with ⟨hb133, hF⟩ | ⟨hb133, hF⟩
      · refine cw_cond_f rfl (bnot_t hb133) ?_
        refine cw_skip ?_
        refine hQ122 _ _ _ ?_
        refine thn_n ?_
        refine cw_seq ?_
        refine cw_gen ?_
        intro Q134 hQ134
        refine cw_seq ?_
        refine cw_gen ?_
        intro Q135 hQ135
        refine cw_reg ?_
        refine el_pv (v := .pointer (some ⟨b118, 0 + 0, none⟩)) (pv_fieldAddr rfl) (by decide) ?_
        refine el_pv (v := v115) (pv_loadc rfl ((hS.boxAt 0 rfl) 0 _ rfl)) (by decide) ?_
        refine el_pv (v := .int .i64 (x107.1.length : Int)) (pv_len rfl hr113) (by decide) ?_
        refine el_pv (v := .bool ((x107.1.length : Int) == 0)) (pv_eql rfl rfl) (by decide) ?_
        refine el_nil ?_
        refine hQ135 _ _ _ ?_
        refine thn_n ?_
        replace hF := oif hF
        rcases hF with ⟨hb136, hF⟩ | ⟨hb136, hF⟩
        · refine cw_cond_t rfl hb136 ?_
          refine cw_seq ?_
          refine cw_gen ?_
          intro Q137 hQ137
          replace hS : Sat w0 w131 [Box b103 29 [u0, u1]] := hS.rems 2 [0] rfl
          refine cw_regq (by kernel_rfl) (by kernel_rfl) ?_
          refine ql_pv (v := .pointer (some ⟨b103, 0 + 0, none⟩)) (pv_fieldAddr rfl) (by decide) ?_
          refine ql_pv (v := u0) (pv_loadc rfl ((hS.boxAt 0 rfl) 0 _ rfl)) (by decide) ?_
          refine ql_pv (v := .int .i64 (a0.length : Int)) (pv_len rfl ha0) (by decide) ?_
          refine ql_pv (v := .int .i64 a3) (pv_move rfl) (by decide) ?_
          refine ql_pv (v := .pointer (some ⟨b103, 0 + 1, none⟩)) (pv_fieldAddr rfl) (by decide) ?_
          refine ql_pv (v := u1) (pv_loadc rfl ((hS.boxAt 0 rfl) 1 _ rfl)) (by decide) ?_
          refine ql_pv (v := .int .i64 (a1.length : Int)) (pv_len rfl ha1) (by decide) ?_
          replace hF := ob hF
          obtain ⟨x138, hx138, hF⟩ := hF
          refine ql_pv (v := .int .i64 x138) (pv_sub rfl rfl hx138) (by decide) ?_
          refine ql_pv (v := .bool (a3 == x138)) (pv_eql rfl rfl) (by decide) ?_
          refine ql_pv (v := .int .i64 (a0.length : Int)) (pv_assign rfl) (by decide) ?_
          refine ql_pv (v := .bool (a3 == x138)) (pv_assign rfl) (by decide) ?_
          refine ql_nil ?_
          intro w139 hx140
          replace hS := hS.ext hx140
          refine hQ137 _ _ _ ?_
          refine thn_n ?_
          refine cw_ret ?_
          refine hQ134 _ _ _ ?_
          refine thn_r ?_
          refine fin2 rfl rfl rfl ?_
          have hr := Option.some.inj hF
          exact ⟨congrArg (fun (r : Int × Bool) => Ending.returned (.tuple #[.int .i64 r.1, .bool r.2])) hr, hS.below⟩
        · refine cw_cond_f rfl hb136 ?_
          refine cw_skip ?_
          refine hQ134 _ _ _ ?_
          refine thn_n ?_
          refine cw_seq ?_
          refine cw_gen ?_
          intro Q141 hQ141
          refine cw_seq ?_
          refine cw_gen ?_
          intro Q142 hQ142
          refine cw_reg ?_
          refine el_pv (v := .pointer (some ⟨b118, 0 + 1, none⟩)) (pv_fieldAddr rfl) (by decide) ?_
          refine el_pv (v := v116) (pv_loadc rfl ((hS.boxAt 0 rfl) 1 _ rfl)) (by decide) ?_
          refine el_pv (v := .int .i64 (x107.2.length : Int)) (pv_len rfl hr114) (by decide) ?_
          refine el_pv (v := .int .i64 0) (pv_move rfl) (by decide) ?_
          refine el_nil ?_
          refine hQ142 _ _ _ ?_
          refine thn_n ?_
          refine cw_block ?_
          refine cw_gen ?_
          intro Q143 hQ143
          obtain ⟨s144, hL, hK145⟩ := ob hF
          refine cw_loopS (fun k e w => ∃ (x146 : Int), e 1 = u2 ∧ e 2 = .int .i64 a3 ∧ e 3 = .pointer (some ⟨b103, 0, none⟩) ∧ e 8 = .pointer (some ⟨b118, 0, none⟩) ∧ e 51 = v116 ∧ e 52 = .int .i64 (x107.2.length : Int) ∧ e 53 = .int .i64 x146 ∧ Sat w0 w [Box b118 84 [v115, v116], Box b103 29 [u0, u1]] ∧ impl_nodeOk_L1 N k a2 a3 a0 a1 x107.1 x107.2 x107.2 (x107.2.length : Int) x146 = some s144) N ?_ ?_ ?_
          · exact ⟨0, rfl, rfl, rfl, rfl, rfl, rfl, rfl, hS, hL⟩
          · rintro e w ⟨_, _, _, _, _, _, _, _, _, hz⟩; exact nomatch (show none = some _ from hz)
          · rintro k e155 w154 ⟨x146, he147, he148, he149, he150, he151, he152, he153, hS, hF⟩
            refine cw_gen ?_
            intro Q156 hQ156
            refine cw_seq ?_
            refine cw_gen ?_
            intro Q157 hQ157
            refine cw_reg ?_
            refine el_pv (v := .bool (decide (x146 < (x107.2.length : Int)))) (pv_lss he153 he152) (by decide) ?_
            refine el_nil ?_
            refine hQ157 _ _ _ ?_
            refine thn_n ?_
            refine cw_seq ?_
            refine cw_gen ?_
            intro Q158 hQ158
            replace hF := oif hF
            rcases hF with ⟨hb159, hF⟩ | ⟨hb159, hF⟩
            · refine cw_cond_t rfl hb159 ?_
              refine cw_skip ?_
              refine hQ158 _ _ _ ?_
              refine thn_n ?_
              refine cw_seq ?_
              refine cw_gen ?_
              intro Q160 hQ160
              refine cw_block ?_
              refine cw_gen ?_
              intro Q161 hQ161
              refine cw_seq ?_
              refine cw_gen ?_
              intro Q162 hQ162
              refine cw_reg ?_
              replace hF := ob hF
              obtain ⟨x163, hx163, hF⟩ := hF
              refine el_index (wA := w0) he151 hr114 rfl (by decide) he153 hx163 (by decide) ?_
              intro b164 of165 c166 hr167 hm168
              obtain rfl := hr167
              refine el_pv (v := .int .i64 x163) (pv_loadc rfl ((cells_up hS.below hm168) 0 _ rfl)) (by decide) ?_
              refine el_pv (v := .int .i64 x163) (pv_assign rfl) (by decide) ?_
              refine el_nil ?_
              refine hQ162 _ _ _ ?_
              refine thn_n ?_
              refine cw_seq ?_
              refine cw_gen ?_
              intro Q169 hQ169
              refine cw_regq (by kernel_rfl) (by kernel_rfl) ?_
              refine ql_pv (v := .int .i64 x163) (pv_move rfl) (by decide) ?_
              refine ql_pv (v := .int .i64 a3) (pv_move he148) (by decide) ?_
              replace hF := ob hF
              obtain ⟨x170, hx170, hF⟩ := hF
              refine ql_pv (v := .int .i64 x170) (pv_sub rfl rfl hx170) (by decide) ?_
              replace hF := ob hF
              obtain ⟨r171, hr171, hF⟩ := hF
              refine ql_call (.bool r171) goes67 (fun w' hw' => impl_within_ok hr171) (congrArg List.toArray (mapc rfl (mapc rfl (mapc rfl rfl)))) (by decide) ?_
              refine ql_pv (v := .bool (!r171)) (pv_not rfl) (by decide) ?_
              refine ql_pv (v := .bool (!r171)) (pv_move rfl) (by decide) ?_
              replace hF := oif hF
              rcases hF with ⟨hb172, hF⟩ | ⟨hb172, hF⟩
              · refine ql_on rfl (bnot_t hb172) ?_
                refine ql_pv (v := u2) (pv_move he147) (by decide) ?_
                refine ql_on rfl (bnot_t hb172) ?_
                refine ql_pv (v := .int .i64 x163) (pv_move rfl) (by decide) ?_
                refine ql_on rfl (bnot_t hb172) ?_
                replace hF := ob hF
                obtain ⟨x173, hx173, hF⟩ := hF
                refine ql_index (wA := w0) rfl ha2 rfl (by decide) rfl hx173 (by decide) ?_
                intro b174 of175 c176 hr177 hm178
                obtain rfl := hr177
                refine ql_on rfl (bnot_t hb172) ?_
                refine ql_pv (v := .int .i64 x173) (pv_loadc rfl ((cells_up hS.below hm178) 0 _ rfl)) (by decide) ?_
                refine ql_on rfl (bnot_t hb172) ?_
                refine ql_pv (v := u2) (pv_move he147) (by decide) ?_
                refine ql_on rfl (bnot_t hb172) ?_
                refine ql_pv (v := .pointer (some ⟨b118, 0 + 1, none⟩)) (pv_fieldAddr he150) (by decide) ?_
                refine ql_on rfl (bnot_t hb172) ?_
                refine ql_pv (v := v116) (pv_loadc rfl ((hS.boxAt 0 rfl) 1 _ rfl)) (by decide) ?_
                refine ql_on rfl (bnot_t hb172) ?_
                replace hF := ob hF
                obtain ⟨x179, hx179, hF⟩ := hF
                refine ql_index (wA := w0) rfl hr114 rfl (by decide) rfl hx179 (by decide) ?_
                intro b180 of181 c182 hr183 hm184
                obtain rfl := hr183
                refine ql_on rfl (bnot_t hb172) ?_
                refine ql_pv (v := .int .i64 x179) (pv_loadc rfl ((cells_up hS.below hm184) 0 _ rfl)) (by decide) ?_
                refine ql_on rfl (bnot_t hb172) ?_
                replace hF := ob hF
                obtain ⟨x185, hx185, hF⟩ := hF
                refine ql_index (wA := w0) rfl ha2 rfl (by decide) rfl hx185 (by decide) ?_
                intro b186 of187 c188 hr189 hm190
                obtain rfl := hr189
                refine ql_on rfl (bnot_t hb172) ?_
                refine ql_pv (v := .int .i64 x185) (pv_loadc rfl ((cells_up hS.below hm190) 0 _ rfl)) (by decide) ?_
                refine ql_on rfl (bnot_t hb172) ?_
                refine ql_pv (v := .bool (x173 != x185)) (pv_neq rfl rfl) (by decide) ?_
                refine ql_pv (v := .bool (x173 != x185)) (pv_pick_f rfl (bnot_t hb172) rfl) (by decide) ?_
                refine ql_nil ?_
                intro w191 hx192
                replace hS := hS.ext hx192
                refine hQ169 _ _ _ ?_
                refine thn_n ?_
                replace hF := oif hF
                rcases hF with ⟨hb193, hF⟩ | ⟨hb193, hF⟩
                · refine cw_cond_t rfl hb193 ?_
                  refine cw_seq ?_
                  refine cw_gen ?_
                  intro Q194 hQ194
                  replace hS : Sat w0 w191 [] := hS.rems 2 [0, 1] rfl
                  refine cw_reg ?_
                  refine el_pv (v := .int .i64 0) (pv_assign rfl) (by decide) ?_
                  refine el_pv (v := .bool false) (pv_assign rfl) (by decide) ?_
                  refine el_nil ?_
                  refine hQ194 _ _ _ ?_
                  refine thn_n ?_
                  refine cw_ret ?_
                  refine hQ161 _ _ _ ?_
                  refine inb_r ?_
                  refine hQ160 _ _ _ ?_
                  refine thn_r ?_
                  refine hQ156 _ _ _ ?_
                  refine thn_r ?_
                  refine hQ143 _ _ _ ?_
                  refine inb_r ?_
                  refine hQ141 _ _ _ ?_
                  refine thn_r ?_
                  replace hF := exL hF hK145
                  refine fin2 rfl rfl rfl ?_
                  have hr := Option.some.inj hF
                  exact ⟨congrArg (fun (r : Int × Bool) => Ending.returned (.tuple #[.int .i64 r.1, .bool r.2])) hr, hS.below⟩
                · refine cw_cond_f rfl hb193 ?_
                  refine cw_skip ?_
                  refine hQ161 _ _ _ ?_
                  refine inb_n ?_
                  refine hQ160 _ _ _ ?_
                  refine thn_n ?_
                  refine cw_reg ?_
                  replace hF := ob hF
                  obtain ⟨x195, hx195, hF⟩ := hF
                  refine el_pv (v := .int .i64 x195) (pv_add he153 rfl hx195) (by decide) ?_
                  refine el_pv (v := .int .i64 x195) (pv_move rfl) (by decide) ?_
                  refine el_nil ?_
                  refine hQ156 _ _ _ ?_
                  refine thn_n ?_
                  replace hS := hS.keep 2
                  exact ⟨x195, he147, he148, he149, he150, he151, he152, rfl, hS, hF⟩
              · refine ql_off rfl (bnot_f hb172) rfl (by decide) ?_
                refine ql_off rfl (bnot_f hb172) rfl (by decide) ?_
                refine ql_off rfl (bnot_f hb172) rfl (by decide) ?_
                refine ql_off rfl (bnot_f hb172) rfl (by decide) ?_
                refine ql_off rfl (bnot_f hb172) rfl (by decide) ?_
                refine ql_off rfl (bnot_f hb172) rfl (by decide) ?_
                refine ql_off rfl (bnot_f hb172) rfl (by decide) ?_
                refine ql_off rfl (bnot_f hb172) rfl (by decide) ?_
                refine ql_off rfl (bnot_f hb172) rfl (by decide) ?_
                refine ql_off rfl (bnot_f hb172) rfl (by decide) ?_
                refine ql_off rfl (bnot_f hb172) rfl (by decide) ?_
                refine ql_off rfl (bnot_f hb172) rfl (by decide) ?_
                refine ql_pv (v := .bool true) (pv_pick_t rfl (bnot_f hb172) rfl) (by decide) ?_
                refine ql_nil ?_
                intro w196 hx197
                replace hS := hS.ext hx197
                refine hQ169 _ _ _ ?_
                refine thn_n ?_
                refine cw_cond_t rfl rfl ?_
                refine cw_seq ?_
                refine cw_gen ?_
                intro Q198 hQ198
                replace hS : Sat w0 w196 [] := hS.rems 2 [0, 1] rfl
                refine cw_reg ?_
                refine el_pv (v := .int .i64 0) (pv_assign rfl) (by decide) ?_
                refine el_pv (v := .bool false) (pv_assign rfl) (by decide) ?_
                refine el_nil ?_
                refine hQ198 _ _ _ ?_
                refine thn_n ?_
                refine cw_ret ?_
                refine hQ161 _ _ _ ?_
                refine inb_r ?_
                refine hQ160 _ _ _ ?_
                refine thn_r ?_
                refine hQ156 _ _ _ ?_
                refine thn_r ?_
                refine hQ143 _ _ _ ?_
                refine inb_r ?_
                refine hQ141 _ _ _ ?_
                refine thn_r ?_
                replace hF := exL hF hK145
                refine fin2 rfl rfl rfl ?_
                have hr := Option.some.inj hF
                exact ⟨congrArg (fun (r : Int × Bool) => Ending.returned (.tuple #[.int .i64 r.1, .bool r.2])) hr, hS.below⟩
            · refine cw_cond_f rfl hb159 ?_
              refine cw_exit ?_
              refine hQ158 _ _ _ ?_
              refine thn_x ?_
              refine hQ156 _ _ _ ?_
              refine thn_x ?_
              replace hF := exA hF hK145
              refine hQ143 _ _ _ ?_
              refine inb_s ?_
              refine hQ141 _ _ _ ?_
              refine thn_n ?_
              refine cw_seq ?_
              refine cw_gen ?_
              intro Q199 hQ199
              refine cw_seq ?_
              refine cw_gen ?_
              intro Q200 hQ200
              refine cw_reg ?_
              refine el_pv (v := .pointer (some ⟨b103, 0 + 1, none⟩)) (pv_fieldAddr he149) (by decide) ?_
              refine el_pv (v := u1) (pv_loadc rfl ((hS.boxAt 1 rfl) 1 _ rfl)) (by decide) ?_
              refine el_pv (v := .int .i64 a3) (pv_move he148) (by decide) ?_
              replace hF := ob hF
              obtain ⟨x201, hx201, hF⟩ := hF
              refine el_slice (wA := w0) rfl rfl ha1 (.inl (congrArg some rfl)) (.inl (congrArg some rfl)) hx201 (by decide) ?_
              intro v202 hr203
              refine el_pv (v := .int .i64 (x201.length : Int)) (pv_len rfl hr203) (by decide) ?_
              refine el_pv (v := .int .i64 0) (pv_move rfl) (by decide) ?_
              refine el_nil ?_
              refine hQ200 _ _ _ ?_
              refine thn_n ?_
              refine cw_block ?_
              refine cw_gen ?_
              intro Q204 hQ204
              obtain ⟨s205, hL, hK206⟩ := ob hF
              replace hS : Sat w0 w154 [Box b118 84 [v115, v116]] := hS.rems 2 [1] rfl
              refine cw_loopS (fun k e w => ∃ (x207 : Int), e 1 = u2 ∧ e 8 = .pointer (some ⟨b118, 0, none⟩) ∧ e 80 = v202 ∧ e 81 = .int .i64 (x201.length : Int) ∧ e 82 = .int .i64 x207 ∧ Sat w0 w [Box b118 84 [v115, v116]] ∧ impl_nodeOk_L2 N k a2 x107.1 x107.2 x201 (x201.length : Int) x207 = some s205) N ?_ ?_ ?_
              · exact ⟨0, he147, he150, rfl, rfl, rfl, hS, hL⟩
              · rintro e w ⟨_, _, _, _, _, _, _, hz⟩; exact nomatch (show none = some _ from hz)
              · rintro k e214 w213 ⟨x207, he208, he209, he210, he211, he212, hS, hF⟩
                refine cw_gen ?_
                intro Q215 hQ215
                refine cw_seq ?_
                refine cw_gen ?_
                intro Q216 hQ216
                refine cw_reg ?_
                refine el_pv (v := .bool (decide (x207 < (x201.length : Int)))) (pv_lss he212 he211) (by decide) ?_
                refine el_nil ?_
                refine hQ216 _ _ _ ?_
                refine thn_n ?_
                refine cw_seq ?_
                refine cw_gen ?_
                intro Q217 hQ217
                replace hF := oif hF
                rcases hF with ⟨hb218, hF⟩ | ⟨hb218, hF⟩
                · refine cw_cond_t rfl hb218 ?_
                  refine cw_skip ?_
                  refine hQ217 _ _ _ ?_
                  refine thn_n ?_
                  refine cw_seq ?_
                  refine cw_gen ?_
                  intro Q219 hQ219
                  refine cw_block ?_
                  refine cw_gen ?_
                  intro Q220 hQ220
                  refine cw_seq ?_
                  refine cw_gen ?_
                  intro Q221 hQ221
                  refine cw_reg ?_
                  replace hF := ob hF
                  obtain ⟨x222, hx222, hF⟩ := hF
                  refine el_index (wA := w0) he210 hr203 rfl (by decide) he212 hx222 (by decide) ?_
                  intro b223 of224 c225 hr226 hm227
                  obtain ⟨_, _, rfl, hr228, hr229⟩ := hr226
                  obtain ⟨v230, rfl⟩ := slice_one hr228
                  obtain ⟨v231, rfl⟩ := slice_one hr229
                  refine el_pv (v := .agg #[v230, v231]) (pv_loada (cs := [v230, v231]) rfl rfl (cells_up hS.below hm227)) (by decide) ?_
                  refine el_alloc hS (by decide) ?_
                  intro w232 b233 hS hx234
                  refine el_storev (hS.top 0 rfl) rfl [v230, v231] rfl rfl (of_decide_eq_true rfl) (all_cons (oc hr228) (all_cons (oc hr229) rfl)) ?_
                  intro w236 hS
                  replace hS : Sat w0 w236 [Box b233 84 [v230, v231], Box b118 84 [v115, v116]] := hS
                  refine el_nil ?_
                  refine hQ221 _ _ _ ?_
                  refine thn_n ?_
                  refine cw_seq ?_
                  refine cw_gen ?_
                  intro Q237 hQ237
                  refine cw_reg ?_
                  refine el_pv (v := .agg #[v230, v231]) (pv_loada (cs := [v230, v231]) rfl rfl (boxc0 (hS.boxAt 0 rfl))) (by decide) ?_
                  refine el_pv (v := .agg #[v115, v116]) (pv_loada (cs := [v115, v116]) he209 rfl (boxc0 (hS.boxAt 1 rfl))) (by decide) ?_
                  replace hF := ob hF
                  obtain ⟨r238, hr238, hF⟩ := hF
                  refine el_call goes65 (impl_sameNode_ok (hS.up hr228) (hS.up hr229) (hS.up hr113) (hS.up hr114) hr238) (congrArg List.toArray (mapc rfl (mapc rfl rfl))) (by decide) ?_
                  rintro _ w239 ⟨rfl, hx240⟩
                  refine ⟨_, rfl, ?_⟩
                  replace hS := hS.ext hx240
                  refine el_nil ?_
                  refine hQ237 _ _ _ ?_
                  refine thn_n ?_
                  replace hF := oif hF
                  rcases hF with ⟨hb241, hF⟩ | ⟨hb241, hF⟩
                  · refine cw_cond_t rfl hb241 ?_
                    refine cw_seq ?_
                    refine cw_gen ?_
                    intro Q242 hQ242
                    replace hS : Sat w0 w239 [] := hS.rems 2 [0, 1] rfl
                    refine cw_reg ?_
                    refine el_pv (v := .int .i64 0) (pv_assign rfl) (by decide) ?_
                    refine el_pv (v := .bool false) (pv_assign rfl) (by decide) ?_
                    refine el_nil ?_
                    refine hQ242 _ _ _ ?_
                    refine thn_n ?_
                    refine cw_ret ?_
                    refine hQ220 _ _ _ ?_
                    refine inb_r ?_
                    refine hQ219 _ _ _ ?_
                    refine thn_r ?_
                    refine hQ215 _ _ _ ?_
                    refine thn_r ?_
                    refine hQ204 _ _ _ ?_
                    refine inb_r ?_
                    refine hQ199 _ _ _ ?_
                    refine thn_r ?_
                    replace hF := exL hF hK206
                    refine fin2 rfl rfl rfl ?_
                    have hr := Option.some.inj hF
                    exact ⟨congrArg (fun (r : Int × Bool) => Ending.returned (.tuple #[.int .i64 r.1, .bool r.2])) hr, hS.below⟩
                  · refine cw_cond_f rfl hb241 ?_
                    refine cw_skip ?_
                    refine hQ220 _ _ _ ?_
                    refine inb_n ?_
                    refine hQ219 _ _ _ ?_
                    refine thn_n ?_
                    replace hS : Sat w0 w239 [Box b118 84 [v115, v116]] := hS.rems 2 [0] rfl
                    refine cw_reg ?_
                    replace hF := ob hF
                    obtain ⟨x243, hx243, hF⟩ := hF
                    refine el_pv (v := .int .i64 x243) (pv_add he212 rfl hx243) (by decide) ?_
                    refine el_pv (v := .int .i64 x243) (pv_move rfl) (by decide) ?_
                    refine el_nil ?_
                    refine hQ215 _ _ _ ?_
                    refine thn_n ?_
                    replace hS := hS.keep 1
                    exact ⟨x243, he208, he209, he210, he211, rfl, hS, hF⟩
                · refine cw_cond_f rfl hb218 ?_
                  refine cw_exit ?_
                  refine hQ217 _ _ _ ?_
                  refine thn_x ?_
                  refine hQ215 _ _ _ ?_
                  refine thn_x ?_
                  replace hF := exA hF hK206
                  refine hQ204 _ _ _ ?_
                  refine inb_s ?_
                  refine hQ199 _ _ _ ?_
                  refine thn_n ?_
                  refine cw_seq ?_
                  refine cw_gen ?_
                  intro Q244 hQ244
                  refine cw_reg ?_
                  refine el_pv (v := u2) (pv_move he208) (by decide) ?_
                  refine el_pv (v := .pointer (some ⟨b118, 0 + 1, none⟩)) (pv_fieldAddr he209) (by decide) ?_
                  refine el_pv (v := v116) (pv_loadc rfl ((hS.boxAt 0 rfl) 1 _ rfl)) (by decide) ?_
                  replace hF := ob hF
                  obtain ⟨x245, hx245, hF⟩ := hF
                  refine el_index (wA := w0) rfl hr114 rfl (by decide) rfl hx245 (by decide) ?_
                  intro b246 of247 c248 hr249 hm250
                  obtain rfl := hr249
                  refine el_pv (v := .int .i64 x245) (pv_loadc rfl ((cells_up hS.below hm250) 0 _ rfl)) (by decide) ?_
                  replace hF := ob hF
                  obtain ⟨x251, hx251, hF⟩ := hF
                  refine el_index (wA := w0) rfl ha2 rfl (by decide) rfl hx251 (by decide) ?_
                  intro b252 of253 c254 hr255 hm256
                  obtain rfl := hr255
                  refine el_pv (v := .int .i64 x251) (pv_loadc rfl ((cells_up hS.below hm256) 0 _ rfl)) (by decide) ?_
                  replace hF := ob hF
                  obtain ⟨x257, hx257, hF⟩ := hF
                  refine el_pv (v := .int .i64 x257) (pv_add rfl rfl hx257) (by decide) ?_
                  refine el_pv (v := .int .i64 x257) (pv_assign rfl) (by decide) ?_
                  refine el_pv (v := .bool true) (pv_assign rfl) (by decide) ?_
                  refine el_nil ?_
                  refine hQ244 _ _ _ ?_
                  refine thn_n ?_
                  refine cw_ret ?_
                  refine fin2 rfl rfl rfl ?_
                  have hr := Option.some.inj hF
                  exact ⟨congrArg (fun (r : Int × Bool) => Ending.returned (.tuple #[.int .i64 r.1, .bool r.2])) hr, hS.below⟩
      · refine cw_cond_t rfl (bnot_f hb133) ?_
        refine cw_seq ?_
        refine cw_gen ?_
        intro Q258 hQ258
        replace hS : Sat w0 w131 [] := hS.rems 2 [0, 1] rfl
        refine cw_reg ?_
        refine el_pv (v := .int .i64 0) (pv_assign rfl) (by decide) ?_
        refine el_pv (v := .bool false) (pv_assign rfl) (by decide) ?_
        refine el_nil ?_
        refine hQ258 _ _ _ ?_
        refine thn_n ?_
        refine cw_ret ?_
        refine hQ122 _ _ _ ?_
        refine thn_r ?_
        refine fin2 rfl rfl rfl ?_
        have hr := Option.some.inj hF
        exact ⟨congrArg (fun (r : Int × Bool) => Ending.returned (.tuple #[.int .i64 r.1, .bool r.2])) hr, hS.below⟩
    · refine el_off rfl (bnot_f hb129) rfl (by decide) ?_
      refine el_off rfl (bnot_f hb129) rfl (by decide) ?_
      refine el_off rfl (bnot_f hb129) rfl (by decide) ?_
      refine el_off rfl (bnot_f hb129) rfl (by decide) ?_
      refine el_pv (v := .bool true) (pv_pick_t rfl (bnot_f hb129) rfl) (by decide) ?_
      refine el_nil ?_
      refine hQ123 _ _ _ ?_
      refine thn_n ?_
      refine cw_cond_t rfl rfl ?_
      refine cw_seq ?_
      refine cw_gen ?_
      intro Q259 hQ259
      replace hS : Sat w0 w127 [] := hS.rems 2 [0, 1] rfl
      refine cw_reg ?_
      refine el_pv (v := .int .i64 0) (pv_assign rfl) (by decide) ?_
      refine el_pv (v := .bool false) (pv_assign rfl) (by decide) ?_
      refine el_nil ?_
      refine hQ259 _ _ _ ?_
      refine thn_n ?_
      refine cw_ret ?_
      refine hQ122 _ _ _ ?_
      refine thn_r ?_
      refine fin2 rfl rfl rfl ?_
      have hr := Option.some.inj hF
      exact ⟨congrArg (fun (r : Int × Bool) => Ending.returned (.tuple #[.int .i64 r.1, .bool r.2])) hr, hS.below⟩
set_option maxHeartbeats 4000000 in
theorem impl_IsValidFactorization_ok {w0 : World} {u0 : Value} {a0 : List Int} {u1 : Value} {a1 : List (List Int × List Int)} (ha0 : (sliceR intR 3).rd w0 [u0] a0) (ha1 : (sliceR (pairR (sliceR intR 3) (sliceR intR 3)) 84).rd w0 [u1] a1) {N : Nat} {r : Bool} (hF : impl_IsValidFactorization N a0 a1 = some r) :
    Calls Try.prog 25 #[.agg #[u0, u1]] w0 fun e w' => e = .returned (.bool r) ∧ Ext w0 w' := by
  unfold impl_IsValidFactorization at hF
  refine calls_E Try.func25 rfl rfl (of_decide_eq_true rfl) ?_
  have hS := Sat.start w0
  refine cw_seq ?_
  refine cw_gen ?_
  intro Q101 hQ101
  refine cw_reg ?_
  refine el_box [u0, u1] rfl hS (by decide) ?_
  intro w102 b103 hS hx104
  refine el_pv (v := .bool false) (pv_assign rfl) (by decide) ?_
  refine el_nil ?_
  refine hQ101 _ _ _ ?_
  refine thn_n ?_
  refine cw_seq ?_
  refine cw_gen ?_
  intro Q106 hQ106
  refine cw_reg ?_
  refine el_pv (v := .agg #[u0, u1]) (pv_loada (cs := [u0, u1]) rfl rfl (boxc0 (hS.boxAt 0 rfl))) (by decide) ?_
  refine el_alloc hS (by decide) ?_
  intro w107 b108 hS hx109
  refine el_storev (hS.top 0 rfl) rfl [u0, u1] rfl rfl (of_decide_eq_true rfl) (all_cons (oc ha0) (all_cons (oc ha1) rfl)) ?_
  intro w111 hS
  replace hS : Sat w0 w111 [Box b108 29 [u0, u1], Box b103 29 [u0, u1]] := hS
  refine el_nil ?_
  refine hQ106 _ _ _ ?_
  refine thn_n ?_
  refine cw_seq ?_
  refine cw_gen ?_
  intro Q112 hQ112
  refine cw_seq ?_
  refine cw_gen ?_
  intro Q113 hQ113
  replace hS : Sat w0 w111 [Box b108 29 [u0, u1]] := hS.rems 2 [1] rfl
  refine cw_reg ?_
  refine el_pv (v := .pointer (some ⟨b108, 0 + 0, none⟩)) (pv_fieldAddr rfl) (by decide) ?_
  refine el_pv (v := u0) (pv_loadc rfl ((hS.boxAt 0 rfl) 0 _ rfl)) (by decide) ?_
  replace hF := ob hF
  obtain ⟨r114, hr114, hF⟩ := hF
  refine el_call goes66 (impl_IsPermutation_ok (hS.up ha0) hr114) (congrArg List.toArray (mapc rfl rfl)) (by decide) ?_
  rintro _ w115 ⟨rfl, hx116⟩
  refine ⟨_, rfl, ?_⟩
  replace hS := hS.ext hx116
  refine el_pv (v := .bool (!r114)) (pv_not rfl) (by decide) ?_
  refine el_pv (v := .bool (!r114)) (pv_move rfl) (by decide) ?_
  replace hF := oif hF
  rcases hF with ⟨hb117, hF⟩ | ⟨hb117, hF⟩
  · refine el_on rfl (bnot_t hb117) ?_
    refine el_pv (v := .pointer (some ⟨b108, 0 + 1, none⟩)) (pv_fieldAddr rfl) (by decide) ?_
    refine el_on rfl (bnot_t hb117) ?_
    refine el_pv (v := u1) (pv_loadc rfl ((hS.boxAt 0 rfl) 1 _ rfl)) (by decide) ?_
    refine el_on rfl (bnot_t hb117) ?_
    refine el_pv (v := .int .i64 (a1.length : Int)) (pv_len rfl ha1) (by decide) ?_
    refine el_on rfl (bnot_t hb117) ?_
    replace hF := ob hF
    obtain ⟨r118, hr118, hF⟩ := hF
    refine el_call goes67 (impl_within_ok hr118) (congrArg List.toArray (mapc rfl (mapc rfl (mapc rfl rfl)))) (by decide) ?_
    rintro _ w119 ⟨rfl, hx120⟩
    refine ⟨_, rfl, ?_⟩
    replace hS := hS.ext hx120
    refine el_on rfl (bnot_t hb117) ?_
    refine el_pv (v := .bool (!r118)) (pv_not rfl) (by decide) ?_
    refine el_pv (v := .bool (!r118)) (pv_pick_f rfl (bnot_t hb117) rfl) (by decide) ?_
    refine el_pv (v := .bool (!r118)) (pv_move rfl) (by decide) ?_
    replace hF := oif hF
    rcases hF with ⟨hb121, hF⟩ | ⟨hb121, hF⟩
    · refine el_on rfl (bnot_t hb121) ?_
      refine el_pv (v := .pointer (some ⟨b108, 0 + 1, none⟩)) (pv_fieldAddr rfl) (by decide) ?_
      refine el_on rfl (bnot_t hb121) ?_
      refine el_pv (v := u1) (pv_loadc rfl ((hS.boxAt 0 rfl) 1 _ rfl)) (by decide) ?_
      refine el_on rfl (bnot_t hb121) ?_
      replace hF := ob hF
      obtain ⟨x122, hx122, hF⟩ := hF
      refine el_index (wA := w0) rfl ha1 rfl (by decide) rfl hx122 (by decide) ?_
      intro b123 of124 c125 hr126 hm127
      obtain ⟨_, _, rfl, hr128, hr129⟩ := hr126
      obtain ⟨v130, rfl⟩ := slice_one hr128
      obtain ⟨v131, rfl⟩ := slice_one hr129
      refine el_on rfl (bnot_t hb121) ?_
      refine el_pv (v := .pointer (some ⟨b123, of124 + 0, none⟩)) (pv_fieldAddr rfl) (by decide) ?_
      refine el_on rfl (bnot_t hb121) ?_
      refine el_pv (v := v130) (pv_loadc rfl ((cells_up hS.below hm127) 0 _ rfl)) (by decide) ?_
      refine el_on rfl (bnot_t hb121) ?_
      refine el_pv (v := .int .i64 (x122.1.length : Int)) (pv_len rfl hr128) (by decide) ?_
      refine el_on rfl (bnot_t hb121) ?_
      refine el_pv (v := .bool (decide (0 < (x122.1.length : Int)))) (pv_gtr rfl rfl) (by decide) ?_
      refine el_pv (v := .bool (decide (0 < (x122.1.length : Int)))) (pv_pick_f rfl (bnot_t hb121) rfl) (by decide) ?_
      refine el_pv (v := .bool (decide (0 < (x122.1.length : Int)))) (pv_move rfl) (by decide) ?_
      replace hF := oif hF
      rcases hF with ⟨hb132, hF⟩ | ⟨hb132, hF⟩
      · refine el_off rfl hb132 rfl (by decide) ?_
        refine el_off rfl hb132 rfl (by decide) ?_
        refine el_off rfl hb132 rfl (by decide) ?_
        refine el_off rfl hb132 rfl (by decide) ?_
        refine el_off rfl hb132 rfl (by decide) ?_
        refine el_off rfl hb132 rfl (by decide) ?_
        refine el_off rfl hb132 rfl (by decide) ?_
        refine el_pv (v := .bool true) (pv_pick_t rfl hb132 rfl) (by decide) ?_
        refine el_nil ?_
        refine hQ113 _ _ _ ?_
        refine thn_n ?_
        refine cw_cond_t rfl rfl ?_
        refine cw_seq ?_
        refine cw_gen ?_
        intro Q133 hQ133
        replace hS : Sat w0 w119 [] := hS.rems 1 [0] rfl
        refine cw_reg ?_
        refine el_pv (v := .bool false) (pv_assign rfl) (by decide) ?_
        refine el_nil ?_
        refine hQ133 _ _ _ ?_
        refine thn_n ?_
        refine cw_ret ?_
        refine hQ112 _ _ _ ?_
        refine thn_r ?_
        refine fin1 rfl rfl ?_
        have hr := Option.some.inj hF
        exact ⟨congrArg (fun (r : Bool) => Ending.returned (.bool r)) hr, hS.below⟩
      · refine el_on rfl hb132 ?_
        refine el_pv (v := .pointer (some ⟨b108, 0 + 1, none⟩)) (pv_fieldAddr rfl) (by decide) ?_
        refine el_on rfl hb132 ?_
        refine el_pv (v := u1) (pv_loadc rfl ((hS.boxAt 0 rfl) 1 _ rfl)) (by decide) ?_
        refine el_on rfl hb132 ?_
        replace hF := ob hF
        obtain ⟨x134, hx134, hF⟩ := hF
        refine el_index (wA := w0) rfl ha1 rfl (by decide) rfl hx134 (by decide) ?_
        intro b135 of136 c137 hr138 hm139
        obtain ⟨_, _, rfl, hr140, hr141⟩ := hr138
        obtain ⟨v142, rfl⟩ := slice_one hr140
        obtain ⟨v143, rfl⟩ := slice_one hr141
        refine el_on rfl hb132 ?_
        refine el_pv (v := .pointer (some ⟨b135, of136 + 1, none⟩)) (pv_fieldAddr rfl) (by decide) ?_
        refine el_on rfl hb132 ?_
        refine el_pv (v := v143) (pv_loadc rfl ((cells_up hS.below hm139) 1 _ rfl)) (by decide) ?_
        refine el_on rfl hb132 ?_
        refine el_pv (v := .int .i64 (x134.2.length : Int)) (pv_len rfl hr141) (by decide) ?_
        refine el_on rfl hb132 ?_
        refine el_pv (v := .bool (decide (0 < (x134.2.length : Int)))) (pv_gtr rfl rfl) (by decide) ?_
        refine el_pv (v := .bool (decide (0 < (x134.2.length : Int)))) (pv_pick_f rfl hb132 rfl) (by decide) ?_
        refine el_nil ?_
        refine hQ113 _ _ _ ?_
        refine thn_n ?_
        replace hF := oif hF
        rcases hF with ⟨hb144, hF⟩ | ⟨hb144, hF⟩
        · refine cw_cond_t rfl hb144 ?_
          refine cw_seq ?_
          refine cw_gen ?_
          intro Q145 hQ145
          replace hS : Sat w0 w119 [] := hS.rems 1 [0] rfl
          refine cw_reg ?_
          refine el_pv (v := .bool false) (pv_assign rfl) (by decide) ?_
          refine el_nil ?_
          refine hQ145 _ _ _ ?_
          refine thn_n ?_
          refine cw_ret ?_
          refine hQ112 _ _ _ ?_
          refine thn_r ?_
          refine fin1 rfl rfl ?_
          have hr := Option.some.inj hF
          exact ⟨congrArg (fun (r : Bool) => Ending.returned (.bool r)) hr, hS.below⟩
        · refine cw_cond_f rfl hb144 ?_
          refine cw_skip ?_
          refine hQ112 _ _ _ ?_
          refine thn_n ?_
          refine cw_seq ?_
          refine cw_gen ?_
          intro Q146 hQ146
          refine cw_reg ?_
          refine el_pv (v := .pointer (some ⟨b108, 0 + 1, none⟩)) (pv_fieldAddr rfl) (by decide) ?_
          refine el_pv (v := u1) (pv_loadc rfl ((hS.boxAt 0 rfl) 1 _ rfl)) (by decide) ?_
          refine el_pv (v := .int .i64 (a1.length : Int)) (pv_len rfl ha1) (by decide) ?_
          replace hF := ob hF
          obtain ⟨x150, hx150, hF⟩ := hF
          refine el_make (R := intR) (x0 := 0) rfl (by decide) rfl (fun _ => ⟨rfl, rfl⟩) rfl rfl hx150 hS (by decide) ?_
          intro w147 g148 k149 hS hx151 hlx150
          refine el_pv (v := (.slice (some ⟨g148, 0, none⟩) k149 k149)) (pv_assign rfl) (by decide) ?_
          refine el_nil ?_
          refine hQ146 _ _ _ ?_
          refine thn_n ?_
          refine cw_seq ?_
          refine cw_gen ?_
          intro Q153 hQ153
          refine cw_seq ?_
          refine cw_gen ?_
          intro Q154 hQ154
          refine cw_reg ?_
          refine el_pv (v := .int .i64 1) (pv_assign rfl) (by decide) ?_
          refine el_nil ?_
          refine hQ154 _ _ _ ?_
          refine thn_n ?_
          refine cw_block ?_
          refine cw_gen ?_
          intro Q155 hQ155
          obtain ⟨s156, hL, hK157⟩ := ob hF
          refine cw_loopS (fun k e w => ∃ (v159 : Value), ∃ (x158 : List Int), ∃ (x160 : Int), e 3 = .pointer (some ⟨b108, 0, none⟩) ∧ e 4 = v159 ∧ e 5 = .int .i64 x160 ∧ Sat w0 w [Own (sliceR intR 3) [v159] x158, Box b108 29 [u0, u1]] ∧ impl_IsValidFactorization_L1 N k a0 a1 x158 x160 = some s156) N ?_ ?_ ?_
          · exact ⟨(.slice (some ⟨g148, 0, none⟩) k149 k149), x150, 1, rfl, rfl, rfl, hS, hL⟩
          · rintro e w ⟨_, _, _, _, _, _, _, hz⟩; exact nomatch (show none = some _ from hz)
          · rintro k e165 w164 ⟨v159, x158, x160, he161, he162, he163, hS, hF⟩
            refine cw_gen ?_
            intro Q166 hQ166
            refine cw_seq ?_
            refine cw_gen ?_
            intro Q167 hQ167
            refine cw_seq ?_
            refine cw_gen ?_
            intro Q168 hQ168
            refine cw_reg ?_
            refine el_pv (v := .int .i64 x160) (pv_move he163) (by decide) ?_
            refine el_pv (v := .pointer (some ⟨b108, 0 + 1, none⟩)) (pv_fieldAddr he161) (by decide) ?_
            refine el_pv (v := u1) (pv_loadc rfl ((hS.boxAt 1 rfl) 1 _ rfl)) (by decide) ?_
            refine el_pv (v := .int .i64 (a1.length : Int)) (pv_len rfl ha1) (by decide) ?_
            refine el_pv (v := .bool (decide (x160 < (a1.length : Int)))) (pv_lss rfl rfl) (by decide) ?_
            refine el_nil ?_
            refine hQ168 _ _ _ ?_
            refine thn_n ?_
            replace hF := oif hF
            rcases hF with ⟨hb169, hF⟩ | ⟨hb169, hF⟩
            · refine cw_cond_t rfl hb169 ?_
              refine cw_skip ?_
              refine hQ167 _ _ _ ?_
              refine thn_n ?_
              refine cw_seq ?_
              refine cw_gen ?_
              intro Q170 hQ170
              refine cw_block ?_
              refine cw_gen ?_
              intro Q171 hQ171
              refine cw_seq ?_
              refine cw_gen ?_
              intro Q172 hQ172
              refine cw_reg ?_
              refine el_pv (v := .agg #[u0, u1]) (pv_loada (cs := [u0, u1]) he161 rfl (boxc0 (hS.boxAt 1 rfl))) (by decide) ?_
              refine el_pv (v := v159) (pv_move he162) (by decide) ?_
              refine el_pv (v := .int .i64 x160) (pv_move he163) (by decide) ?_
              replace hF := ob hF
              obtain ⟨r173, hr173, hF⟩ := hF
              refine el_call goes68 (impl_nodeOk_ok (hS.up ha0) (hS.up ha1) (hS.rdAt (R := (sliceR intR 3)) 0 rfl) hr173) (congrArg List.toArray (mapc rfl (mapc rfl (mapc rfl rfl)))) (by decide) ?_
              rintro _ w174 ⟨rfl, hx175⟩
              refine ⟨_, rfl, ?_⟩
              replace hS := hS.ext hx175
              refine el_pv (v := .tuple #[.int .i64 r173.1, .bool r173.2]) (pv_move rfl) (by decide) ?_
              refine el_pv (v := .int .i64 r173.1) (pv_extract rfl rfl) (by decide) ?_
              refine el_pv (v := .bool r173.2) (pv_extract rfl rfl) (by decide) ?_
              refine el_pv (v := .int .i64 r173.1) (pv_assign rfl) (by decide) ?_
              refine el_pv (v := .bool r173.2) (pv_assign rfl) (by decide) ?_
              refine el_nil ?_
              refine hQ172 _ _ _ ?_
              refine thn_n ?_
              refine cw_seq ?_
              refine cw_gen ?_
              intro Q176 hQ176
              refine cw_seq ?_
              refine cw_gen ?_
              intro Q177 hQ177
              refine cw_reg ?_
              refine el_pv (v := .bool r173.2) (pv_move rfl) (by decide) ?_
              refine el_pv (v := .bool (!r173.2)) (pv_not rfl) (by decide) ?_
              refine el_nil ?_
              refine hQ177 _ _ _ ?_
              refine thn_n ?_
              replace hF := oif hF
              rcases hF with ⟨hb178, hF⟩ | ⟨hb178, hF⟩
              · refine cw_cond_f rfl (bnot_t hb178) ?_
                refine cw_skip ?_
                refine hQ176 _ _ _ ?_
                refine thn_n ?_
                refine cw_reg ?_
                refine el_pv (v := v159) (pv_move he162) (by decide) ?_
                refine el_pv (v := .int .i64 x160) (pv_move he163) (by decide) ?_
                refine el_pv (v := .int .i64 r173.1) (pv_move rfl) (by decide) ?_
                replace hF := ob hF
                obtain ⟨x179, hx179, hF⟩ := hF
                obtain ⟨g180, cap181, hv182⟩ := ownShape 0 hS rfl hx179
                refine el_pv (v := .pointer (some ⟨g180, x160.toNat * 1, none⟩)) (pv_indexF (v := v159) rfl hv182 rfl hx179) (by decide) ?_
                replace hF := ob hF
                obtain ⟨x184, hx184, hF⟩ := hF
                replace hS := hS.int r173.1
                refine el_storeO rfl hv182 hS hx184 rfl rfl ?_
                intro w183 hS
                refine el_nil ?_
                refine hQ171 _ _ _ ?_
                refine inb_n ?_
                refine hQ170 _ _ _ ?_
                refine thn_n ?_
                refine cw_reg ?_
                refine el_pv (v := .int .i64 x160) (pv_move he163) (by decide) ?_
                replace hF := ob hF
                obtain ⟨x185, hx185, hF⟩ := hF
                refine el_pv (v := .int .i64 x185) (pv_add rfl rfl hx185) (by decide) ?_
                refine el_pv (v := .int .i64 x185) (pv_assign rfl) (by decide) ?_
                refine el_nil ?_
                refine hQ166 _ _ _ ?_
                refine thn_n ?_
                replace hS := hS.keep 2
                exact ⟨v159, x184, x185, he161, he162, rfl, hS, hF⟩
              · refine cw_cond_t rfl (bnot_f hb178) ?_
                refine cw_seq ?_
                refine cw_gen ?_
                intro Q186 hQ186
                replace hS : Sat w0 w174 [] := hS.rems 2 [0, 1] rfl
                refine cw_reg ?_
                refine el_pv (v := .bool false) (pv_assign rfl) (by decide) ?_
                refine el_nil ?_
                refine hQ186 _ _ _ ?_
                refine thn_n ?_
                refine cw_ret ?_
                refine hQ176 _ _ _ ?_
                refine thn_r ?_
                refine hQ171 _ _ _ ?_
                refine inb_r ?_
                refine hQ170 _ _ _ ?_
                refine thn_r ?_
                refine hQ166 _ _ _ ?_
                refine thn_r ?_
                refine hQ155 _ _ _ ?_
                refine inb_r ?_
                refine hQ153 _ _ _ ?_
                refine thn_r ?_
                replace hF := exL hF hK157
                refine fin1 rfl rfl ?_
                have hr := Option.some.inj hF
                exact ⟨congrArg (fun (r : Bool) => Ending.returned (.bool r)) hr, hS.below⟩
            · refine cw_cond_f rfl hb169 ?_
              refine cw_exit ?_
              refine hQ167 _ _ _ ?_
              refine thn_x ?_
              refine hQ166 _ _ _ ?_
              refine thn_x ?_
              replace hF := exA hF hK157
              refine hQ155 _ _ _ ?_
              refine inb_s ?_
              refine hQ153 _ _ _ ?_
              refine thn_n ?_
              refine cw_seq ?_
              refine cw_gen ?_
              intro Q187 hQ187
              refine cw_regq (by kernel_rfl) (by kernel_rfl) ?_
              refine ql_pv (v := v159) (pv_move he162) (by decide) ?_
              refine ql_pv (v := v159) (pv_move he162) (by decide) ?_
              refine ql_pv (v := .int .i64 (x158.length : Int)) (pv_len rfl (hS.rdAt (R := (sliceR intR 3)) 0 rfl)) (by decide) ?_
              replace hF := ob hF
              obtain ⟨x188, hx188, hF⟩ := hF
              refine ql_pv (v := .int .i64 x188) (pv_sub rfl rfl hx188) (by decide) ?_
              replace hF := ob hF
              obtain ⟨x189, hx189, hF⟩ := hF
              obtain ⟨g190, cap191, hv192⟩ := ownShape 0 hS rfl hx189
              refine ql_pv (v := .pointer (some ⟨g190, x188.toNat * 1, none⟩)) (pv_indexF (v := v159) rfl hv192 rfl hx189) (by decide) ?_
              refine ql_pv (v := .int .i64 x189) (pv_loadc rfl (hS.ownCell 0 rfl hv192 hx189)) (by decide) ?_
              refine ql_pv (v := .pointer (some ⟨b108, 0 + 0, none⟩)) (pv_fieldAddr he161) (by decide) ?_
              refine ql_pv (v := u0) (pv_loadc rfl ((hS.boxAt 1 rfl) 0 _ rfl)) (by decide) ?_
              refine ql_pv (v := .int .i64 (a0.length : Int)) (pv_len rfl ha0) (by decide) ?_
              refine ql_pv (v := .bool (x189 == (a0.length : Int))) (pv_eql rfl rfl) (by decide) ?_
              refine ql_pv (v := .bool (x189 == (a0.length : Int))) (pv_assign rfl) (by decide) ?_
              refine ql_nil ?_
              intro w193 hx194
              replace hS := hS.ext hx194
              refine hQ187 _ _ _ ?_
              refine thn_n ?_
              refine cw_ret ?_
              refine fin1 rfl rfl ?_
              have hr := Option.some.inj hF
              exact ⟨congrArg (fun (r : Bool) => Ending.returned (.bool r)) hr, hS.below⟩
    · refine el_off rfl (bnot_f hb121) rfl (by decide) ?_
      refine el_off rfl (bnot_f hb121) rfl (by decide) ?_
      refine el_off rfl (bnot_f hb121) rfl (by decide) ?_
      refine el_off rfl (bnot_f hb121) rfl (by decide) ?_
      refine el_off rfl (bnot_f hb121) rfl (by decide) ?_
      refine el_off rfl (bnot_f hb121) rfl (by decide) ?_
      refine el_off rfl (bnot_f hb121) rfl (by decide) ?_
      refine el_pv (v := .bool true) (pv_pick_t rfl (bnot_f hb121) rfl) (by decide) ?_
      refine el_pv (v := .bool true) (pv_move rfl) (by decide) ?_
      refine el_off rfl rfl rfl (by decide) ?_
      refine el_off rfl rfl rfl (by decide) ?_
      refine el_off rfl rfl rfl (by decide) ?_
      refine el_off rfl rfl rfl (by decide) ?_
      refine el_off rfl rfl rfl (by decide) ?_
      refine el_off rfl rfl rfl (by decide) ?_
      refine el_off rfl rfl rfl (by decide) ?_
      refine el_pv (v := .bool true) (pv_pick_t rfl rfl rfl) (by decide) ?_
      refine el_nil ?_
      refine hQ113 _ _ _ ?_
      refine thn_n ?_
      refine cw_cond_t rfl rfl ?_
      refine cw_seq ?_
      refine cw_gen ?_
      intro Q195 hQ195
      replace hS : Sat w0 w119 [] := hS.rems 1 [0] rfl
      refine cw_reg ?_
      refine el_pv (v := .bool false) (pv_assign rfl) (by decide) ?_
      refine el_nil ?_
      refine hQ195 _ _ _ ?_
      refine thn_n ?_
      refine cw_ret ?_
      refine hQ112 _ _ _ ?_
      refine thn_r ?_
      refine fin1 rfl rfl ?_
      have hr := Option.some.inj hF
      exact ⟨congrArg (fun (r : Bool) => Ending.returned (.bool r)) hr, hS.below⟩
  · refine el_off rfl (bnot_f hb117) rfl (by decide) ?_
    refine el_off rfl (bnot_f hb117) rfl (by decide) ?_
    refine el_off rfl (bnot_f hb117) rfl (by decide) ?_
    refine el_off rfl (bnot_f hb117) rfl (by decide) ?_
    refine el_off rfl (bnot_f hb117) rfl (by decide) ?_
    refine el_pv (v := .bool true) (pv_pick_t rfl (bnot_f hb117) rfl) (by decide) ?_
    refine el_pv (v := .bool true) (pv_move rfl) (by decide) ?_
    refine el_off rfl rfl rfl (by decide) ?_
    refine el_off rfl rfl rfl (by decide) ?_
    refine el_off rfl rfl rfl (by decide) ?_
    refine el_off rfl rfl rfl (by decide) ?_
    refine el_off rfl rfl rfl (by decide) ?_
    refine el_off rfl rfl rfl (by decide) ?_
    refine el_off rfl rfl rfl (by decide) ?_
    refine el_pv (v := .bool true) (pv_pick_t rfl rfl rfl) (by decide) ?_
    refine el_pv (v := .bool true) (pv_move rfl) (by decide) ?_
    refine el_off rfl rfl rfl (by decide) ?_
    refine el_off rfl rfl rfl (by decide) ?_
    refine el_off rfl rfl rfl (by decide) ?_
    refine el_off rfl rfl rfl (by decide) ?_
    refine el_off rfl rfl rfl (by decide) ?_
    refine el_off rfl rfl rfl (by decide) ?_
    refine el_off rfl rfl rfl (by decide) ?_
    refine el_pv (v := .bool true) (pv_pick_t rfl rfl rfl) (by decide) ?_
    refine el_nil ?_
    refine hQ113 _ _ _ ?_
    refine thn_n ?_
    refine cw_cond_t rfl rfl ?_
    refine cw_seq ?_
    refine cw_gen ?_
    intro Q196 hQ196
    replace hS : Sat w0 w115 [] := hS.rems 1 [0] rfl
    refine cw_reg ?_
    refine el_pv (v := .bool false) (pv_assign rfl) (by decide) ?_
    refine el_nil ?_
    refine hQ196 _ _ _ ?_
    refine thn_n ?_
    refine cw_ret ?_
    refine hQ112 _ _ _ ?_
    refine thn_r ?_
    refine fin1 rfl rfl ?_
    have hr := Option.some.inj hF
    exact ⟨congrArg (fun (r : Bool) => Ending.returned (.bool r)) hr, hS.below⟩
set_option maxHeartbeats 4000000 in
theorem impl_counts_ok {w0 : World} {u0 : Value} {a0 : List Int} {u1 : Value} {a1 : List (List Int × List Int)} (_ : (sliceR intR 3).rd w0 [u0] a0) (ha1 : (sliceR (pairR (sliceR intR 3) (sliceR intR 3)) 84).rd w0 [u1] a1) {N : Nat} {r : (List Int)} (hF : impl_counts N a0 a1 = some r) :
    Calls Try.prog 101 #[.agg #[u0, u1]] w0 fun e w' => ∃ (q0 : Value), e = .returned (q0) ∧ Sat w0 w' [Own (sliceR intR 3) [q0] r] := by
  unfold impl_counts at hF
  refine calls_E Try.func101 rfl rfl (of_decide_eq_true rfl) ?_
  have hS := Sat.start w0
  refine cw_seq ?_
  refine cw_gen ?_
  intro Q101 hQ101
  refine cw_reg ?_
  refine el_box [u0, u1] rfl hS (by decide) ?_
  intro w102 b103 hS hx104
  refine el_pv (v := (.slice none 0 0)) (pv_assign rfl) (by decide) ?_
  refine el_nil ?_
  refine hQ101 _ _ _ ?_
  refine thn_n ?_
  refine cw_seq ?_
  refine cw_gen ?_
  intro Q106 hQ106
  refine cw_reg ?_
  refine el_pv (v := .pointer (some ⟨b103, 0 + 1, none⟩)) (pv_fieldAddr rfl) (by decide) ?_
  refine el_pv (v := u1) (pv_loadc rfl ((hS.boxAt 0 rfl) 1 _ rfl)) (by decide) ?_
  refine el_pv (v := .int .i64 (a1.length : Int)) (pv_len rfl ha1) (by decide) ?_
  replace hF := ob hF
  obtain ⟨x110, hx110, hF⟩ := hF
  refine el_make (R := intR) (x0 := 0) rfl (by decide) rfl (fun _ => ⟨rfl, rfl⟩) rfl rfl hx110 hS (by decide) ?_
  intro w107 g108 k109 hS hx111 hlx110
  refine el_pv (v := (.slice (some ⟨g108, 0, none⟩) k109 k109)) (pv_assign rfl) (by decide) ?_
  refine el_nil ?_
  refine hQ106 _ _ _ ?_
  refine thn_n ?_
  refine cw_seq ?_
  refine cw_gen ?_
  intro Q113 hQ113
  refine cw_seq ?_
  refine cw_gen ?_
  intro Q114 hQ114
  refine cw_reg ?_
  refine el_pv (v := .pointer (some ⟨b103, 0 + 1, none⟩)) (pv_fieldAddr rfl) (by decide) ?_
  refine el_pv (v := u1) (pv_loadc rfl ((hS.boxAt 1 rfl) 1 _ rfl)) (by decide) ?_
  refine el_pv (v := .int .i64 (a1.length : Int)) (pv_len rfl ha1) (by decide) ?_
  refine el_pv (v := .int .i64 0) (pv_move rfl) (by decide) ?_
  refine el_nil ?_
  refine hQ114 _ _ _ ?_
  refine thn_n ?_
  refine cw_block ?_
  refine cw_gen ?_
  intro Q115 hQ115
  obtain ⟨s116, hL, hK117⟩ := ob hF
  replace hS : Sat w0 w107 [Own (sliceR intR 3) [(.slice (some ⟨g108, 0, none⟩) k109 k109)] x110] := hS.rems 2 [1] rfl
  refine cw_loopS (fun k e w => ∃ (v119 : Value), ∃ (x118 : List Int), ∃ (x120 : Int), e 3 = v119 ∧ e 13 = u1 ∧ e 14 = .int .i64 (a1.length : Int) ∧ e 15 = .int .i64 x120 ∧ Sat w0 w [Own (sliceR intR 3) [v119] x118] ∧ impl_counts_L1 N k x118 a1 (a1.length : Int) x120 = some s116) N ?_ ?_ ?_
  · exact ⟨(.slice (some ⟨g108, 0, none⟩) k109 k109), x110, 0, rfl, rfl, rfl, rfl, hS, hL⟩
  · rintro e w ⟨_, _, _, _, _, _, _, _, hz⟩; exact nomatch (show none = some _ from hz)
  · rintro k e126 w125 ⟨v119, x118, x120, he121, he122, he123, he124, hS, hF⟩
    refine cw_gen ?_
    intro Q127 hQ127
    refine cw_seq ?_
    refine cw_gen ?_
    intro Q128 hQ128
    refine cw_reg ?_
    refine el_pv (v := .bool (decide (x120 < (a1.length : Int)))) (pv_lss he124 he123) (by decide) ?_
    refine el_nil ?_
    refine hQ128 _ _ _ ?_
    refine thn_n ?_
    refine cw_seq ?_
    refine cw_gen ?_
    intro Q129 hQ129
    replace hF := oif hF
    rcases hF with ⟨hb130, hF⟩ | ⟨hb130, hF⟩
    · refine cw_cond_t rfl hb130 ?_
      refine cw_skip ?_
      refine hQ129 _ _ _ ?_
      refine thn_n ?_
      refine cw_seq ?_
      refine cw_gen ?_
      intro Q131 hQ131
      refine cw_block ?_
      refine cw_gen ?_
      intro Q132 hQ132
      refine cw_seq ?_
      refine cw_gen ?_
      intro Q133 hQ133
      refine cw_reg ?_
      refine el_pv (v := .int .i64 x120) (pv_move he124) (by decide) ?_
      replace hF := ob hF
      obtain ⟨x134, hx134, hF⟩ := hF
      refine el_index (wA := w0) he122 ha1 rfl (by decide) he124 hx134 (by decide) ?_
      intro b135 of136 c137 hr138 hm139
      obtain ⟨_, _, rfl, hr140, hr141⟩ := hr138
      obtain ⟨v142, rfl⟩ := slice_one hr140
      obtain ⟨v143, rfl⟩ := slice_one hr141
      refine el_pv (v := .agg #[v142, v143]) (pv_loada (cs := [v142, v143]) rfl rfl (cells_up hS.below hm139)) (by decide) ?_
      refine el_alloc hS (by decide) ?_
      intro w144 b145 hS hx146
      refine el_pv (v := .int .i64 x120) (pv_assign rfl) (by decide) ?_
      refine el_storev (hS.top 0 rfl) rfl [v142, v143] rfl rfl (of_decide_eq_true rfl) (all_cons (oc hr140) (all_cons (oc hr141) rfl)) ?_
      intro w148 hS
      replace hS : Sat w0 w148 [Box b145 84 [v142, v143], Own (sliceR intR 3) [v119] x118] := hS
      refine el_nil ?_
      refine hQ133 _ _ _ ?_
      refine thn_n ?_
      refine cw_seq ?_
      refine cw_gen ?_
      intro Q149 hQ149
      refine cw_seq ?_
      refine cw_gen ?_
      intro Q150 hQ150
      refine cw_reg ?_
      refine el_pv (v := .int .i64 x120) (pv_move rfl) (by decide) ?_
      refine el_pv (v := .bool (x120 == 0)) (pv_eql rfl rfl) (by decide) ?_
      refine el_nil ?_
      refine hQ150 _ _ _ ?_
      refine thn_n ?_
      replace hF := oif hF
      rcases hF with ⟨hb151, hF⟩ | ⟨hb151, hF⟩
      · refine cw_cond_t rfl hb151 ?_
        refine cw_reg ?_
        refine el_pv (v := v119) (pv_move he121) (by decide) ?_
        replace hF := ob hF
        obtain ⟨x152, hx152, hF⟩ := hF
        obtain ⟨g153, cap154, hv155⟩ := ownShape 1 hS rfl hx152
        refine el_pv (v := .pointer (some ⟨g153, (0 : Int).toNat * 1, none⟩)) (pv_indexF (v := v119) rfl hv155 rfl hx152) (by decide) ?_
        replace hF := ob hF
        obtain ⟨x157, hx157, hF⟩ := hF
        replace hS : Sat w0 w148 [Own (sliceR intR 3) [v119] x118, Box b145 84 [v142, v143]] := hS.top 1 rfl
        replace hS := hS.int 1
        refine el_storeO rfl hv155 hS hx157 rfl rfl ?_
        intro w156 hS
        refine el_nil ?_
        refine hQ149 _ _ _ ?_
        refine thn_n ?_
        refine cw_seq ?_
        refine cw_gen ?_
        intro Q158 hQ158
        refine cw_reg ?_
        refine el_pv (v := .pointer (some ⟨b145, 0 + 1, none⟩)) (pv_fieldAddr rfl) (by decide) ?_
        refine el_pv (v := v143) (pv_loadc rfl ((hS.boxAt 1 rfl) 1 _ rfl)) (by decide) ?_
        refine el_pv (v := .int .i64 (x134.2.length : Int)) (pv_len rfl hr141) (by decide) ?_
        refine el_pv (v := .int .i64 0) (pv_move rfl) (by decide) ?_
        refine el_nil ?_
        refine hQ158 _ _ _ ?_
        refine thn_n ?_
        refine cw_block ?_
        refine cw_gen ?_
        intro Q159 hQ159
        obtain ⟨s160, hL, hK161⟩ := ob hF
        replace hS : Sat w0 w156 [Own (sliceR intR 3) [v119] x157] := hS.rems 2 [1] rfl
        refine cw_loopS (fun k e w => ∃ (v163 : Value), ∃ (x162 : List Int), ∃ (x164 : Int), e 3 = v163 ∧ e 4 = .int .i64 x120 ∧ e 13 = u1 ∧ e 14 = .int .i64 (a1.length : Int) ∧ e 15 = .int .i64 x120 ∧ e 25 = v143 ∧ e 26 = .int .i64 (x134.2.length : Int) ∧ e 27 = .int .i64 x164 ∧ Sat w0 w [Own (sliceR intR 3) [v163] x162] ∧ impl_counts_L2 N k x162 x120 a1 (a1.length : Int) x120 x134.2 (x134.2.length : Int) x164 = some s160) N ?_ ?_ ?_
        · exact ⟨v119, x157, 0, he121, rfl, he122, he123, he124, rfl, rfl, rfl, hS, hL⟩
        · rintro e w ⟨_, _, _, _, _, _, _, _, _, _, _, _, hz⟩; exact nomatch (show none = some _ from hz)
        · rintro k e174 w173 ⟨v163, x162, x164, he165, he166, he167, he168, he169, he170, he171, he172, hS, hF⟩
          refine cw_gen ?_
          intro Q175 hQ175
          refine cw_seq ?_
          refine cw_gen ?_
          intro Q176 hQ176
          refine cw_reg ?_
          refine el_pv (v := .bool (decide (x164 < (x134.2.length : Int)))) (pv_lss he172 he171) (by decide) ?_
          refine el_nil ?_
          refine hQ176 _ _ _ ?_
          refine thn_n ?_
          refine cw_seq ?_
          refine cw_gen ?_
          intro Q177 hQ177
          replace hF := oif hF
          rcases hF with ⟨hb178, hF⟩ | ⟨hb178, hF⟩
          · refine cw_cond_t rfl hb178 ?_
            refine cw_skip ?_
            refine hQ177 _ _ _ ?_
            refine thn_n ?_
            refine cw_seq ?_
            refine cw_gen ?_
            intro Q179 hQ179
            refine cw_block ?_
            refine cw_gen ?_
            intro Q180 hQ180
            refine cw_seq ?_
            refine cw_gen ?_
            intro Q181 hQ181
            refine cw_reg ?_
            replace hF := ob hF
            obtain ⟨x182, hx182, hF⟩ := hF
            refine el_index (wA := w0) he170 hr141 rfl (by decide) he172 hx182 (by decide) ?_
            intro b183 of184 c185 hr186 hm187
            obtain rfl := hr186
            refine el_pv (v := .int .i64 x182) (pv_loadc rfl ((cells_up hS.below hm187) 0 _ rfl)) (by decide) ?_
            refine el_pv (v := .int .i64 x182) (pv_assign rfl) (by decide) ?_
            refine el_nil ?_
            refine hQ181 _ _ _ ?_
            refine thn_n ?_
            obtain ⟨C, hCd⟩ : ∃ C : World → Prop, ∀ w, C w ↔ ∃ G, Sat w0 w ([Own (sliceR intR 3) [v163] x162] ++ G) := ⟨_, fun _ => Iff.rfl⟩
            refine cw_regb [0, 1, 2, 3, 4, 5, 6, 7, 8, 9, 10, 11, 12] C (by kernel_rfl) ?_
            intro w188 hx189
            replace hS := hS.ext hx189
            have hC := (hCd _).2 ⟨_, hS⟩
            refine al_p (v := v163) (by kernel_rfl) 0 rfl rfl (by decide) hC (by kernel_rfl) (by kernel_rfl) (sv_on rfl (fun w' hw' => by obtain ⟨_, hS⟩ := (hCd _).1 hw'; exact (pv_move he165))) ?_
            refine al_p (v := .int .i64 x120) (by kernel_rfl) 1 rfl rfl (by decide) hC (by kernel_rfl) (by kernel_rfl) (sv_on rfl (fun w' hw' => by obtain ⟨_, hS⟩ := (hCd _).1 hw'; exact (pv_move he166))) ?_
            refine al_p (v := v163) (by kernel_rfl) 2 rfl rfl (by decide) hC (by kernel_rfl) (by kernel_rfl) (sv_on rfl (fun w' hw' => by obtain ⟨_, hS⟩ := (hCd _).1 hw'; exact (pv_move he165))) ?_
            refine al_p (v := .int .i64 x120) (by kernel_rfl) 3 rfl rfl (by decide) hC (by kernel_rfl) (by kernel_rfl) (sv_on rfl (fun w' hw' => by obtain ⟨_, hS⟩ := (hCd _).1 hw'; exact (pv_move he166))) ?_
            replace hF := ob hF
            obtain ⟨x190, hx190, hF⟩ := hF
            obtain ⟨g191, cap192, hv193⟩ := (by obtain ⟨_, hS⟩ := (hCd _).1 hC; exact ownShape 0 hS rfl hx190 : ∃ g cap, (v163 : Value) = .slice (some ⟨g, 0, none⟩) (x162).length cap)
            refine al_p (v := .pointer (some ⟨g191, x120.toNat * 1, none⟩)) (by kernel_rfl) 4 rfl rfl (by decide) hC (by kernel_rfl) (by kernel_rfl) (sv_on rfl (fun w' hw' => by obtain ⟨_, hS⟩ := (hCd _).1 hw'; exact (pv_indexF (v := v163) rfl hv193 rfl hx190))) ?_
            refine al_p (v := .int .i64 x190) (by kernel_rfl) 5 rfl rfl (by decide) hC (by kernel_rfl) (by kernel_rfl) (sv_on rfl (fun w' hw' => by obtain ⟨_, hS⟩ := (hCd _).1 hw'; exact (pv_loadc rfl (hS.ownCell 0 rfl hv193 hx190)))) ?_
            refine al_p (v := v163) (by kernel_rfl) 6 rfl rfl (by decide) hC (by kernel_rfl) (by kernel_rfl) (sv_on rfl (fun w' hw' => by obtain ⟨_, hS⟩ := (hCd _).1 hw'; exact (pv_move he165))) ?_
            refine al_one 7 (by kernel_rfl) rfl ?_
            refine el_pv (v := .int .i64 x182) (pv_move rfl) (by decide) ?_
            refine el_nil ?_
            refine ⟨fun _ => hC, ?_⟩
            refine al_one 8 (by kernel_rfl) rfl ?_
            replace hF := ob hF
            obtain ⟨x194, hx194, hF⟩ := hF
            obtain ⟨g195, cap196, hv197⟩ := ownShape 0 hS rfl hx194
            refine el_pv (v := .pointer (some ⟨g195, x182.toNat * 1, none⟩)) (pv_indexF (v := v163) rfl hv197 rfl hx194) (by decide) ?_
            refine el_nil ?_
            refine ⟨fun _ => hC, ?_⟩
            refine al_one 9 (by kernel_rfl) rfl ?_
            refine el_pv (v := .int .i64 x194) (pv_loadc rfl (hS.ownCell 0 rfl hv197 hx194)) (by decide) ?_
            refine el_nil ?_
            refine ⟨fun _ => hC, ?_⟩
            refine al_one 10 (by kernel_rfl) rfl ?_
            replace hF := ob hF
            obtain ⟨x198, hx198, hF⟩ := hF
            refine el_pv (v := .int .i64 x198) (pv_add rfl rfl hx198) (by decide) ?_
            refine el_nil ?_
            refine ⟨fun _ => hC, ?_⟩
            refine al_one 11 (by kernel_rfl) rfl ?_
            refine el_pv (v := .int .i64 (imn 1000000000 x198)) (pv_min rfl rfl) (by decide) ?_
            refine el_nil ?_
            have hC := (hCd _).2 ⟨_, hS⟩
            refine ⟨fun _ => hC, ?_⟩
            refine al_one 12 (by kernel_rfl) rfl ?_
            replace hF := ob hF
            obtain ⟨x199, hx199, hF⟩ := hF
            obtain ⟨g200, cap201, hv202⟩ := ownShape 0 hS rfl hx199
            refine el_pv (v := .pointer (some ⟨g200, x120.toNat * 1, none⟩)) (pv_indexF (v := v163) rfl hv202 rfl hx199) (by decide) ?_
            refine el_nil ?_
            refine ⟨fun _ => hC, ?_⟩
            refine al_one 13 (by kernel_rfl) rfl ?_
            replace hF := ob hF
            obtain ⟨x204, hx204, hF⟩ := hF
            replace hS := hS.int (imn 1000000000 x198)
            refine el_storeO rfl hv202 hS hx204 rfl rfl ?_
            intro w203 hS
            refine el_nil ?_
            refine ⟨fun h => (nomatch (show false = true from h)), ?_⟩
            refine al_nil (by kernel_rfl) ?_
            refine hQ180 _ _ _ ?_
            refine inb_n ?_
            refine hQ179 _ _ _ ?_
            refine thn_n ?_
            refine cw_reg ?_
            replace hF := ob hF
            obtain ⟨x205, hx205, hF⟩ := hF
            refine el_pv (v := .int .i64 x205) (pv_add he172 rfl hx205) (by decide) ?_
            refine el_pv (v := .int .i64 x205) (pv_move rfl) (by decide) ?_
            refine el_nil ?_
            refine hQ175 _ _ _ ?_
            refine thn_n ?_
            replace hS := hS.keep 1
            exact ⟨v163, x204, x205, he165, he166, he167, he168, he169, he170, he171, rfl, hS, hF⟩
          · refine cw_cond_f rfl hb178 ?_
            refine cw_exit ?_
            refine hQ177 _ _ _ ?_
            refine thn_x ?_
            refine hQ175 _ _ _ ?_
            refine thn_x ?_
            replace hF := exB hF hK161
            refine hQ159 _ _ _ ?_
            refine inb_s ?_
            refine hQ132 _ _ _ ?_
            refine inb_n ?_
            refine hQ131 _ _ _ ?_
            refine thn_n ?_
            refine cw_reg ?_
            replace hF := ob hF
            obtain ⟨x206, hx206, hF⟩ := hF
            refine el_pv (v := .int .i64 x206) (pv_add he169 rfl hx206) (by decide) ?_
            refine el_pv (v := .int .i64 x206) (pv_move rfl) (by decide) ?_
            refine el_nil ?_
            refine hQ127 _ _ _ ?_
            refine thn_n ?_
            replace hS := hS.keep 1
            exact ⟨v163, x162, x206, he165, he167, he168, rfl, hS, hF⟩
      · refine cw_cond_f rfl hb151 ?_
        refine cw_skip ?_
        refine hQ149 _ _ _ ?_
        refine thn_n ?_
        refine cw_seq ?_
        refine cw_gen ?_
        intro Q207 hQ207
        refine cw_reg ?_
        refine el_pv (v := .pointer (some ⟨b145, 0 + 1, none⟩)) (pv_fieldAddr rfl) (by decide) ?_
        refine el_pv (v := v143) (pv_loadc rfl ((hS.boxAt 0 rfl) 1 _ rfl)) (by decide) ?_
        refine el_pv (v := .int .i64 (x134.2.length : Int)) (pv_len rfl hr141) (by decide) ?_
        refine el_pv (v := .int .i64 0) (pv_move rfl) (by decide) ?_
        refine el_nil ?_
        refine hQ207 _ _ _ ?_
        refine thn_n ?_
        refine cw_block ?_
        refine cw_gen ?_
        intro Q208 hQ208
        obtain ⟨s209, hL, hK210⟩ := ob hF
        replace hS : Sat w0 w148 [Own (sliceR intR 3) [v119] x118] := hS.rems 2 [0] rfl
        refine cw_loopS (fun k e w => ∃ (v212 : Value), ∃ (x211 : List Int), ∃ (x213 : Int), e 3 = v212 ∧ e 4 = .int .i64 x120 ∧ e 13 = u1 ∧ e 14 = .int .i64 (a1.length : Int) ∧ e 15 = .int .i64 x120 ∧ e 25 = v143 ∧ e 26 = .int .i64 (x134.2.length : Int) ∧ e 27 = .int .i64 x213 ∧ Sat w0 w [Own (sliceR intR 3) [v212] x211] ∧ impl_counts_L2 N k x211 x120 a1 (a1.length : Int) x120 x134.2 (x134.2.length : Int) x213 = some s209) N ?_ ?_ ?_
        · exact ⟨v119, x118, 0, he121, rfl, he122, he123, he124, rfl, rfl, rfl, hS, hL⟩
        · rintro e w ⟨_, _, _, _, _, _, _, _, _, _, _, _, hz⟩; exact nomatch (show none = some _ from hz)
        · rintro k e223 w222 ⟨v212, x211, x213, he214, he215, he216, he217, he218, he219, he220, he221, hS, hF⟩
          refine cw_gen ?_
          intro Q224 hQ224
          refine cw_seq ?_
          refine cw_gen ?_
          intro Q225 hQ225
          refine cw_reg ?_
          refine el_pv (v := .bool (decide (x213 < (x134.2.length : Int)))) (pv_lss he221 he220) (by decide) ?_
          refine el_nil ?_
          refine hQ225 _ _ _ ?_
          refine thn_n ?_
          refine cw_seq ?_
          refine cw_gen ?_
          intro Q226 hQ226
          replace hF := oif hF
          rcases hF with ⟨hb227, hF⟩ | ⟨hb227, hF⟩
          · refine cw_cond_t rfl hb227 ?_
            refine cw_skip ?_
            refine hQ226 _ _ _ ?_
            refine thn_n ?_
            refine cw_seq ?_
            refine cw_gen ?_
            intro Q228 hQ228
            refine cw_block ?_
            refine cw_gen ?_
            intro Q229 hQ229
            refine cw_seq ?_
            refine cw_gen ?_
            intro Q230 hQ230
            refine cw_reg ?_
            replace hF := ob hF
            obtain ⟨x231, hx231, hF⟩ := hF
            refine el_index (wA := w0) he219 hr141 rfl (by decide) he221 hx231 (by decide) ?_
            intro b232 of233 c234 hr235 hm236
            obtain rfl := hr235
            refine el_pv (v := .int .i64 x231) (pv_loadc rfl ((cells_up hS.below hm236) 0 _ rfl)) (by decide) ?_
            refine el_pv (v := .int .i64 x231) (pv_assign rfl) (by decide) ?_
            refine el_nil ?_
            refine hQ230 _ _ _ ?_
            refine thn_n ?_
            obtain ⟨C, hCd⟩ : ∃ C : World → Prop, ∀ w, C w ↔ ∃ G, Sat w0 w ([Own (sliceR intR 3) [v212] x211] ++ G) := ⟨_, fun _ => Iff.rfl⟩
            refine cw_regb [0, 1, 2, 3, 4, 5, 6, 7, 8, 9, 10, 11, 12] C (by kernel_rfl) ?_
            intro w237 hx238
            replace hS := hS.ext hx238
            have hC := (hCd _).2 ⟨_, hS⟩
            refine al_p (v := v212) (by kernel_rfl) 0 rfl rfl (by decide) hC (by kernel_rfl) (by kernel_rfl) (sv_on rfl (fun w' hw' => by obtain ⟨_, hS⟩ := (hCd _).1 hw'; exact (pv_move he214))) ?_
            refine al_p (v := .int .i64 x120) (by kernel_rfl) 1 rfl rfl (by decide) hC (by kernel_rfl) (by kernel_rfl) (sv_on rfl (fun w' hw' => by obtain ⟨_, hS⟩ := (hCd _).1 hw'; exact (pv_move he215))) ?_
            refine al_p (v := v212) (by kernel_rfl) 2 rfl rfl (by decide) hC (by kernel_rfl) (by kernel_rfl) (sv_on rfl (fun w' hw' => by obtain ⟨_, hS⟩ := (hCd _).1 hw'; exact (pv_move he214))) ?_
            refine al_p (v := .int .i64 x120) (by kernel_rfl) 3 rfl rfl (by decide) hC (by kernel_rfl) (by kernel_rfl) (sv_on rfl (fun w' hw' => by obtain ⟨_, hS⟩ := (hCd _).1 hw'; exact (pv_move he215))) ?_
            replace hF := ob hF
            obtain ⟨x239, hx239, hF⟩ := hF
            obtain ⟨g240, cap241, hv242⟩ := (by obtain ⟨_, hS⟩ := (hCd _).1 hC; exact ownShape 0 hS rfl hx239 : ∃ g cap, (v212 : Value) = .slice (some ⟨g, 0, none⟩) (x211).length cap)
            refine al_p (v := .pointer (some ⟨g240, x120.toNat * 1, none⟩)) (by kernel_rfl) 4 rfl rfl (by decide) hC (by kernel_rfl) (by kernel_rfl) (sv_on rfl (fun w' hw' => by obtain ⟨_, hS⟩ := (hCd _).1 hw'; exact (pv_indexF (v := v212) rfl hv242 rfl hx239))) ?_
            refine al_p (v := .int .i64 x239) (by kernel_rfl) 5 rfl rfl (by decide) hC (by kernel_rfl) (by kernel_rfl) (sv_on rfl (fun w' hw' => by obtain ⟨_, hS⟩ := (hCd _).1 hw'; exact (pv_loadc rfl (hS.ownCell 0 rfl hv242 hx239)))) ?_
            refine al_p (v := v212) (by kernel_rfl) 6 rfl rfl (by decide) hC (by kernel_rfl) (by kernel_rfl) (sv_on rfl (fun w' hw' => by obtain ⟨_, hS⟩ := (hCd _).1 hw'; exact (pv_move he214))) ?_
            refine al_one 7 (by kernel_rfl) rfl ?_
            refine el_pv (v := .int .i64 x231) (pv_move rfl) (by decide) ?_
            refine el_nil ?_
            refine ⟨fun _ => hC, ?_⟩
            refine al_one 8 (by kernel_rfl) rfl ?_
            replace hF := ob hF
            obtain ⟨x243, hx243, hF⟩ := hF
            obtain ⟨g244, cap245, hv246⟩ := ownShape 0 hS rfl hx243
            refine el_pv (v := .pointer (some ⟨g244, x231.toNat * 1, none⟩)) (pv_indexF (v := v212) rfl hv246 rfl hx243) (by decide) ?_
            refine el_nil ?_
            refine ⟨fun _ => hC, ?_⟩
            refine al_one 9 (by kernel_rfl) rfl ?_
            refine el_pv (v := .int .i64 x243) (pv_loadc rfl (hS.ownCell 0 rfl hv246 hx243)) (by decide) ?_
            refine el_nil ?_
            refine ⟨fun _ => hC, ?_⟩
            refine al_one 10 (by kernel_rfl) rfl ?_
            replace hF := ob hF
            obtain ⟨x247, hx247, hF⟩ := hF
            refine el_pv (v := .int .i64 x247) (pv_add rfl rfl hx247) (by decide) ?_
            refine el_nil ?_
            refine ⟨fun _ => hC, ?_⟩
            refine al_one 11 (by kernel_rfl) rfl ?_
            refine el_pv (v := .int .i64 (imn 1000000000 x247)) (pv_min rfl rfl) (by decide) ?_
            refine el_nil ?_
            have hC := (hCd _).2 ⟨_, hS⟩
            refine ⟨fun _ => hC, ?_⟩
            refine al_one 12 (by kernel_rfl) rfl ?_
            replace hF := ob hF
            obtain ⟨x248, hx248, hF⟩ := hF
            obtain ⟨g249, cap250, hv251⟩ := ownShape 0 hS rfl hx248
            refine el_pv (v := .pointer (some ⟨g249, x120.toNat * 1, none⟩)) (pv_indexF (v := v212) rfl hv251 rfl hx248) (by decide) ?_
            refine el_nil ?_
            refine ⟨fun _ => hC, ?_⟩
            refine al_one 13 (by kernel_rfl) rfl ?_
            replace hF := ob hF
            obtain ⟨x253, hx253, hF⟩ := hF
            replace hS := hS.int (imn 1000000000 x247)
            refine el_storeO rfl hv251 hS hx253 rfl rfl ?_
            intro w252 hS
            refine el_nil ?_
            refine ⟨fun h => (nomatch (show false = true from h)), ?_⟩
            refine al_nil (by kernel_rfl) ?_
            refine hQ229 _ _ _ ?_
            refine inb_n ?_
            refine hQ228 _ _ _ ?_
            refine thn_n ?_
            refine cw_reg ?_
            replace hF := ob hF
            obtain ⟨x254, hx254, hF⟩ := hF
            refine el_pv (v := .int .i64 x254) (pv_add he221 rfl hx254) (by decide) ?_
            refine el_pv (v := .int .i64 x254) (pv_move rfl) (by decide) ?_
            refine el_nil ?_
            refine hQ224 _ _ _ ?_
            refine thn_n ?_
            replace hS := hS.keep 1
            exact ⟨v212, x253, x254, he214, he215, he216, he217, he218, he219, he220, rfl, hS, hF⟩
          · refine cw_cond_f rfl hb227 ?_
            refine cw_exit ?_
            refine hQ226 _ _ _ ?_
            refine thn_x ?_
            refine hQ224 _ _ _ ?_
            refine thn_x ?_
            replace hF := exB hF hK210
            refine hQ208 _ _ _ ?_
            refine inb_s ?_
            refine hQ132 _ _ _ ?_
            refine inb_n ?_
            refine hQ131 _ _ _ ?_
            refine thn_n ?_
            refine cw_reg ?_
            replace hF := ob hF
            obtain ⟨x255, hx255, hF⟩ := hF
            refine el_pv (v := .int .i64 x255) (pv_add he218 rfl hx255) (by decide) ?_
            refine el_pv (v := .int .i64 x255) (pv_move rfl) (by decide) ?_
            refine el_nil ?_
            refine hQ127 _ _ _ ?_
            refine thn_n ?_
            replace hS := hS.keep 1
            exact ⟨v212, x211, x255, he214, he216, he217, rfl, hS, hF⟩
    · refine cw_cond_f rfl hb130 ?_
      refine cw_exit ?_
      refine hQ129 _ _ _ ?_
      refine thn_x ?_
      refine hQ127 _ _ _ ?_
      refine thn_x ?_
      replace hF := exB hF hK117
      refine hQ115 _ _ _ ?_
      refine inb_s ?_
      refine hQ113 _ _ _ ?_
      refine thn_n ?_
      refine cw_seq ?_
      refine cw_gen ?_
      intro Q256 hQ256
      refine cw_reg ?_
      refine el_pv (v := v119) (pv_move he121) (by decide) ?_
      refine el_pv (v := v119) (pv_assign rfl) (by decide) ?_
      refine el_nil ?_
      refine hQ256 _ _ _ ?_
      refine thn_n ?_
      refine cw_ret ?_
      refine fin1 rfl rfl ?_
      have hr := Option.some.inj hF
      exact ⟨v119, congrArg (fun (r : (List Int)) => Ending.returned (v119)) hr, Eq.mp (congrArg (fun (r : (List Int)) => Sat w0 w125 [Own (sliceR intR 3) [v119] r]) hr) (hS.keep 1)⟩
set_option maxHeartbeats 4000000 in
theorem impl_FactorizedRowCount_ok {w0 : World} {u0 : Value} {a0 : List Int} {u1 : Value} {a1 : List (List Int × List Int)} (ha0 : (sliceR intR 3).rd w0 [u0] a0) (ha1 : (sliceR (pairR (sliceR intR 3) (sliceR intR 3)) 84).rd w0 [u1] a1) {N : Nat} {r : Int} (hF : impl_FactorizedRowCount N a0 a1 = some r) :
    Calls Try.prog 62 #[.agg #[u0, u1]] w0 fun e w' => e = .returned (.int .i64 r) ∧ Ext w0 w' := by
  unfold impl_FactorizedRowCount at hF
  refine calls_E Try.func62 rfl rfl (of_decide_eq_true rfl) ?_
  have hS := Sat.start w0
  refine cw_seq ?_
  refine cw_gen ?_
  intro Q101 hQ101
  refine cw_reg ?_
  refine el_box [u0, u1] rfl hS (by decide) ?_
  intro w102 b103 hS hx104
  refine el_pv (v := .int .i64 0) (pv_assign rfl) (by decide) ?_
  refine el_nil ?_
  refine hQ101 _ _ _ ?_
  refine thn_n ?_
  refine cw_seq ?_
  refine cw_gen ?_
  intro Q106 hQ106
  refine cw_seq ?_
  refine cw_gen ?_
  intro Q107 hQ107
  refine cw_reg ?_
  refine el_pv (v := .agg #[u0, u1]) (pv_loada (cs := [u0, u1]) rfl rfl (boxc0 (hS.boxAt 0 rfl))) (by decide) ?_
  replace hF := ob hF
  obtain ⟨r108, hr108, hF⟩ := hF
  refine el_call goes25 (impl_IsValidFactorization_ok (hS.up ha0) (hS.up ha1) hr108) (congrArg List.toArray (mapc rfl rfl)) (by decide) ?_
  rintro _ w109 ⟨rfl, hx110⟩
  refine ⟨_, rfl, ?_⟩
  replace hS := hS.ext hx110
  refine el_pv (v := .bool (!r108)) (pv_not rfl) (by decide) ?_
  refine el_nil ?_
  refine hQ107 _ _ _ ?_
  refine thn_n ?_
  replace hF := oif hF
  rcases hF with ⟨hb111, hF⟩ | ⟨hb111, hF⟩
  · refine cw_cond_f rfl (bnot_t hb111) ?_
    refine cw_skip ?_
    refine hQ106 _ _ _ ?_
    refine thn_n ?_
    refine cw_seq ?_
    refine cw_gen ?_
    intro Q112 hQ112
    refine cw_reg ?_
    refine el_pv (v := .agg #[u0, u1]) (pv_loada (cs := [u0, u1]) rfl rfl (boxc0 (hS.boxAt 0 rfl))) (by decide) ?_
    replace hF := ob hF
    obtain ⟨r113, hr113, hF⟩ := hF
    refine el_call goes101 (impl_counts_ok (hS.up ha0) (hS.up ha1) hr113) (congrArg List.toArray (mapc rfl rfl)) (by decide) ?_
    rintro _ w116 ⟨v114, rfl, hS'⟩
    refine ⟨_, rfl, ?_⟩
    have hx117 := hS'.below
    replace hS := hS.call1 hS'
    refine el_pv (v := v114) (pv_assign rfl) (by decide) ?_
    refine el_nil ?_
    refine hQ112 _ _ _ ?_
    refine thn_n ?_
    refine cw_seq ?_
    refine cw_gen ?_
    intro Q118 hQ118
    replace hS : Sat w0 w116 [Own (sliceR intR 3) [v114] r113] := hS.rems 2 [1] rfl
    refine cw_reg ?_
    refine el_pv (v := v114) (pv_move rfl) (by decide) ?_
    refine el_pv (v := v114) (pv_move rfl) (by decide) ?_
    refine el_pv (v := .int .i64 (r113.length : Int)) (pv_len rfl (hS.rdAt (R := (sliceR intR 3)) 0 rfl)) (by decide) ?_
    replace hF := ob hF
    obtain ⟨x119, hx119, hF⟩ := hF
    refine el_pv (v := .int .i64 x119) (pv_sub rfl rfl hx119) (by decide) ?_
    replace hF := ob hF
    obtain ⟨x120, hx120, hF⟩ := hF
    obtain ⟨g121, cap122, hv123⟩ := ownShape 0 hS rfl hx120
    refine el_pv (v := .pointer (some ⟨g121, x119.toNat * 1, none⟩)) (pv_indexF (v := v114) rfl hv123 rfl hx120) (by decide) ?_
    refine el_pv (v := .int .i64 x120) (pv_loadc rfl (hS.ownCell 0 rfl hv123 hx120)) (by decide) ?_
    refine el_pv (v := .int .i64 x120) (pv_assign rfl) (by decide) ?_
    refine el_nil ?_
    refine hQ118 _ _ _ ?_
    refine thn_n ?_
    refine cw_ret ?_
    refine fin1 rfl rfl ?_
    have hr := Option.some.inj hF
    exact ⟨congrArg (fun (r : Int) => Ending.returned (.int .i64 r)) hr, hS.below⟩
  · refine cw_cond_t rfl (bnot_f hb111) ?_
    refine cw_seq ?_
    refine cw_gen ?_
    intro Q124 hQ124
    replace hS : Sat w0 w109 [] := hS.rems 1 [0] rfl
    refine cw_reg ?_
    refine el_pv (v := .int .i64 0) (pv_assign rfl) (by decide) ?_
    refine el_nil ?_
    refine hQ124 _ _ _ ?_
    refine thn_n ?_
    refine cw_ret ?_
    refine hQ106 _ _ _ ?_
    refine thn_r ?_
    refine fin1 rfl rfl ?_
    have hr := Option.some.inj hF
    exact ⟨congrArg (fun (r : Int) => Ending.returned (.int .i64 r)) hr, hS.below⟩
end Go.Proofs.Ytdingjlefilafaa
