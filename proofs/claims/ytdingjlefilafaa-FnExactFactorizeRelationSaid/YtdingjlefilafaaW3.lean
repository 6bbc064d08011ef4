/- The walks through functions of the program: each hands back what it comes to. No condition but that it comes to something. -/
import Derived.Test.YtdingjlefilafaaW2
import Derived.Test.YtdingjlefilafaaW3D
namespace Go.Proofs.Ytdingjlefilafaa
open Go.RowKit
set_option maxRecDepth 100000
set_option maxHeartbeats 4000000 in
theorem spec_IsStrictlyAscending_ok {w0 : World} {u0 : Value} {a0 : List Int} (ha0 : (sliceR intR 3).rd w0 [u0] a0) {N : Nat} {r : Bool} (hF : spec_IsStrictlyAscending N a0 = some r) :
    Calls Try.prog 107 #[u0] w0 fun e w' => e = .returned (.bool r) ∧ Ext w0 w' := by
  unfold spec_IsStrictlyAscending at hF
  refine calls_E Try.func107 rfl rfl (of_decide_eq_true rfl) ?_
  have hS := Sat.start w0
  refine cw_seq ?_
  refine cw_gen ?_
  intro Q101 hQ101
  refine cw_reg ?_
  refine el_pv (v := .bool false) (pv_assign rfl) (by decide) ?_
  refine el_nil ?_
  refine hQ101 _ _ _ ?_
  refine thn_n ?_
  refine cw_seq ?_
  refine cw_gen ?_
  intro Q102 hQ102
  refine cw_seq ?_
  refine cw_gen ?_
  intro Q103 hQ103
  refine cw_reg ?_
  refine el_pv (v := .int .i64 1) (pv_assign rfl) (by decide) ?_
  refine el_nil ?_
  refine hQ103 _ _ _ ?_
  refine thn_n ?_
  refine cw_block ?_
  refine cw_gen ?_
  intro Q104 hQ104
  obtain ⟨s105, hL, hK106⟩ := ob hF
  refine cw_loopS (fun k e w => ∃ (x107 : Int), e 0 = u0 ∧ e 3 = .int .i64 x107 ∧ Sat w0 w [] ∧ spec_IsStrictlyAscending_L1 N k a0 x107 = some s105) N ?_ ?_ ?_
  · exact ⟨1, rfl, rfl, hS, hL⟩
  · rintro e w ⟨_, _, _, _, hz⟩; exact nomatch (show none = some _ from hz)
  · rintro k e111 w110 ⟨x107, he108, he109, hS, hF⟩
    refine cw_gen ?_
    intro Q112 hQ112
    refine cw_seq ?_
    refine cw_gen ?_
    intro Q113 hQ113
    refine cw_seq ?_
    refine cw_gen ?_
    intro Q114 hQ114
    refine cw_reg ?_
    refine el_pv (v := .int .i64 x107) (pv_move he109) (by decide) ?_
    refine el_pv (v := u0) (pv_move he108) (by decide) ?_
    refine el_pv (v := .int .i64 (a0.length : Int)) (pv_len rfl ha0) (by decide) ?_
    refine el_pv (v := .bool (decide (x107 < (a0.length : Int)))) (pv_lss rfl rfl) (by decide) ?_
    refine el_nil ?_
    refine hQ114 _ _ _ ?_
    refine thn_n ?_
    replace hF := oif hF
    rcases hF with ⟨hb115, hF⟩ | ⟨hb115, hF⟩
    · refine cw_cond_t rfl hb115 ?_
      refine cw_skip ?_
      refine hQ113 _ _ _ ?_
      refine thn_n ?_
      refine cw_seq ?_
      refine cw_gen ?_
      intro Q116 hQ116
      refine cw_block ?_
      refine cw_gen ?_
      intro Q117 hQ117
      refine cw_seq ?_
      refine cw_gen ?_
      intro Q118 hQ118
      refine cw_regq (by kernel_rfl) (by kernel_rfl) ?_
      refine ql_pv (v := u0) (pv_move he108) (by decide) ?_
      refine ql_pv (v := .int .i64 x107) (pv_move he109) (by decide) ?_
      replace hF := ob hF
      obtain ⟨x119, hx119, hF⟩ := hF
      refine ql_index (wA := w0) rfl ha0 rfl (by decide) rfl hx119 (by decide) ?_
      intro b120 of121 c122 hr123 hm124
      obtain rfl := hr123
      refine ql_pv (v := .int .i64 x119) (pv_loadc rfl ((cells_up hS.below hm124) 0 _ rfl)) (by decide) ?_
      refine ql_pv (v := u0) (pv_move he108) (by decide) ?_
      refine ql_pv (v := .int .i64 x107) (pv_move he109) (by decide) ?_
      replace hF := ob hF
      obtain ⟨x125, hx125, hF⟩ := hF
      refine ql_pv (v := .int .i64 x125) (pv_sub rfl rfl hx125) (by decide) ?_
      replace hF := ob hF
      obtain ⟨x126, hx126, hF⟩ := hF
      refine ql_index (wA := w0) rfl ha0 rfl (by decide) rfl hx126 (by decide) ?_
      intro b127 of128 c129 hr130 hm131
      obtain rfl := hr130
      refine ql_pv (v := .int .i64 x126) (pv_loadc rfl ((cells_up hS.below hm131) 0 _ rfl)) (by decide) ?_
      refine ql_pv (v := .bool (decide (x119 ≤ x126))) (pv_leq rfl rfl) (by decide) ?_
      refine ql_nil ?_
      intro w132 hx133
      replace hS := hS.ext hx133
      refine hQ118 _ _ _ ?_
      refine thn_n ?_
      replace hF := oif hF
      rcases hF with ⟨hb134, hF⟩ | ⟨hb134, hF⟩
      · refine cw_cond_t rfl hb134 ?_
        refine cw_seq ?_
        refine cw_gen ?_
        intro Q135 hQ135
        refine cw_reg ?_
        refine el_pv (v := .bool false) (pv_assign rfl) (by decide) ?_
        refine el_nil ?_
        refine hQ135 _ _ _ ?_
        refine thn_n ?_
        refine cw_ret ?_
        refine hQ117 _ _ _ ?_
        refine inb_r ?_
        refine hQ116 _ _ _ ?_
        refine thn_r ?_
        refine hQ112 _ _ _ ?_
        refine thn_r ?_
        refine hQ104 _ _ _ ?_
        refine inb_r ?_
        refine hQ102 _ _ _ ?_
        refine thn_r ?_
        replace hF := exL hF hK106
        refine fin1 rfl rfl ?_
        have hr := Option.some.inj hF
        exact ⟨congrArg (fun (r : Bool) => Ending.returned (.bool r)) hr, hS.below⟩
      · refine cw_cond_f rfl hb134 ?_
        refine cw_skip ?_
        refine hQ117 _ _ _ ?_
        refine inb_n ?_
        refine hQ116 _ _ _ ?_
        refine thn_n ?_
        refine cw_reg ?_
        refine el_pv (v := .int .i64 x107) (pv_move he109) (by decide) ?_
        replace hF := ob hF
        obtain ⟨x136, hx136, hF⟩ := hF
        refine el_pv (v := .int .i64 x136) (pv_add rfl rfl hx136) (by decide) ?_
        refine el_pv (v := .int .i64 x136) (pv_assign rfl) (by decide) ?_
        refine el_nil ?_
        refine hQ112 _ _ _ ?_
        refine thn_n ?_
        replace hS := hS.keep 0
        exact ⟨x136, he108, rfl, hS, hF⟩
    · refine cw_cond_f rfl hb115 ?_
      refine cw_exit ?_
      refine hQ113 _ _ _ ?_
      refine thn_x ?_
      refine hQ112 _ _ _ ?_
      refine thn_x ?_
      replace hF := exA hF hK106
      refine hQ104 _ _ _ ?_
      refine inb_s ?_
      refine hQ102 _ _ _ ?_
      refine thn_n ?_
      refine cw_seq ?_
      refine cw_gen ?_
      intro Q137 hQ137
      refine cw_reg ?_
      refine el_pv (v := .bool true) (pv_assign rfl) (by decide) ?_
      refine el_nil ?_
      refine hQ137 _ _ _ ?_
      refine thn_n ?_
      refine cw_ret ?_
      refine fin1 rfl rfl ?_
      have hr := Option.some.inj hF
      exact ⟨congrArg (fun (r : Bool) => Ending.returned (.bool r)) hr, hS.below⟩
set_option maxHeartbeats 4000000 in
theorem spec_IsValidFactorization_ok {w0 : World} {u0 : Value} {a0 : List Int} {u1 : Value} {a1 : List (List Int × List Int)} (ha0 : (sliceR intR 3).rd w0 [u0] a0) (ha1 : (sliceR (pairR (sliceR intR 3) (sliceR intR 3)) 84).rd w0 [u1] a1) {N : Nat} {r : Bool} (hF : spec_IsValidFactorization N a0 a1 = some r) :
    Calls Try.prog 71 #[.agg #[u0, u1]] w0 fun e w' => e = .returned (.bool r) ∧ Ext w0 w' := by
  unfold spec_IsValidFactorization at hF
  refine calls_E Try.func71 rfl rfl (of_decide_eq_true rfl) ?_
  have hS := Sat.start w0
  refine cw_seq ?_
  refine cw_gen ?_
  intro Q101 hQ101
  refine cw_reg ?_
  refine el_box [u0, u1] rfl hS (by decide) ?_
  intro w102 b103 hS hx104
  refine el_pv (v := .bool false) (pv_assign rfl) (by decide) ?_
  refine el_nil ?_
  refine hQ101 _ _ _ ?_
  refine thn_n ?_
  refine cw_seq ?_
  refine cw_gen ?_
  intro Q106 hQ106
  refine cw_seq ?_
  refine cw_gen ?_
  intro Q107 hQ107
  refine cw_regq (by kernel_rfl) (by kernel_rfl) ?_
  refine ql_pv (v := .pointer (some ⟨b103, 0 + 0, none⟩)) (pv_fieldAddr rfl) (by decide) ?_
  refine ql_pv (v := u0) (pv_loadc rfl ((hS.boxAt 0 rfl) 0 _ rfl)) (by decide) ?_
  replace hF := ob hF
  obtain ⟨r108, hr108, hF⟩ := hF
  refine ql_call (.bool r108) goes106 (fun w' hw' => spec_IsPermutation_ok (rd_up (hS.up ha0) hw') hr108) (congrArg List.toArray (mapc rfl rfl)) (by decide) ?_
  refine ql_pv (v := .bool (!r108)) (pv_not rfl) (by decide) ?_
  refine ql_pv (v := .bool (!r108)) (pv_move rfl) (by decide) ?_
  replace hF := oif hF
  rcases hF with ⟨hb109, hF⟩ | ⟨hb109, hF⟩
  · refine ql_on rfl (bnot_t hb109) ?_
    refine ql_pv (v := .pointer (some ⟨b103, 0 + 1, none⟩)) (pv_fieldAddr rfl) (by decide) ?_
    refine ql_on rfl (bnot_t hb109) ?_
    refine ql_pv (v := u1) (pv_loadc rfl ((hS.boxAt 0 rfl) 1 _ rfl)) (by decide) ?_
    refine ql_on rfl (bnot_t hb109) ?_
    refine ql_pv (v := .int .i64 (a1.length : Int)) (pv_len rfl ha1) (by decide) ?_
    refine ql_on rfl (bnot_t hb109) ?_
    refine ql_pv (v := .bool (decide ((a1.length : Int) < 1))) (pv_lss rfl rfl) (by decide) ?_
    refine ql_pv (v := .bool (decide ((a1.length : Int) < 1))) (pv_pick_f rfl (bnot_t hb109) rfl) (by decide) ?_
    refine ql_pv (v := .bool (decide ((a1.length : Int) < 1))) (pv_move rfl) (by decide) ?_
    replace hF := oif hF
    rcases hF with ⟨hb110, hF⟩ | ⟨hb110, hF⟩
    · refine ql_off rfl hb110 rfl (by decide) ?_
      refine ql_off rfl hb110 rfl (by decide) ?_
      refine ql_off rfl hb110 rfl (by decide) ?_
      refine ql_off rfl hb110 rfl (by decide) ?_
      refine ql_pv (v := .bool true) (pv_pick_t rfl hb110 rfl) (by decide) ?_
      refine ql_pv (v := .bool true) (pv_move rfl) (by decide) ?_
      refine ql_off rfl rfl rfl (by decide) ?_
      refine ql_off rfl rfl rfl (by decide) ?_
      refine ql_off rfl rfl rfl (by decide) ?_
      refine ql_off rfl rfl rfl (by decide) ?_
      refine ql_off rfl rfl rfl (by decide) ?_
      refine ql_off rfl rfl rfl (by decide) ?_
      refine ql_off rfl rfl rfl (by decide) ?_
      refine ql_off rfl rfl rfl (by decide) ?_
      refine ql_off rfl rfl rfl (by decide) ?_
      refine ql_off rfl rfl rfl (by decide) ?_
      refine ql_off rfl rfl rfl (by decide) ?_
      refine ql_off rfl rfl rfl (by decide) ?_
      refine ql_off rfl rfl rfl (by decide) ?_
      refine ql_off rfl rfl rfl (by decide) ?_
      refine ql_pv (v := .bool true) (pv_pick_t rfl rfl rfl) (by decide) ?_
      refine ql_nil ?_
      intro w111 hx112
      replace hS := hS.ext hx112
      refine hQ107 _ _ _ ?_
      refine thn_n ?_
      refine cw_cond_t rfl rfl ?_
      refine cw_seq ?_
      refine cw_gen ?_
      intro Q113 hQ113
      replace hS : Sat w0 w111 [] := hS.rems 1 [0] rfl
      refine cw_reg ?_
      refine el_pv (v := .bool false) (pv_assign rfl) (by decide) ?_
      refine el_nil ?_
      refine hQ113 _ _ _ ?_
      refine thn_n ?_
      refine cw_ret ?_
      refine hQ106 _ _ _ ?_
      refine thn_r ?_
      refine fin1 rfl rfl ?_
      have hr := Option.some.inj hF
      exact ⟨congrArg (fun (r : Bool) => Ending.returned (.bool r)) hr, hS.below⟩
    · refine ql_on rfl hb110 ?_
      refine ql_pv (v := .pointer (some ⟨b103, 0 + 1, none⟩)) (pv_fieldAddr rfl) (by decide) ?_
      refine ql_on rfl hb110 ?_
      refine ql_pv (v := u1) (pv_loadc rfl ((hS.boxAt 0 rfl) 1 _ rfl)) (by decide) ?_
      refine ql_on rfl hb110 ?_
      refine ql_pv (v := .int .i64 (a1.length : Int)) (pv_len rfl ha1) (by decide) ?_
      refine ql_on rfl hb110 ?_
      refine ql_pv (v := .bool (decide (4000 < (a1.length : Int)))) (pv_gtr rfl rfl) (by decide) ?_
      refine ql_pv (v := .bool (decide (4000 < (a1.length : Int)))) (pv_pick_f rfl hb110 rfl) (by decide) ?_
      refine ql_pv (v := .bool (decide (4000 < (a1.length : Int)))) (pv_move rfl) (by decide) ?_
      replace hF := oif hF
      rcases hF with ⟨hb114, hF⟩ | ⟨hb114, hF⟩
      · refine ql_off rfl hb114 rfl (by decide) ?_
        refine ql_off rfl hb114 rfl (by decide) ?_
        refine ql_off rfl hb114 rfl (by decide) ?_
        refine ql_off rfl hb114 rfl (by decide) ?_
        refine ql_off rfl hb114 rfl (by decide) ?_
        refine ql_off rfl hb114 rfl (by decide) ?_
        refine ql_off rfl hb114 rfl (by decide) ?_
        refine ql_off rfl hb114 rfl (by decide) ?_
        refine ql_off rfl hb114 rfl (by decide) ?_
        refine ql_off rfl hb114 rfl (by decide) ?_
        refine ql_off rfl hb114 rfl (by decide) ?_
        refine ql_off rfl hb114 rfl (by decide) ?_
        refine ql_off rfl hb114 rfl (by decide) ?_
        refine ql_off rfl hb114 rfl (by decide) ?_
        refine ql_pv (v := .bool true) (pv_pick_t rfl hb114 rfl) (by decide) ?_
        refine ql_nil ?_
        intro w115 hx116
        replace hS := hS.ext hx116
        refine hQ107 _ _ _ ?_
        refine thn_n ?_
        refine cw_cond_t rfl rfl ?_
        refine cw_seq ?_
        refine cw_gen ?_
        intro Q117 hQ117
        replace hS : Sat w0 w115 [] := hS.rems 1 [0] rfl
        refine cw_reg ?_
        refine el_pv (v := .bool false) (pv_assign rfl) (by decide) ?_
        refine el_nil ?_
        refine hQ117 _ _ _ ?_
        refine thn_n ?_
        refine cw_ret ?_
        refine hQ106 _ _ _ ?_
        refine thn_r ?_
        refine fin1 rfl rfl ?_
        have hr := Option.some.inj hF
        exact ⟨congrArg (fun (r : Bool) => Ending.returned (.bool r)) hr, hS.below⟩
      · refine ql_on rfl hb114 ?_
        refine ql_pv (v := .pointer (some ⟨b103, 0 + 1, none⟩)) (pv_fieldAddr rfl) (by decide) ?_
        refine ql_on rfl hb114 ?_
        refine ql_pv (v := u1) (pv_loadc rfl ((hS.boxAt 0 rfl) 1 _ rfl)) (by decide) ?_
        refine ql_on rfl hb114 ?_
        replace hF := ob hF
        obtain ⟨x118, hx118, hF⟩ := hF
        refine ql_index (wA := w0) rfl ha1 rfl (by decide) rfl hx118 (by decide) ?_
        intro b119 of120 c121 hr122 hm123
        obtain ⟨_, _, rfl, hr124, hr125⟩ := hr122
        obtain ⟨v126, rfl⟩ := slice_one hr124
        obtain ⟨v127, rfl⟩ := slice_one hr125
        refine ql_on rfl hb114 ?_
        refine ql_pv (v := .pointer (some ⟨b119, of120 + 0, none⟩)) (pv_fieldAddr rfl) (by decide) ?_
        refine ql_on rfl hb114 ?_
        refine ql_pv (v := v126) (pv_loadc rfl ((cells_up hS.below hm123) 0 _ rfl)) (by decide) ?_
        refine ql_on rfl hb114 ?_
        refine ql_pv (v := .int .i64 (x118.1.length : Int)) (pv_len rfl hr124) (by decide) ?_
        refine ql_on rfl hb114 ?_
        refine ql_pv (v := .pointer (some ⟨b103, 0 + 1, none⟩)) (pv_fieldAddr rfl) (by decide) ?_
        refine ql_on rfl hb114 ?_
        refine ql_pv (v := u1) (pv_loadc rfl ((hS.boxAt 0 rfl) 1 _ rfl)) (by decide) ?_
        refine ql_on rfl hb114 ?_
        replace hF := ob hF
        obtain ⟨x128, hx128, hF⟩ := hF
        refine ql_index (wA := w0) rfl ha1 rfl (by decide) rfl hx128 (by decide) ?_
        intro b129 of130 c131 hr132 hm133
        obtain ⟨_, _, rfl, hr134, hr135⟩ := hr132
        obtain ⟨v136, rfl⟩ := slice_one hr134
        obtain ⟨v137, rfl⟩ := slice_one hr135
        refine ql_on rfl hb114 ?_
        refine ql_pv (v := .pointer (some ⟨b129, of130 + 1, none⟩)) (pv_fieldAddr rfl) (by decide) ?_
        refine ql_on rfl hb114 ?_
        refine ql_pv (v := v137) (pv_loadc rfl ((cells_up hS.below hm133) 1 _ rfl)) (by decide) ?_
        refine ql_on rfl hb114 ?_
        refine ql_pv (v := .int .i64 (x128.2.length : Int)) (pv_len rfl hr135) (by decide) ?_
        refine ql_on rfl hb114 ?_
        replace hF := ob hF
        obtain ⟨x138, hx138, hF⟩ := hF
        refine ql_pv (v := .int .i64 x138) (pv_add rfl rfl hx138) (by decide) ?_
        refine ql_on rfl hb114 ?_
        refine ql_pv (v := .bool (decide (0 < x138))) (pv_gtr rfl rfl) (by decide) ?_
        refine ql_pv (v := .bool (decide (0 < x138))) (pv_pick_f rfl hb114 rfl) (by decide) ?_
        refine ql_nil ?_
        intro w139 hx140
        replace hS := hS.ext hx140
        refine hQ107 _ _ _ ?_
        refine thn_n ?_
        replace hF := oif hF
        rcases hF with ⟨hb141, hF⟩ | ⟨hb141, hF⟩
        · refine cw_cond_t rfl hb141 ?_
          refine cw_seq ?_
          refine cw_gen ?_
          intro Q142 hQ142
          replace hS : Sat w0 w139 [] := hS.rems 1 [0] rfl
          refine cw_reg ?_
          refine el_pv (v := .bool false) (pv_assign rfl) (by decide) ?_
          refine el_nil ?_
          refine hQ142 _ _ _ ?_
          refine thn_n ?_
          refine cw_ret ?_
          refine hQ106 _ _ _ ?_
          refine thn_r ?_
          refine fin1 rfl rfl ?_
          have hr := Option.some.inj hF
          exact ⟨congrArg (fun (r : Bool) => Ending.returned (.bool r)) hr, hS.below⟩
        · refine cw_cond_f rfl hb141 ?_
          refine cw_skip ?_
          refine hQ106 _ _ _ ?_
          refine thn_n ?_
          refine cw_seq ?_
          refine cw_gen ?_
          intro Q143 hQ143
          refine cw_reg ?_
          refine el_buildSlice1 [.int .i64 0] rfl (by rfl) (by decide) rfl (by decide) hS (by decide) ?_
          intro w144 b146 hS hx145
          replace hS := hS.int 0
          replace hS : Sat w0 w144 [Box b146 3 [.int .i64 0], _, Box b103 29 [u0, u1]] := hS.top 1 rfl
          replace hS := hS.lit1
          refine el_pv (v := (.slice (some ⟨b146, 0, none⟩) 1 1)) (pv_assign rfl) (by decide) ?_
          refine el_nil ?_
          refine hQ143 _ _ _ ?_
          refine thn_n ?_
          refine cw_seq ?_
          refine cw_gen ?_
          intro Q149 hQ149
          refine cw_seq ?_
          refine cw_gen ?_
          intro Q150 hQ150
          refine cw_reg ?_
          refine el_pv (v := .int .i64 1) (pv_assign rfl) (by decide) ?_
          refine el_nil ?_
          refine hQ150 _ _ _ ?_
          refine thn_n ?_
          refine cw_block ?_
          refine cw_gen ?_
          intro Q151 hQ151
          obtain ⟨s152, hL, hK153⟩ := ob hF
          refine cw_loopS (fun k e w => ∃ (v155 : Value), ∃ (x154 : List Int), ∃ (x156 : Int), e 1 = .pointer (some ⟨b103, 0, none⟩) ∧ e 3 = v155 ∧ e 4 = .int .i64 x156 ∧ Sat w0 w [Own (sliceR intR 3) [v155] x154, Box b103 29 [u0, u1]] ∧ spec_IsValidFactorization_L1 N k a0 a1 x154 x156 = some s152) N ?_ ?_ ?_
          · exact ⟨(.slice (some ⟨b146, 0, none⟩) 1 1), [0], 1, rfl, rfl, rfl, hS, hL⟩
          · rintro e w ⟨_, _, _, _, _, _, _, hz⟩; exact nomatch (show none = some _ from hz)
          · rintro k e161 w160 ⟨v155, x154, x156, he157, he158, he159, hS, hF⟩
            refine cw_gen ?_
            intro Q162 hQ162
            refine cw_seq ?_
            refine cw_gen ?_
            intro Q163 hQ163
            refine cw_seq ?_
            refine cw_gen ?_
            intro Q164 hQ164
            refine cw_reg ?_
            refine el_pv (v := .int .i64 x156) (pv_move he159) (by decide) ?_
            refine el_pv (v := .pointer (some ⟨b103, 0 + 1, none⟩)) (pv_fieldAddr he157) (by decide) ?_
            refine el_pv (v := u1) (pv_loadc rfl ((hS.boxAt 1 rfl) 1 _ rfl)) (by decide) ?_
            refine el_pv (v := .int .i64 (a1.length : Int)) (pv_len rfl ha1) (by decide) ?_
            refine el_pv (v := .bool (decide (x156 < (a1.length : Int)))) (pv_lss rfl rfl) (by decide) ?_
            refine el_nil ?_
            refine hQ164 _ _ _ ?_
            refine thn_n ?_
            replace hF := oif hF
            rcases hF with ⟨hb165, hF⟩ | ⟨hb165, hF⟩
            · refine cw_cond_t rfl hb165 ?_
              refine cw_skip ?_
              refine hQ163 _ _ _ ?_
              refine thn_n ?_
              refine cw_seq ?_
              refine cw_gen ?_
              intro Q166 hQ166
              refine cw_block ?_
              refine cw_gen ?_
              intro Q167 hQ167
              refine cw_seq ?_
              refine cw_gen ?_
              intro Q168 hQ168
              refine cw_reg ?_
              refine el_pv (v := .pointer (some ⟨b103, 0 + 1, none⟩)) (pv_fieldAddr he157) (by decide) ?_
              refine el_pv (v := u1) (pv_loadc rfl ((hS.boxAt 1 rfl) 1 _ rfl)) (by decide) ?_
              refine el_pv (v := .int .i64 x156) (pv_move he159) (by decide) ?_
              replace hF := ob hF
              obtain ⟨x169, hx169, hF⟩ := hF
              refine el_index (wA := w0) rfl ha1 rfl (by decide) rfl hx169 (by decide) ?_
              intro b170 of171 c172 hr173 hm174
              obtain ⟨_, _, rfl, hr175, hr176⟩ := hr173
              obtain ⟨v177, rfl⟩ := slice_one hr175
              obtain ⟨v178, rfl⟩ := slice_one hr176
              refine el_pv (v := .agg #[v177, v178]) (pv_loada (cs := [v177, v178]) rfl rfl (cells_up hS.below hm174)) (by decide) ?_
              refine el_alloc hS (by decide) ?_
              intro w179 b180 hS hx181
              refine el_storev (hS.top 0 rfl) rfl [v177, v178] rfl rfl (of_decide_eq_true rfl) (all_cons (oc hr175) (all_cons (oc hr176) rfl)) ?_
              intro w183 hS
              replace hS : Sat w0 w183 [Box b180 84 [v177, v178], Own (sliceR intR 3) [v155] x154, Box b103 29 [u0, u1]] := hS
              refine el_nil ?_
              refine hQ168 _ _ _ ?_
              refine thn_n ?_
              refine cw_seq ?_
              refine cw_gen ?_
              intro Q184 hQ184
              refine cw_seq ?_
              refine cw_gen ?_
              intro Q185 hQ185
              refine cw_reg ?_
              refine el_pv (v := .pointer (some ⟨b180, 0 + 0, none⟩)) (pv_fieldAddr rfl) (by decide) ?_
              refine el_pv (v := v177) (pv_loadc rfl ((hS.boxAt 0 rfl) 0 _ rfl)) (by decide) ?_
              refine el_pv (v := .int .i64 (x169.1.length : Int)) (pv_len rfl hr175) (by decide) ?_
              refine el_pv (v := .pointer (some ⟨b180, 0 + 1, none⟩)) (pv_fieldAddr rfl) (by decide) ?_
              refine el_pv (v := v178) (pv_loadc rfl ((hS.boxAt 0 rfl) 1 _ rfl)) (by decide) ?_
              refine el_pv (v := .int .i64 (x169.2.length : Int)) (pv_len rfl hr176) (by decide) ?_
              refine el_pv (v := .bool ((x169.1.length : Int) != (x169.2.length : Int))) (pv_neq rfl rfl) (by decide) ?_
              refine el_pv (v := .bool ((x169.1.length : Int) != (x169.2.length : Int))) (pv_move rfl) (by decide) ?_
              replace hF := oif hF
              rcases hF with ⟨hb186, hF⟩ | ⟨hb186, hF⟩
              · refine el_off rfl hb186 rfl (by decide) ?_
                refine el_off rfl hb186 rfl (by decide) ?_
                refine el_off rfl hb186 rfl (by decide) ?_
                refine el_off rfl hb186 rfl (by decide) ?_
                refine el_pv (v := .bool true) (pv_pick_t rfl hb186 rfl) (by decide) ?_
                refine el_pv (v := .bool true) (pv_move rfl) (by decide) ?_
                refine el_off rfl rfl rfl (by decide) ?_
                refine el_off rfl rfl rfl (by decide) ?_
                refine el_off rfl rfl rfl (by decide) ?_
                refine el_off rfl rfl rfl (by decide) ?_
                refine el_pv (v := .bool true) (pv_pick_t rfl rfl rfl) (by decide) ?_
                refine el_nil ?_
                refine hQ185 _ _ _ ?_
                refine thn_n ?_
                refine cw_cond_t rfl rfl ?_
                refine cw_seq ?_
                refine cw_gen ?_
                intro Q187 hQ187
                replace hS : Sat w0 w183 [] := hS.rems 3 [0, 1, 2] rfl
                refine cw_reg ?_
                refine el_pv (v := .bool false) (pv_assign rfl) (by decide) ?_
                refine el_nil ?_
                refine hQ187 _ _ _ ?_
                refine thn_n ?_
                refine cw_ret ?_
                refine hQ184 _ _ _ ?_
                refine thn_r ?_
                refine hQ167 _ _ _ ?_
                refine inb_r ?_
                refine hQ166 _ _ _ ?_
                refine thn_r ?_
                refine hQ162 _ _ _ ?_
                refine thn_r ?_
                refine hQ151 _ _ _ ?_
                refine inb_r ?_
                refine hQ149 _ _ _ ?_
                refine thn_r ?_
                replace hF := exL hF hK153
                refine fin1 rfl rfl ?_
                have hr := Option.some.inj hF
                exact ⟨congrArg (fun (r : Bool) => Ending.returned (.bool r)) hr, hS.below⟩
              · refine el_on rfl hb186 ?_
                refine el_pv (v := .pointer (some ⟨b180, 0 + 0, none⟩)) (pv_fieldAddr rfl) (by decide) ?_
                refine el_on rfl hb186 ?_
                refine el_pv (v := v177) (pv_loadc rfl ((hS.boxAt 0 rfl) 0 _ rfl)) (by decide) ?_
                refine el_on rfl hb186 ?_
                replace hF := ob hF
                obtain ⟨r188, hr188, hF⟩ := hF
                refine el_call goes107 (spec_IsStrictlyAscending_ok (hS.up hr175) hr188) (congrArg List.toArray (mapc rfl rfl)) (by decide) ?_
                rintro _ w189 ⟨rfl, hx190⟩
                refine ⟨_, rfl, ?_⟩
                replace hS := hS.ext hx190
                refine el_on rfl hb186 ?_
                refine el_pv (v := .bool (!r188)) (pv_not rfl) (by decide) ?_
                refine el_pv (v := .bool (!r188)) (pv_pick_f rfl hb186 rfl) (by decide) ?_
                refine el_pv (v := .bool (!r188)) (pv_move rfl) (by decide) ?_
                replace hF := oif hF
                rcases hF with ⟨hb191, hF⟩ | ⟨hb191, hF⟩
                · refine el_on rfl (bnot_t hb191) ?_
                  refine el_pv (v := .pointer (some ⟨b180, 0 + 0, none⟩)) (pv_fieldAddr rfl) (by decide) ?_
                  refine el_on rfl (bnot_t hb191) ?_
                  refine el_pv (v := v177) (pv_loadc rfl ((hS.boxAt 0 rfl) 0 _ rfl)) (by decide) ?_
                  refine el_on rfl (bnot_t hb191) ?_
                  replace hF := ob hF
                  obtain ⟨r192, hr192, hF⟩ := hF
                  refine el_call goes59 (spec_AreValidValues_ok (hS.up hr175) hr192) (congrArg List.toArray (mapc rfl rfl)) (by decide) ?_
                  rintro _ w193 ⟨rfl, hx194⟩
                  refine ⟨_, rfl, ?_⟩
                  replace hS := hS.ext hx194
                  refine el_on rfl (bnot_t hb191) ?_
                  refine el_pv (v := .bool (!r192)) (pv_not rfl) (by decide) ?_
                  refine el_pv (v := .bool (!r192)) (pv_pick_f rfl (bnot_t hb191) rfl) (by decide) ?_
                  refine el_nil ?_
                  refine hQ185 _ _ _ ?_
                  refine thn_n ?_
                  replace hF := oif hF
                  rcases hF with ⟨hb195, hF⟩ | ⟨hb195, hF⟩
                  · refine cw_cond_f rfl (bnot_t hb195) ?_
                    refine cw_skip ?_
                    refine hQ184 _ _ _ ?_
                    refine thn_n ?_
                    refine cw_seq ?_
                    refine cw_gen ?_
                    intro Q196 hQ196
                    refine cw_seq ?_
                    refine cw_gen ?_
                    intro Q197 hQ197
                    refine cw_reg ?_
                    refine el_pv (v := .pointer (some ⟨b180, 0 + 0, none⟩)) (pv_fieldAddr rfl) (by decide) ?_
                    refine el_pv (v := v177) (pv_loadc rfl ((hS.boxAt 0 rfl) 0 _ rfl)) (by decide) ?_
                    refine el_pv (v := .int .i64 (x169.1.length : Int)) (pv_len rfl hr175) (by decide) ?_
                    refine el_pv (v := .bool ((x169.1.length : Int) == 0)) (pv_eql rfl rfl) (by decide) ?_
                    refine el_nil ?_
                    refine hQ197 _ _ _ ?_
                    refine thn_n ?_
                    replace hF := oif hF
                    rcases hF with ⟨hb198, hF⟩ | ⟨hb198, hF⟩
                    · refine cw_cond_t rfl hb198 ?_
                      refine cw_seq ?_
                      refine cw_gen ?_
                      intro Q199 hQ199
                      refine cw_seq ?_
                      refine cw_gen ?_
                      intro Q200 hQ200
                      replace hS : Sat w0 w193 [Own (sliceR intR 3) [v155] x154, Box b103 29 [u0, u1]] := hS.rems 3 [0] rfl
                      refine cw_reg ?_
                      refine el_pv (v := .int .i64 x156) (pv_move he159) (by decide) ?_
                      refine el_pv (v := .pointer (some ⟨b103, 0 + 1, none⟩)) (pv_fieldAddr he157) (by decide) ?_
                      refine el_pv (v := u1) (pv_loadc rfl ((hS.boxAt 1 rfl) 1 _ rfl)) (by decide) ?_
                      refine el_pv (v := .int .i64 (a1.length : Int)) (pv_len rfl ha1) (by decide) ?_
                      replace hF := ob hF
                      obtain ⟨x201, hx201, hF⟩ := hF
                      refine el_pv (v := .int .i64 x201) (pv_sub rfl rfl hx201) (by decide) ?_
                      refine el_pv (v := .bool (x156 != x201)) (pv_neq rfl rfl) (by decide) ?_
                      refine el_nil ?_
                      refine hQ200 _ _ _ ?_
                      refine thn_n ?_
                      replace hF := oif hF
                      rcases hF with ⟨hb202, hF⟩ | ⟨hb202, hF⟩
                      · refine cw_cond_t rfl hb202 ?_
                        refine cw_seq ?_
                        refine cw_gen ?_
                        intro Q203 hQ203
                        replace hS : Sat w0 w193 [] := hS.rems 2 [0, 1] rfl
                        refine cw_reg ?_
                        refine el_pv (v := .bool false) (pv_assign rfl) (by decide) ?_
                        refine el_nil ?_
                        refine hQ203 _ _ _ ?_
                        refine thn_n ?_
                        refine cw_ret ?_
                        refine hQ199 _ _ _ ?_
                        refine thn_r ?_
                        refine hQ196 _ _ _ ?_
                        refine thn_r ?_
                        refine hQ167 _ _ _ ?_
                        refine inb_r ?_
                        refine hQ166 _ _ _ ?_
                        refine thn_r ?_
                        refine hQ162 _ _ _ ?_
                        refine thn_r ?_
                        refine hQ151 _ _ _ ?_
                        refine inb_r ?_
                        refine hQ149 _ _ _ ?_
                        refine thn_r ?_
                        replace hF := exL hF hK153
                        refine fin1 rfl rfl ?_
                        have hr := Option.some.inj hF
                        exact ⟨congrArg (fun (r : Bool) => Ending.returned (.bool r)) hr, hS.below⟩
                      · refine cw_cond_f rfl hb202 ?_
                        refine cw_skip ?_
                        refine hQ199 _ _ _ ?_
                        refine thn_n ?_
                        refine cw_seq ?_
                        refine cw_gen ?_
                        intro Q204 hQ204
                        refine cw_reg ?_
                        refine el_pv (v := v155) (pv_move he158) (by decide) ?_
                        refine el_pv (v := .pointer (some ⟨b103, 0 + 0, none⟩)) (pv_fieldAddr he157) (by decide) ?_
                        refine el_pv (v := u0) (pv_loadc rfl ((hS.boxAt 1 rfl) 0 _ rfl)) (by decide) ?_
                        refine el_pv (v := .int .i64 (a0.length : Int)) (pv_len rfl ha0) (by decide) ?_
                        refine el_buildSlice1 [.int .i64 (a0.length : Int)] rfl (by rfl) (by decide) rfl (by decide) hS (by decide) ?_
                        intro w205 b207 hS hx206
                        replace hF := ob hF
                        obtain ⟨x211, hx211, hF⟩ := hF
                        have hrow212 := hS.boxRow 0 rfl
                        replace hS : Sat w0 w205 [Own (sliceR intR 3) [v155] x154, Box b207 3 [.int .i64 (a0.length : Int)], Box b103 29 [u0, u1]] := hS.top 1 rfl
                        replace hS := hS.int (a0.length : Int)
                        replace hS := hS.one
                        refine el_append rfl (by decide) rfl (by decide) hS rfl rfl rfl (by simp) hrow212 hx211 (by decide) ?_
                        intro w209 v210 hS
                        refine el_pv (v := v210) (pv_assign rfl) (by decide) ?_
                        refine el_nil ?_
                        refine hQ204 _ _ _ ?_
                        refine thn_n ?_
                        refine cw_exit ?_
                        refine hQ196 _ _ _ ?_
                        refine thn_x ?_
                        refine hQ167 _ _ _ ?_
                        refine inb_s ?_
                        refine hQ166 _ _ _ ?_
                        refine thn_n ?_
                        replace hS : Sat w0 w209 [Own (sliceR intR 3) [v210] x211, Box b103 29 [u0, u1]] := hS.rems 3 [1] rfl
                        refine cw_reg ?_
                        refine el_pv (v := .int .i64 x156) (pv_move he159) (by decide) ?_
                        replace hF := ob hF
                        obtain ⟨x214, hx214, hF⟩ := hF
                        refine el_pv (v := .int .i64 x214) (pv_add rfl rfl hx214) (by decide) ?_
                        refine el_pv (v := .int .i64 x214) (pv_assign rfl) (by decide) ?_
                        refine el_nil ?_
                        refine hQ162 _ _ _ ?_
                        refine thn_n ?_
                        replace hS := hS.keep 2
                        exact ⟨v210, x211, x214, he157, rfl, rfl, hS, hF⟩
                    · refine cw_cond_f rfl hb198 ?_
                      refine cw_skip ?_
                      refine hQ196 _ _ _ ?_
                      refine thn_n ?_
                      refine cw_seq ?_
                      refine cw_gen ?_
                      intro Q215 hQ215
                      refine cw_seq ?_
                      refine cw_gen ?_
                      intro Q216 hQ216
                      refine cw_reg ?_
                      refine el_pv (v := .int .i64 0) (pv_assign rfl) (by decide) ?_
                      refine el_nil ?_
                      refine hQ216 _ _ _ ?_
                      refine thn_n ?_
                      refine cw_block ?_
                      refine cw_gen ?_
                      intro Q217 hQ217
                      obtain ⟨s218, hL, hK219⟩ := ob hF
                      refine cw_loopS (fun k e w => ∃ (x220 : Int), e 1 = .pointer (some ⟨b103, 0, none⟩) ∧ e 3 = v155 ∧ e 4 = .int .i64 x156 ∧ e 5 = .pointer (some ⟨b180, 0, none⟩) ∧ e 6 = .int .i64 x220 ∧ Sat w0 w [Box b180 84 [v177, v178], Own (sliceR intR 3) [v155] x154, Box b103 29 [u0, u1]] ∧ spec_IsValidFactorization_L2 N k a0 a1 x154 x156 x169.1 x169.2 x220 = some s218) N ?_ ?_ ?_
                      · exact ⟨0, he157, he158, he159, rfl, rfl, hS, hL⟩
                      · rintro e w ⟨_, _, _, _, _, _, _, hz⟩; exact nomatch (show none = some _ from hz)
                      · rintro k e227 w226 ⟨x220, he221, he222, he223, he224, he225, hS, hF⟩
                        refine cw_gen ?_
                        intro Q228 hQ228
                        refine cw_seq ?_
                        refine cw_gen ?_
                        intro Q229 hQ229
                        refine cw_seq ?_
                        refine cw_gen ?_
                        intro Q230 hQ230
                        refine cw_reg ?_
                        refine el_pv (v := .int .i64 x220) (pv_move he225) (by decide) ?_
                        refine el_pv (v := .pointer (some ⟨b180, 0 + 1, none⟩)) (pv_fieldAddr he224) (by decide) ?_
                        refine el_pv (v := v178) (pv_loadc rfl ((hS.boxAt 0 rfl) 1 _ rfl)) (by decide) ?_
                        refine el_pv (v := .int .i64 (x169.2.length : Int)) (pv_len rfl hr176) (by decide) ?_
                        refine el_pv (v := .bool (decide (x220 < (x169.2.length : Int)))) (pv_lss rfl rfl) (by decide) ?_
                        refine el_nil ?_
                        refine hQ230 _ _ _ ?_
                        refine thn_n ?_
                        replace hF := oif hF
                        rcases hF with ⟨hb231, hF⟩ | ⟨hb231, hF⟩
                        · refine cw_cond_t rfl hb231 ?_
                          refine cw_skip ?_
                          refine hQ229 _ _ _ ?_
                          refine thn_n ?_
                          refine cw_seq ?_
                          refine cw_gen ?_
                          intro Q232 hQ232
                          refine cw_block ?_
                          refine cw_gen ?_
                          intro Q233 hQ233
                          refine cw_seq ?_
                          refine cw_gen ?_
                          intro Q234 hQ234
                          refine cw_regq (by kernel_rfl) (by kernel_rfl) ?_
                          refine ql_pv (v := .pointer (some ⟨b180, 0 + 1, none⟩)) (pv_fieldAddr he224) (by decide) ?_
                          refine ql_pv (v := v178) (pv_loadc rfl ((hS.boxAt 0 rfl) 1 _ rfl)) (by decide) ?_
                          refine ql_pv (v := .int .i64 x220) (pv_move he225) (by decide) ?_
                          replace hF := ob hF
                          obtain ⟨x235, hx235, hF⟩ := hF
                          refine ql_index (wA := w0) rfl hr176 rfl (by decide) rfl hx235 (by decide) ?_
                          intro b236 of237 c238 hr239 hm240
                          obtain rfl := hr239
                          refine ql_pv (v := .int .i64 x235) (pv_loadc rfl ((cells_up hS.below hm240) 0 _ rfl)) (by decide) ?_
                          refine ql_pv (v := .int .i64 x156) (pv_move he223) (by decide) ?_
                          replace hF := ob hF
                          obtain ⟨x241, hx241, hF⟩ := hF
                          refine ql_pv (v := .int .i64 x241) (pv_sub rfl rfl hx241) (by decide) ?_
                          replace hF := ob hF
                          obtain ⟨r242, hr242, hF⟩ := hF
                          refine ql_call (.bool r242) goes58 (fun w' hw' => spec_l1In_ok hr242) (congrArg List.toArray (mapc rfl (mapc rfl (mapc rfl rfl)))) (by decide) ?_
                          refine ql_pv (v := .bool (!r242)) (pv_not rfl) (by decide) ?_
                          refine ql_pv (v := .bool (!r242)) (pv_move rfl) (by decide) ?_
                          replace hF := oif hF
                          rcases hF with ⟨hb243, hF⟩ | ⟨hb243, hF⟩
                          · refine ql_on rfl (bnot_t hb243) ?_
                            refine ql_pv (v := v155) (pv_move he222) (by decide) ?_
                            refine ql_on rfl (bnot_t hb243) ?_
                            refine ql_pv (v := .pointer (some ⟨b180, 0 + 1, none⟩)) (pv_fieldAddr he224) (by decide) ?_
                            refine ql_on rfl (bnot_t hb243) ?_
                            refine ql_pv (v := v178) (pv_loadc rfl ((hS.boxAt 0 rfl) 1 _ rfl)) (by decide) ?_
                            refine ql_on rfl (bnot_t hb243) ?_
                            refine ql_pv (v := .int .i64 x220) (pv_move he225) (by decide) ?_
                            refine ql_on rfl (bnot_t hb243) ?_
                            replace hF := ob hF
                            obtain ⟨x244, hx244, hF⟩ := hF
                            refine ql_index (wA := w0) rfl hr176 rfl (by decide) rfl hx244 (by decide) ?_
                            intro b245 of246 c247 hr248 hm249
                            obtain rfl := hr248
                            refine ql_on rfl (bnot_t hb243) ?_
                            refine ql_pv (v := .int .i64 x244) (pv_loadc rfl ((cells_up hS.below hm249) 0 _ rfl)) (by decide) ?_
                            refine ql_on rfl (bnot_t hb243) ?_
                            replace hF := ob hF
                            obtain ⟨x250, hx250, hF⟩ := hF
                            obtain ⟨g251, cap252, hv253⟩ := ownShape 1 hS rfl hx250
                            refine ql_pv (v := .pointer (some ⟨g251, x244.toNat * 1, none⟩)) (pv_indexF (v := v155) rfl hv253 rfl hx250) (by decide) ?_
                            refine ql_on rfl (bnot_t hb243) ?_
                            refine ql_pv (v := .int .i64 x250) (pv_loadc rfl (hS.ownCell 1 rfl hv253 hx250)) (by decide) ?_
                            refine ql_on rfl (bnot_t hb243) ?_
                            refine ql_pv (v := v155) (pv_move he222) (by decide) ?_
                            refine ql_on rfl (bnot_t hb243) ?_
                            refine ql_pv (v := .pointer (some ⟨b180, 0 + 1, none⟩)) (pv_fieldAddr he224) (by decide) ?_
                            refine ql_on rfl (bnot_t hb243) ?_
                            refine ql_pv (v := v178) (pv_loadc rfl ((hS.boxAt 0 rfl) 1 _ rfl)) (by decide) ?_
                            refine ql_on rfl (bnot_t hb243) ?_
                            replace hF := ob hF
                            obtain ⟨x254, hx254, hF⟩ := hF
                            refine ql_index (wA := w0) rfl hr176 rfl (by decide) rfl hx254 (by decide) ?_
                            intro b255 of256 c257 hr258 hm259
                            obtain rfl := hr258
                            refine ql_on rfl (bnot_t hb243) ?_
                            refine ql_pv (v := .int .i64 x254) (pv_loadc rfl ((cells_up hS.below hm259) 0 _ rfl)) (by decide) ?_
                            refine ql_on rfl (bnot_t hb243) ?_
                            replace hF := ob hF
                            obtain ⟨x260, hx260, hF⟩ := hF
                            obtain ⟨g261, cap262, hv263⟩ := ownShape 1 hS rfl hx260
                            refine ql_pv (v := .pointer (some ⟨g261, x254.toNat * 1, none⟩)) (pv_indexF (v := v155) rfl hv263 rfl hx260) (by decide) ?_
                            refine ql_on rfl (bnot_t hb243) ?_
                            refine ql_pv (v := .int .i64 x260) (pv_loadc rfl (hS.ownCell 1 rfl hv263 hx260)) (by decide) ?_
                            refine ql_on rfl (bnot_t hb243) ?_
                            refine ql_pv (v := .bool (x250 != x260)) (pv_neq rfl rfl) (by decide) ?_
                            refine ql_pv (v := .bool (x250 != x260)) (pv_pick_f rfl (bnot_t hb243) rfl) (by decide) ?_
                            refine ql_nil ?_
                            intro w264 hx265
                            replace hS := hS.ext hx265
                            refine hQ234 _ _ _ ?_
                            refine thn_n ?_
                            replace hF := oif hF
                            rcases hF with ⟨hb266, hF⟩ | ⟨hb266, hF⟩
                            · refine cw_cond_t rfl hb266 ?_
                              refine cw_seq ?_
                              refine cw_gen ?_
                              intro Q267 hQ267
                              replace hS : Sat w0 w264 [] := hS.rems 3 [0, 1, 2] rfl
                              refine cw_reg ?_
                              refine el_pv (v := .bool false) (pv_assign rfl) (by decide) ?_
                              refine el_nil ?_
                              refine hQ267 _ _ _ ?_
                              refine thn_n ?_
                              refine cw_ret ?_
                              refine hQ233 _ _ _ ?_
                              refine inb_r ?_
                              refine hQ232 _ _ _ ?_
                              refine thn_r ?_
                              refine hQ228 _ _ _ ?_
                              refine thn_r ?_
                              refine hQ217 _ _ _ ?_
                              refine inb_r ?_
                              refine hQ215 _ _ _ ?_
                              refine thn_r ?_
                              refine hQ167 _ _ _ ?_
                              refine inb_r ?_
                              refine hQ166 _ _ _ ?_
                              refine thn_r ?_
                              refine hQ162 _ _ _ ?_
                              refine thn_r ?_
                              refine hQ151 _ _ _ ?_
                              refine inb_r ?_
                              refine hQ149 _ _ _ ?_
                              refine thn_r ?_
                              replace hF := exL hF hK219
                              replace hF := exL hF hK153
                              refine fin1 rfl rfl ?_
                              have hr := Option.some.inj hF
                              exact ⟨congrArg (fun (r : Bool) => Ending.returned (.bool r)) hr, hS.below⟩
                            · refine cw_cond_f rfl hb266 ?_
                              refine cw_skip ?_
                              refine hQ233 _ _ _ ?_
                              refine inb_n ?_
                              refine hQ232 _ _ _ ?_
                              refine thn_n ?_
                              refine cw_reg ?_
                              refine el_pv (v := .int .i64 x220) (pv_move he225) (by decide) ?_
                              replace hF := ob hF
                              obtain ⟨x268, hx268, hF⟩ := hF
                              refine el_pv (v := .int .i64 x268) (pv_add rfl rfl hx268) (by decide) ?_
                              refine el_pv (v := .int .i64 x268) (pv_assign rfl) (by decide) ?_
                              refine el_nil ?_
                              refine hQ228 _ _ _ ?_
                              refine thn_n ?_
                              replace hS := hS.keep 3
                              exact ⟨x268, he221, he222, he223, he224, rfl, hS, hF⟩
                          · refine ql_off rfl (bnot_f hb243) rfl (by decide) ?_
                            refine ql_off rfl (bnot_f hb243) rfl (by decide) ?_
                            refine ql_off rfl (bnot_f hb243) rfl (by decide) ?_
                            refine ql_off rfl (bnot_f hb243) rfl (by decide) ?_
                            refine ql_off rfl (bnot_f hb243) rfl (by decide) ?_
                            refine ql_off rfl (bnot_f hb243) rfl (by decide) ?_
                            refine ql_off rfl (bnot_f hb243) rfl (by decide) ?_
                            refine ql_off rfl (bnot_f hb243) rfl (by decide) ?_
                            refine ql_off rfl (bnot_f hb243) rfl (by decide) ?_
                            refine ql_off rfl (bnot_f hb243) rfl (by decide) ?_
                            refine ql_off rfl (bnot_f hb243) rfl (by decide) ?_
                            refine ql_off rfl (bnot_f hb243) rfl (by decide) ?_
                            refine ql_off rfl (bnot_f hb243) rfl (by decide) ?_
                            refine ql_off rfl (bnot_f hb243) rfl (by decide) ?_
                            refine ql_off rfl (bnot_f hb243) rfl (by decide) ?_
                            refine ql_off rfl (bnot_f hb243) rfl (by decide) ?_
                            refine ql_pv (v := .bool true) (pv_pick_t rfl (bnot_f hb243) rfl) (by decide) ?_
                            refine ql_nil ?_
                            intro w269 hx270
                            replace hS := hS.ext hx270
                            refine hQ234 _ _ _ ?_
                            refine thn_n ?_
                            refine cw_cond_t rfl rfl ?_
                            refine cw_seq ?_
                            refine cw_gen ?_
                            intro Q271 hQ271
                            replace hS : Sat w0 w269 [] := hS.rems 3 [0, 1, 2] rfl
                            refine cw_reg ?_
                            refine el_pv (v := .bool false) (pv_assign rfl) (by decide) ?_
                            refine el_nil ?_
                            refine hQ271 _ _ _ ?_
                            refine thn_n ?_
                            refine cw_ret ?_
                            refine hQ233 _ _ _ ?_
                            refine inb_r ?_
                            refine hQ232 _ _ _ ?_
                            refine thn_r ?_
                            refine hQ228 _ _ _ ?_
                            refine thn_r ?_
                            refine hQ217 _ _ _ ?_
                            refine inb_r ?_
                            refine hQ215 _ _ _ ?_
                            refine thn_r ?_
                            refine hQ167 _ _ _ ?_
                            refine inb_r ?_
                            refine hQ166 _ _ _ ?_
                            refine thn_r ?_
                            refine hQ162 _ _ _ ?_
                            refine thn_r ?_
                            refine hQ151 _ _ _ ?_
                            refine inb_r ?_
                            refine hQ149 _ _ _ ?_
                            refine thn_r ?_
                            replace hF := exL hF hK219
                            replace hF := exL hF hK153
                            refine fin1 rfl rfl ?_
                            have hr := Option.some.inj hF
                            exact ⟨congrArg (fun (r : Bool) => Ending.returned (.bool r)) hr, hS.below⟩
                        · refine cw_cond_f rfl hb231 ?_
                          refine cw_exit ?_
                          refine hQ229 _ _ _ ?_
                          refine thn_x ?_
                          refine hQ228 _ _ _ ?_
                          refine thn_x ?_
                          replace hF := exA hF hK219
                          refine hQ217 _ _ _ ?_
                          refine inb_s ?_
                          refine hQ215 _ _ _ ?_
                          refine thn_n ?_
                          refine cw_seq ?_
                          refine cw_gen ?_
                          intro Q272 hQ272
                          refine cw_reg ?_
                          refine el_pv (v := v155) (pv_move he222) (by decide) ?_
                          refine el_pv (v := v155) (pv_move he222) (by decide) ?_
                          refine el_pv (v := .pointer (some ⟨b180, 0 + 1, none⟩)) (pv_fieldAddr he224) (by decide) ?_
                          refine el_pv (v := v178) (pv_loadc rfl ((hS.boxAt 0 rfl) 1 _ rfl)) (by decide) ?_
                          replace hF := ob hF
                          obtain ⟨x273, hx273, hF⟩ := hF
                          refine el_index (wA := w0) rfl hr176 rfl (by decide) rfl hx273 (by decide) ?_
                          intro b274 of275 c276 hr277 hm278
                          obtain rfl := hr277
                          refine el_pv (v := .int .i64 x273) (pv_loadc rfl ((cells_up hS.below hm278) 0 _ rfl)) (by decide) ?_
                          replace hF := ob hF
                          obtain ⟨x279, hx279, hF⟩ := hF
                          obtain ⟨g280, cap281, hv282⟩ := ownShape 1 hS rfl hx279
                          refine el_pv (v := .pointer (some ⟨g280, x273.toNat * 1, none⟩)) (pv_indexF (v := v155) rfl hv282 rfl hx279) (by decide) ?_
                          refine el_pv (v := .int .i64 x279) (pv_loadc rfl (hS.ownCell 1 rfl hv282 hx279)) (by decide) ?_
                          replace hF := ob hF
                          obtain ⟨x283, hx283, hF⟩ := hF
                          refine el_pv (v := .int .i64 x283) (pv_add rfl rfl hx283) (by decide) ?_
                          refine el_buildSlice1 [.int .i64 x283] rfl (by rfl) (by decide) rfl (by decide) hS (by decide) ?_
                          intro w284 b286 hS hx285
                          replace hF := ob hF
                          obtain ⟨x290, hx290, hF⟩ := hF
                          have hrow291 := hS.boxRow 0 rfl
                          replace hS : Sat w0 w284 [Own (sliceR intR 3) [v155] x154, Box b286 3 [.int .i64 x283], Box b180 84 [v177, v178], Box b103 29 [u0, u1]] := hS.top 2 rfl
                          replace hS := hS.int x283
                          replace hS := hS.one
                          refine el_append rfl (by decide) rfl (by decide) hS rfl rfl rfl (by simp) hrow291 hx290 (by decide) ?_
                          intro w288 v289 hS
                          refine el_pv (v := v289) (pv_assign rfl) (by decide) ?_
                          refine el_nil ?_
                          refine hQ272 _ _ _ ?_
                          refine thn_n ?_
                          refine cw_seq ?_
                          refine cw_gen ?_
                          intro Q293 hQ293
                          replace hS : Sat w0 w288 [Own (sliceR intR 3) [v289] x290, Box b180 84 [v177, v178], Box b103 29 [u0, u1]] := hS.rems 4 [1] rfl
                          refine cw_reg ?_
                          refine el_pv (v := .int .i64 1) (pv_assign rfl) (by decide) ?_
                          refine el_nil ?_
                          refine hQ293 _ _ _ ?_
                          refine thn_n ?_
                          refine cw_block ?_
                          refine cw_gen ?_
                          intro Q294 hQ294
                          obtain ⟨s295, hL, hK296⟩ := ob hF
                          refine cw_loopS (fun k e w => ∃ (x297 : Int), e 1 = .pointer (some ⟨b103, 0, none⟩) ∧ e 3 = v289 ∧ e 4 = .int .i64 x156 ∧ e 5 = .pointer (some ⟨b180, 0, none⟩) ∧ e 7 = .int .i64 x297 ∧ Sat w0 w [Own (sliceR intR 3) [v289] x290, Box b180 84 [v177, v178], Box b103 29 [u0, u1]] ∧ spec_IsValidFactorization_L3 N k a0 a1 x290 x156 x169.1 x169.2 x297 = some s295) N ?_ ?_ ?_
                          · exact ⟨1, he221, rfl, he223, he224, rfl, hS, hL⟩
                          · rintro e w ⟨_, _, _, _, _, _, _, hz⟩; exact nomatch (show none = some _ from hz)
                          · rintro k e304 w303 ⟨x297, he298, he299, he300, he301, he302, hS, hF⟩
                            refine cw_gen ?_
                            intro Q305 hQ305
                            refine cw_seq ?_
                            refine cw_gen ?_
                            intro Q306 hQ306
                            refine cw_seq ?_
                            refine cw_gen ?_
                            intro Q307 hQ307
                            refine cw_reg ?_
                            refine el_pv (v := .int .i64 x297) (pv_move he302) (by decide) ?_
                            refine el_pv (v := .int .i64 x156) (pv_move he300) (by decide) ?_
                            refine el_pv (v := .bool (decide (x297 < x156))) (pv_lss rfl rfl) (by decide) ?_
                            refine el_nil ?_
                            refine hQ307 _ _ _ ?_
                            refine thn_n ?_
                            replace hF := oif hF
                            rcases hF with ⟨hb308, hF⟩ | ⟨hb308, hF⟩
                            · refine cw_cond_t rfl hb308 ?_
                              refine cw_skip ?_
                              refine hQ306 _ _ _ ?_
                              refine thn_n ?_
                              refine cw_seq ?_
                              refine cw_gen ?_
                              intro Q309 hQ309
                              refine cw_block ?_
                              refine cw_gen ?_
                              intro Q310 hQ310
                              refine cw_seq ?_
                              refine cw_gen ?_
                              intro Q311 hQ311
                              refine cw_regq (by kernel_rfl) (by kernel_rfl) ?_
                              refine ql_pv (v := .pointer (some ⟨b103, 0 + 1, none⟩)) (pv_fieldAddr he298) (by decide) ?_
                              refine ql_pv (v := u1) (pv_loadc rfl ((hS.boxAt 2 rfl) 1 _ rfl)) (by decide) ?_
                              refine ql_pv (v := .int .i64 x297) (pv_move he302) (by decide) ?_
                              replace hF := ob hF
                              obtain ⟨x312, hx312, hF⟩ := hF
                              refine ql_index (wA := w0) rfl ha1 rfl (by decide) rfl hx312 (by decide) ?_
                              intro b313 of314 c315 hr316 hm317
                              obtain ⟨_, _, rfl, hr318, hr319⟩ := hr316
                              obtain ⟨v320, rfl⟩ := slice_one hr318
                              obtain ⟨v321, rfl⟩ := slice_one hr319
                              refine ql_pv (v := .pointer (some ⟨b313, of314 + 0, none⟩)) (pv_fieldAddr rfl) (by decide) ?_
                              refine ql_pv (v := v320) (pv_loadc rfl ((cells_up hS.below hm317) 0 _ rfl)) (by decide) ?_
                              refine ql_pv (v := .pointer (some ⟨b180, 0 + 0, none⟩)) (pv_fieldAddr he301) (by decide) ?_
                              refine ql_pv (v := v177) (pv_loadc rfl ((hS.boxAt 1 rfl) 0 _ rfl)) (by decide) ?_
                              replace hF := ob hF
                              obtain ⟨r322, hr322, hF⟩ := hF
                              refine ql_call (.int .i64 r322) goes60 (fun w' hw' => spec_CompareRows_ok (rd_up (hS.up hr318) hw') (rd_up (hS.up hr175) hw') hr322) (congrArg List.toArray (mapc rfl (mapc rfl rfl))) (by decide) ?_
                              refine ql_pv (v := .bool (r322 == 0)) (pv_eql rfl rfl) (by decide) ?_
                              refine ql_pv (v := .bool (r322 == 0)) (pv_move rfl) (by decide) ?_
                              replace hF := oif hF
                              rcases hF with ⟨hb323, hF⟩ | ⟨hb323, hF⟩
                              · refine ql_on rfl hb323 ?_
                                refine ql_pv (v := .pointer (some ⟨b103, 0 + 1, none⟩)) (pv_fieldAddr he298) (by decide) ?_
                                refine ql_on rfl hb323 ?_
                                refine ql_pv (v := u1) (pv_loadc rfl ((hS.boxAt 2 rfl) 1 _ rfl)) (by decide) ?_
                                refine ql_on rfl hb323 ?_
                                refine ql_pv (v := .int .i64 x297) (pv_move he302) (by decide) ?_
                                refine ql_on rfl hb323 ?_
                                replace hF := ob hF
                                obtain ⟨x324, hx324, hF⟩ := hF
                                refine ql_index (wA := w0) rfl ha1 rfl (by decide) rfl hx324 (by decide) ?_
                                intro b325 of326 c327 hr328 hm329
                                obtain ⟨_, _, rfl, hr330, hr331⟩ := hr328
                                obtain ⟨v332, rfl⟩ := slice_one hr330
                                obtain ⟨v333, rfl⟩ := slice_one hr331
                                refine ql_on rfl hb323 ?_
                                refine ql_pv (v := .pointer (some ⟨b325, of326 + 1, none⟩)) (pv_fieldAddr rfl) (by decide) ?_
                                refine ql_on rfl hb323 ?_
                                refine ql_pv (v := v333) (pv_loadc rfl ((cells_up hS.below hm329) 1 _ rfl)) (by decide) ?_
                                refine ql_on rfl hb323 ?_
                                refine ql_pv (v := .pointer (some ⟨b180, 0 + 1, none⟩)) (pv_fieldAddr he301) (by decide) ?_
                                refine ql_on rfl hb323 ?_
                                refine ql_pv (v := v178) (pv_loadc rfl ((hS.boxAt 1 rfl) 1 _ rfl)) (by decide) ?_
                                refine ql_on rfl hb323 ?_
                                replace hF := ob hF
                                obtain ⟨r334, hr334, hF⟩ := hF
                                refine ql_call (.int .i64 r334) goes60 (fun w' hw' => spec_CompareRows_ok (rd_up (hS.up hr331) hw') (rd_up (hS.up hr176) hw') hr334) (congrArg List.toArray (mapc rfl (mapc rfl rfl))) (by decide) ?_
                                refine ql_on rfl hb323 ?_
                                refine ql_pv (v := .bool (r334 == 0)) (pv_eql rfl rfl) (by decide) ?_
                                refine ql_pv (v := .bool (r334 == 0)) (pv_pick_t rfl hb323 rfl) (by decide) ?_
                                refine ql_nil ?_
                                intro w335 hx336
                                replace hS := hS.ext hx336
                                refine hQ311 _ _ _ ?_
                                refine thn_n ?_
                                replace hF := oif hF
                                rcases hF with ⟨hb337, hF⟩ | ⟨hb337, hF⟩
                                · refine cw_cond_t rfl hb337 ?_
                                  refine cw_seq ?_
                                  refine cw_gen ?_
                                  intro Q338 hQ338
                                  replace hS : Sat w0 w335 [] := hS.rems 3 [0, 1, 2] rfl
                                  refine cw_reg ?_
                                  refine el_pv (v := .bool false) (pv_assign rfl) (by decide) ?_
                                  refine el_nil ?_
                                  refine hQ338 _ _ _ ?_
                                  refine thn_n ?_
                                  refine cw_ret ?_
                                  refine hQ310 _ _ _ ?_
                                  refine inb_r ?_
                                  refine hQ309 _ _ _ ?_
                                  refine thn_r ?_
                                  refine hQ305 _ _ _ ?_
                                  refine thn_r ?_
                                  refine hQ294 _ _ _ ?_
                                  refine inb_r ?_
                                  refine hQ167 _ _ _ ?_
                                  refine inb_r ?_
                                  refine hQ166 _ _ _ ?_
                                  refine thn_r ?_
                                  refine hQ162 _ _ _ ?_
                                  refine thn_r ?_
                                  refine hQ151 _ _ _ ?_
                                  refine inb_r ?_
                                  refine hQ149 _ _ _ ?_
                                  refine thn_r ?_
                                  replace hF := exL hF hK296
                                  replace hF := exL hF hK153
                                  refine fin1 rfl rfl ?_
                                  have hr := Option.some.inj hF
                                  exact ⟨congrArg (fun (r : Bool) => Ending.returned (.bool r)) hr, hS.below⟩
                                · refine cw_cond_f rfl hb337 ?_
                                  refine cw_skip ?_
                                  refine hQ310 _ _ _ ?_
                                  refine inb_n ?_
                                  refine hQ309 _ _ _ ?_
                                  refine thn_n ?_
                                  refine cw_reg ?_
                                  refine el_pv (v := .int .i64 x297) (pv_move he302) (by decide) ?_
                                  replace hF := ob hF
                                  obtain ⟨x339, hx339, hF⟩ := hF
                                  refine el_pv (v := .int .i64 x339) (pv_add rfl rfl hx339) (by decide) ?_
                                  refine el_pv (v := .int .i64 x339) (pv_assign rfl) (by decide) ?_
                                  refine el_nil ?_
                                  refine hQ305 _ _ _ ?_
                                  refine thn_n ?_
                                  replace hS := hS.keep 3
                                  exact ⟨x339, he298, he299, he300, he301, rfl, hS, hF⟩
                              · refine ql_off rfl hb323 rfl (by decide) ?_
                                refine ql_off rfl hb323 rfl (by decide) ?_
                                refine ql_off rfl hb323 rfl (by decide) ?_
                                refine ql_off rfl hb323 rfl (by decide) ?_
                                refine ql_off rfl hb323 rfl (by decide) ?_
                                refine ql_off rfl hb323 rfl (by decide) ?_
                                refine ql_off rfl hb323 rfl (by decide) ?_
                                refine ql_off rfl hb323 rfl (by decide) ?_
                                refine ql_off rfl hb323 rfl (by decide) ?_
                                refine ql_off rfl hb323 rfl (by decide) ?_
                                refine ql_pv (v := .bool false) (pv_pick_f rfl hb323 rfl) (by decide) ?_
                                refine ql_nil ?_
                                intro w340 hx341
                                replace hS := hS.ext hx341
                                refine hQ311 _ _ _ ?_
                                refine thn_n ?_
                                refine cw_cond_f rfl rfl ?_
                                refine cw_skip ?_
                                refine hQ310 _ _ _ ?_
                                refine inb_n ?_
                                refine hQ309 _ _ _ ?_
                                refine thn_n ?_
                                refine cw_reg ?_
                                refine el_pv (v := .int .i64 x297) (pv_move he302) (by decide) ?_
                                replace hF := ob hF
                                obtain ⟨x342, hx342, hF⟩ := hF
                                refine el_pv (v := .int .i64 x342) (pv_add rfl rfl hx342) (by decide) ?_
                                refine el_pv (v := .int .i64 x342) (pv_assign rfl) (by decide) ?_
                                refine el_nil ?_
                                refine hQ305 _ _ _ ?_
                                refine thn_n ?_
                                replace hS := hS.keep 3
                                exact ⟨x342, he298, he299, he300, he301, rfl, hS, hF⟩
                            · refine cw_cond_f rfl hb308 ?_
                              refine cw_exit ?_
                              refine hQ306 _ _ _ ?_
                              refine thn_x ?_
                              refine hQ305 _ _ _ ?_
                              refine thn_x ?_
                              replace hF := exA hF hK296
                              refine hQ294 _ _ _ ?_
                              refine inb_s ?_
                              refine hQ167 _ _ _ ?_
                              refine inb_n ?_
                              refine hQ166 _ _ _ ?_
                              refine thn_n ?_
                              replace hS : Sat w0 w303 [Own (sliceR intR 3) [v289] x290, Box b103 29 [u0, u1]] := hS.rems 3 [1] rfl
                              refine cw_reg ?_
                              refine el_pv (v := .int .i64 x156) (pv_move he300) (by decide) ?_
                              replace hF := ob hF
                              obtain ⟨x343, hx343, hF⟩ := hF
                              refine el_pv (v := .int .i64 x343) (pv_add rfl rfl hx343) (by decide) ?_
                              refine el_pv (v := .int .i64 x343) (pv_assign rfl) (by decide) ?_
                              refine el_nil ?_
                              refine hQ162 _ _ _ ?_
                              refine thn_n ?_
                              replace hS := hS.keep 2
                              exact ⟨v289, x290, x343, he298, he299, rfl, hS, hF⟩
                  · refine cw_cond_t rfl (bnot_f hb195) ?_
                    refine cw_seq ?_
                    refine cw_gen ?_
                    intro Q344 hQ344
                    replace hS : Sat w0 w193 [] := hS.rems 3 [0, 1, 2] rfl
                    refine cw_reg ?_
                    refine el_pv (v := .bool false) (pv_assign rfl) (by decide) ?_
                    refine el_nil ?_
                    refine hQ344 _ _ _ ?_
                    refine thn_n ?_
                    refine cw_ret ?_
                    refine hQ184 _ _ _ ?_
                    refine thn_r ?_
                    refine hQ167 _ _ _ ?_
                    refine inb_r ?_
                    refine hQ166 _ _ _ ?_
                    refine thn_r ?_
                    refine hQ162 _ _ _ ?_
                    refine thn_r ?_
                    refine hQ151 _ _ _ ?_
                    refine inb_r ?_
                    refine hQ149 _ _ _ ?_
                    refine thn_r ?_
                    replace hF := exL hF hK153
                    refine fin1 rfl rfl ?_
                    have hr := Option.some.inj hF
                    exact ⟨congrArg (fun (r : Bool) => Ending.returned (.bool r)) hr, hS.below⟩
                · refine el_off rfl (bnot_f hb191) rfl (by decide) ?_
                  refine el_off rfl (bnot_f hb191) rfl (by decide) ?_
                  refine el_off rfl (bnot_f hb191) rfl (by decide) ?_
                  refine el_off rfl (bnot_f hb191) rfl (by decide) ?_
                  refine el_pv (v := .bool true) (pv_pick_t rfl (bnot_f hb191) rfl) (by decide) ?_
                  refine el_nil ?_
                  refine hQ185 _ _ _ ?_
                  refine thn_n ?_
                  refine cw_cond_t rfl rfl ?_
                  refine cw_seq ?_
                  refine cw_gen ?_
                  intro Q345 hQ345
                  replace hS : Sat w0 w189 [] := hS.rems 3 [0, 1, 2] rfl
                  refine cw_reg ?_
                  refine el_pv (v := .bool false) (pv_assign rfl) (by decide) ?_
                  refine el_nil ?_
                  refine hQ345 _ _ _ ?_
                  refine thn_n ?_
                  refine cw_ret ?_
                  refine hQ184 _ _ _ ?_
                  refine thn_r ?_
                  refine hQ167 _ _ _ ?_
                  refine inb_r ?_
                  refine hQ166 _ _ _ ?_
                  refine thn_r ?_
                  refine hQ162 _ _ _ ?_
                  refine thn_r ?_
                  refine hQ151 _ _ _ ?_
                  refine inb_r ?_
                  refine hQ149 _ _ _ ?_
                  refine thn_r ?_
                  replace hF := exL hF hK153
                  refine fin1 rfl rfl ?_
                  have hr := Option.some.inj hF
                  exact ⟨congrArg (fun (r : Bool) => Ending.returned (.bool r)) hr, hS.below⟩
            · refine cw_cond_f rfl hb165 ?_
              refine cw_exit ?_
              refine hQ163 _ _ _ ?_
              refine thn_x ?_
              refine hQ162 _ _ _ ?_
              refine thn_x ?_
              replace hF := exA hF hK153
              refine hQ151 _ _ _ ?_
              refine inb_s ?_
              refine hQ149 _ _ _ ?_
              refine thn_n ?_
              refine cw_seq ?_
              refine cw_gen ?_
              intro Q346 hQ346
              refine cw_regq (by kernel_rfl) (by kernel_rfl) ?_
              refine ql_pv (v := v155) (pv_move he158) (by decide) ?_
              refine ql_pv (v := v155) (pv_move he158) (by decide) ?_
              refine ql_pv (v := .int .i64 (x154.length : Int)) (pv_len rfl (hS.rdAt (R := (sliceR intR 3)) 0 rfl)) (by decide) ?_
              replace hF := ob hF
              obtain ⟨x347, hx347, hF⟩ := hF
              refine ql_pv (v := .int .i64 x347) (pv_sub rfl rfl hx347) (by decide) ?_
              replace hF := ob hF
              obtain ⟨x348, hx348, hF⟩ := hF
              obtain ⟨g349, cap350, hv351⟩ := ownShape 0 hS rfl hx348
              refine ql_pv (v := .pointer (some ⟨g349, x347.toNat * 1, none⟩)) (pv_indexF (v := v155) rfl hv351 rfl hx348) (by decide) ?_
              refine ql_pv (v := .int .i64 x348) (pv_loadc rfl (hS.ownCell 0 rfl hv351 hx348)) (by decide) ?_
              refine ql_pv (v := .pointer (some ⟨b103, 0 + 0, none⟩)) (pv_fieldAddr he157) (by decide) ?_
              refine ql_pv (v := u0) (pv_loadc rfl ((hS.boxAt 1 rfl) 0 _ rfl)) (by decide) ?_
              refine ql_pv (v := .int .i64 (a0.length : Int)) (pv_len rfl ha0) (by decide) ?_
              refine ql_pv (v := .bool (x348 == (a0.length : Int))) (pv_eql rfl rfl) (by decide) ?_
              refine ql_pv (v := .bool (x348 == (a0.length : Int))) (pv_assign rfl) (by decide) ?_
              refine ql_nil ?_
              intro w352 hx353
              replace hS := hS.ext hx353
              refine hQ346 _ _ _ ?_
              refine thn_n ?_
              refine cw_ret ?_
              refine fin1 rfl rfl ?_
              have hr := Option.some.inj hF
              exact ⟨congrArg (fun (r : Bool) => Ending.returned (.bool r)) hr, hS.below⟩
  · refine ql_off rfl (bnot_f hb109) rfl (by decide) ?_
    refine ql_off rfl (bnot_f hb109) rfl (by decide) ?_
    refine ql_off rfl (bnot_f hb109) rfl (by decide) ?_
    refine ql_off rfl (bnot_f hb109) rfl (by decide) ?_
    refine ql_pv (v := .bool true) (pv_pick_t rfl (bnot_f hb109) rfl) (by decide) ?_
    refine ql_pv (v := .bool true) (pv_move rfl) (by decide) ?_
    refine ql_off rfl rfl rfl (by decide) ?_
    refine ql_off rfl rfl rfl (by decide) ?_
    refine ql_off rfl rfl rfl (by decide) ?_
    refine ql_off rfl rfl rfl (by decide) ?_
    refine ql_pv (v := .bool true) (pv_pick_t rfl rfl rfl) (by decide) ?_
    refine ql_pv (v := .bool true) (pv_move rfl) (by decide) ?_
    refine ql_off rfl rfl rfl (by decide) ?_
    refine ql_off rfl rfl rfl (by decide) ?_
    refine ql_off rfl rfl rfl (by decide) ?_
    refine ql_off rfl rfl rfl (by decide) ?_
    refine ql_off rfl rfl rfl (by decide) ?_
    refine ql_off rfl rfl rfl (by decide) ?_
    refine ql_off rfl rfl rfl (by decide) ?_
    refine ql_off rfl rfl rfl (by decide) ?_
    refine ql_off rfl rfl rfl (by decide) ?_
    refine ql_off rfl rfl rfl (by decide) ?_
    refine ql_off rfl rfl rfl (by decide) ?_
    refine ql_off rfl rfl rfl (by decide) ?_
    refine ql_off rfl rfl rfl (by decide) ?_
    refine ql_off rfl rfl rfl (by decide) ?_
    refine ql_pv (v := .bool true) (pv_pick_t rfl rfl rfl) (by decide) ?_
    refine ql_nil ?_
    intro w354 hx355
    replace hS := hS.ext hx355
    refine hQ107 _ _ _ ?_
    refine thn_n ?_
    refine cw_cond_t rfl rfl ?_
    refine cw_seq ?_
    refine cw_gen ?_
    intro Q356 hQ356
    replace hS : Sat w0 w354 [] := hS.rems 1 [0] rfl
    refine cw_reg ?_
    refine el_pv (v := .bool false) (pv_assign rfl) (by decide) ?_
    refine el_nil ?_
    refine hQ356 _ _ _ ?_
    refine thn_n ?_
    refine cw_ret ?_
    refine hQ106 _ _ _ ?_
    refine thn_r ?_
    refine fin1 rfl rfl ?_
    have hr := Option.some.inj hF
    exact ⟨congrArg (fun (r : Bool) => Ending.returned (.bool r)) hr, hS.below⟩
set_option maxHeartbeats 4000000 in
theorem spec_l23Counts_ok {w0 : World} {u0 : Value} {a0 : List Int} {u1 : Value} {a1 : List (List Int × List Int)} (_ : (sliceR intR 3).rd w0 [u0] a0) (ha1 : (sliceR (pairR (sliceR intR 3) (sliceR intR 3)) 84).rd w0 [u1] a1) {N : Nat} {r : (List Int)} (hF : spec_l23Counts N a0 a1 = some r) :
    Calls Try.prog 108 #[.agg #[u0, u1]] w0 fun e w' => ∃ (q0 : Value), e = .returned (q0) ∧ Sat w0 w' [Own (sliceR intR 3) [q0] r] := by
  unfold spec_l23Counts at hF
  refine calls_E Try.func108 rfl rfl (of_decide_eq_true rfl) ?_
  have hS := Sat.start w0
  refine cw_seq ?_
  refine cw_gen ?_
  intro Q101 hQ101
  refine cw_reg ?_
  refine el_box [u0, u1] rfl hS (by decide) ?_
  intro w102 b103 hS hx104
  refine el_pv (v := (.slice none 0 0)) (pv_assign rfl) (by decide) ?_
  refine el_nil ?_
  refine hQ101 _ _ _ ?_
  refine thn_n ?_
  refine cw_seq ?_
  refine cw_gen ?_
  intro Q106 hQ106
  refine cw_reg ?_
  refine el_buildSlice1 [.int .i64 1] rfl (by rfl) (by decide) rfl (by decide) hS (by decide) ?_
  intro w107 b109 hS hx108
  replace hS := hS.int 1
  replace hS : Sat w0 w107 [Box b109 3 [.int .i64 1], _, Box b103 29 [u0, u1]] := hS.top 1 rfl
  replace hS := hS.lit1
  refine el_pv (v := (.slice (some ⟨b109, 0, none⟩) 1 1)) (pv_assign rfl) (by decide) ?_
  refine el_nil ?_
  refine hQ106 _ _ _ ?_
  refine thn_n ?_
  refine cw_seq ?_
  refine cw_gen ?_
  intro Q112 hQ112
  refine cw_seq ?_
  refine cw_gen ?_
  intro Q113 hQ113
  refine cw_reg ?_
  refine el_pv (v := .int .i64 1) (pv_assign rfl) (by decide) ?_
  refine el_nil ?_
  refine hQ113 _ _ _ ?_
  refine thn_n ?_
  refine cw_block ?_
  refine cw_gen ?_
  intro Q114 hQ114
  obtain ⟨s115, hL, hK116⟩ := ob hF
  refine cw_loopS (fun k e w => ∃ (v118 : Value), ∃ (x117 : List Int), ∃ (x119 : Int), e 1 = .pointer (some ⟨b103, 0, none⟩) ∧ e 3 = v118 ∧ e 4 = .int .i64 x119 ∧ Sat w0 w [Own (sliceR intR 3) [v118] x117, Box b103 29 [u0, u1]] ∧ spec_l23Counts_L1 N k a0 a1 x117 x119 = some s115) N ?_ ?_ ?_
  · exact ⟨(.slice (some ⟨b109, 0, none⟩) 1 1), [1], 1, rfl, rfl, rfl, hS, hL⟩
  · rintro e w ⟨_, _, _, _, _, _, _, hz⟩; exact nomatch (show none = some _ from hz)
  · rintro k e124 w123 ⟨v118, x117, x119, he120, he121, he122, hS, hF⟩
    refine cw_gen ?_
    intro Q125 hQ125
    refine cw_seq ?_
    refine cw_gen ?_
    intro Q126 hQ126
    refine cw_seq ?_
    refine cw_gen ?_
    intro Q127 hQ127
    refine cw_reg ?_
    refine el_pv (v := .int .i64 x119) (pv_move he122) (by decide) ?_
    refine el_pv (v := .pointer (some ⟨b103, 0 + 1, none⟩)) (pv_fieldAddr he120) (by decide) ?_
    refine el_pv (v := u1) (pv_loadc rfl ((hS.boxAt 1 rfl) 1 _ rfl)) (by decide) ?_
    refine el_pv (v := .int .i64 (a1.length : Int)) (pv_len rfl ha1) (by decide) ?_
    refine el_pv (v := .bool (decide (x119 < (a1.length : Int)))) (pv_lss rfl rfl) (by decide) ?_
    refine el_nil ?_
    refine hQ127 _ _ _ ?_
    refine thn_n ?_
    replace hF := oif hF
    rcases hF with ⟨hb128, hF⟩ | ⟨hb128, hF⟩
    · refine cw_cond_t rfl hb128 ?_
      refine cw_skip ?_
      refine hQ126 _ _ _ ?_
      refine thn_n ?_
      refine cw_seq ?_
      refine cw_gen ?_
      intro Q129 hQ129
      refine cw_block ?_
      refine cw_gen ?_
      intro Q130 hQ130
      refine cw_seq ?_
      refine cw_gen ?_
      intro Q131 hQ131
      refine cw_reg ?_
      refine el_pv (v := .int .i64 0) (pv_assign rfl) (by decide) ?_
      refine el_nil ?_
      refine hQ131 _ _ _ ?_
      refine thn_n ?_
      refine cw_seq ?_
      refine cw_gen ?_
      intro Q132 hQ132
      refine cw_seq ?_
      refine cw_gen ?_
      intro Q133 hQ133
      refine cw_reg ?_
      refine el_pv (v := .int .i64 0) (pv_assign rfl) (by decide) ?_
      refine el_nil ?_
      refine hQ133 _ _ _ ?_
      refine thn_n ?_
      refine cw_block ?_
      refine cw_gen ?_
      intro Q134 hQ134
      obtain ⟨s135, hL, hK136⟩ := ob hF
      refine cw_loopS (fun k e w => ∃ (x137 : Int), ∃ (x138 : Int), e 1 = .pointer (some ⟨b103, 0, none⟩) ∧ e 3 = v118 ∧ e 4 = .int .i64 x119 ∧ e 5 = .int .i64 x137 ∧ e 6 = .int .i64 x138 ∧ Sat w0 w [Own (sliceR intR 3) [v118] x117, Box b103 29 [u0, u1]] ∧ spec_l23Counts_L2 N k a0 a1 x117 x119 x137 x138 = some s135) N ?_ ?_ ?_
      · exact ⟨0, 0, he120, he121, he122, rfl, rfl, hS, hL⟩
      · rintro e w ⟨_, _, _, _, _, _, _, _, hz⟩; exact nomatch (show none = some _ from hz)
      · rintro k e145 w144 ⟨x137, x138, he139, he140, he141, he142, he143, hS, hF⟩
        refine cw_gen ?_
        intro Q146 hQ146
        refine cw_seq ?_
        refine cw_gen ?_
        intro Q147 hQ147
        refine cw_seq ?_
        refine cw_gen ?_
        intro Q148 hQ148
        refine cw_reg ?_
        refine el_pv (v := .int .i64 x138) (pv_move he143) (by decide) ?_
        refine el_pv (v := .pointer (some ⟨b103, 0 + 1, none⟩)) (pv_fieldAddr he139) (by decide) ?_
        refine el_pv (v := u1) (pv_loadc rfl ((hS.boxAt 1 rfl) 1 _ rfl)) (by decide) ?_
        refine el_pv (v := .int .i64 x119) (pv_move he141) (by decide) ?_
        replace hF := ob hF
        obtain ⟨x149, hx149, hF⟩ := hF
        refine el_index (wA := w0) rfl ha1 rfl (by decide) rfl hx149 (by decide) ?_
        intro b150 of151 c152 hr153 hm154
        obtain ⟨_, _, rfl, hr155, hr156⟩ := hr153
        obtain ⟨v157, rfl⟩ := slice_one hr155
        obtain ⟨v158, rfl⟩ := slice_one hr156
        refine el_pv (v := .pointer (some ⟨b150, of151 + 1, none⟩)) (pv_fieldAddr rfl) (by decide) ?_
        refine el_pv (v := v158) (pv_loadc rfl ((cells_up hS.below hm154) 1 _ rfl)) (by decide) ?_
        refine el_pv (v := .int .i64 (x149.2.length : Int)) (pv_len rfl hr156) (by decide) ?_
        refine el_pv (v := .bool (decide (x138 < (x149.2.length : Int)))) (pv_lss rfl rfl) (by decide) ?_
        refine el_nil ?_
        refine hQ148 _ _ _ ?_
        refine thn_n ?_
        replace hF := oif hF
        rcases hF with ⟨hb159, hF⟩ | ⟨hb159, hF⟩
        · refine cw_cond_t rfl hb159 ?_
          refine cw_skip ?_
          refine hQ147 _ _ _ ?_
          refine thn_n ?_
          refine cw_seq ?_
          refine cw_gen ?_
          intro Q160 hQ160
          refine cw_block ?_
          refine cw_gen ?_
          intro Q161 hQ161
          refine cw_reg ?_
          refine el_pv (v := .int .i64 x137) (pv_move he142) (by decide) ?_
          refine el_pv (v := v118) (pv_move he140) (by decide) ?_
          refine el_pv (v := .pointer (some ⟨b103, 0 + 1, none⟩)) (pv_fieldAddr he139) (by decide) ?_
          refine el_pv (v := u1) (pv_loadc rfl ((hS.boxAt 1 rfl) 1 _ rfl)) (by decide) ?_
          refine el_pv (v := .int .i64 x119) (pv_move he141) (by decide) ?_
          replace hF := ob hF
          obtain ⟨x162, hx162, hF⟩ := hF
          refine el_index (wA := w0) rfl ha1 rfl (by decide) rfl hx162 (by decide) ?_
          intro b163 of164 c165 hr166 hm167
          obtain ⟨_, _, rfl, hr168, hr169⟩ := hr166
          obtain ⟨v170, rfl⟩ := slice_one hr168
          obtain ⟨v171, rfl⟩ := slice_one hr169
          refine el_pv (v := .pointer (some ⟨b163, of164 + 1, none⟩)) (pv_fieldAddr rfl) (by decide) ?_
          refine el_pv (v := v171) (pv_loadc rfl ((cells_up hS.below hm167) 1 _ rfl)) (by decide) ?_
          refine el_pv (v := .int .i64 x138) (pv_move he143) (by decide) ?_
          replace hF := ob hF
          obtain ⟨x172, hx172, hF⟩ := hF
          refine el_index (wA := w0) rfl hr169 rfl (by decide) rfl hx172 (by decide) ?_
          intro b173 of174 c175 hr176 hm177
          obtain rfl := hr176
          refine el_pv (v := .int .i64 x172) (pv_loadc rfl ((cells_up hS.below hm177) 0 _ rfl)) (by decide) ?_
          replace hF := ob hF
          obtain ⟨x178, hx178, hF⟩ := hF
          obtain ⟨g179, cap180, hv181⟩ := ownShape 0 hS rfl hx178
          refine el_pv (v := .pointer (some ⟨g179, x172.toNat * 1, none⟩)) (pv_indexF (v := v118) rfl hv181 rfl hx178) (by decide) ?_
          refine el_pv (v := .int .i64 x178) (pv_loadc rfl (hS.ownCell 0 rfl hv181 hx178)) (by decide) ?_
          replace hF := ob hF
          obtain ⟨x182, hx182, hF⟩ := hF
          refine el_pv (v := .int .i64 x182) (pv_add rfl rfl hx182) (by decide) ?_
          refine el_pv (v := .int .i64 (imn 1000000000 x182)) (pv_min rfl rfl) (by decide) ?_
          refine el_pv (v := .int .i64 (imn 1000000000 x182)) (pv_assign rfl) (by decide) ?_
          refine el_nil ?_
          refine hQ161 _ _ _ ?_
          refine inb_n ?_
          refine hQ160 _ _ _ ?_
          refine thn_n ?_
          refine cw_reg ?_
          refine el_pv (v := .int .i64 x138) (pv_move he143) (by decide) ?_
          replace hF := ob hF
          obtain ⟨x183, hx183, hF⟩ := hF
          refine el_pv (v := .int .i64 x183) (pv_add rfl rfl hx183) (by decide) ?_
          refine el_pv (v := .int .i64 x183) (pv_assign rfl) (by decide) ?_
          refine el_nil ?_
          refine hQ146 _ _ _ ?_
          refine thn_n ?_
          replace hS := hS.keep 2
          exact ⟨(imn 1000000000 x182), x183, he139, he140, he141, rfl, rfl, hS, hF⟩
        · refine cw_cond_f rfl hb159 ?_
          refine cw_exit ?_
          refine hQ147 _ _ _ ?_
          refine thn_x ?_
          refine hQ146 _ _ _ ?_
          refine thn_x ?_
          replace hF := exB hF hK136
          refine hQ134 _ _ _ ?_
          refine inb_s ?_
          refine hQ132 _ _ _ ?_
          refine thn_n ?_
          refine cw_reg ?_
          refine el_pv (v := v118) (pv_move he140) (by decide) ?_
          refine el_pv (v := .int .i64 x137) (pv_move he142) (by decide) ?_
          refine el_buildSlice1 [.int .i64 x137] rfl (by rfl) (by decide) rfl (by decide) hS (by decide) ?_
          intro w184 b186 hS hx185
          replace hF := ob hF
          obtain ⟨x190, hx190, hF⟩ := hF
          have hrow191 := hS.boxRow 0 rfl
          replace hS : Sat w0 w184 [Own (sliceR intR 3) [v118] x117, Box b186 3 [.int .i64 x137], Box b103 29 [u0, u1]] := hS.top 1 rfl
          replace hS := hS.int x137
          replace hS := hS.one
          refine el_append rfl (by decide) rfl (by decide) hS rfl rfl rfl (by simp) hrow191 hx190 (by decide) ?_
          intro w188 v189 hS
          refine el_pv (v := v189) (pv_assign rfl) (by decide) ?_
          refine el_nil ?_
          refine hQ130 _ _ _ ?_
          refine inb_n ?_
          refine hQ129 _ _ _ ?_
          refine thn_n ?_
          replace hS : Sat w0 w188 [Own (sliceR intR 3) [v189] x190, Box b103 29 [u0, u1]] := hS.rems 3 [1] rfl
          refine cw_reg ?_
          refine el_pv (v := .int .i64 x119) (pv_move he141) (by decide) ?_
          replace hF := ob hF
          obtain ⟨x193, hx193, hF⟩ := hF
          refine el_pv (v := .int .i64 x193) (pv_add rfl rfl hx193) (by decide) ?_
          refine el_pv (v := .int .i64 x193) (pv_assign rfl) (by decide) ?_
          refine el_nil ?_
          refine hQ125 _ _ _ ?_
          refine thn_n ?_
          replace hS := hS.keep 2
          exact ⟨v189, x190, x193, he139, rfl, rfl, hS, hF⟩
    · refine cw_cond_f rfl hb128 ?_
      refine cw_exit ?_
      refine hQ126 _ _ _ ?_
      refine thn_x ?_
      refine hQ125 _ _ _ ?_
      refine thn_x ?_
      replace hF := exB hF hK116
      refine hQ114 _ _ _ ?_
      refine inb_s ?_
      refine hQ112 _ _ _ ?_
      refine thn_n ?_
      refine cw_seq ?_
      refine cw_gen ?_
      intro Q194 hQ194
      replace hS : Sat w0 w123 [Own (sliceR intR 3) [v118] x117] := hS.rems 2 [1] rfl
      refine cw_reg ?_
      refine el_pv (v := v118) (pv_move he121) (by decide) ?_
      refine el_pv (v := v118) (pv_assign rfl) (by decide) ?_
      refine el_nil ?_
      refine hQ194 _ _ _ ?_
      refine thn_n ?_
      refine cw_ret ?_
      refine fin1 rfl rfl ?_
      have hr := Option.some.inj hF
      exact ⟨v118, congrArg (fun (r : (List Int)) => Ending.returned (v118)) hr, Eq.mp (congrArg (fun (r : (List Int)) => Sat w0 w123 [Own (sliceR intR 3) [v118] r]) hr) (hS.keep 1)⟩
set_option maxHeartbeats 4000000 in
theorem spec_FactorizedRowCount_ok {w0 : World} {u0 : Value} {a0 : List Int} {u1 : Value} {a1 : List (List Int × List Int)} (ha0 : (sliceR intR 3).rd w0 [u0] a0) (ha1 : (sliceR (pairR (sliceR intR 3) (sliceR intR 3)) 84).rd w0 [u1] a1) {N : Nat} {r : Int} (hF : spec_FactorizedRowCount N a0 a1 = some r) :
    Calls Try.prog 72 #[.agg #[u0, u1]] w0 fun e w' => e = .returned (.int .i64 r) ∧ Ext w0 w' := by
  unfold spec_FactorizedRowCount at hF
  refine calls_E Try.func72 rfl rfl (of_decide_eq_true rfl) ?_
  have hS := Sat.start w0
  refine cw_seq ?_
  refine cw_gen ?_
  intro Q101 hQ101
  refine cw_reg ?_
  refine el_box [u0, u1] rfl hS (by decide) ?_
  intro w102 b103 hS hx104
  refine el_pv (v := .int .i64 0) (pv_assign rfl) (by decide) ?_
  refine el_nil ?_
  refine hQ101 _ _ _ ?_
  refine thn_n ?_
  refine cw_seq ?_
  refine cw_gen ?_
  intro Q106 hQ106
  refine cw_seq ?_
  refine cw_gen ?_
  intro Q107 hQ107
  refine cw_reg ?_
  refine el_pv (v := .agg #[u0, u1]) (pv_loada (cs := [u0, u1]) rfl rfl (boxc0 (hS.boxAt 0 rfl))) (by decide) ?_
  replace hF := ob hF
  obtain ⟨r108, hr108, hF⟩ := hF
  refine el_call goes71 (spec_IsValidFactorization_ok (hS.up ha0) (hS.up ha1) hr108) (congrArg List.toArray (mapc rfl rfl)) (by decide) ?_
  rintro _ w109 ⟨rfl, hx110⟩
  refine ⟨_, rfl, ?_⟩
  replace hS := hS.ext hx110
  refine el_pv (v := .bool (!r108)) (pv_not rfl) (by decide) ?_
  refine el_nil ?_
  refine hQ107 _ _ _ ?_
  refine thn_n ?_
  replace hF := oif hF
  rcases hF with ⟨hb111, hF⟩ | ⟨hb111, hF⟩
  · refine cw_cond_f rfl (bnot_t hb111) ?_
    refine cw_skip ?_
    refine hQ106 _ _ _ ?_
    refine thn_n ?_
    refine cw_seq ?_
    refine cw_gen ?_
    intro Q112 hQ112
    refine cw_reg ?_
    refine el_pv (v := .agg #[u0, u1]) (pv_loada (cs := [u0, u1]) rfl rfl (boxc0 (hS.boxAt 0 rfl))) (by decide) ?_
    replace hF := ob hF
    obtain ⟨r113, hr113, hF⟩ := hF
    refine el_call goes108 (spec_l23Counts_ok (hS.up ha0) (hS.up ha1) hr113) (congrArg List.toArray (mapc rfl rfl)) (by decide) ?_
    rintro _ w116 ⟨v114, rfl, hS'⟩
    refine ⟨_, rfl, ?_⟩
    have hx117 := hS'.below
    replace hS := hS.call1 hS'
    refine el_pv (v := v114) (pv_assign rfl) (by decide) ?_
    refine el_nil ?_
    refine hQ112 _ _ _ ?_
    refine thn_n ?_
    refine cw_seq ?_
    refine cw_gen ?_
    intro Q118 hQ118
    replace hS : Sat w0 w116 [Own (sliceR intR 3) [v114] r113] := hS.rems 2 [1] rfl
    refine cw_reg ?_
    refine el_pv (v := v114) (pv_move rfl) (by decide) ?_
    refine el_pv (v := v114) (pv_move rfl) (by decide) ?_
    refine el_pv (v := .int .i64 (r113.length : Int)) (pv_len rfl (hS.rdAt (R := (sliceR intR 3)) 0 rfl)) (by decide) ?_
    replace hF := ob hF
    obtain ⟨x119, hx119, hF⟩ := hF
    refine el_pv (v := .int .i64 x119) (pv_sub rfl rfl hx119) (by decide) ?_
    replace hF := ob hF
    obtain ⟨x120, hx120, hF⟩ := hF
    obtain ⟨g121, cap122, hv123⟩ := ownShape 0 hS rfl hx120
    refine el_pv (v := .pointer (some ⟨g121, x119.toNat * 1, none⟩)) (pv_indexF (v := v114) rfl hv123 rfl hx120) (by decide) ?_
    refine el_pv (v := .int .i64 x120) (pv_loadc rfl (hS.ownCell 0 rfl hv123 hx120)) (by decide) ?_
    refine el_pv (v := .int .i64 x120) (pv_assign rfl) (by decide) ?_
    refine el_nil ?_
    refine hQ118 _ _ _ ?_
    refine thn_n ?_
    refine cw_ret ?_
    refine fin1 rfl rfl ?_
    have hr := Option.some.inj hF
    exact ⟨congrArg (fun (r : Int) => Ending.returned (.int .i64 r)) hr, hS.below⟩
  · refine cw_cond_t rfl (bnot_f hb111) ?_
    refine cw_seq ?_
    refine cw_gen ?_
    intro Q124 hQ124
    replace hS : Sat w0 w109 [] := hS.rems 1 [0] rfl
    refine cw_reg ?_
    refine el_pv (v := .int .i64 0) (pv_assign rfl) (by decide) ?_
    refine el_nil ?_
    refine hQ124 _ _ _ ?_
    refine thn_n ?_
    refine cw_ret ?_
    refine hQ106 _ _ _ ?_
    refine thn_r ?_
    refine fin1 rfl rfl ?_
    have hr := Option.some.inj hF
    exact ⟨congrArg (fun (r : Int) => Ending.returned (.int .i64 r)) hr, hS.below⟩
set_option maxHeartbeats 4000000 in
theorem spec_l23Rows_ok' (N : Nat) : ∀ {w0 : World} {u0 : Value} {a0 : List Int} {u1 : Value} {a1 : List (List Int × List Int)} {a2 : Int} {u3 : Value} {a3 : List Int} (_ : (sliceR intR 3).rd w0 [u0] a0) (_ : (sliceR (pairR (sliceR intR 3) (sliceR intR 3)) 84).rd w0 [u1] a1) (_ : (sliceR intR 3).rd w0 [u3] a3) {r : (List (List Int))} (_ : spec_l23Rows N a0 a1 a2 a3 = some r),
    Calls Try.prog 73 #[.agg #[u0, u1], .int .i64 a2, u3] w0 fun e w' => ∃ (q0 : Value), e = .returned (q0) ∧ Sat w0 w' [Own (sliceR (sliceR intR 3) 26) [q0] r] := by
  induction N with
  | zero => intros; exact nomatch (show none = some _ by assumption)
  | succ N ih =>
    intro w0 u0 a0 u1 a1 a2 u3 a3 ha0 ha1 ha3 r hF
    refine calls_E Try.func73 rfl rfl (of_decide_eq_true rfl) ?_
    have hS := Sat.start w0
    refine cw_seq ?_
    refine cw_gen ?_
    intro Q101 hQ101
    refine cw_reg ?_
    refine el_box [u0, u1] rfl hS (by decide) ?_
    intro w102 b103 hS hx104
    refine el_pv (v := (.slice none 0 0)) (pv_assign rfl) (by decide) ?_
    refine el_nil ?_
    refine hQ101 _ _ _ ?_
    refine thn_n ?_
    refine cw_seq ?_
    refine cw_gen ?_
    intro Q106 hQ106
    refine cw_seq ?_
    refine cw_gen ?_
    intro Q107 hQ107
    refine cw_reg ?_
    refine el_pv (v := .int .i64 a2) (pv_move rfl) (by decide) ?_
    refine el_pv (v := .bool (a2 == 0)) (pv_eql rfl rfl) (by decide) ?_
    refine el_nil ?_
    refine hQ107 _ _ _ ?_
    refine thn_n ?_
    replace hF := oif hF
    rcases hF with ⟨hb108, hF⟩ | ⟨hb108, hF⟩
    · refine cw_cond_t rfl hb108 ?_
      refine cw_seq ?_
      refine cw_gen ?_
      intro Q109 hQ109
      replace hS : Sat w0 w102 [] := hS.rems 1 [0] rfl
      refine cw_reg ?_
      refine el_buildSlice0 intR hS (by decide) ?_
      intro w110 v112 hS hx111
      refine el_pv (v := u3) (pv_move rfl) (by decide) ?_
      replace hF := ob hF
      obtain ⟨x116, hx116, hF⟩ := hF
      obtain ⟨ao117, c118, hv119, hn120, hrow121⟩ := row_ints (hS.up ha3)
      replace hS := hS.ints (xs := a3)
      refine el_append rfl (by decide) rfl (by decide) hS rfl (rfl.trans hv119) rfl hn120 hrow121 hx116 (by decide) ?_
      intro w114 v115 hS
      refine el_buildSlice1 [v115] (cells_of rfl (oc (hS.rdAt (R := (sliceR intR 3)) 0 rfl))) (by rfl) (by decide) rfl (by decide) hS (by decide) ?_
      intro w123 b125 hS hx124
      replace hS : Sat w0 w123 [Own (sliceR intR 3) [v115] x116, Box b125 26 [v115]] := hS.top 1 rfl
      replace hS : Sat w0 w123 [Box b125 26 [v115], _] := hS.top 1 rfl
      replace hS := hS.lit1
      refine el_pv (v := (.slice (some ⟨b125, 0, none⟩) 1 1)) (pv_assign rfl) (by decide) ?_
      refine el_nil ?_
      refine hQ109 _ _ _ ?_
      refine thn_n ?_
      refine cw_ret ?_
      refine hQ106 _ _ _ ?_
      refine thn_r ?_
      refine fin1 rfl rfl ?_
      have hr := Option.some.inj hF
      exact ⟨(.slice (some ⟨b125, 0, none⟩) 1 1), congrArg (fun (r : (List (List Int))) => Ending.returned ((.slice (some ⟨b125, 0, none⟩) 1 1))) hr, Eq.mp (congrArg (fun (r : (List (List Int))) => Sat w0 w123 [Own (sliceR (sliceR intR 3) 26) [(.slice (some ⟨b125, 0, none⟩) 1 1)] r]) hr) (hS.keep 1)⟩
    · refine cw_cond_f rfl hb108 ?_
      refine cw_skip ?_
      refine hQ106 _ _ _ ?_
      refine thn_n ?_
      refine cw_seq ?_
      refine cw_gen ?_
      intro Q128 hQ128
      refine cw_reg ?_
      refine el_buildSlice0 (sliceR intR 3) hS (by decide) ?_
      intro w129 v131 hS hx130
      refine el_pv (v := v131) (pv_assign rfl) (by decide) ?_
      refine el_nil ?_
      refine hQ128 _ _ _ ?_
      refine thn_n ?_
      refine cw_seq ?_
      refine cw_gen ?_
      intro Q133 hQ133
      refine cw_seq ?_
      refine cw_gen ?_
      intro Q134 hQ134
      refine cw_reg ?_
      refine el_pv (v := .int .i64 0) (pv_assign rfl) (by decide) ?_
      refine el_nil ?_
      refine hQ134 _ _ _ ?_
      refine thn_n ?_
      refine cw_block ?_
      refine cw_gen ?_
      intro Q135 hQ135
      obtain ⟨s136, hL, hK137⟩ := ob hF
      refine cw_loopS (fun k e w => ∃ (v139 : Value), ∃ (x138 : List (List Int)), ∃ (x140 : Int), e 1 = .int .i64 a2 ∧ e 2 = u3 ∧ e 3 = .pointer (some ⟨b103, 0, none⟩) ∧ e 7 = v139 ∧ e 8 = .int .i64 x140 ∧ Sat w0 w [Own (sliceR (sliceR intR 3) 26) [v139] x138, Box b103 29 [u0, u1]] ∧ spec_l23Rows_L1 (spec_l23Rows N) N k a2 a3 a0 a1 x138 x140 = some s136) N ?_ ?_ ?_
      · exact ⟨v131, [], 0, rfl, rfl, rfl, rfl, rfl, hS, hL⟩
      · rintro e w ⟨_, _, _, _, _, _, _, _, _, hz⟩; exact nomatch (show none = some _ from hz)
      · rintro k e147 w146 ⟨v139, x138, x140, he141, he142, he143, he144, he145, hS, hF⟩
        refine cw_gen ?_
        intro Q148 hQ148
        refine cw_seq ?_
        refine cw_gen ?_
        intro Q149 hQ149
        refine cw_seq ?_
        refine cw_gen ?_
        intro Q150 hQ150
        refine cw_reg ?_
        refine el_pv (v := .int .i64 x140) (pv_move he145) (by decide) ?_
        refine el_pv (v := .pointer (some ⟨b103, 0 + 1, none⟩)) (pv_fieldAddr he143) (by decide) ?_
        refine el_pv (v := u1) (pv_loadc rfl ((hS.boxAt 1 rfl) 1 _ rfl)) (by decide) ?_
        refine el_pv (v := .int .i64 a2) (pv_move he141) (by decide) ?_
        replace hF := ob hF
        obtain ⟨x151, hx151, hF⟩ := hF
        refine el_index (wA := w0) rfl ha1 rfl (by decide) rfl hx151 (by decide) ?_
        intro b152 of153 c154 hr155 hm156
        obtain ⟨_, _, rfl, hr157, hr158⟩ := hr155
        obtain ⟨v159, rfl⟩ := slice_one hr157
        obtain ⟨v160, rfl⟩ := slice_one hr158
        refine el_pv (v := .pointer (some ⟨b152, of153 + 0, none⟩)) (pv_fieldAddr rfl) (by decide) ?_
        refine el_pv (v := v159) (pv_loadc rfl ((cells_up hS.below hm156) 0 _ rfl)) (by decide) ?_
        refine el_pv (v := .int .i64 (x151.1.length : Int)) (pv_len rfl hr157) (by decide) ?_
        refine el_pv (v := .bool (decide (x140 < (x151.1.length : Int)))) (pv_lss rfl rfl) (by decide) ?_
        refine el_nil ?_
        refine hQ150 _ _ _ ?_
        refine thn_n ?_
        replace hF := oif hF
        rcases hF with ⟨hb161, hF⟩ | ⟨hb161, hF⟩
        · refine cw_cond_t rfl hb161 ?_
          refine cw_skip ?_
          refine hQ149 _ _ _ ?_
          refine thn_n ?_
          refine cw_seq ?_
          refine cw_gen ?_
          intro Q162 hQ162
          refine cw_block ?_
          refine cw_gen ?_
          intro Q163 hQ163
          replace hF := ob hF
          obtain ⟨x166, hx166, hF⟩ := hF
          replace hF := ob hF
          obtain ⟨x176, hx176, hF⟩ := hF
          replace hF := ob hF
          obtain ⟨x182, hx182, hF⟩ := hF
          replace hF := ob hF
          obtain ⟨x192, hx192, hF⟩ := hF
          replace hF := ob hF
          obtain ⟨x204, hx204, hF⟩ := hF
          replace hF := ob hF
          obtain ⟨x217, hx217, hF⟩ := hF
          replace hF := ob hF
          obtain ⟨r220, hr220, hF⟩ := hF
          replace hF := ob hF
          obtain ⟨x227, hx227, hF⟩ := hF
          refine cw_mid (fun e w => ∃ (v226 : Value), e 1 = .int .i64 a2 ∧ e 2 = u3 ∧ e 3 = .pointer (some ⟨b103, 0, none⟩) ∧ e 7 = v226 ∧ e 8 = .int .i64 x140 ∧ Sat w0 w [Box b103 29 [u0, u1], Own (sliceR (sliceR intR 3) 26) [v226] x227]) ?_ ?_
          · obtain ⟨C, hCd⟩ : ∃ C : World → Prop, ∀ w, C w ↔ ∃ G, Sat w0 w ([Box b103 29 [u0, u1]] ++ G) := ⟨_, fun _ => Iff.rfl⟩
            refine cw_regb [0, 1, 2, 3, 4, 5, 6, 7, 8, 9, 10, 11, 12, 13, 14, 15, 16, 17, 18, 19, 20, 21, 22, 23, 24, 25, 26, 27] C (by kernel_rfl) ?_
            intro w236 hx237
            replace hS := hS.ext hx237
            replace hS : Sat w0 w236 [Box b103 29 [u0, u1], Own (sliceR (sliceR intR 3) 26) [v139] x138] := hS.tops 2 [1] rfl
            have hC := (hCd _).2 ⟨_, hS⟩
            refine al_p (v := v139) (by kernel_rfl) 0 rfl rfl (by decide) hC (by kernel_rfl) (by kernel_rfl) (sv_on rfl (fun w' hw' => by obtain ⟨_, hS⟩ := (hCd _).1 hw'; exact (pv_move he144))) ?_
            refine al_p (v := .agg #[u0, u1]) (by kernel_rfl) 1 rfl rfl (by decide) hC (by kernel_rfl) (by kernel_rfl) (sv_on rfl (fun w' hw' => by obtain ⟨_, hS⟩ := (hCd _).1 hw'; exact (pv_loada (cs := [u0, u1]) he143 rfl (boxc0 (hS.boxAt 0 rfl))))) ?_
            refine al_p (v := .pointer (some ⟨b103, 0 + 1, none⟩)) (by kernel_rfl) 2 rfl rfl (by decide) hC (by kernel_rfl) (by kernel_rfl) (sv_on rfl (fun w' hw' => by obtain ⟨_, hS⟩ := (hCd _).1 hw'; exact (pv_fieldAddr he143))) ?_
            refine al_p (v := u1) (by kernel_rfl) 3 rfl rfl (by decide) hC (by kernel_rfl) (by kernel_rfl) (sv_on rfl (fun w' hw' => by obtain ⟨_, hS⟩ := (hCd _).1 hw'; exact (pv_loadc rfl ((hS.boxAt 0 rfl) 1 _ rfl)))) ?_
            refine al_p (v := .int .i64 a2) (by kernel_rfl) 4 rfl rfl (by decide) hC (by kernel_rfl) (by kernel_rfl) (sv_on rfl (fun w' hw' => by obtain ⟨_, hS⟩ := (hCd _).1 hw'; exact (pv_move he141))) ?_
            refine al_index (wA := w0) (by kernel_rfl) 5 rfl hC (by kernel_rfl) (by kernel_rfl) rfl ha1 rfl (by decide) rfl hx166 (by decide) ?_
            intro b167 of168 c169 hr170 hm171
            obtain ⟨_, _, rfl, hr172, hr173⟩ := hr170
            obtain ⟨v174, rfl⟩ := slice_one hr172
            obtain ⟨v175, rfl⟩ := slice_one hr173
            refine al_p (v := .pointer (some ⟨b167, of168 + 1, none⟩)) (by kernel_rfl) 6 rfl rfl (by decide) hC (by kernel_rfl) (by kernel_rfl) (sv_on rfl (fun w' hw' => by obtain ⟨_, hS⟩ := (hCd _).1 hw'; exact (pv_fieldAddr rfl))) ?_
            refine al_p (v := v175) (by kernel_rfl) 7 rfl rfl (by decide) hC (by kernel_rfl) (by kernel_rfl) (sv_on rfl (fun w' hw' => by obtain ⟨_, hS⟩ := (hCd _).1 hw'; exact (pv_loadc rfl ((cells_up hS.below hm171) 1 _ rfl)))) ?_
            refine al_p (v := .int .i64 x140) (by kernel_rfl) 8 rfl rfl (by decide) hC (by kernel_rfl) (by kernel_rfl) (sv_on rfl (fun w' hw' => by obtain ⟨_, hS⟩ := (hCd _).1 hw'; exact (pv_move he145))) ?_
            refine al_index (wA := w0) (by kernel_rfl) 9 rfl hC (by kernel_rfl) (by kernel_rfl) rfl hr173 rfl (by decide) rfl hx176 (by decide) ?_
            intro b177 of178 c179 hr180 hm181
            obtain rfl := hr180
            refine al_p (v := .int .i64 x176) (by kernel_rfl) 10 rfl rfl (by decide) hC (by kernel_rfl) (by kernel_rfl) (sv_on rfl (fun w' hw' => by obtain ⟨_, hS⟩ := (hCd _).1 hw'; exact (pv_loadc rfl ((cells_up hS.below hm181) 0 _ rfl)))) ?_
            refine al_p (v := u3) (by kernel_rfl) 12 rfl rfl (by decide) hC (by kernel_rfl) (by kernel_rfl) (sv_on rfl (fun w' hw' => by obtain ⟨_, hS⟩ := (hCd _).1 hw'; exact (pv_move he142))) ?_
            refine al_p (v := .pointer (some ⟨b103, 0 + 1, none⟩)) (by kernel_rfl) 14 rfl rfl (by decide) hC (by kernel_rfl) (by kernel_rfl) (sv_on rfl (fun w' hw' => by obtain ⟨_, hS⟩ := (hCd _).1 hw'; exact (pv_fieldAddr he143))) ?_
            refine al_p (v := u1) (by kernel_rfl) 15 rfl rfl (by decide) hC (by kernel_rfl) (by kernel_rfl) (sv_on rfl (fun w' hw' => by obtain ⟨_, hS⟩ := (hCd _).1 hw'; exact (pv_loadc rfl ((hS.boxAt 0 rfl) 1 _ rfl)))) ?_
            refine al_p (v := .int .i64 a2) (by kernel_rfl) 16 rfl rfl (by decide) hC (by kernel_rfl) (by kernel_rfl) (sv_on rfl (fun w' hw' => by obtain ⟨_, hS⟩ := (hCd _).1 hw'; exact (pv_move he141))) ?_
            refine al_index (wA := w0) (by kernel_rfl) 17 rfl hC (by kernel_rfl) (by kernel_rfl) rfl ha1 rfl (by decide) rfl hx182 (by decide) ?_
            intro b183 of184 c185 hr186 hm187
            obtain ⟨_, _, rfl, hr188, hr189⟩ := hr186
            obtain ⟨v190, rfl⟩ := slice_one hr188
            obtain ⟨v191, rfl⟩ := slice_one hr189
            refine al_p (v := .pointer (some ⟨b183, of184 + 0, none⟩)) (by kernel_rfl) 18 rfl rfl (by decide) hC (by kernel_rfl) (by kernel_rfl) (sv_on rfl (fun w' hw' => by obtain ⟨_, hS⟩ := (hCd _).1 hw'; exact (pv_fieldAddr rfl))) ?_
            refine al_p (v := v190) (by kernel_rfl) 19 rfl rfl (by decide) hC (by kernel_rfl) (by kernel_rfl) (sv_on rfl (fun w' hw' => by obtain ⟨_, hS⟩ := (hCd _).1 hw'; exact (pv_loadc rfl ((cells_up hS.below hm187) 0 _ rfl)))) ?_
            refine al_p (v := .int .i64 x140) (by kernel_rfl) 20 rfl rfl (by decide) hC (by kernel_rfl) (by kernel_rfl) (sv_on rfl (fun w' hw' => by obtain ⟨_, hS⟩ := (hCd _).1 hw'; exact (pv_move he145))) ?_
            refine al_index (wA := w0) (by kernel_rfl) 21 rfl hC (by kernel_rfl) (by kernel_rfl) rfl hr188 rfl (by decide) rfl hx192 (by decide) ?_
            intro b193 of194 c195 hr196 hm197
            obtain rfl := hr196
            refine al_p (v := .int .i64 x192) (by kernel_rfl) 22 rfl rfl (by decide) hC (by kernel_rfl) (by kernel_rfl) (sv_on rfl (fun w' hw' => by obtain ⟨_, hS⟩ := (hCd _).1 hw'; exact (pv_loadc rfl ((cells_up hS.below hm197) 0 _ rfl)))) ?_
            refine al_two 11 23 (by kernel_rfl) rfl rfl ?_ ?_
            · refine el_buildSlice0 intR hS (by decide) ?_
              intro w198 v200 hS hx199
              refine el_nil ?_
              replace hS : Sat w0 w198 [Box b103 29 [u0, u1], Own (sliceR intR 3) [v200] [], Own (sliceR (sliceR intR 3) 26) [v139] x138] := hS.tops 3 [1] rfl
              have hC := (hCd _).2 ⟨_, hS⟩
              refine ⟨fun _ => hC, ?_⟩
              refine al_two 13 23 (by kernel_rfl) rfl rfl ?_ ?_
              · obtain ⟨ao205, c206, hv207, hn208, hrow209⟩ := row_ints (hS.up ha3)
                replace hS : Sat w0 w198 [Own (sliceR intR 3) [v200] [], Box b103 29 [u0, u1], Own (sliceR (sliceR intR 3) 26) [v139] x138] := hS.top 1 rfl
                replace hS := hS.ints (xs := a3)
                refine el_append rfl (by decide) rfl (by decide) hS rfl (rfl.trans hv207) rfl hn208 hrow209 hx204 (by decide) ?_
                intro w202 v203 hS
                refine el_nil ?_
                replace hS : Sat w0 w202 [Box b103 29 [u0, u1], Own (sliceR intR 3) [v203] x204, Own (sliceR (sliceR intR 3) 26) [v139] x138] := hS.tops 3 [1] rfl
                have hC := (hCd _).2 ⟨_, hS⟩
                refine ⟨fun _ => hC, ?_⟩
                refine al_one 23 (by kernel_rfl) rfl ?_
                refine el_buildSlice1 [.int .i64 x192] rfl (by rfl) (by decide) rfl (by decide) hS (by decide) ?_
                intro w211 b213 hS hx212
                refine el_nil ?_
                replace hS : Sat w0 w211 [Box b103 29 [u0, u1], Box b213 3 [.int .i64 x192], Own (sliceR intR 3) [v203] x204, Own (sliceR (sliceR intR 3) 26) [v139] x138] := hS.tops 4 [1] rfl
                have hC := (hCd _).2 ⟨_, hS⟩
                refine ⟨fun _ => hC, ?_⟩
                refine al_one 24 (by kernel_rfl) rfl ?_
                have hrow218 := hS.boxRow 1 rfl
                replace hS : Sat w0 w211 [Own (sliceR intR 3) [v203] x204, Box b103 29 [u0, u1], Box b213 3 [.int .i64 x192], Own (sliceR (sliceR intR 3) 26) [v139] x138] := hS.top 2 rfl
                replace hS := hS.int x192
                replace hS := hS.one
                refine el_append rfl (by decide) rfl (by decide) hS rfl rfl rfl (by simp) hrow218 hx217 (by decide) ?_
                intro w215 v216 hS
                refine el_nil ?_
                replace hS : Sat w0 w215 [Box b103 29 [u0, u1], Own (sliceR intR 3) [v216] x217, Box b213 3 [.int .i64 x192], Own (sliceR (sliceR intR 3) 26) [v139] x138] := hS.tops 4 [1] rfl
                have hC := (hCd _).2 ⟨_, hS⟩
                refine ⟨fun _ => hC, ?_⟩
                refine al_one 25 (by kernel_rfl) rfl ?_
                refine el_call goes73 (ih (hS.up ha0) (hS.up ha1) (hS.rdAt (R := (sliceR intR 3)) 1 rfl) hr220) (congrArg List.toArray (mapc rfl (mapc rfl (mapc rfl rfl)))) (by decide) ?_
                rintro _ w223 ⟨v221, rfl, hS'⟩
                refine ⟨_, rfl, ?_⟩
                have hx224 := hS'.below
                replace hS := hS.call1 hS'
                refine el_nil ?_
                replace hS : Sat w0 w223 [Box b103 29 [u0, u1], Own (sliceR (sliceR intR 3) 26) [v221] r220, Own (sliceR intR 3) [v216] x217, Box b213 3 [.int .i64 x192], Own (sliceR (sliceR intR 3) 26) [v139] x138] := hS.tops 5 [1] rfl
                have hC := (hCd _).2 ⟨_, hS⟩
                refine ⟨fun _ => hC, ?_⟩
                refine al_one 26 (by kernel_rfl) rfl ?_
                replace hS : Sat w0 w223 [Own (sliceR (sliceR intR 3) 26) [v221] r220, Own (sliceR (sliceR intR 3) 26) [v139] x138, Box b103 29 [u0, u1], Own (sliceR intR 3) [v216] x217, Box b213 3 [.int .i64 x192]] := hS.tops 5 [1, 4] rfl
                obtain ⟨ao228, c229, cc230, hv231, hn232, hrow233, hS⟩ := hS.unlist
                refine el_append rfl (by decide) rfl (by decide) hS rfl (rfl.trans hv231) rfl hn232 hrow233 hx227 (by decide) ?_
                intro w225 v226 hS
                refine el_nil ?_
                replace hS : Sat w0 w225 [Box b103 29 [u0, u1], Own (sliceR (sliceR intR 3) 26) [v226] x227, Own (sliceR intR 3) [v216] x217, Box b213 3 [.int .i64 x192]] := hS.tops 4 [1] rfl
                have hC := (hCd _).2 ⟨_, hS⟩
                refine ⟨fun _ => hC, ?_⟩
                refine al_one 27 (by kernel_rfl) rfl ?_
                refine el_pv (v := v226) (pv_assign rfl) (by decide) ?_
                refine el_nil ?_
                refine ⟨fun _ => hC, ?_⟩
                refine al_nil (by kernel_rfl) ?_
                replace hS : Sat w0 w225 [Box b103 29 [u0, u1], Own (sliceR (sliceR intR 3) 26) [v226] x227] := hS.rems 4 [2, 3] rfl
                exact ⟨rfl, v226, he141, he142, he143, rfl, he145, hS⟩
              · refine el_buildSlice1 [.int .i64 x192] rfl (by rfl) (by decide) rfl (by decide) hS (by decide) ?_
                intro w211 b213 hS hx212
                refine el_nil ?_
                replace hS : Sat w0 w211 [Box b103 29 [u0, u1], Box b213 3 [.int .i64 x192], Own (sliceR intR 3) [v200] [], Own (sliceR (sliceR intR 3) 26) [v139] x138] := hS.tops 4 [1] rfl
                have hC := (hCd _).2 ⟨_, hS⟩
                refine ⟨fun _ => hC, ?_⟩
                refine al_one 13 (by kernel_rfl) rfl ?_
                obtain ⟨ao205, c206, hv207, hn208, hrow209⟩ := row_ints (hS.up ha3)
                replace hS : Sat w0 w211 [Own (sliceR intR 3) [v200] [], Box b103 29 [u0, u1], Box b213 3 [.int .i64 x192], Own (sliceR (sliceR intR 3) 26) [v139] x138] := hS.top 2 rfl
                replace hS := hS.ints (xs := a3)
                refine el_append rfl (by decide) rfl (by decide) hS rfl (rfl.trans hv207) rfl hn208 hrow209 hx204 (by decide) ?_
                intro w202 v203 hS
                refine el_nil ?_
                replace hS : Sat w0 w202 [Box b103 29 [u0, u1], Own (sliceR intR 3) [v203] x204, Box b213 3 [.int .i64 x192], Own (sliceR (sliceR intR 3) 26) [v139] x138] := hS.tops 4 [1] rfl
                have hC := (hCd _).2 ⟨_, hS⟩
                refine ⟨fun _ => hC, ?_⟩
                refine al_one 24 (by kernel_rfl) rfl ?_
                have hrow218 := hS.boxRow 2 rfl
                replace hS : Sat w0 w202 [Own (sliceR intR 3) [v203] x204, Box b103 29 [u0, u1], Box b213 3 [.int .i64 x192], Own (sliceR (sliceR intR 3) 26) [v139] x138] := hS.top 1 rfl
                replace hS := hS.int x192
                replace hS := hS.one
                refine el_append rfl (by decide) rfl (by decide) hS rfl rfl rfl (by simp) hrow218 hx217 (by decide) ?_
                intro w215 v216 hS
                refine el_nil ?_
                replace hS : Sat w0 w215 [Box b103 29 [u0, u1], Own (sliceR intR 3) [v216] x217, Box b213 3 [.int .i64 x192], Own (sliceR (sliceR intR 3) 26) [v139] x138] := hS.tops 4 [1] rfl
                have hC := (hCd _).2 ⟨_, hS⟩
                refine ⟨fun _ => hC, ?_⟩
                refine al_one 25 (by kernel_rfl) rfl ?_
                refine el_call goes73 (ih (hS.up ha0) (hS.up ha1) (hS.rdAt (R := (sliceR intR 3)) 1 rfl) hr220) (congrArg List.toArray (mapc rfl (mapc rfl (mapc rfl rfl)))) (by decide) ?_
                rintro _ w223 ⟨v221, rfl, hS'⟩
                refine ⟨_, rfl, ?_⟩
                have hx224 := hS'.below
                replace hS := hS.call1 hS'
                refine el_nil ?_
                replace hS : Sat w0 w223 [Box b103 29 [u0, u1], Own (sliceR (sliceR intR 3) 26) [v221] r220, Own (sliceR intR 3) [v216] x217, Box b213 3 [.int .i64 x192], Own (sliceR (sliceR intR 3) 26) [v139] x138] := hS.tops 5 [1] rfl
                have hC := (hCd _).2 ⟨_, hS⟩
                refine ⟨fun _ => hC, ?_⟩
                refine al_one 26 (by kernel_rfl) rfl ?_
                replace hS : Sat w0 w223 [Own (sliceR (sliceR intR 3) 26) [v221] r220, Own (sliceR (sliceR intR 3) 26) [v139] x138, Box b103 29 [u0, u1], Own (sliceR intR 3) [v216] x217, Box b213 3 [.int .i64 x192]] := hS.tops 5 [1, 4] rfl
                obtain ⟨ao228, c229, cc230, hv231, hn232, hrow233, hS⟩ := hS.unlist
                refine el_append rfl (by decide) rfl (by decide) hS rfl (rfl.trans hv231) rfl hn232 hrow233 hx227 (by decide) ?_
                intro w225 v226 hS
                refine el_nil ?_
                replace hS : Sat w0 w225 [Box b103 29 [u0, u1], Own (sliceR (sliceR intR 3) 26) [v226] x227, Own (sliceR intR 3) [v216] x217, Box b213 3 [.int .i64 x192]] := hS.tops 4 [1] rfl
                have hC := (hCd _).2 ⟨_, hS⟩
                refine ⟨fun _ => hC, ?_⟩
                refine al_one 27 (by kernel_rfl) rfl ?_
                refine el_pv (v := v226) (pv_assign rfl) (by decide) ?_
                refine el_nil ?_
                refine ⟨fun _ => hC, ?_⟩
                refine al_nil (by kernel_rfl) ?_
                replace hS : Sat w0 w225 [Box b103 29 [u0, u1], Own (sliceR (sliceR intR 3) 26) [v226] x227] := hS.rems 4 [2, 3] rfl
                exact ⟨rfl, v226, he141, he142, he143, rfl, he145, hS⟩
            · refine el_buildSlice1 [.int .i64 x192] rfl (by rfl) (by decide) rfl (by decide) hS (by decide) ?_
              intro w211 b213 hS hx212
              refine el_nil ?_
              replace hS : Sat w0 w211 [Box b103 29 [u0, u1], Box b213 3 [.int .i64 x192], Own (sliceR (sliceR intR 3) 26) [v139] x138] := hS.tops 3 [1] rfl
              have hC := (hCd _).2 ⟨_, hS⟩
              refine ⟨fun _ => hC, ?_⟩
              refine al_one 11 (by kernel_rfl) rfl ?_
              refine el_buildSlice0 intR hS (by decide) ?_
              intro w198 v200 hS hx199
              refine el_nil ?_
              replace hS : Sat w0 w198 [Box b103 29 [u0, u1], Own (sliceR intR 3) [v200] [], Box b213 3 [.int .i64 x192], Own (sliceR (sliceR intR 3) 26) [v139] x138] := hS.tops 4 [1] rfl
              have hC := (hCd _).2 ⟨_, hS⟩
              refine ⟨fun _ => hC, ?_⟩
              refine al_one 13 (by kernel_rfl) rfl ?_
              obtain ⟨ao205, c206, hv207, hn208, hrow209⟩ := row_ints (hS.up ha3)
              replace hS : Sat w0 w198 [Own (sliceR intR 3) [v200] [], Box b103 29 [u0, u1], Box b213 3 [.int .i64 x192], Own (sliceR (sliceR intR 3) 26) [v139] x138] := hS.top 1 rfl
              replace hS := hS.ints (xs := a3)
              refine el_append rfl (by decide) rfl (by decide) hS rfl (rfl.trans hv207) rfl hn208 hrow209 hx204 (by decide) ?_
              intro w202 v203 hS
              refine el_nil ?_
              replace hS : Sat w0 w202 [Box b103 29 [u0, u1], Own (sliceR intR 3) [v203] x204, Box b213 3 [.int .i64 x192], Own (sliceR (sliceR intR 3) 26) [v139] x138] := hS.tops 4 [1] rfl
              have hC := (hCd _).2 ⟨_, hS⟩
              refine ⟨fun _ => hC, ?_⟩
              refine al_one 24 (by kernel_rfl) rfl ?_
              have hrow218 := hS.boxRow 2 rfl
              replace hS : Sat w0 w202 [Own (sliceR intR 3) [v203] x204, Box b103 29 [u0, u1], Box b213 3 [.int .i64 x192], Own (sliceR (sliceR intR 3) 26) [v139] x138] := hS.top 1 rfl
              replace hS := hS.int x192
              replace hS := hS.one
              refine el_append rfl (by decide) rfl (by decide) hS rfl rfl rfl (by simp) hrow218 hx217 (by decide) ?_
              intro w215 v216 hS
              refine el_nil ?_
              replace hS : Sat w0 w215 [Box b103 29 [u0, u1], Own (sliceR intR 3) [v216] x217, Box b213 3 [.int .i64 x192], Own (sliceR (sliceR intR 3) 26) [v139] x138] := hS.tops 4 [1] rfl
              have hC := (hCd _).2 ⟨_, hS⟩
              refine ⟨fun _ => hC, ?_⟩
              refine al_one 25 (by kernel_rfl) rfl ?_
              refine el_call goes73 (ih (hS.up ha0) (hS.up ha1) (hS.rdAt (R := (sliceR intR 3)) 1 rfl) hr220) (congrArg List.toArray (mapc rfl (mapc rfl (mapc rfl rfl)))) (by decide) ?_
              rintro _ w223 ⟨v221, rfl, hS'⟩
              refine ⟨_, rfl, ?_⟩
              have hx224 := hS'.below
              replace hS := hS.call1 hS'
              refine el_nil ?_
              replace hS : Sat w0 w223 [Box b103 29 [u0, u1], Own (sliceR (sliceR intR 3) 26) [v221] r220, Own (sliceR intR 3) [v216] x217, Box b213 3 [.int .i64 x192], Own (sliceR (sliceR intR 3) 26) [v139] x138] := hS.tops 5 [1] rfl
              have hC := (hCd _).2 ⟨_, hS⟩
              refine ⟨fun _ => hC, ?_⟩
              refine al_one 26 (by kernel_rfl) rfl ?_
              replace hS : Sat w0 w223 [Own (sliceR (sliceR intR 3) 26) [v221] r220, Own (sliceR (sliceR intR 3) 26) [v139] x138, Box b103 29 [u0, u1], Own (sliceR intR 3) [v216] x217, Box b213 3 [.int .i64 x192]] := hS.tops 5 [1, 4] rfl
              obtain ⟨ao228, c229, cc230, hv231, hn232, hrow233, hS⟩ := hS.unlist
              refine el_append rfl (by decide) rfl (by decide) hS rfl (rfl.trans hv231) rfl hn232 hrow233 hx227 (by decide) ?_
              intro w225 v226 hS
              refine el_nil ?_
              replace hS : Sat w0 w225 [Box b103 29 [u0, u1], Own (sliceR (sliceR intR 3) 26) [v226] x227, Own (sliceR intR 3) [v216] x217, Box b213 3 [.int .i64 x192]] := hS.tops 4 [1] rfl
              have hC := (hCd _).2 ⟨_, hS⟩
              refine ⟨fun _ => hC, ?_⟩
              refine al_one 27 (by kernel_rfl) rfl ?_
              refine el_pv (v := v226) (pv_assign rfl) (by decide) ?_
              refine el_nil ?_
              refine ⟨fun _ => hC, ?_⟩
              refine al_nil (by kernel_rfl) ?_
              replace hS : Sat w0 w225 [Box b103 29 [u0, u1], Own (sliceR (sliceR intR 3) 26) [v226] x227] := hS.rems 4 [2, 3] rfl
              exact ⟨rfl, v226, he141, he142, he143, rfl, he145, hS⟩
          · rintro e238 w239 ⟨v226, he240, he241, he242, he243, he244, hS⟩
            refine hQ163 _ _ _ ?_
            refine inb_n ?_
            refine hQ162 _ _ _ ?_
            refine thn_n ?_
            refine cw_reg ?_
            refine el_pv (v := .int .i64 x140) (pv_move he244) (by decide) ?_
            replace hF := ob hF
            obtain ⟨x245, hx245, hF⟩ := hF
            refine el_pv (v := .int .i64 x245) (pv_add rfl rfl hx245) (by decide) ?_
            refine el_pv (v := .int .i64 x245) (pv_assign rfl) (by decide) ?_
            refine el_nil ?_
            refine hQ148 _ _ _ ?_
            refine thn_n ?_
            replace hS : Sat w0 w239 [Own (sliceR (sliceR intR 3) 26) [v226] x227, Box b103 29 [u0, u1]] := hS.tops 2 [1, 0] rfl
            replace hS := hS.keep 2
            exact ⟨v226, x227, x245, he240, he241, he242, he243, rfl, hS, hF⟩
        · refine cw_cond_f rfl hb161 ?_
          refine cw_exit ?_
          refine hQ149 _ _ _ ?_
          refine thn_x ?_
          refine hQ148 _ _ _ ?_
          refine thn_x ?_
          replace hF := exB hF hK137
          refine hQ135 _ _ _ ?_
          refine inb_s ?_
          refine hQ133 _ _ _ ?_
          refine thn_n ?_
          refine cw_seq ?_
          refine cw_gen ?_
          intro Q246 hQ246
          replace hS : Sat w0 w146 [Own (sliceR (sliceR intR 3) 26) [v139] x138] := hS.rems 2 [1] rfl
          refine cw_reg ?_
          refine el_pv (v := v139) (pv_move he144) (by decide) ?_
          refine el_pv (v := v139) (pv_assign rfl) (by decide) ?_
          refine el_nil ?_
          refine hQ246 _ _ _ ?_
          refine thn_n ?_
          refine cw_ret ?_
          refine fin1 rfl rfl ?_
          have hr := Option.some.inj hF
          exact ⟨v139, congrArg (fun (r : (List (List Int))) => Ending.returned (v139)) hr, Eq.mp (congrArg (fun (r : (List (List Int))) => Sat w0 w146 [Own (sliceR (sliceR intR 3) 26) [v139] r]) hr) (hS.keep 1)⟩
theorem spec_l23Rows_ok {w0 : World} {u0 : Value} {a0 : List Int} {u1 : Value} {a1 : List (List Int × List Int)} {a2 : Int} {u3 : Value} {a3 : List Int} (ha0 : (sliceR intR 3).rd w0 [u0] a0) (ha1 : (sliceR (pairR (sliceR intR 3) (sliceR intR 3)) 84).rd w0 [u1] a1) (ha3 : (sliceR intR 3).rd w0 [u3] a3) {N : Nat} {r : (List (List Int))} (hF : spec_l23Rows N a0 a1 a2 a3 = some r) :
    Calls Try.prog 73 #[.agg #[u0, u1], .int .i64 a2, u3] w0 fun e w' => ∃ (q0 : Value), e = .returned (q0) ∧ Sat w0 w' [Own (sliceR (sliceR intR 3) 26) [q0] r] := spec_l23Rows_ok' N ha0 ha1 ha3 hF
set_option maxHeartbeats 4000000 in
theorem spec_ExpandFactorization_ok {w0 : World} {u0 : Value} {a0 : List Int} {u1 : Value} {a1 : List (List Int × List Int)} (ha0 : (sliceR intR 3).rd w0 [u0] a0) (ha1 : (sliceR (pairR (sliceR intR 3) (sliceR intR 3)) 84).rd w0 [u1] a1) {N : Nat} {r : (Int × List (List Int)) × Bool} (hF : spec_ExpandFactorization N a0 a1 = some r) :
    Calls Try.prog 27 #[.agg #[u0, u1]] w0 fun e w' => ∃ (q0 : Value), e = .returned (.tuple #[.agg #[.int .i64 r.1.1, q0], .bool r.2]) ∧ Sat w0 w' [Own (sliceR (sliceR intR 3) 26) [q0] r.1.2] := by
  unfold spec_ExpandFactorization at hF
  refine calls_E Try.func27 rfl rfl (of_decide_eq_true rfl) ?_
  have hS := Sat.start w0
  refine cw_seq ?_
  refine cw_gen ?_
  intro Q101 hQ101
  refine cw_reg ?_
  refine el_box [u0, u1] rfl hS (by decide) ?_
  intro w102 b103 hS hx104
  refine el_alloc hS (by decide) ?_
  intro w106 b107 hS hx108
  refine el_pv (v := .bool false) (pv_assign rfl) (by decide) ?_
  refine el_nil ?_
  refine hQ101 _ _ _ ?_
  refine thn_n ?_
  refine cw_seq ?_
  refine cw_gen ?_
  intro Q110 hQ110
  refine cw_seq ?_
  refine cw_gen ?_
  intro Q111 hQ111
  refine cw_reg ?_
  refine el_pv (v := .agg #[u0, u1]) (pv_loada (cs := [u0, u1]) rfl rfl (boxc0 (hS.boxAt 1 rfl))) (by decide) ?_
  replace hF := ob hF
  obtain ⟨r112, hr112, hF⟩ := hF
  refine el_call goes71 (spec_IsValidFactorization_ok (hS.up ha0) (hS.up ha1) hr112) (congrArg List.toArray (mapc rfl rfl)) (by decide) ?_
  rintro _ w113 ⟨rfl, hx114⟩
  refine ⟨_, rfl, ?_⟩
  replace hS := hS.ext hx114
  refine el_pv (v := .bool (!r112)) (pv_not rfl) (by decide) ?_
  refine el_pv (v := .bool (!r112)) (pv_move rfl) (by decide) ?_
  replace hF := oif hF
  rcases hF with ⟨hb115, hF⟩ | ⟨hb115, hF⟩
  · refine el_on rfl (bnot_t hb115) ?_
    refine el_pv (v := .agg #[u0, u1]) (pv_loada (cs := [u0, u1]) rfl rfl (boxc0 (hS.boxAt 1 rfl))) (by decide) ?_
    refine el_on rfl (bnot_t hb115) ?_
    replace hF := ob hF
    obtain ⟨r116, hr116, hF⟩ := hF
    refine el_call goes72 (spec_FactorizedRowCount_ok (hS.up ha0) (hS.up ha1) hr116) (congrArg List.toArray (mapc rfl rfl)) (by decide) ?_
    rintro _ w117 ⟨rfl, hx118⟩
    refine ⟨_, rfl, ?_⟩
    replace hS := hS.ext hx118
    refine el_on rfl (bnot_t hb115) ?_
    refine el_pv (v := .bool (decide (4000 < r116))) (pv_gtr rfl rfl) (by decide) ?_
    refine el_pv (v := .bool (decide (4000 < r116))) (pv_pick_f rfl (bnot_t hb115) rfl) (by decide) ?_
    refine el_nil ?_
    refine hQ111 _ _ _ ?_
    refine thn_n ?_
    replace hF := oif hF
    rcases hF with ⟨hb119, hF⟩ | ⟨hb119, hF⟩
    · refine cw_cond_t rfl hb119 ?_
      refine cw_seq ?_
      refine cw_gen ?_
      intro Q120 hQ120
      replace hS : Sat w0 w117 [Box b107 32 [.int .i64 0, (.slice none 0 0)]] := hS.rems 2 [1] rfl
      refine cw_reg ?_
      refine el_pv (v := .agg #[.int .i64 0, (.slice none 0 0)]) (pv_build [] [.int .i64 0, (.slice none 0 0)] rfl rfl) (by decide) ?_
      refine el_storev (hS.top 0 rfl) rfl [.int .i64 0, (.slice none 0 0)] rfl rfl (of_decide_eq_true rfl) (all_cons rfl (all_cons rfl rfl)) ?_
      intro w121 hS
      replace hS : Sat w0 w121 [Box b107 32 [.int .i64 0, (.slice none 0 0)]] := hS
      refine el_pv (v := .bool false) (pv_assign rfl) (by decide) ?_
      refine el_nil ?_
      refine hQ120 _ _ _ ?_
      refine thn_n ?_
      refine cw_ret ?_
      refine hQ110 _ _ _ ?_
      refine thn_r ?_
      replace hS := hS.nil (sliceR intR 3) 26
      refine finCT (cs := [.int .i64 0, (.slice none 0 0)]) rfl rfl rfl (boxc0 (hS.boxAt 1 rfl)) rfl ?_
      have hr := Option.some.inj hF
      exact ⟨(.slice none 0 0), congrArg (fun (r : (Int × List (List Int)) × Bool) => Ending.returned (.tuple #[.agg #[.int .i64 r.1.1, (.slice none 0 0)], .bool r.2])) hr, Eq.mp (congrArg (fun (r : (Int × List (List Int)) × Bool) => Sat w0 w121 [Own (sliceR (sliceR intR 3) 26) [(.slice none 0 0)] r.1.2]) hr) (hS.keep 1)⟩
    · refine cw_cond_f rfl hb119 ?_
      refine cw_skip ?_
      refine hQ110 _ _ _ ?_
      refine thn_n ?_
      refine cw_seq ?_
      refine cw_gen ?_
      intro Q123 hQ123
      obtain ⟨C, hCd⟩ : ∃ C : World → Prop, ∀ w, C w ↔ ∃ G, Sat w0 w ([Box b103 29 [u0, u1]] ++ G) := ⟨_, fun _ => Iff.rfl⟩
      refine cw_regb [0, 1, 2, 3, 4, 5, 6, 7, 8, 9, 10, 11, 12] C (by kernel_rfl) ?_
      intro w124 hx125
      replace hS := hS.ext hx125
      replace hS : Sat w0 w124 [Box b103 29 [u0, u1], Box b107 32 [.int .i64 0, (.slice none 0 0)]] := hS.tops 2 [1] rfl
      have hC := (hCd _).2 ⟨_, hS⟩
      refine al_p (v := .pointer (some ⟨b103, 0 + 0, none⟩)) (by kernel_rfl) 0 rfl rfl (by decide) hC (by kernel_rfl) (by kernel_rfl) (sv_on rfl (fun w' hw' => by obtain ⟨_, hS⟩ := (hCd _).1 hw'; exact (pv_fieldAddr rfl))) ?_
      refine al_p (v := u0) (by kernel_rfl) 1 rfl rfl (by decide) hC (by kernel_rfl) (by kernel_rfl) (sv_on rfl (fun w' hw' => by obtain ⟨_, hS⟩ := (hCd _).1 hw'; exact (pv_loadc rfl ((hS.boxAt 0 rfl) 0 _ rfl)))) ?_
      refine al_p (v := .int .i64 (a0.length : Int)) (by kernel_rfl) 2 rfl rfl (by decide) hC (by kernel_rfl) (by kernel_rfl) (sv_on rfl (fun w' hw' => by obtain ⟨_, hS⟩ := (hCd _).1 hw'; exact (pv_len rfl ha0))) ?_
      refine al_p (v := .agg #[u0, u1]) (by kernel_rfl) 3 rfl rfl (by decide) hC (by kernel_rfl) (by kernel_rfl) (sv_on rfl (fun w' hw' => by obtain ⟨_, hS⟩ := (hCd _).1 hw'; exact (pv_loada (cs := [u0, u1]) rfl rfl (boxc0 (hS.boxAt 0 rfl))))) ?_
      refine al_p (v := .pointer (some ⟨b103, 0 + 1, none⟩)) (by kernel_rfl) 4 rfl rfl (by decide) hC (by kernel_rfl) (by kernel_rfl) (sv_on rfl (fun w' hw' => by obtain ⟨_, hS⟩ := (hCd _).1 hw'; exact (pv_fieldAddr rfl))) ?_
      refine al_p (v := u1) (by kernel_rfl) 5 rfl rfl (by decide) hC (by kernel_rfl) (by kernel_rfl) (sv_on rfl (fun w' hw' => by obtain ⟨_, hS⟩ := (hCd _).1 hw'; exact (pv_loadc rfl ((hS.boxAt 0 rfl) 1 _ rfl)))) ?_
      refine al_p (v := .int .i64 (a1.length : Int)) (by kernel_rfl) 6 rfl rfl (by decide) hC (by kernel_rfl) (by kernel_rfl) (sv_on rfl (fun w' hw' => by obtain ⟨_, hS⟩ := (hCd _).1 hw'; exact (pv_len rfl ha1))) ?_
      replace hF := ob hF
      obtain ⟨x126, hx126, hF⟩ := hF
      refine al_p (v := .int .i64 x126) (by kernel_rfl) 7 rfl rfl (by decide) hC (by kernel_rfl) (by kernel_rfl) (sv_on rfl (fun w' hw' => by obtain ⟨_, hS⟩ := (hCd _).1 hw'; exact (pv_sub rfl rfl hx126))) ?_
      refine al_one 8 (by kernel_rfl) rfl ?_
      refine el_buildSlice0 intR hS (by decide) ?_
      intro w127 v129 hS hx128
      refine el_nil ?_
      replace hS : Sat w0 w127 [Box b103 29 [u0, u1], Own (sliceR intR 3) [v129] [], Box b107 32 [.int .i64 0, (.slice none 0 0)]] := hS.tops 3 [1] rfl
      have hC := (hCd _).2 ⟨_, hS⟩
      refine ⟨fun _ => hC, ?_⟩
      refine al_one 9 (by kernel_rfl) rfl ?_
      replace hF := ob hF
      obtain ⟨r131, hr131, hF⟩ := hF
      refine el_call goes73 (spec_l23Rows_ok (hS.up ha0) (hS.up ha1) (hS.rdAt (R := (sliceR intR 3)) 1 rfl) hr131) (congrArg List.toArray (mapc rfl (mapc rfl (mapc rfl rfl)))) (by decide) ?_
      rintro _ w134 ⟨v132, rfl, hS'⟩
      refine ⟨_, rfl, ?_⟩
      have hx135 := hS'.below
      replace hS := hS.call1 hS'
      refine el_nil ?_
      replace hS : Sat w0 w134 [Box b103 29 [u0, u1], Own (sliceR (sliceR intR 3) 26) [v132] r131, Own (sliceR intR 3) [v129] [], Box b107 32 [.int .i64 0, (.slice none 0 0)]] := hS.tops 4 [1] rfl
      have hC := (hCd _).2 ⟨_, hS⟩
      refine ⟨fun _ => hC, ?_⟩
      refine al_one 10 (by kernel_rfl) rfl ?_
      refine el_pv (v := .agg #[.int .i64 (a0.length : Int), v132]) (pv_build [(0, [.int .i64 (a0.length : Int)]), (1, [v132])] [.int .i64 (a0.length : Int), v132] (partc rfl (partc (cells_of rfl (oc (hS.rdAt (R := (sliceR (sliceR intR 3) 26)) 1 rfl))) rfl)) rfl) (by decide) ?_
      refine el_nil ?_
      refine ⟨fun _ => hC, ?_⟩
      refine al_one 11 (by kernel_rfl) rfl ?_
      refine el_storev (hS.top 3 rfl) rfl [.int .i64 (a0.length : Int), v132] rfl rfl (of_decide_eq_true rfl) (all_cons rfl (all_cons (oc (hS.rdAt (R := (sliceR (sliceR intR 3) 26)) 1 rfl)) rfl)) ?_
      intro w136 hS
      replace hS : Sat w0 w136 [Box b107 32 [.int .i64 (a0.length : Int), v132], Box b103 29 [u0, u1], Own (sliceR (sliceR intR 3) 26) [v132] r131, Own (sliceR intR 3) [v129] []] := hS
      refine el_nil ?_
      replace hS : Sat w0 w136 [Box b103 29 [u0, u1], Box b107 32 [.int .i64 (a0.length : Int), v132], Own (sliceR (sliceR intR 3) 26) [v132] r131, Own (sliceR intR 3) [v129] []] := hS.tops 4 [1] rfl
      have hC := (hCd _).2 ⟨_, hS⟩
      refine ⟨fun _ => hC, ?_⟩
      refine al_one 12 (by kernel_rfl) rfl ?_
      refine el_pv (v := .bool true) (pv_assign rfl) (by decide) ?_
      refine el_nil ?_
      refine ⟨fun _ => hC, ?_⟩
      refine al_nil (by kernel_rfl) ?_
      refine hQ123 _ _ _ ?_
      refine thn_n ?_
      refine cw_ret ?_
      refine finCT (cs := [.int .i64 (a0.length : Int), v132]) rfl rfl rfl (boxc0 (hS.boxAt 1 rfl)) rfl ?_
      replace hS : Sat w0 w136 [Own (sliceR (sliceR intR 3) 26) [v132] r131, Box b103 29 [u0, u1], Box b107 32 [.int .i64 (a0.length : Int), v132], Own (sliceR intR 3) [v129] []] := hS.tops 4 [2] rfl
      have hr := Option.some.inj hF
      exact ⟨v132, congrArg (fun (r : (Int × List (List Int)) × Bool) => Ending.returned (.tuple #[.agg #[.int .i64 r.1.1, v132], .bool r.2])) hr, Eq.mp (congrArg (fun (r : (Int × List (List Int)) × Bool) => Sat w0 w136 [Own (sliceR (sliceR intR 3) 26) [v132] r.1.2]) hr) (hS.keep 1)⟩
  · refine el_off rfl (bnot_f hb115) rfl (by decide) ?_
    refine el_off rfl (bnot_f hb115) rfl (by decide) ?_
    refine el_off rfl (bnot_f hb115) rfl (by decide) ?_
    refine el_pv (v := .bool true) (pv_pick_t rfl (bnot_f hb115) rfl) (by decide) ?_
    refine el_nil ?_
    refine hQ111 _ _ _ ?_
    refine thn_n ?_
    refine cw_cond_t rfl rfl ?_
    refine cw_seq ?_
    refine cw_gen ?_
    intro Q137 hQ137
    replace hS : Sat w0 w113 [Box b107 32 [.int .i64 0, (.slice none 0 0)]] := hS.rems 2 [1] rfl
    refine cw_reg ?_
    refine el_pv (v := .agg #[.int .i64 0, (.slice none 0 0)]) (pv_build [] [.int .i64 0, (.slice none 0 0)] rfl rfl) (by decide) ?_
    refine el_storev (hS.top 0 rfl) rfl [.int .i64 0, (.slice none 0 0)] rfl rfl (of_decide_eq_true rfl) (all_cons rfl (all_cons rfl rfl)) ?_
    intro w138 hS
    replace hS : Sat w0 w138 [Box b107 32 [.int .i64 0, (.slice none 0 0)]] := hS
    refine el_pv (v := .bool false) (pv_assign rfl) (by decide) ?_
    refine el_nil ?_
    refine hQ137 _ _ _ ?_
    refine thn_n ?_
    refine cw_ret ?_
    refine hQ110 _ _ _ ?_
    refine thn_r ?_
    replace hS := hS.nil (sliceR intR 3) 26
    refine finCT (cs := [.int .i64 0, (.slice none 0 0)]) rfl rfl rfl (boxc0 (hS.boxAt 1 rfl)) rfl ?_
    have hr := Option.some.inj hF
    exact ⟨(.slice none 0 0), congrArg (fun (r : (Int × List (List Int)) × Bool) => Ending.returned (.tuple #[.agg #[.int .i64 r.1.1, (.slice none 0 0)], .bool r.2])) hr, Eq.mp (congrArg (fun (r : (Int × List (List Int)) × Bool) => Sat w0 w138 [Own (sliceR (sliceR intR 3) 26) [(.slice none 0 0)] r.1.2]) hr) (hS.keep 1)⟩
set_option maxHeartbeats 4000000 in
theorem laws_toIntS_ok {w0 : World} {u0 : Value} {a0 : List Int} (ha0 : (sliceR intR 3).rd w0 [u0] a0) {N : Nat} {r : (List Int)} (hF : laws_toIntS N a0 = some r) :
    Calls Try.prog 74 #[u0] w0 fun e w' => ∃ (q0 : Value), e = .returned (q0) ∧ Sat w0 w' [Own (sliceR intR 3) [q0] r] := by
  unfold laws_toIntS at hF
  refine calls_E Try.func74 rfl rfl (of_decide_eq_true rfl) ?_
  have hS := Sat.start w0
  refine cw_seq ?_
  refine cw_gen ?_
  intro Q101 hQ101
  refine cw_reg ?_
  refine el_pv (v := (.slice none 0 0)) (pv_assign rfl) (by decide) ?_
  refine el_nil ?_
  refine hQ101 _ _ _ ?_
  refine thn_n ?_
  refine cw_seq ?_
  refine cw_gen ?_
  intro Q102 hQ102
  refine cw_reg ?_
  refine el_pv (v := u0) (pv_move rfl) (by decide) ?_
  refine el_pv (v := .int .i64 (a0.length : Int)) (pv_len rfl ha0) (by decide) ?_
  replace hF := ob hF
  obtain ⟨x106, hx106, hF⟩ := hF
  refine el_make (R := intR) (x0 := 0) rfl (by decide) rfl (fun _ => ⟨rfl, rfl⟩) rfl rfl hx106 hS (by decide) ?_
  intro w103 g104 k105 hS hx107 hlx106
  refine el_pv (v := (.slice (some ⟨g104, 0, none⟩) k105 k105)) (pv_assign rfl) (by decide) ?_
  refine el_nil ?_
  refine hQ102 _ _ _ ?_
  refine thn_n ?_
  refine cw_seq ?_
  refine cw_gen ?_
  intro Q109 hQ109
  refine cw_seq ?_
  refine cw_gen ?_
  intro Q110 hQ110
  refine cw_reg ?_
  refine el_pv (v := .int .i64 0) (pv_assign rfl) (by decide) ?_
  refine el_nil ?_
  refine hQ110 _ _ _ ?_
  refine thn_n ?_
  refine cw_block ?_
  refine cw_gen ?_
  intro Q111 hQ111
  obtain ⟨s112, hL, hK113⟩ := ob hF
  refine cw_loopS (fun k e w => ∃ (v115 : Value), ∃ (x114 : List Int), ∃ (x116 : Int), e 0 = u0 ∧ e 3 = v115 ∧ e 4 = .int .i64 x116 ∧ Sat w0 w [Own (sliceR intR 3) [v115] x114] ∧ laws_toIntS_L1 N k a0 x114 x116 = some s112) N ?_ ?_ ?_
  · exact ⟨(.slice (some ⟨g104, 0, none⟩) k105 k105), x106, 0, rfl, rfl, rfl, hS, hL⟩
  · rintro e w ⟨_, _, _, _, _, _, _, hz⟩; exact nomatch (show none = some _ from hz)
  · rintro k e121 w120 ⟨v115, x114, x116, he117, he118, he119, hS, hF⟩
    refine cw_gen ?_
    intro Q122 hQ122
    refine cw_seq ?_
    refine cw_gen ?_
    intro Q123 hQ123
    refine cw_seq ?_
    refine cw_gen ?_
    intro Q124 hQ124
    refine cw_reg ?_
    refine el_pv (v := .int .i64 x116) (pv_move he119) (by decide) ?_
    refine el_pv (v := u0) (pv_move he117) (by decide) ?_
    refine el_pv (v := .int .i64 (a0.length : Int)) (pv_len rfl ha0) (by decide) ?_
    refine el_pv (v := .bool (decide (x116 < (a0.length : Int)))) (pv_lss rfl rfl) (by decide) ?_
    refine el_nil ?_
    refine hQ124 _ _ _ ?_
    refine thn_n ?_
    replace hF := oif hF
    rcases hF with ⟨hb125, hF⟩ | ⟨hb125, hF⟩
    · refine cw_cond_t rfl hb125 ?_
      refine cw_skip ?_
      refine hQ123 _ _ _ ?_
      refine thn_n ?_
      refine cw_seq ?_
      refine cw_gen ?_
      intro Q126 hQ126
      refine cw_block ?_
      refine cw_gen ?_
      intro Q127 hQ127
      refine cw_reg ?_
      refine el_pv (v := v115) (pv_move he118) (by decide) ?_
      refine el_pv (v := .int .i64 x116) (pv_move he119) (by decide) ?_
      refine el_pv (v := u0) (pv_move he117) (by decide) ?_
      refine el_pv (v := .int .i64 x116) (pv_move he119) (by decide) ?_
      replace hF := ob hF
      obtain ⟨x128, hx128, hF⟩ := hF
      refine el_index (wA := w0) rfl ha0 rfl (by decide) rfl hx128 (by decide) ?_
      intro b129 of130 c131 hr132 hm133
      obtain rfl := hr132
      refine el_pv (v := .int .i64 x128) (pv_loadc rfl ((cells_up hS.below hm133) 0 _ rfl)) (by decide) ?_
      replace hF := ob hF
      obtain ⟨x134, hx134, hF⟩ := hF
      obtain ⟨g135, cap136, hv137⟩ := ownShape 0 hS rfl hx134
      refine el_pv (v := .pointer (some ⟨g135, x116.toNat * 1, none⟩)) (pv_indexF (v := v115) rfl hv137 rfl hx134) (by decide) ?_
      replace hF := ob hF
      obtain ⟨x139, hx139, hF⟩ := hF
      replace hS := hS.int x128
      refine el_storeO rfl hv137 hS hx139 rfl rfl ?_
      intro w138 hS
      refine el_nil ?_
      refine hQ127 _ _ _ ?_
      refine inb_n ?_
      refine hQ126 _ _ _ ?_
      refine thn_n ?_
      refine cw_reg ?_
      refine el_pv (v := .int .i64 x116) (pv_move he119) (by decide) ?_
      replace hF := ob hF
      obtain ⟨x140, hx140, hF⟩ := hF
      refine el_pv (v := .int .i64 x140) (pv_add rfl rfl hx140) (by decide) ?_
      refine el_pv (v := .int .i64 x140) (pv_assign rfl) (by decide) ?_
      refine el_nil ?_
      refine hQ122 _ _ _ ?_
      refine thn_n ?_
      replace hS := hS.keep 1
      exact ⟨v115, x139, x140, he117, he118, rfl, hS, hF⟩
    · refine cw_cond_f rfl hb125 ?_
      refine cw_exit ?_
      refine hQ123 _ _ _ ?_
      refine thn_x ?_
      refine hQ122 _ _ _ ?_
      refine thn_x ?_
      replace hF := exB hF hK113
      refine hQ111 _ _ _ ?_
      refine inb_s ?_
      refine hQ109 _ _ _ ?_
      refine thn_n ?_
      refine cw_seq ?_
      refine cw_gen ?_
      intro Q141 hQ141
      refine cw_reg ?_
      refine el_pv (v := v115) (pv_move he118) (by decide) ?_
      refine el_pv (v := v115) (pv_assign rfl) (by decide) ?_
      refine el_nil ?_
      refine hQ141 _ _ _ ?_
      refine thn_n ?_
      refine cw_ret ?_
      refine fin1 rfl rfl ?_
      have hr := Option.some.inj hF
      exact ⟨v115, congrArg (fun (r : (List Int)) => Ending.returned (v115)) hr, Eq.mp (congrArg (fun (r : (List Int)) => Sat w0 w120 [Own (sliceR intR 3) [v115] r]) hr) (hS.keep 1)⟩
set_option maxHeartbeats 4000000 in
theorem laws_toFactorNode_ok {w0 : World} {u0 : Value} {a0 : List Int} {u1 : Value} {a1 : List Int} (ha0 : (sliceR intR 3).rd w0 [u0] a0) (ha1 : (sliceR intR 3).rd w0 [u1] a1) {N : Nat} {r : (List Int × List Int)} (hF : laws_toFactorNode N a0 a1 = some r) :
    Calls Try.prog 109 #[.agg #[u0, u1]] w0 fun e w' => ∃ (q0 : Value) (q1 : Value), e = .returned (.agg #[q0, q1]) ∧ Sat w0 w' [Own (sliceR intR 3) [q0] r.1, Own (sliceR intR 3) [q1] r.2] := by
  unfold laws_toFactorNode at hF
  refine calls_E Try.func109 rfl rfl (of_decide_eq_true rfl) ?_
  have hS := Sat.start w0
  refine cw_seq ?_
  refine cw_gen ?_
  intro Q101 hQ101
  refine cw_reg ?_
  refine el_box [u0, u1] rfl hS (by decide) ?_
  intro w102 b103 hS hx104
  refine el_alloc hS (by decide) ?_
  intro w106 b107 hS hx108
  refine el_nil ?_
  refine hQ101 _ _ _ ?_
  refine thn_n ?_
  refine cw_seq ?_
  refine cw_gen ?_
  intro Q110 hQ110
  refine cw_reg ?_
  refine el_alloc hS (by decide) ?_
  intro w111 b112 hS hx113
  refine el_nil ?_
  refine hQ110 _ _ _ ?_
  refine thn_n ?_
  refine cw_seq ?_
  refine cw_gen ?_
  intro Q115 hQ115
  refine cw_reg ?_
  refine el_pv (v := .pointer (some ⟨b103, 0 + 0, none⟩)) (pv_fieldAddr rfl) (by decide) ?_
  refine el_pv (v := u0) (pv_loadc rfl ((hS.boxAt 2 rfl) 0 _ rfl)) (by decide) ?_
  replace hF := ob hF
  obtain ⟨r116, hr116, hF⟩ := hF
  refine el_call goes74 (laws_toIntS_ok (hS.up ha0) hr116) (congrArg List.toArray (mapc rfl rfl)) (by decide) ?_
  rintro _ w119 ⟨v117, rfl, hS'⟩
  refine ⟨_, rfl, ?_⟩
  have hx120 := hS'.below
  replace hS := hS.call1 hS'
  refine el_pv (v := .pointer (some ⟨b112, 0 + 0, none⟩)) (pv_fieldAddr rfl) (by decide) ?_
  refine el_storev (hS.top 1 rfl) rfl [v117] (cells_of rfl (oc (hS.rdAt (R := (sliceR intR 3)) 0 rfl))) rfl (of_decide_eq_true rfl) (all_cons (oc (hS.rdAt (R := (sliceR intR 3)) 0 rfl)) rfl) ?_
  intro w121 hS
  replace hS : Sat w0 w121 [Box b112 84 [v117, (.slice none 0 0)], Own (sliceR intR 3) [v117] r116, Box b107 84 [(.slice none 0 0), (.slice none 0 0)], Box b103 113 [u0, u1]] := hS
  refine el_nil ?_
  refine hQ115 _ _ _ ?_
  refine thn_n ?_
  refine cw_seq ?_
  refine cw_gen ?_
  intro Q122 hQ122
  refine cw_reg ?_
  refine el_pv (v := .pointer (some ⟨b103, 0 + 1, none⟩)) (pv_fieldAddr rfl) (by decide) ?_
  refine el_pv (v := u1) (pv_loadc rfl ((hS.boxAt 3 rfl) 1 _ rfl)) (by decide) ?_
  replace hF := ob hF
  obtain ⟨r123, hr123, hF⟩ := hF
  refine el_call goes74 (laws_toIntS_ok (hS.up ha1) hr123) (congrArg List.toArray (mapc rfl rfl)) (by decide) ?_
  rintro _ w126 ⟨v124, rfl, hS'⟩
  refine ⟨_, rfl, ?_⟩
  have hx127 := hS'.below
  replace hS := hS.call1 hS'
  refine el_pv (v := .pointer (some ⟨b112, 0 + 1, none⟩)) (pv_fieldAddr rfl) (by decide) ?_
  refine el_storev (hS.top 1 rfl) rfl [v124] (cells_of rfl (oc (hS.rdAt (R := (sliceR intR 3)) 0 rfl))) rfl (of_decide_eq_true rfl) (all_cons (oc (hS.rdAt (R := (sliceR intR 3)) 0 rfl)) rfl) ?_
  intro w128 hS
  replace hS : Sat w0 w128 [Box b112 84 [v117, v124], Own (sliceR intR 3) [v124] r123, Own (sliceR intR 3) [v117] r116, Box b107 84 [(.slice none 0 0), (.slice none 0 0)], Box b103 113 [u0, u1]] := hS
  refine el_nil ?_
  refine hQ122 _ _ _ ?_
  refine thn_n ?_
  refine cw_seq ?_
  refine cw_gen ?_
  intro Q129 hQ129
  replace hS : Sat w0 w128 [Box b112 84 [v117, v124], Own (sliceR intR 3) [v124] r123, Own (sliceR intR 3) [v117] r116, Box b107 84 [(.slice none 0 0), (.slice none 0 0)]] := hS.rems 5 [4] rfl
  refine cw_reg ?_
  refine el_pv (v := .agg #[v117, v124]) (pv_loada (cs := [v117, v124]) rfl rfl (boxc0 (hS.boxAt 0 rfl))) (by decide) ?_
  refine el_storev (hS.top 3 rfl) rfl [v117, v124] rfl rfl (of_decide_eq_true rfl) (all_cons (oc (hS.rdAt (R := (sliceR intR 3)) 2 rfl)) (all_cons (oc (hS.rdAt (R := (sliceR intR 3)) 1 rfl)) rfl)) ?_
  intro w130 hS
  replace hS : Sat w0 w130 [Box b107 84 [v117, v124], Box b112 84 [v117, v124], Own (sliceR intR 3) [v124] r123, Own (sliceR intR 3) [v117] r116] := hS
  refine el_nil ?_
  refine hQ129 _ _ _ ?_
  refine thn_n ?_
  refine cw_ret ?_
  refine finC (cs := [v117, v124]) rfl rfl rfl (boxc0 (hS.boxAt 0 rfl))  ?_
  replace hS : Sat w0 w130 [Own (sliceR intR 3) [v117] r116, Own (sliceR intR 3) [v124] r123, Box b107 84 [v117, v124], Box b112 84 [v117, v124]] := hS.tops 4 [3, 2] rfl
  have hr := Option.some.inj hF
  exact ⟨v117, v124, congrArg (fun (r : (List Int × List Int)) => Ending.returned (.agg #[v117, v124])) hr, Eq.mp (congrArg (fun (r : (List Int × List Int)) => Sat w0 w130 [Own (sliceR intR 3) [v117] r.1, Own (sliceR intR 3) [v124] r.2]) hr) (hS.keep 2)⟩
set_option maxHeartbeats 4000000 in
theorem laws_toFactorNodeS_ok {w0 : World} {u0 : Value} {a0 : List (List Int × List Int)} (ha0 : (sliceR (pairR (sliceR intR 3) (sliceR intR 3)) 113).rd w0 [u0] a0) {N : Nat} {r : (List (List Int × List Int))} (hF : laws_toFactorNodeS N a0 = some r) :
    Calls Try.prog 75 #[u0] w0 fun e w' => ∃ (q0 : Value), e = .returned (q0) ∧ Sat w0 w' [Own (sliceR (pairR (sliceR intR 3) (sliceR intR 3)) 84) [q0] r] := by
  unfold laws_toFactorNodeS at hF
  refine calls_E Try.func75 rfl rfl (of_decide_eq_true rfl) ?_
  have hS := Sat.start w0
  refine cw_seq ?_
  refine cw_gen ?_
  intro Q101 hQ101
  refine cw_reg ?_
  refine el_pv (v := (.slice none 0 0)) (pv_assign rfl) (by decide) ?_
  refine el_nil ?_
  refine hQ101 _ _ _ ?_
  refine thn_n ?_
  refine cw_seq ?_
  refine cw_gen ?_
  intro Q102 hQ102
  refine cw_reg ?_
  refine el_pv (v := u0) (pv_move rfl) (by decide) ?_
  refine el_pv (v := .int .i64 (a0.length : Int)) (pv_len rfl ha0) (by decide) ?_
  replace hF := ob hF
  obtain ⟨x106, hx106, hF⟩ := hF
  refine el_make (R := (pairR (sliceR intR 3) (sliceR intR 3))) (x0 := ([], [])) rfl (by decide) rfl (fun _ => ⟨_, _, [], [], rfl, rfl, .inl ⟨rfl, rfl, rfl⟩, .inl ⟨rfl, rfl, rfl⟩⟩) rfl rfl hx106 hS (by decide) ?_
  intro w103 g104 k105 hS hx107 hlx106
  refine el_pv (v := (.slice (some ⟨g104, 0, none⟩) k105 k105)) (pv_assign rfl) (by decide) ?_
  refine el_nil ?_
  refine hQ102 _ _ _ ?_
  refine thn_n ?_
  refine cw_seq ?_
  refine cw_gen ?_
  intro Q109 hQ109
  refine cw_seq ?_
  refine cw_gen ?_
  intro Q110 hQ110
  refine cw_reg ?_
  refine el_pv (v := .int .i64 0) (pv_assign rfl) (by decide) ?_
  refine el_nil ?_
  refine hQ110 _ _ _ ?_
  refine thn_n ?_
  refine cw_block ?_
  refine cw_gen ?_
  intro Q111 hQ111
  obtain ⟨s112, hL, hK113⟩ := ob hF
  refine cw_loopS (fun k e w => ∃ (v115 : Value), ∃ (x114 : List (List Int × List Int)), ∃ (x116 : Int), e 0 = u0 ∧ e 3 = v115 ∧ e 4 = .int .i64 x116 ∧ Sat w0 w [Own (sliceR (pairR (sliceR intR 3) (sliceR intR 3)) 84) [v115] x114] ∧ laws_toFactorNodeS_L1 N k a0 x114 x116 = some s112) N ?_ ?_ ?_
  · exact ⟨(.slice (some ⟨g104, 0, none⟩) k105 k105), x106, 0, rfl, rfl, rfl, hS, hL⟩
  · rintro e w ⟨_, _, _, _, _, _, _, hz⟩; exact nomatch (show none = some _ from hz)
  · rintro k e121 w120 ⟨v115, x114, x116, he117, he118, he119, hS, hF⟩
    refine cw_gen ?_
    intro Q122 hQ122
    refine cw_seq ?_
    refine cw_gen ?_
    intro Q123 hQ123
    refine cw_seq ?_
    refine cw_gen ?_
    intro Q124 hQ124
    refine cw_reg ?_
    refine el_pv (v := .int .i64 x116) (pv_move he119) (by decide) ?_
    refine el_pv (v := u0) (pv_move he117) (by decide) ?_
    refine el_pv (v := .int .i64 (a0.length : Int)) (pv_len rfl ha0) (by decide) ?_
    refine el_pv (v := .bool (decide (x116 < (a0.length : Int)))) (pv_lss rfl rfl) (by decide) ?_
    refine el_nil ?_
    refine hQ124 _ _ _ ?_
    refine thn_n ?_
    replace hF := oif hF
    rcases hF with ⟨hb125, hF⟩ | ⟨hb125, hF⟩
    · refine cw_cond_t rfl hb125 ?_
      refine cw_skip ?_
      refine hQ123 _ _ _ ?_
      refine thn_n ?_
      refine cw_seq ?_
      refine cw_gen ?_
      intro Q126 hQ126
      refine cw_block ?_
      refine cw_gen ?_
      intro Q127 hQ127
      refine cw_reg ?_
      refine el_pv (v := v115) (pv_move he118) (by decide) ?_
      refine el_pv (v := .int .i64 x116) (pv_move he119) (by decide) ?_
      refine el_pv (v := u0) (pv_move he117) (by decide) ?_
      refine el_pv (v := .int .i64 x116) (pv_move he119) (by decide) ?_
      replace hF := ob hF
      obtain ⟨x128, hx128, hF⟩ := hF
      refine el_index (wA := w0) rfl ha0 rfl (by decide) rfl hx128 (by decide) ?_
      intro b129 of130 c131 hr132 hm133
      obtain ⟨_, _, rfl, hr134, hr135⟩ := hr132
      obtain ⟨v136, rfl⟩ := slice_one hr134
      obtain ⟨v137, rfl⟩ := slice_one hr135
      refine el_pv (v := .agg #[v136, v137]) (pv_loada (cs := [v136, v137]) rfl rfl (cells_up hS.below hm133)) (by decide) ?_
      replace hF := ob hF
      obtain ⟨r138, hr138, hF⟩ := hF
      refine el_call goes109 (laws_toFactorNode_ok (hS.up hr134) (hS.up hr135) hr138) (congrArg List.toArray (mapc rfl rfl)) (by decide) ?_
      rintro _ w143 ⟨v139, v140, rfl, hS'⟩
      refine ⟨_, rfl, ?_⟩
      have hx144 := hS'.below
      replace hS := hS.call2 hS'
      replace hF := ob hF
      obtain ⟨x145, hx145, hF⟩ := hF
      replace hS : Sat w0 w143 [Own (sliceR (pairR (sliceR intR 3) (sliceR intR 3)) 84) [v115] x114, Own (sliceR intR 3) [v139] r138.1, Own (sliceR intR 3) [v140] r138.2] := hS.top 2 rfl
      refine el_indexO hS rfl rfl (by decide) rfl hx145 (by decide) ?_
      intro b146 of147 c148 hv151 hr149 hm150
      obtain ⟨_, _, rfl, hr152, hr153⟩ := hr149
      obtain ⟨v154, rfl⟩ := slice_one hr152
      obtain ⟨v155, rfl⟩ := slice_one hr153
      replace hF := ob hF
      obtain ⟨x157, hx157, hF⟩ := hF
      replace hS : Sat w0 w143 [Own (sliceR intR 3) [v140] r138.2, Own (sliceR (pairR (sliceR intR 3) (sliceR intR 3)) 84) [v115] x114, Own (sliceR intR 3) [v139] r138.1] := hS.top 2 rfl
      replace hS : Sat w0 w143 [Own (sliceR intR 3) [v139] r138.1, _, Own (sliceR (pairR (sliceR intR 3) (sliceR intR 3)) 84) [v115] x114] := hS.top 2 rfl
      replace hS := hS.pair
      refine el_storeO rfl hv151 hS hx157 rfl rfl ?_
      intro w156 hS
      refine el_nil ?_
      refine hQ127 _ _ _ ?_
      refine inb_n ?_
      refine hQ126 _ _ _ ?_
      refine thn_n ?_
      refine cw_reg ?_
      refine el_pv (v := .int .i64 x116) (pv_move he119) (by decide) ?_
      replace hF := ob hF
      obtain ⟨x158, hx158, hF⟩ := hF
      refine el_pv (v := .int .i64 x158) (pv_add rfl rfl hx158) (by decide) ?_
      refine el_pv (v := .int .i64 x158) (pv_assign rfl) (by decide) ?_
      refine el_nil ?_
      refine hQ122 _ _ _ ?_
      refine thn_n ?_
      replace hS := hS.keep 1
      exact ⟨v115, x157, x158, he117, he118, rfl, hS, hF⟩
    · refine cw_cond_f rfl hb125 ?_
      refine cw_exit ?_
      refine hQ123 _ _ _ ?_
      refine thn_x ?_
      refine hQ122 _ _ _ ?_
      refine thn_x ?_
      replace hF := exB hF hK113
      refine hQ111 _ _ _ ?_
      refine inb_s ?_
      refine hQ109 _ _ _ ?_
      refine thn_n ?_
      refine cw_seq ?_
      refine cw_gen ?_
      intro Q159 hQ159
      refine cw_reg ?_
      refine el_pv (v := v115) (pv_move he118) (by decide) ?_
      refine el_pv (v := v115) (pv_assign rfl) (by decide) ?_
      refine el_nil ?_
      refine hQ159 _ _ _ ?_
      refine thn_n ?_
      refine cw_ret ?_
      refine fin1 rfl rfl ?_
      have hr := Option.some.inj hF
      exact ⟨v115, congrArg (fun (r : (List (List Int × List Int))) => Ending.returned (v115)) hr, Eq.mp (congrArg (fun (r : (List (List Int × List Int))) => Sat w0 w120 [Own (sliceR (pairR (sliceR intR 3) (sliceR intR 3)) 84) [v115] r]) hr) (hS.keep 1)⟩
set_option maxHeartbeats 4000000 in
theorem laws_toFactorization_ok {w0 : World} {u0 : Value} {a0 : List Int} {u1 : Value} {a1 : List (List Int × List Int)} (ha0 : (sliceR intR 3).rd w0 [u0] a0) (ha1 : (sliceR (pairR (sliceR intR 3) (sliceR intR 3)) 113).rd w0 [u1] a1) {N : Nat} {r : (List Int × List (List Int × List Int))} (hF : laws_toFactorization N a0 a1 = some r) :
    Calls Try.prog 28 #[.agg #[u0, u1]] w0 fun e w' => ∃ (q0 : Value) (q1 : Value), e = .returned (.agg #[q0, q1]) ∧ Sat w0 w' [Own (sliceR intR 3) [q0] r.1, Own (sliceR (pairR (sliceR intR 3) (sliceR intR 3)) 84) [q1] r.2] := by
  unfold laws_toFactorization at hF
  refine calls_E Try.func28 rfl rfl (of_decide_eq_true rfl) ?_
  have hS := Sat.start w0
  refine cw_seq ?_
  refine cw_gen ?_
  intro Q101 hQ101
  refine cw_reg ?_
  refine el_box [u0, u1] rfl hS (by decide) ?_
  intro w102 b103 hS hx104
  refine el_alloc hS (by decide) ?_
  intro w106 b107 hS hx108
  refine el_nil ?_
  refine hQ101 _ _ _ ?_
  refine thn_n ?_
  refine cw_seq ?_
  refine cw_gen ?_
  intro Q110 hQ110
  refine cw_reg ?_
  refine el_alloc hS (by decide) ?_
  intro w111 b112 hS hx113
  refine el_nil ?_
  refine hQ110 _ _ _ ?_
  refine thn_n ?_
  refine cw_seq ?_
  refine cw_gen ?_
  intro Q115 hQ115
  refine cw_reg ?_
  refine el_pv (v := .pointer (some ⟨b103, 0 + 0, none⟩)) (pv_fieldAddr rfl) (by decide) ?_
  refine el_pv (v := u0) (pv_loadc rfl ((hS.boxAt 2 rfl) 0 _ rfl)) (by decide) ?_
  replace hF := ob hF
  obtain ⟨r116, hr116, hF⟩ := hF
  refine el_call goes74 (laws_toIntS_ok (hS.up ha0) hr116) (congrArg List.toArray (mapc rfl rfl)) (by decide) ?_
  rintro _ w119 ⟨v117, rfl, hS'⟩
  refine ⟨_, rfl, ?_⟩
  have hx120 := hS'.below
  replace hS := hS.call1 hS'
  refine el_pv (v := .pointer (some ⟨b112, 0 + 0, none⟩)) (pv_fieldAddr rfl) (by decide) ?_
  refine el_storev (hS.top 1 rfl) rfl [v117] (cells_of rfl (oc (hS.rdAt (R := (sliceR intR 3)) 0 rfl))) rfl (of_decide_eq_true rfl) (all_cons (oc (hS.rdAt (R := (sliceR intR 3)) 0 rfl)) rfl) ?_
  intro w121 hS
  replace hS : Sat w0 w121 [Box b112 29 [v117, (.slice none 0 0)], Own (sliceR intR 3) [v117] r116, Box b107 29 [(.slice none 0 0), (.slice none 0 0)], Box b103 49 [u0, u1]] := hS
  refine el_nil ?_
  refine hQ115 _ _ _ ?_
  refine thn_n ?_
  refine cw_seq ?_
  refine cw_gen ?_
  intro Q122 hQ122
  refine cw_reg ?_
  refine el_pv (v := .pointer (some ⟨b103, 0 + 1, none⟩)) (pv_fieldAddr rfl) (by decide) ?_
  refine el_pv (v := u1) (pv_loadc rfl ((hS.boxAt 3 rfl) 1 _ rfl)) (by decide) ?_
  replace hF := ob hF
  obtain ⟨r123, hr123, hF⟩ := hF
  refine el_call goes75 (laws_toFactorNodeS_ok (hS.up ha1) hr123) (congrArg List.toArray (mapc rfl rfl)) (by decide) ?_
  rintro _ w126 ⟨v124, rfl, hS'⟩
  refine ⟨_, rfl, ?_⟩
  have hx127 := hS'.below
  replace hS := hS.call1 hS'
  refine el_pv (v := .pointer (some ⟨b112, 0 + 1, none⟩)) (pv_fieldAddr rfl) (by decide) ?_
  refine el_storev (hS.top 1 rfl) rfl [v124] (cells_of rfl (oc (hS.rdAt (R := (sliceR (pairR (sliceR intR 3) (sliceR intR 3)) 84)) 0 rfl))) rfl (of_decide_eq_true rfl) (all_cons (oc (hS.rdAt (R := (sliceR (pairR (sliceR intR 3) (sliceR intR 3)) 84)) 0 rfl)) rfl) ?_
  intro w128 hS
  replace hS : Sat w0 w128 [Box b112 29 [v117, v124], Own (sliceR (pairR (sliceR intR 3) (sliceR intR 3)) 84) [v124] r123, Own (sliceR intR 3) [v117] r116, Box b107 29 [(.slice none 0 0), (.slice none 0 0)], Box b103 49 [u0, u1]] := hS
  refine el_nil ?_
  refine hQ122 _ _ _ ?_
  refine thn_n ?_
  refine cw_seq ?_
  refine cw_gen ?_
  intro Q129 hQ129
  replace hS : Sat w0 w128 [Box b112 29 [v117, v124], Own (sliceR (pairR (sliceR intR 3) (sliceR intR 3)) 84) [v124] r123, Own (sliceR intR 3) [v117] r116, Box b107 29 [(.slice none 0 0), (.slice none 0 0)]] := hS.rems 5 [4] rfl
  refine cw_reg ?_
  refine el_pv (v := .agg #[v117, v124]) (pv_loada (cs := [v117, v124]) rfl rfl (boxc0 (hS.boxAt 0 rfl))) (by decide) ?_
  refine el_storev (hS.top 3 rfl) rfl [v117, v124] rfl rfl (of_decide_eq_true rfl) (all_cons (oc (hS.rdAt (R := (sliceR intR 3)) 2 rfl)) (all_cons (oc (hS.rdAt (R := (sliceR (pairR (sliceR intR 3) (sliceR intR 3)) 84)) 1 rfl)) rfl)) ?_
  intro w130 hS
  replace hS : Sat w0 w130 [Box b107 29 [v117, v124], Box b112 29 [v117, v124], Own (sliceR (pairR (sliceR intR 3) (sliceR intR 3)) 84) [v124] r123, Own (sliceR intR 3) [v117] r116] := hS
  refine el_nil ?_
  refine hQ129 _ _ _ ?_
  refine thn_n ?_
  refine cw_ret ?_
  refine finC (cs := [v117, v124]) rfl rfl rfl (boxc0 (hS.boxAt 0 rfl))  ?_
  replace hS : Sat w0 w130 [Own (sliceR intR 3) [v117] r116, Own (sliceR (pairR (sliceR intR 3) (sliceR intR 3)) 84) [v124] r123, Box b107 29 [v117, v124], Box b112 29 [v117, v124]] := hS.tops 4 [3, 2] rfl
  have hr := Option.some.inj hF
  exact ⟨v117, v124, congrArg (fun (r : (List Int × List (List Int × List Int))) => Ending.returned (.agg #[v117, v124])) hr, Eq.mp (congrArg (fun (r : (List Int × List (List Int × List Int))) => Sat w0 w130 [Own (sliceR intR 3) [v117] r.1, Own (sliceR (pairR (sliceR intR 3) (sliceR intR 3)) 84) [v124] r.2]) hr) (hS.keep 2)⟩
set_option maxHeartbeats 4000000 in
theorem laws_heldIntS_ok {w0 : World} {u0 : Value} {a0 : List Int} {a1 : Int} (ha0 : (sliceR intR 3).rd w0 [u0] a0) {N : Nat} {r : Int} (hF : laws_heldIntS N a0 a1 = some r) :
    Calls Try.prog 36 #[u0, .int .i64 a1] w0 fun e w' => e = .returned (.int .i64 r) ∧ Ext w0 w' := by
  unfold laws_heldIntS at hF
  refine calls_E Try.func36 rfl rfl (of_decide_eq_true rfl) ?_
  have hS := Sat.start w0
  refine cw_seq ?_
  refine cw_gen ?_
  intro Q101 hQ101
  refine cw_reg ?_
  refine el_pv (v := .int .i64 0) (pv_assign rfl) (by decide) ?_
  refine el_nil ?_
  refine hQ101 _ _ _ ?_
  refine thn_n ?_
  refine cw_seq ?_
  refine cw_gen ?_
  intro Q102 hQ102
  refine cw_seq ?_
  refine cw_gen ?_
  intro Q103 hQ103
  refine cw_reg ?_
  refine el_pv (v := .int .i64 0) (pv_assign rfl) (by decide) ?_
  refine el_nil ?_
  refine hQ103 _ _ _ ?_
  refine thn_n ?_
  refine cw_block ?_
  refine cw_gen ?_
  intro Q104 hQ104
  obtain ⟨s105, hL, hK106⟩ := ob hF
  refine cw_loopS (fun k e w => ∃ (x107 : Int), ∃ (x108 : Int), e 0 = u0 ∧ e 1 = .int .i64 x107 ∧ e 5 = .int .i64 x108 ∧ Sat w0 w [] ∧ laws_heldIntS_L1 N k a0 x107 x108 = some s105) N ?_ ?_ ?_
  · exact ⟨a1, 0, rfl, rfl, rfl, hS, hL⟩
  · rintro e w ⟨_, _, _, _, _, _, hz⟩; exact nomatch (show none = some _ from hz)
  · rintro k e113 w112 ⟨x107, x108, he109, he110, he111, hS, hF⟩
    refine cw_gen ?_
    intro Q114 hQ114
    refine cw_seq ?_
    refine cw_gen ?_
    intro Q115 hQ115
    refine cw_seq ?_
    refine cw_gen ?_
    intro Q116 hQ116
    refine cw_reg ?_
    refine el_pv (v := .int .i64 x108) (pv_move he111) (by decide) ?_
    refine el_pv (v := u0) (pv_move he109) (by decide) ?_
    refine el_pv (v := .int .i64 (a0.length : Int)) (pv_len rfl ha0) (by decide) ?_
    refine el_pv (v := .bool (decide (x108 < (a0.length : Int)))) (pv_lss rfl rfl) (by decide) ?_
    refine el_nil ?_
    refine hQ116 _ _ _ ?_
    refine thn_n ?_
    replace hF := oif hF
    rcases hF with ⟨hb117, hF⟩ | ⟨hb117, hF⟩
    · refine cw_cond_t rfl hb117 ?_
      refine cw_skip ?_
      refine hQ115 _ _ _ ?_
      refine thn_n ?_
      refine cw_seq ?_
      refine cw_gen ?_
      intro Q118 hQ118
      refine cw_block ?_
      refine cw_gen ?_
      intro Q119 hQ119
      refine cw_seq ?_
      refine cw_gen ?_
      intro Q120 hQ120
      refine cw_seq ?_
      refine cw_gen ?_
      intro Q121 hQ121
      refine cw_reg ?_
      refine el_pv (v := u0) (pv_move he109) (by decide) ?_
      refine el_pv (v := .int .i64 x108) (pv_move he111) (by decide) ?_
      replace hF := ob hF
      obtain ⟨x122, hx122, hF⟩ := hF
      refine el_index (wA := w0) rfl ha0 rfl (by decide) rfl hx122 (by decide) ?_
      intro b123 of124 c125 hr126 hm127
      obtain rfl := hr126
      refine el_pv (v := .int .i64 x122) (pv_loadc rfl ((cells_up hS.below hm127) 0 _ rfl)) (by decide) ?_
      refine el_pv (v := .int .i64 x107) (pv_move he110) (by decide) ?_
      refine el_pv (v := .bool (x122 != x107)) (pv_neq rfl rfl) (by decide) ?_
      refine el_nil ?_
      refine hQ121 _ _ _ ?_
      refine thn_n ?_
      replace hF := oif hF
      rcases hF with ⟨hb128, hF⟩ | ⟨hb128, hF⟩
      · refine cw_cond_t rfl hb128 ?_
        refine cw_seq ?_
        refine cw_gen ?_
        intro Q129 hQ129
        refine cw_reg ?_
        refine el_pv (v := .int .i64 (-1)) (pv_assign rfl) (by decide) ?_
        refine el_nil ?_
        refine hQ129 _ _ _ ?_
        refine thn_n ?_
        refine cw_ret ?_
        refine hQ120 _ _ _ ?_
        refine thn_r ?_
        refine hQ119 _ _ _ ?_
        refine inb_r ?_
        refine hQ118 _ _ _ ?_
        refine thn_r ?_
        refine hQ114 _ _ _ ?_
        refine thn_r ?_
        refine hQ104 _ _ _ ?_
        refine inb_r ?_
        refine hQ102 _ _ _ ?_
        refine thn_r ?_
        replace hF := exL hF hK106
        refine fin1 rfl rfl ?_
        have hr := Option.some.inj hF
        exact ⟨congrArg (fun (r : Int) => Ending.returned (.int .i64 r)) hr, hS.below⟩
      · refine cw_cond_f rfl hb128 ?_
        refine cw_skip ?_
        refine hQ120 _ _ _ ?_
        refine thn_n ?_
        refine cw_reg ?_
        refine el_pv (v := .int .i64 x107) (pv_move he110) (by decide) ?_
        replace hF := ob hF
        obtain ⟨x130, hx130, hF⟩ := hF
        refine el_pv (v := .int .i64 x130) (pv_add rfl rfl hx130) (by decide) ?_
        refine el_pv (v := .int .i64 x130) (pv_assign rfl) (by decide) ?_
        refine el_nil ?_
        refine hQ119 _ _ _ ?_
        refine inb_n ?_
        refine hQ118 _ _ _ ?_
        refine thn_n ?_
        refine cw_reg ?_
        refine el_pv (v := .int .i64 x108) (pv_move he111) (by decide) ?_
        replace hF := ob hF
        obtain ⟨x131, hx131, hF⟩ := hF
        refine el_pv (v := .int .i64 x131) (pv_add rfl rfl hx131) (by decide) ?_
        refine el_pv (v := .int .i64 x131) (pv_assign rfl) (by decide) ?_
        refine el_nil ?_
        refine hQ114 _ _ _ ?_
        refine thn_n ?_
        replace hS := hS.keep 0
        exact ⟨x130, x131, he109, rfl, rfl, hS, hF⟩
    · refine cw_cond_f rfl hb117 ?_
      refine cw_exit ?_
      refine hQ115 _ _ _ ?_
      refine thn_x ?_
      refine hQ114 _ _ _ ?_
      refine thn_x ?_
      replace hF := exA hF hK106
      refine hQ104 _ _ _ ?_
      refine inb_s ?_
      refine hQ102 _ _ _ ?_
      refine thn_n ?_
      refine cw_seq ?_
      refine cw_gen ?_
      intro Q132 hQ132
      refine cw_reg ?_
      refine el_pv (v := .int .i64 x107) (pv_move he110) (by decide) ?_
      refine el_pv (v := .int .i64 x107) (pv_assign rfl) (by decide) ?_
      refine el_nil ?_
      refine hQ132 _ _ _ ?_
      refine thn_n ?_
      refine cw_ret ?_
      refine fin1 rfl rfl ?_
      have hr := Option.some.inj hF
      exact ⟨congrArg (fun (r : Int) => Ending.returned (.int .i64 r)) hr, hS.below⟩
set_option maxHeartbeats 4000000 in
theorem laws_heldIntSS_ok {w0 : World} {u0 : Value} {a0 : List (List Int)} {a1 : Int} (ha0 : (sliceR (sliceR intR 3) 26).rd w0 [u0] a0) {N : Nat} {r : Int} (hF : laws_heldIntSS N a0 a1 = some r) :
    Calls Try.prog 76 #[u0, .int .i64 a1] w0 fun e w' => e = .returned (.int .i64 r) ∧ Ext w0 w' := by
  unfold laws_heldIntSS at hF
  refine calls_E Try.func76 rfl rfl (of_decide_eq_true rfl) ?_
  have hS := Sat.start w0
  refine cw_seq ?_
  refine cw_gen ?_
  intro Q101 hQ101
  refine cw_reg ?_
  refine el_pv (v := .int .i64 0) (pv_assign rfl) (by decide) ?_
  refine el_nil ?_
  refine hQ101 _ _ _ ?_
  refine thn_n ?_
  refine cw_seq ?_
  refine cw_gen ?_
  intro Q102 hQ102
  refine cw_seq ?_
  refine cw_gen ?_
  intro Q103 hQ103
  refine cw_reg ?_
  refine el_pv (v := .int .i64 0) (pv_assign rfl) (by decide) ?_
  refine el_nil ?_
  refine hQ103 _ _ _ ?_
  refine thn_n ?_
  refine cw_block ?_
  refine cw_gen ?_
  intro Q104 hQ104
  obtain ⟨s105, hL, hK106⟩ := ob hF
  refine cw_loopS (fun k e w => ∃ (x107 : Int), ∃ (x108 : Int), e 0 = u0 ∧ e 1 = .int .i64 x107 ∧ e 5 = .int .i64 x108 ∧ Sat w0 w [] ∧ laws_heldIntSS_L1 N k a0 x107 x108 = some s105) N ?_ ?_ ?_
  · exact ⟨a1, 0, rfl, rfl, rfl, hS, hL⟩
  · rintro e w ⟨_, _, _, _, _, _, hz⟩; exact nomatch (show none = some _ from hz)
  · rintro k e113 w112 ⟨x107, x108, he109, he110, he111, hS, hF⟩
    refine cw_gen ?_
    intro Q114 hQ114
    refine cw_seq ?_
    refine cw_gen ?_
    intro Q115 hQ115
    refine cw_seq ?_
    refine cw_gen ?_
    intro Q116 hQ116
    refine cw_reg ?_
    refine el_pv (v := .int .i64 x108) (pv_move he111) (by decide) ?_
    refine el_pv (v := u0) (pv_move he109) (by decide) ?_
    refine el_pv (v := .int .i64 (a0.length : Int)) (pv_len rfl ha0) (by decide) ?_
    refine el_pv (v := .bool (decide (x108 < (a0.length : Int)))) (pv_lss rfl rfl) (by decide) ?_
    refine el_nil ?_
    refine hQ116 _ _ _ ?_
    refine thn_n ?_
    replace hF := oif hF
    rcases hF with ⟨hb117, hF⟩ | ⟨hb117, hF⟩
    · refine cw_cond_t rfl hb117 ?_
      refine cw_skip ?_
      refine hQ115 _ _ _ ?_
      refine thn_n ?_
      refine cw_seq ?_
      refine cw_gen ?_
      intro Q118 hQ118
      refine cw_block ?_
      refine cw_gen ?_
      intro Q119 hQ119
      refine cw_seq ?_
      refine cw_gen ?_
      intro Q120 hQ120
      refine cw_reg ?_
      refine el_pv (v := u0) (pv_move he109) (by decide) ?_
      refine el_pv (v := .int .i64 x108) (pv_move he111) (by decide) ?_
      replace hF := ob hF
      obtain ⟨x121, hx121, hF⟩ := hF
      refine el_index (wA := w0) rfl ha0 rfl (by decide) rfl hx121 (by decide) ?_
      intro b122 of123 c124 hr125 hm126
      obtain ⟨v127, rfl⟩ := slice_one hr125
      refine el_pv (v := v127) (pv_loadc rfl ((cells_up hS.below hm126) 0 _ rfl)) (by decide) ?_
      refine el_pv (v := .int .i64 x107) (pv_move he110) (by decide) ?_
      replace hF := ob hF
      obtain ⟨r128, hr128, hF⟩ := hF
      refine el_call goes36 (laws_heldIntS_ok (hS.up hr125) hr128) (congrArg List.toArray (mapc rfl (mapc rfl rfl))) (by decide) ?_
      rintro _ w129 ⟨rfl, hx130⟩
      refine ⟨_, rfl, ?_⟩
      replace hS := hS.ext hx130
      refine el_pv (v := .int .i64 r128) (pv_assign rfl) (by decide) ?_
      refine el_nil ?_
      refine hQ120 _ _ _ ?_
      refine thn_n ?_
      refine cw_seq ?_
      refine cw_gen ?_
      intro Q131 hQ131
      refine cw_reg ?_
      refine el_pv (v := .int .i64 r128) (pv_move rfl) (by decide) ?_
      refine el_pv (v := .bool (decide (r128 < 0))) (pv_lss rfl rfl) (by decide) ?_
      refine el_nil ?_
      refine hQ131 _ _ _ ?_
      refine thn_n ?_
      replace hF := oif hF
      rcases hF with ⟨hb132, hF⟩ | ⟨hb132, hF⟩
      · refine cw_cond_t rfl hb132 ?_
        refine cw_seq ?_
        refine cw_gen ?_
        intro Q133 hQ133
        refine cw_reg ?_
        refine el_pv (v := .int .i64 (-1)) (pv_assign rfl) (by decide) ?_
        refine el_nil ?_
        refine hQ133 _ _ _ ?_
        refine thn_n ?_
        refine cw_ret ?_
        refine hQ119 _ _ _ ?_
        refine inb_r ?_
        refine hQ118 _ _ _ ?_
        refine thn_r ?_
        refine hQ114 _ _ _ ?_
        refine thn_r ?_
        refine hQ104 _ _ _ ?_
        refine inb_r ?_
        refine hQ102 _ _ _ ?_
        refine thn_r ?_
        replace hF := exL hF hK106
        refine fin1 rfl rfl ?_
        have hr := Option.some.inj hF
        exact ⟨congrArg (fun (r : Int) => Ending.returned (.int .i64 r)) hr, hS.below⟩
      · refine cw_cond_f rfl hb132 ?_
        refine cw_skip ?_
        refine hQ119 _ _ _ ?_
        refine inb_n ?_
        refine hQ118 _ _ _ ?_
        refine thn_n ?_
        refine cw_reg ?_
        refine el_pv (v := .int .i64 x108) (pv_move he111) (by decide) ?_
        replace hF := ob hF
        obtain ⟨x134, hx134, hF⟩ := hF
        refine el_pv (v := .int .i64 x134) (pv_add rfl rfl hx134) (by decide) ?_
        refine el_pv (v := .int .i64 x134) (pv_assign rfl) (by decide) ?_
        refine el_nil ?_
        refine hQ114 _ _ _ ?_
        refine thn_n ?_
        replace hS := hS.keep 0
        exact ⟨r128, x134, he109, rfl, rfl, hS, hF⟩
    · refine cw_cond_f rfl hb117 ?_
      refine cw_exit ?_
      refine hQ115 _ _ _ ?_
      refine thn_x ?_
      refine hQ114 _ _ _ ?_
      refine thn_x ?_
      replace hF := exA hF hK106
      refine hQ104 _ _ _ ?_
      refine inb_s ?_
      refine hQ102 _ _ _ ?_
      refine thn_n ?_
      refine cw_seq ?_
      refine cw_gen ?_
      intro Q135 hQ135
      refine cw_reg ?_
      refine el_pv (v := .int .i64 x107) (pv_move he110) (by decide) ?_
      refine el_pv (v := .int .i64 x107) (pv_assign rfl) (by decide) ?_
      refine el_nil ?_
      refine hQ135 _ _ _ ?_
      refine thn_n ?_
      refine cw_ret ?_
      refine fin1 rfl rfl ?_
      have hr := Option.some.inj hF
      exact ⟨congrArg (fun (r : Int) => Ending.returned (.int .i64 r)) hr, hS.below⟩
end Go.Proofs.Ytdingjlefilafaa
