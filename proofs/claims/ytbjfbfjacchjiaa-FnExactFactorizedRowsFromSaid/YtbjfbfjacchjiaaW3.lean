/- The walks through functions of the program: each hands back what it comes to. No condition but that it comes to something. -/
import Derived.Test.YtbjfbfjacchjiaaW2
import Derived.Test.YtbjfbfjacchjiaaW3D
namespace Go.Proofs.Ytbjfbfjacchjiaa
open Go.RowKit
set_option maxRecDepth 100000
set_option maxHeartbeats 4000000 in
theorem impl_FactorizedPrefixCount_ok {w0 : World} {u0 : Value} {a0 : List Int} {u1 : Value} {a1 : List (List Int × List Int)} {u2 : Value} {a2 : List Int} (ha0 : (sliceR intR 3).rd w0 [u0] a0) (ha1 : (sliceR (pairR (sliceR intR 3) (sliceR intR 3)) 57).rd w0 [u1] a1) (ha2 : (sliceR intR 3).rd w0 [u2] a2) {N : Nat} {r : Int} (hF : impl_FactorizedPrefixCount N a0 a1 a2 = some r) :
    Calls Try.prog 16 #[.agg #[u0, u1], u2] w0 fun e w' => e = .returned (.int .i64 r) ∧ Ext w0 w' := by
  unfold impl_FactorizedPrefixCount at hF
  refine calls_E Try.func16 rfl rfl (of_decide_eq_true rfl) ?_
  have hS := Sat.start w0
  refine cw_seq ?_
  refine cw_gen ?_
  intro Q101 hQ101
  refine cw_reg ?_
  refine el_box [u0, u1] rfl hS (by decide) ?_
  intro w102 b103 hS hx104
  refine el_pv (v := .int .i64 0) (pv_assign rfl) (by decide) ?_
  refine el_nil ?_
  refine hQ101 _ _ _ ?_
  refine thn_n ?_
  refine cw_seq ?_
  refine cw_gen ?_
  intro Q106 hQ106
  refine cw_seq ?_
  refine cw_gen ?_
  intro Q107 hQ107
  refine cw_reg ?_
  refine el_pv (v := .agg #[u0, u1]) (pv_loada (cs := [u0, u1]) rfl rfl (boxc0 (hS.boxAt 0 rfl))) (by decide) ?_
  replace hF := ob hF
  obtain ⟨r108, hr108, hF⟩ := hF
  refine el_call goes37 (impl_IsValidFactorization_ok (hS.up ha0) (hS.up ha1) hr108) (congrArg List.toArray (mapc rfl rfl)) (by decide) ?_
  rintro _ w109 ⟨rfl, hx110⟩
  refine ⟨_, rfl, ?_⟩
  replace hS := hS.ext hx110
  refine el_pv (v := .bool (!r108)) (pv_not rfl) (by decide) ?_
  refine el_pv (v := .bool (!r108)) (pv_move rfl) (by decide) ?_
  replace hF := oif hF
  rcases hF with ⟨hb111, hF⟩ | ⟨hb111, hF⟩
  · refine el_on rfl (bnot_t hb111) ?_
    refine el_pv (v := u2) (pv_move rfl) (by decide) ?_
    refine el_on rfl (bnot_t hb111) ?_
    refine el_pv (v := .int .i64 (a2.length : Int)) (pv_len rfl ha2) (by decide) ?_
    refine el_on rfl (bnot_t hb111) ?_
    refine el_pv (v := .pointer (some ⟨b103, 0 + 0, none⟩)) (pv_fieldAddr rfl) (by decide) ?_
    refine el_on rfl (bnot_t hb111) ?_
    refine el_pv (v := u0) (pv_loadc rfl ((hS.boxAt 0 rfl) 0 _ rfl)) (by decide) ?_
    refine el_on rfl (bnot_t hb111) ?_
    refine el_pv (v := .int .i64 (a0.length : Int)) (pv_len rfl ha0) (by decide) ?_
    refine el_on rfl (bnot_t hb111) ?_
    refine el_pv (v := .bool (decide ((a0.length : Int) < (a2.length : Int)))) (pv_gtr rfl rfl) (by decide) ?_
    refine el_pv (v := .bool (decide ((a0.length : Int) < (a2.length : Int)))) (pv_pick_f rfl (bnot_t hb111) rfl) (by decide) ?_
    refine el_nil ?_
    refine hQ107 _ _ _ ?_
    refine thn_n ?_
    replace hF := oif hF
    rcases hF with ⟨hb112, hF⟩ | ⟨hb112, hF⟩
    · refine cw_cond_t rfl hb112 ?_
      refine cw_seq ?_
      refine cw_gen ?_
      intro Q113 hQ113
      refine cw_reg ?_
      refine el_pv (v := .int .i64 0) (pv_assign rfl) (by decide) ?_
      refine el_nil ?_
      refine hQ113 _ _ _ ?_
      refine thn_n ?_
      refine cw_ret ?_
      refine hQ106 _ _ _ ?_
      refine thn_r ?_
      refine fin1 rfl rfl ?_
      have hr := Option.some.inj hF
      exact ⟨congrArg (fun (r : Int) => Ending.returned (.int .i64 r)) hr, hS.below⟩
    · refine cw_cond_f rfl hb112 ?_
      refine cw_skip ?_
      refine hQ106 _ _ _ ?_
      refine thn_n ?_
      refine cw_seq ?_
      refine cw_gen ?_
      intro Q114 hQ114
      refine cw_reg ?_
      refine el_pv (v := .agg #[u0, u1]) (pv_loada (cs := [u0, u1]) rfl rfl (boxc0 (hS.boxAt 0 rfl))) (by decide) ?_
      replace hF := ob hF
      obtain ⟨r115, hr115, hF⟩ := hF
      refine el_call goes38 (impl_counts_ok (hS.up ha0) (hS.up ha1) hr115) (congrArg List.toArray (mapc rfl rfl)) (by decide) ?_
      rintro _ w118 ⟨v116, rfl, hS'⟩
      refine ⟨_, rfl, ?_⟩
      have hx119 := hS'.below
      replace hS := hS.call1 hS'
      refine el_pv (v := v116) (pv_assign rfl) (by decide) ?_
      refine el_nil ?_
      refine hQ114 _ _ _ ?_
      refine thn_n ?_
      refine cw_seq ?_
      refine cw_gen ?_
      intro Q120 hQ120
      refine cw_reg ?_
      refine el_pv (v := v116) (pv_move rfl) (by decide) ?_
      refine el_pv (v := .int .i64 (r115.length : Int)) (pv_len rfl (hS.rdAt (R := (sliceR intR 3)) 0 rfl)) (by decide) ?_
      replace hF := ob hF
      obtain ⟨x121, hx121, hF⟩ := hF
      refine el_pv (v := .int .i64 x121) (pv_sub rfl rfl hx121) (by decide) ?_
      refine el_pv (v := .int .i64 x121) (pv_assign rfl) (by decide) ?_
      refine el_nil ?_
      refine hQ120 _ _ _ ?_
      refine thn_n ?_
      refine cw_seq ?_
      refine cw_gen ?_
      intro Q122 hQ122
      refine cw_seq ?_
      refine cw_gen ?_
      intro Q123 hQ123
      refine cw_reg ?_
      refine el_pv (v := u2) (pv_move rfl) (by decide) ?_
      refine el_pv (v := .int .i64 (a2.length : Int)) (pv_len rfl ha2) (by decide) ?_
      refine el_pv (v := .int .i64 0) (pv_move rfl) (by decide) ?_
      refine el_nil ?_
      refine hQ123 _ _ _ ?_
      refine thn_n ?_
      refine cw_block ?_
      refine cw_gen ?_
      intro Q124 hQ124
      obtain ⟨s125, hL, hK126⟩ := ob hF
      refine cw_loopS (fun k e w => ∃ (x127 : Int), ∃ (x128 : Int), e 2 = .pointer (some ⟨b103, 0, none⟩) ∧ e 5 = v116 ∧ e 6 = .int .i64 x127 ∧ e 27 = u2 ∧ e 28 = .int .i64 (a2.length : Int) ∧ e 29 = .int .i64 x128 ∧ Sat w0 w [Own (sliceR intR 3) [v116] r115, Box b103 30 [u0, u1]] ∧ impl_FactorizedPrefixCount_L1 N k a0 a1 r115 x127 a2 (a2.length : Int) x128 = some s125) N ?_ ?_ ?_
      · exact ⟨x121, 0, rfl, rfl, rfl, rfl, rfl, rfl, hS, hL⟩
      · rintro e w ⟨_, _, _, _, _, _, _, _, _, hz⟩; exact nomatch (show none = some _ from hz)
      · rintro k e136 w135 ⟨x127, x128, he129, he130, he131, he132, he133, he134, hS, hF⟩
        refine cw_gen ?_
        intro Q137 hQ137
        refine cw_seq ?_
        refine cw_gen ?_
        intro Q138 hQ138
        refine cw_reg ?_
        refine el_pv (v := .bool (decide (x128 < (a2.length : Int)))) (pv_lss he134 he133) (by decide) ?_
        refine el_nil ?_
        refine hQ138 _ _ _ ?_
        refine thn_n ?_
        refine cw_seq ?_
        refine cw_gen ?_
        intro Q139 hQ139
        replace hF := oif hF
        rcases hF with ⟨hb140, hF⟩ | ⟨hb140, hF⟩
        · refine cw_cond_t rfl hb140 ?_
          refine cw_skip ?_
          refine hQ139 _ _ _ ?_
          refine thn_n ?_
          refine cw_seq ?_
          refine cw_gen ?_
          intro Q141 hQ141
          refine cw_block ?_
          refine cw_gen ?_
          intro Q142 hQ142
          refine cw_seq ?_
          refine cw_gen ?_
          intro Q143 hQ143
          refine cw_reg ?_
          replace hF := ob hF
          obtain ⟨x144, hx144, hF⟩ := hF
          refine el_index (wA := w0) he132 ha2 rfl (by decide) he134 hx144 (by decide) ?_
          intro b145 of146 c147 hr148 hm149
          obtain rfl := hr148
          refine el_pv (v := .int .i64 x144) (pv_loadc rfl ((cells_up hS.below hm149) 0 _ rfl)) (by decide) ?_
          refine el_pv (v := .int .i64 x144) (pv_assign rfl) (by decide) ?_
          refine el_nil ?_
          refine hQ143 _ _ _ ?_
          refine thn_n ?_
          refine cw_seq ?_
          refine cw_gen ?_
          intro Q150 hQ150
          refine cw_reg ?_
          refine el_pv (v := .pointer (some ⟨b103, 0 + 1, none⟩)) (pv_fieldAddr he129) (by decide) ?_
          refine el_pv (v := u1) (pv_loadc rfl ((hS.boxAt 1 rfl) 1 _ rfl)) (by decide) ?_
          refine el_pv (v := .int .i64 x127) (pv_move he131) (by decide) ?_
          replace hF := ob hF
          obtain ⟨x151, hx151, hF⟩ := hF
          refine el_index (wA := w0) rfl ha1 rfl (by decide) rfl hx151 (by decide) ?_
          intro b152 of153 c154 hr155 hm156
          obtain ⟨_, _, rfl, hr157, hr158⟩ := hr155
          obtain ⟨v159, rfl⟩ := slice_one hr157
          obtain ⟨v160, rfl⟩ := slice_one hr158
          refine el_pv (v := .agg #[v159, v160]) (pv_loada (cs := [v159, v160]) rfl rfl (cells_up hS.below hm156)) (by decide) ?_
          refine el_alloc hS (by decide) ?_
          intro w161 b162 hS hx163
          refine el_storev (hS.top 0 rfl) rfl [v159, v160] rfl rfl (of_decide_eq_true rfl) (all_cons (oc hr157) (all_cons (oc hr158) rfl)) ?_
          intro w165 hS
          replace hS : Sat w0 w165 [Box b162 57 [v159, v160], Own (sliceR intR 3) [v116] r115, Box b103 30 [u0, u1]] := hS
          refine el_nil ?_
          refine hQ150 _ _ _ ?_
          refine thn_n ?_
          refine cw_seq ?_
          refine cw_gen ?_
          intro Q166 hQ166
          refine cw_reg ?_
          refine el_pv (v := .pointer (some ⟨b162, 0 + 0, none⟩)) (pv_fieldAddr rfl) (by decide) ?_
          refine el_pv (v := v159) (pv_loadc rfl ((hS.boxAt 0 rfl) 0 _ rfl)) (by decide) ?_
          refine el_pv (v := .int .i64 x144) (pv_move rfl) (by decide) ?_
          replace hF := ob hF
          obtain ⟨r167, hr167, hF⟩ := hF
          refine el_call goes41 (impl_indexOf_ok (hS.up hr157) hr167) (congrArg List.toArray (mapc rfl (mapc rfl rfl))) (by decide) ?_
          rintro _ w168 ⟨rfl, hx169⟩
          refine ⟨_, rfl, ?_⟩
          replace hS := hS.ext hx169
          refine el_pv (v := .int .i64 r167) (pv_assign rfl) (by decide) ?_
          refine el_nil ?_
          refine hQ166 _ _ _ ?_
          refine thn_n ?_
          refine cw_seq ?_
          refine cw_gen ?_
          intro Q170 hQ170
          refine cw_seq ?_
          refine cw_gen ?_
          intro Q171 hQ171
          refine cw_reg ?_
          refine el_pv (v := .int .i64 r167) (pv_move rfl) (by decide) ?_
          refine el_pv (v := .bool (decide (r167 < 0))) (pv_lss rfl rfl) (by decide) ?_
          refine el_nil ?_
          refine hQ171 _ _ _ ?_
          refine thn_n ?_
          replace hF := oif hF
          rcases hF with ⟨hb172, hF⟩ | ⟨hb172, hF⟩
          · refine cw_cond_t rfl hb172 ?_
            refine cw_seq ?_
            refine cw_gen ?_
            intro Q173 hQ173
            refine cw_reg ?_
            refine el_pv (v := .int .i64 0) (pv_assign rfl) (by decide) ?_
            refine el_nil ?_
            refine hQ173 _ _ _ ?_
            refine thn_n ?_
            refine cw_ret ?_
            refine hQ170 _ _ _ ?_
            refine thn_r ?_
            refine hQ142 _ _ _ ?_
            refine inb_r ?_
            refine hQ141 _ _ _ ?_
            refine thn_r ?_
            refine hQ137 _ _ _ ?_
            refine thn_r ?_
            refine hQ124 _ _ _ ?_
            refine inb_r ?_
            refine hQ122 _ _ _ ?_
            refine thn_r ?_
            replace hF := exL hF hK126
            refine fin1 rfl rfl ?_
            have hr := Option.some.inj hF
            exact ⟨congrArg (fun (r : Int) => Ending.returned (.int .i64 r)) hr, hS.below⟩
          · refine cw_cond_f rfl hb172 ?_
            refine cw_skip ?_
            refine hQ170 _ _ _ ?_
            refine thn_n ?_
            refine cw_reg ?_
            refine el_pv (v := .pointer (some ⟨b162, 0 + 1, none⟩)) (pv_fieldAddr rfl) (by decide) ?_
            refine el_pv (v := v160) (pv_loadc rfl ((hS.boxAt 0 rfl) 1 _ rfl)) (by decide) ?_
            refine el_pv (v := .int .i64 r167) (pv_move rfl) (by decide) ?_
            replace hF := ob hF
            obtain ⟨x174, hx174, hF⟩ := hF
            refine el_index (wA := w0) rfl hr158 rfl (by decide) rfl hx174 (by decide) ?_
            intro b175 of176 c177 hr178 hm179
            obtain rfl := hr178
            refine el_pv (v := .int .i64 x174) (pv_loadc rfl ((cells_up hS.below hm179) 0 _ rfl)) (by decide) ?_
            refine el_pv (v := .int .i64 x174) (pv_assign rfl) (by decide) ?_
            refine el_nil ?_
            refine hQ142 _ _ _ ?_
            refine inb_n ?_
            refine hQ141 _ _ _ ?_
            refine thn_n ?_
            refine cw_reg ?_
            replace hF := ob hF
            obtain ⟨x180, hx180, hF⟩ := hF
            refine el_pv (v := .int .i64 x180) (pv_add he134 rfl hx180) (by decide) ?_
            refine el_pv (v := .int .i64 x180) (pv_move rfl) (by decide) ?_
            refine el_nil ?_
            refine hQ137 _ _ _ ?_
            refine thn_n ?_
            replace hS : Sat w0 w168 [Box b103 30 [u0, u1], Box b162 57 [v159, v160], Own (sliceR intR 3) [v116] r115] := hS.top 2 rfl
            replace hS : Sat w0 w168 [Own (sliceR intR 3) [v116] r115, Box b103 30 [u0, u1], Box b162 57 [v159, v160]] := hS.top 2 rfl
            replace hS := hS.keep 2
            exact ⟨x174, x180, he129, he130, rfl, he132, he133, rfl, hS, hF⟩
        · refine cw_cond_f rfl hb140 ?_
          refine cw_exit ?_
          refine hQ139 _ _ _ ?_
          refine thn_x ?_
          refine hQ137 _ _ _ ?_
          refine thn_x ?_
          replace hF := exA hF hK126
          refine hQ124 _ _ _ ?_
          refine inb_s ?_
          refine hQ122 _ _ _ ?_
          refine thn_n ?_
          refine cw_seq ?_
          refine cw_gen ?_
          intro Q181 hQ181
          refine cw_reg ?_
          refine el_pv (v := v116) (pv_move he130) (by decide) ?_
          refine el_pv (v := .int .i64 x127) (pv_move he131) (by decide) ?_
          replace hF := ob hF
          obtain ⟨x182, hx182, hF⟩ := hF
          obtain ⟨g183, cap184, hv185⟩ := ownShape 0 hS rfl hx182
          refine el_pv (v := .pointer (some ⟨g183, x127.toNat * 1, none⟩)) (pv_indexF (v := v116) rfl hv185 rfl hx182) (by decide) ?_
          refine el_pv (v := .int .i64 x182) (pv_loadc rfl (hS.ownCell 0 rfl hv185 hx182)) (by decide) ?_
          refine el_pv (v := .int .i64 x182) (pv_assign rfl) (by decide) ?_
          refine el_nil ?_
          refine hQ181 _ _ _ ?_
          refine thn_n ?_
          refine cw_ret ?_
          refine fin1 rfl rfl ?_
          have hr := Option.some.inj hF
          exact ⟨congrArg (fun (r : Int) => Ending.returned (.int .i64 r)) hr, hS.below⟩
  · refine el_off rfl (bnot_f hb111) rfl (by decide) ?_
    refine el_off rfl (bnot_f hb111) rfl (by decide) ?_
    refine el_off rfl (bnot_f hb111) rfl (by decide) ?_
    refine el_off rfl (bnot_f hb111) rfl (by decide) ?_
    refine el_off rfl (bnot_f hb111) rfl (by decide) ?_
    refine el_off rfl (bnot_f hb111) rfl (by decide) ?_
    refine el_pv (v := .bool true) (pv_pick_t rfl (bnot_f hb111) rfl) (by decide) ?_
    refine el_nil ?_
    refine hQ107 _ _ _ ?_
    refine thn_n ?_
    refine cw_cond_t rfl rfl ?_
    refine cw_seq ?_
    refine cw_gen ?_
    intro Q186 hQ186
    refine cw_reg ?_
    refine el_pv (v := .int .i64 0) (pv_assign rfl) (by decide) ?_
    refine el_nil ?_
    refine hQ186 _ _ _ ?_
    refine thn_n ?_
    refine cw_ret ?_
    refine hQ106 _ _ _ ?_
    refine thn_r ?_
    refine fin1 rfl rfl ?_
    have hr := Option.some.inj hF
    exact ⟨congrArg (fun (r : Int) => Ending.returned (.int .i64 r)) hr, hS.below⟩
set_option maxHeartbeats 4000000 in
theorem laws_FnExactFactorizedPrefixCount_ok {w0 : World} {u0 : Value} {a0 : List Int} {u1 : Value} {a1 : List (List Int × List Int)} {u2 : Value} {a2 : List Int} (ha0 : (sliceR intR 3).rd w0 [u0] a0) (ha1 : (sliceR (pairR (sliceR intR 3) (sliceR intR 3)) 62).rd w0 [u1] a1) (ha2 : (sliceR intR 3).rd w0 [u2] a2) {N : Nat} {r : Bool} (hF : laws_FnExactFactorizedPrefixCount N a0 a1 a2 = some r) :
    Calls Try.prog 4 #[.agg #[u0, u1], u2] w0 fun e w' => e = .returned (.bool r) ∧ Ext w0 w' := by
  unfold laws_FnExactFactorizedPrefixCount at hF
  refine calls_E Try.func4 rfl rfl (of_decide_eq_true rfl) ?_
  have hS := Sat.start w0
  refine cw_seq ?_
  refine cw_gen ?_
  intro Q101 hQ101
  refine cw_reg ?_
  refine el_box [u0, u1] rfl hS (by decide) ?_
  intro w102 b103 hS hx104
  refine el_pv (v := .bool false) (pv_assign rfl) (by decide) ?_
  refine el_nil ?_
  refine hQ101 _ _ _ ?_
  refine thn_n ?_
  refine cw_seq ?_
  refine cw_gen ?_
  intro Q106 hQ106
  refine cw_seq ?_
  refine cw_gen ?_
  intro Q107 hQ107
  refine cw_reg ?_
  refine el_pv (v := u2) (pv_move rfl) (by decide) ?_
  refine el_pv (v := .int .i64 (a2.length : Int)) (pv_len rfl ha2) (by decide) ?_
  refine el_pv (v := .bool (decide (1048576 < (a2.length : Int)))) (pv_gtr rfl rfl) (by decide) ?_
  refine el_nil ?_
  refine hQ107 _ _ _ ?_
  refine thn_n ?_
  replace hF := oif hF
  rcases hF with ⟨hb108, hF⟩ | ⟨hb108, hF⟩
  · refine cw_cond_t rfl hb108 ?_
    refine cw_seq ?_
    refine cw_gen ?_
    intro Q109 hQ109
    refine cw_reg ?_
    refine el_pv (v := .bool true) (pv_assign rfl) (by decide) ?_
    refine el_nil ?_
    refine hQ109 _ _ _ ?_
    refine thn_n ?_
    refine cw_ret ?_
    refine hQ106 _ _ _ ?_
    refine thn_r ?_
    refine fin1 rfl rfl ?_
    have hr := Option.some.inj hF
    exact ⟨congrArg (fun (r : Bool) => Ending.returned (.bool r)) hr, hS.below⟩
  · refine cw_cond_f rfl hb108 ?_
    refine cw_skip ?_
    refine hQ106 _ _ _ ?_
    refine thn_n ?_
    refine cw_seq ?_
    refine cw_gen ?_
    intro Q110 hQ110
    refine cw_reg ?_
    refine el_pv (v := .int .i64 1048576) (pv_assign rfl) (by decide) ?_
    refine el_nil ?_
    refine hQ110 _ _ _ ?_
    refine thn_n ?_
    refine cw_seq ?_
    refine cw_gen ?_
    intro Q111 hQ111
    refine cw_reg ?_
    refine el_pv (v := .agg #[u0, u1]) (pv_loada (cs := [u0, u1]) rfl rfl (boxc0 (hS.boxAt 0 rfl))) (by decide) ?_
    refine el_pv (v := .int .i64 1048576) (pv_move rfl) (by decide) ?_
    replace hF := ob hF
    obtain ⟨r112, hr112, hF⟩ := hF
    refine el_call goes9 (laws_szFactorization_ok (hS.up ha0) (hS.up ha1) hr112) (congrArg List.toArray (mapc rfl (mapc rfl rfl))) (by decide) ?_
    rintro _ w113 ⟨rfl, hx114⟩
    refine ⟨_, rfl, ?_⟩
    replace hS := hS.ext hx114
    refine el_pv (v := .int .i64 r112) (pv_assign rfl) (by decide) ?_
    refine el_nil ?_
    refine hQ111 _ _ _ ?_
    refine thn_n ?_
    refine cw_seq ?_
    refine cw_gen ?_
    intro Q115 hQ115
    refine cw_seq ?_
    refine cw_gen ?_
    intro Q116 hQ116
    refine cw_reg ?_
    refine el_pv (v := .int .i64 r112) (pv_move rfl) (by decide) ?_
    refine el_pv (v := .bool (decide (r112 < 0))) (pv_lss rfl rfl) (by decide) ?_
    refine el_nil ?_
    refine hQ116 _ _ _ ?_
    refine thn_n ?_
    replace hF := oif hF
    rcases hF with ⟨hb117, hF⟩ | ⟨hb117, hF⟩
    · refine cw_cond_t rfl hb117 ?_
      refine cw_seq ?_
      refine cw_gen ?_
      intro Q118 hQ118
      refine cw_reg ?_
      refine el_pv (v := .bool true) (pv_assign rfl) (by decide) ?_
      refine el_nil ?_
      refine hQ118 _ _ _ ?_
      refine thn_n ?_
      refine cw_ret ?_
      refine hQ115 _ _ _ ?_
      refine thn_r ?_
      refine fin1 rfl rfl ?_
      have hr := Option.some.inj hF
      exact ⟨congrArg (fun (r : Bool) => Ending.returned (.bool r)) hr, hS.below⟩
    · refine cw_cond_f rfl hb117 ?_
      refine cw_skip ?_
      refine hQ115 _ _ _ ?_
      refine thn_n ?_
      refine cw_seq ?_
      refine cw_gen ?_
      intro Q119 hQ119
      refine cw_reg ?_
      refine el_pv (v := .agg #[u0, u1]) (pv_loada (cs := [u0, u1]) rfl rfl (boxc0 (hS.boxAt 0 rfl))) (by decide) ?_
      replace hF := ob hF
      obtain ⟨r120, hr120, hF⟩ := hF
      refine el_call goes11 (laws_toFactorization_ok (hS.up ha0) (hS.up ha1) hr120) (congrArg List.toArray (mapc rfl rfl)) (by decide) ?_
      rintro _ w125 ⟨v121, v122, rfl, hS'⟩
      refine ⟨_, rfl, ?_⟩
      have hx126 := hS'.below
      replace hS := hS.call2 hS'
      refine el_pv (v := u2) (pv_move rfl) (by decide) ?_
      replace hF := ob hF
      obtain ⟨r127, hr127, hF⟩ := hF
      refine el_call goes15 (laws_toIntS_ok (hS.up ha2) hr127) (congrArg List.toArray (mapc rfl rfl)) (by decide) ?_
      rintro _ w130 ⟨v128, rfl, hS'⟩
      refine ⟨_, rfl, ?_⟩
      have hx131 := hS'.below
      replace hS := hS.call1 hS'
      replace hF := ob hF
      obtain ⟨r132, hr132, hF⟩ := hF
      refine el_call goes14 (spec_FactorizedPrefixCount_ok (hS.rdAt (R := (sliceR intR 3)) 1 rfl) (hS.rdAt (R := (sliceR (pairR (sliceR intR 3) (sliceR intR 3)) 57)) 2 rfl) (hS.rdAt (R := (sliceR intR 3)) 0 rfl) hr132) (congrArg List.toArray (mapc rfl (mapc rfl rfl))) (by decide) ?_
      rintro _ w133 ⟨rfl, hx134⟩
      refine ⟨_, rfl, ?_⟩
      replace hS := hS.ext hx134
      refine el_pv (v := .int .i64 r132) (pv_assign rfl) (by decide) ?_
      refine el_nil ?_
      refine hQ119 _ _ _ ?_
      refine thn_n ?_
      refine cw_seq ?_
      refine cw_gen ?_
      intro Q135 hQ135
      refine cw_reg ?_
      refine el_pv (v := .agg #[u0, u1]) (pv_loada (cs := [u0, u1]) rfl rfl (boxc0 (hS.boxAt 3 rfl))) (by decide) ?_
      replace hF := ob hF
      obtain ⟨r136, hr136, hF⟩ := hF
      refine el_call goes11 (laws_toFactorization_ok (hS.up ha0) (hS.up ha1) hr136) (congrArg List.toArray (mapc rfl rfl)) (by decide) ?_
      rintro _ w141 ⟨v137, v138, rfl, hS'⟩
      refine ⟨_, rfl, ?_⟩
      have hx142 := hS'.below
      replace hS := hS.call2 hS'
      refine el_alloc hS (by decide) ?_
      intro w143 b144 hS hx145
      refine el_storev (hS.top 0 rfl) rfl [v137, v138] rfl rfl (of_decide_eq_true rfl) (all_cons (oc (hS.rdAt (R := (sliceR intR 3)) 1 rfl)) (all_cons (oc (hS.rdAt (R := (sliceR (pairR (sliceR intR 3) (sliceR intR 3)) 57)) 2 rfl)) rfl)) ?_
      intro w147 hS
      replace hS : Sat w0 w147 [Box b144 30 [v137, v138], Own (sliceR intR 3) [v137] r136.1, Own (sliceR (pairR (sliceR intR 3) (sliceR intR 3)) 57) [v138] r136.2, Own (sliceR intR 3) [v128] r127, Own (sliceR intR 3) [v121] r120.1, Own (sliceR (pairR (sliceR intR 3) (sliceR intR 3)) 57) [v122] r120.2, Box b103 25 [u0, u1]] := hS
      refine el_nil ?_
      refine hQ135 _ _ _ ?_
      refine thn_n ?_
      refine cw_seq ?_
      refine cw_gen ?_
      intro Q148 hQ148
      refine cw_reg ?_
      refine el_pv (v := u2) (pv_move rfl) (by decide) ?_
      replace hF := ob hF
      obtain ⟨r149, hr149, hF⟩ := hF
      refine el_call goes15 (laws_toIntS_ok (hS.up ha2) hr149) (congrArg List.toArray (mapc rfl rfl)) (by decide) ?_
      rintro _ w152 ⟨v150, rfl, hS'⟩
      refine ⟨_, rfl, ?_⟩
      have hx153 := hS'.below
      replace hS := hS.call1 hS'
      refine el_pv (v := v150) (pv_assign rfl) (by decide) ?_
      refine el_nil ?_
      refine hQ148 _ _ _ ?_
      refine thn_n ?_
      refine cw_seq ?_
      refine cw_gen ?_
      intro Q154 hQ154
      refine cw_reg ?_
      refine el_pv (v := .agg #[v137, v138]) (pv_loada (cs := [v137, v138]) rfl rfl (boxc0 (hS.boxAt 1 rfl))) (by decide) ?_
      refine el_pv (v := v150) (pv_move rfl) (by decide) ?_
      replace hF := ob hF
      obtain ⟨r155, hr155, hF⟩ := hF
      refine el_call goes16 (impl_FactorizedPrefixCount_ok (hS.rdAt (R := (sliceR intR 3)) 2 rfl) (hS.rdAt (R := (sliceR (pairR (sliceR intR 3) (sliceR intR 3)) 57)) 3 rfl) (hS.rdAt (R := (sliceR intR 3)) 0 rfl) hr155) (congrArg List.toArray (mapc rfl (mapc rfl rfl))) (by decide) ?_
      rintro _ w156 ⟨rfl, hx157⟩
      refine ⟨_, rfl, ?_⟩
      replace hS := hS.ext hx157
      refine el_pv (v := .int .i64 r155) (pv_assign rfl) (by decide) ?_
      refine el_nil ?_
      refine hQ154 _ _ _ ?_
      refine thn_n ?_
      refine cw_seq ?_
      refine cw_gen ?_
      intro Q158 hQ158
      refine cw_seq ?_
      refine cw_gen ?_
      intro Q159 hQ159
      refine cw_reg ?_
      refine el_pv (v := .int .i64 r155) (pv_move rfl) (by decide) ?_
      refine el_pv (v := .int .i64 r132) (pv_move rfl) (by decide) ?_
      refine el_pv (v := .bool (r155 != r132)) (pv_neq rfl rfl) (by decide) ?_
      refine el_nil ?_
      refine hQ159 _ _ _ ?_
      refine thn_n ?_
      replace hF := oif hF
      rcases hF with ⟨hb160, hF⟩ | ⟨hb160, hF⟩
      · refine cw_cond_t rfl hb160 ?_
        refine cw_seq ?_
        refine cw_gen ?_
        intro Q161 hQ161
        refine cw_reg ?_
        refine el_pv (v := .bool false) (pv_assign rfl) (by decide) ?_
        refine el_nil ?_
        refine hQ161 _ _ _ ?_
        refine thn_n ?_
        refine cw_ret ?_
        refine hQ158 _ _ _ ?_
        refine thn_r ?_
        refine fin1 rfl rfl ?_
        have hr := Option.some.inj hF
        exact ⟨congrArg (fun (r : Bool) => Ending.returned (.bool r)) hr, hS.below⟩
      · refine cw_cond_f rfl hb160 ?_
        refine cw_skip ?_
        refine hQ158 _ _ _ ?_
        refine thn_n ?_
        refine cw_seq ?_
        refine cw_gen ?_
        intro Q162 hQ162
        refine cw_seq ?_
        refine cw_gen ?_
        intro Q163 hQ163
        obtain ⟨C, hCd⟩ : ∃ C : World → Prop, ∀ w, C w ↔ ∃ G, Sat w0 w ([Box b144 30 [v137, v138], Box b103 25 [u0, u1], Own (sliceR intR 3) [v150] r149, Own (sliceR intR 3) [v137] r136.1, Own (sliceR (pairR (sliceR intR 3) (sliceR intR 3)) 57) [v138] r136.2, Own (sliceR intR 3) [v128] r127, Own (sliceR intR 3) [v121] r120.1, Own (sliceR (pairR (sliceR intR 3) (sliceR intR 3)) 57) [v122] r120.2] ++ G) := ⟨_, fun _ => Iff.rfl⟩
        refine cw_regb [0, 1, 2, 3, 4] C (by kernel_rfl) ?_
        intro w164 hx165
        replace hS := hS.ext hx165
        replace hS : Sat w0 w164 [Own (sliceR (pairR (sliceR intR 3) (sliceR intR 3)) 57) [v122] r120.2, Own (sliceR intR 3) [v150] r149, Box b144 30 [v137, v138], Own (sliceR intR 3) [v137] r136.1, Own (sliceR (pairR (sliceR intR 3) (sliceR intR 3)) 57) [v138] r136.2, Own (sliceR intR 3) [v128] r127, Own (sliceR intR 3) [v121] r120.1, Box b103 25 [u0, u1]] := hS.top 6 rfl
        replace hS : Sat w0 w164 [Own (sliceR intR 3) [v121] r120.1, Own (sliceR (pairR (sliceR intR 3) (sliceR intR 3)) 57) [v122] r120.2, Own (sliceR intR 3) [v150] r149, Box b144 30 [v137, v138], Own (sliceR intR 3) [v137] r136.1, Own (sliceR (pairR (sliceR intR 3) (sliceR intR 3)) 57) [v138] r136.2, Own (sliceR intR 3) [v128] r127, Box b103 25 [u0, u1]] := hS.top 6 rfl
        replace hS : Sat w0 w164 [Own (sliceR intR 3) [v128] r127, Own (sliceR intR 3) [v121] r120.1, Own (sliceR (pairR (sliceR intR 3) (sliceR intR 3)) 57) [v122] r120.2, Own (sliceR intR 3) [v150] r149, Box b144 30 [v137, v138], Own (sliceR intR 3) [v137] r136.1, Own (sliceR (pairR (sliceR intR 3) (sliceR intR 3)) 57) [v138] r136.2, Box b103 25 [u0, u1]] := hS.top 6 rfl
        replace hS : Sat w0 w164 [Own (sliceR (pairR (sliceR intR 3) (sliceR intR 3)) 57) [v138] r136.2, Own (sliceR intR 3) [v128] r127, Own (sliceR intR 3) [v121] r120.1, Own (sliceR (pairR (sliceR intR 3) (sliceR intR 3)) 57) [v122] r120.2, Own (sliceR intR 3) [v150] r149, Box b144 30 [v137, v138], Own (sliceR intR 3) [v137] r136.1, Box b103 25 [u0, u1]] := hS.top 6 rfl
        replace hS : Sat w0 w164 [Own (sliceR intR 3) [v137] r136.1, Own (sliceR (pairR (sliceR intR 3) (sliceR intR 3)) 57) [v138] r136.2, Own (sliceR intR 3) [v128] r127, Own (sliceR intR 3) [v121] r120.1, Own (sliceR (pairR (sliceR intR 3) (sliceR intR 3)) 57) [v122] r120.2, Own (sliceR intR 3) [v150] r149, Box b144 30 [v137, v138], Box b103 25 [u0, u1]] := hS.top 6 rfl
        replace hS : Sat w0 w164 [Own (sliceR intR 3) [v150] r149, Own (sliceR intR 3) [v137] r136.1, Own (sliceR (pairR (sliceR intR 3) (sliceR intR 3)) 57) [v138] r136.2, Own (sliceR intR 3) [v128] r127, Own (sliceR intR 3) [v121] r120.1, Own (sliceR (pairR (sliceR intR 3) (sliceR intR 3)) 57) [v122] r120.2, Box b144 30 [v137, v138], Box b103 25 [u0, u1]] := hS.top 5 rfl
        replace hS : Sat w0 w164 [Box b103 25 [u0, u1], Own (sliceR intR 3) [v150] r149, Own (sliceR intR 3) [v137] r136.1, Own (sliceR (pairR (sliceR intR 3) (sliceR intR 3)) 57) [v138] r136.2, Own (sliceR intR 3) [v128] r127, Own (sliceR intR 3) [v121] r120.1, Own (sliceR (pairR (sliceR intR 3) (sliceR intR 3)) 57) [v122] r120.2, Box b144 30 [v137, v138]] := hS.top 7 rfl
        replace hS : Sat w0 w164 [Box b144 30 [v137, v138], Box b103 25 [u0, u1], Own (sliceR intR 3) [v150] r149, Own (sliceR intR 3) [v137] r136.1, Own (sliceR (pairR (sliceR intR 3) (sliceR intR 3)) 57) [v138] r136.2, Own (sliceR intR 3) [v128] r127, Own (sliceR intR 3) [v121] r120.1, Own (sliceR (pairR (sliceR intR 3) (sliceR intR 3)) 57) [v122] r120.2] := hS.top 7 rfl
        have hC := (hCd _).2 ⟨_, hS⟩
        refine al_p (v := .agg #[v137, v138]) (by kernel_rfl) 0 rfl rfl (by decide) hC (by kernel_rfl) (by kernel_rfl) (sv_on rfl (fun w' hw' => by obtain ⟨_, hS⟩ := (hCd _).1 hw'; exact (pv_loada (cs := [v137, v138]) rfl rfl (boxc0 (hS.boxAt 0 rfl))))) ?_
        refine al_p (v := .agg #[u0, u1]) (by kernel_rfl) 1 rfl rfl (by decide) hC (by kernel_rfl) (by kernel_rfl) (sv_on rfl (fun w' hw' => by obtain ⟨_, hS⟩ := (hCd _).1 hw'; exact (pv_loada (cs := [u0, u1]) rfl rfl (boxc0 (hS.boxAt 1 rfl))))) ?_
        refine al_one 2 (by kernel_rfl) rfl ?_
        replace hF := ob hF
        obtain ⟨r166, hr166, hF⟩ := hF
        refine el_call goes11 (laws_toFactorization_ok (hS.up ha0) (hS.up ha1) hr166) (congrArg List.toArray (mapc rfl rfl)) (by decide) ?_
        rintro _ w171 ⟨v167, v168, rfl, hS'⟩
        refine ⟨_, rfl, ?_⟩
        have hx172 := hS'.below
        replace hS := hS.call2 hS'
        refine el_nil ?_
        replace hS : Sat w0 w171 [Own (sliceR (pairR (sliceR intR 3) (sliceR intR 3)) 57) [v122] r120.2, Own (sliceR intR 3) [v167] r166.1, Own (sliceR (pairR (sliceR intR 3) (sliceR intR 3)) 57) [v168] r166.2, Box b144 30 [v137, v138], Box b103 25 [u0, u1], Own (sliceR intR 3) [v150] r149, Own (sliceR intR 3) [v137] r136.1, Own (sliceR (pairR (sliceR intR 3) (sliceR intR 3)) 57) [v138] r136.2, Own (sliceR intR 3) [v128] r127, Own (sliceR intR 3) [v121] r120.1] := hS.top 9 rfl
        replace hS : Sat w0 w171 [Own (sliceR intR 3) [v121] r120.1, Own (sliceR (pairR (sliceR intR 3) (sliceR intR 3)) 57) [v122] r120.2, Own (sliceR intR 3) [v167] r166.1, Own (sliceR (pairR (sliceR intR 3) (sliceR intR 3)) 57) [v168] r166.2, Box b144 30 [v137, v138], Box b103 25 [u0, u1], Own (sliceR intR 3) [v150] r149, Own (sliceR intR 3) [v137] r136.1, Own (sliceR (pairR (sliceR intR 3) (sliceR intR 3)) 57) [v138] r136.2, Own (sliceR intR 3) [v128] r127] := hS.top 9 rfl
        replace hS : Sat w0 w171 [Own (sliceR intR 3) [v128] r127, Own (sliceR intR 3) [v121] r120.1, Own (sliceR (pairR (sliceR intR 3) (sliceR intR 3)) 57) [v122] r120.2, Own (sliceR intR 3) [v167] r166.1, Own (sliceR (pairR (sliceR intR 3) (sliceR intR 3)) 57) [v168] r166.2, Box b144 30 [v137, v138], Box b103 25 [u0, u1], Own (sliceR intR 3) [v150] r149, Own (sliceR intR 3) [v137] r136.1, Own (sliceR (pairR (sliceR intR 3) (sliceR intR 3)) 57) [v138] r136.2] := hS.top 9 rfl
        replace hS : Sat w0 w171 [Own (sliceR (pairR (sliceR intR 3) (sliceR intR 3)) 57) [v138] r136.2, Own (sliceR intR 3) [v128] r127, Own (sliceR intR 3) [v121] r120.1, Own (sliceR (pairR (sliceR intR 3) (sliceR intR 3)) 57) [v122] r120.2, Own (sliceR intR 3) [v167] r166.1, Own (sliceR (pairR (sliceR intR 3) (sliceR intR 3)) 57) [v168] r166.2, Box b144 30 [v137, v138], Box b103 25 [u0, u1], Own (sliceR intR 3) [v150] r149, Own (sliceR intR 3) [v137] r136.1] := hS.top 9 rfl
        replace hS : Sat w0 w171 [Own (sliceR intR 3) [v137] r136.1, Own (sliceR (pairR (sliceR intR 3) (sliceR intR 3)) 57) [v138] r136.2, Own (sliceR intR 3) [v128] r127, Own (sliceR intR 3) [v121] r120.1, Own (sliceR (pairR (sliceR intR 3) (sliceR intR 3)) 57) [v122] r120.2, Own (sliceR intR 3) [v167] r166.1, Own (sliceR (pairR (sliceR intR 3) (sliceR intR 3)) 57) [v168] r166.2, Box b144 30 [v137, v138], Box b103 25 [u0, u1], Own (sliceR intR 3) [v150] r149] := hS.top 9 rfl
        replace hS : Sat w0 w171 [Own (sliceR intR 3) [v150] r149, Own (sliceR intR 3) [v137] r136.1, Own (sliceR (pairR (sliceR intR 3) (sliceR intR 3)) 57) [v138] r136.2, Own (sliceR intR 3) [v128] r127, Own (sliceR intR 3) [v121] r120.1, Own (sliceR (pairR (sliceR intR 3) (sliceR intR 3)) 57) [v122] r120.2, Own (sliceR intR 3) [v167] r166.1, Own (sliceR (pairR (sliceR intR 3) (sliceR intR 3)) 57) [v168] r166.2, Box b144 30 [v137, v138], Box b103 25 [u0, u1]] := hS.top 9 rfl
        replace hS : Sat w0 w171 [Box b103 25 [u0, u1], Own (sliceR intR 3) [v150] r149, Own (sliceR intR 3) [v137] r136.1, Own (sliceR (pairR (sliceR intR 3) (sliceR intR 3)) 57) [v138] r136.2, Own (sliceR intR 3) [v128] r127, Own (sliceR intR 3) [v121] r120.1, Own (sliceR (pairR (sliceR intR 3) (sliceR intR 3)) 57) [v122] r120.2, Own (sliceR intR 3) [v167] r166.1, Own (sliceR (pairR (sliceR intR 3) (sliceR intR 3)) 57) [v168] r166.2, Box b144 30 [v137, v138]] := hS.top 9 rfl
        replace hS : Sat w0 w171 [Box b144 30 [v137, v138], Box b103 25 [u0, u1], Own (sliceR intR 3) [v150] r149, Own (sliceR intR 3) [v137] r136.1, Own (sliceR (pairR (sliceR intR 3) (sliceR intR 3)) 57) [v138] r136.2, Own (sliceR intR 3) [v128] r127, Own (sliceR intR 3) [v121] r120.1, Own (sliceR (pairR (sliceR intR 3) (sliceR intR 3)) 57) [v122] r120.2, Own (sliceR intR 3) [v167] r166.1, Own (sliceR (pairR (sliceR intR 3) (sliceR intR 3)) 57) [v168] r166.2] := hS.top 9 rfl
        have hC := (hCd _).2 ⟨_, hS⟩
        have hoc150 := oc (hS.rdAt (R := (sliceR intR 3)) 2 rfl)
        have hoc137 := oc (hS.rdAt (R := (sliceR intR 3)) 3 rfl)
        have hoc138 := oc (hS.rdAt (R := (sliceR (pairR (sliceR intR 3) (sliceR intR 3)) 57)) 4 rfl)
        have hoc128 := oc (hS.rdAt (R := (sliceR intR 3)) 5 rfl)
        have hoc121 := oc (hS.rdAt (R := (sliceR intR 3)) 6 rfl)
        have hoc122 := oc (hS.rdAt (R := (sliceR (pairR (sliceR intR 3) (sliceR intR 3)) 57)) 7 rfl)
        have hoc167 := oc (hS.rdAt (R := (sliceR intR 3)) 8 rfl)
        have hoc168 := oc (hS.rdAt (R := (sliceR (pairR (sliceR intR 3) (sliceR intR 3)) 57)) 9 rfl)
        refine ⟨fun _ => hC, ?_⟩
        refine al_one 3 (by kernel_rfl) rfl ?_
        replace hF := ob hF
        obtain ⟨r173, hr173, hF⟩ := hF
        refine el_call goes13 (laws_eqFactorization_ok (hS.rdAt (R := (sliceR intR 3)) 3 rfl) (hS.rdAt (R := (sliceR (pairR (sliceR intR 3) (sliceR intR 3)) 57)) 4 rfl) (hS.rdAt (R := (sliceR intR 3)) 8 rfl) (hS.rdAt (R := (sliceR (pairR (sliceR intR 3) (sliceR intR 3)) 57)) 9 rfl) hr173) (congrArg List.toArray (mapc rfl (mapc rfl rfl))) (by decide) ?_
        rintro _ w174 ⟨rfl, hx175⟩
        refine ⟨_, rfl, ?_⟩
        replace hS := hS.ext hx175
        refine el_nil ?_
        replace hS : Sat w0 w174 [Own (sliceR (pairR (sliceR intR 3) (sliceR intR 3)) 57) [v122] r120.2, Box b144 30 [v137, v138], Box b103 25 [u0, u1], Own (sliceR intR 3) [v150] r149, Own (sliceR intR 3) [v137] r136.1, Own (sliceR (pairR (sliceR intR 3) (sliceR intR 3)) 57) [v138] r136.2, Own (sliceR intR 3) [v128] r127, Own (sliceR intR 3) [v121] r120.1, Own (sliceR intR 3) [v167] r166.1, Own (sliceR (pairR (sliceR intR 3) (sliceR intR 3)) 57) [v168] r166.2] := hS.top 7 rfl
        replace hS : Sat w0 w174 [Own (sliceR intR 3) [v121] r120.1, Own (sliceR (pairR (sliceR intR 3) (sliceR intR 3)) 57) [v122] r120.2, Box b144 30 [v137, v138], Box b103 25 [u0, u1], Own (sliceR intR 3) [v150] r149, Own (sliceR intR 3) [v137] r136.1, Own (sliceR (pairR (sliceR intR 3) (sliceR intR 3)) 57) [v138] r136.2, Own (sliceR intR 3) [v128] r127, Own (sliceR intR 3) [v167] r166.1, Own (sliceR (pairR (sliceR intR 3) (sliceR intR 3)) 57) [v168] r166.2] := hS.top 7 rfl
        replace hS : Sat w0 w174 [Own (sliceR intR 3) [v128] r127, Own (sliceR intR 3) [v121] r120.1, Own (sliceR (pairR (sliceR intR 3) (sliceR intR 3)) 57) [v122] r120.2, Box b144 30 [v137, v138], Box b103 25 [u0, u1], Own (sliceR intR 3) [v150] r149, Own (sliceR intR 3) [v137] r136.1, Own (sliceR (pairR (sliceR intR 3) (sliceR intR 3)) 57) [v138] r136.2, Own (sliceR intR 3) [v167] r166.1, Own (sliceR (pairR (sliceR intR 3) (sliceR intR 3)) 57) [v168] r166.2] := hS.top 7 rfl
        replace hS : Sat w0 w174 [Own (sliceR (pairR (sliceR intR 3) (sliceR intR 3)) 57) [v138] r136.2, Own (sliceR intR 3) [v128] r127, Own (sliceR intR 3) [v121] r120.1, Own (sliceR (pairR (sliceR intR 3) (sliceR intR 3)) 57) [v122] r120.2, Box b144 30 [v137, v138], Box b103 25 [u0, u1], Own (sliceR intR 3) [v150] r149, Own (sliceR intR 3) [v137] r136.1, Own (sliceR intR 3) [v167] r166.1, Own (sliceR (pairR (sliceR intR 3) (sliceR intR 3)) 57) [v168] r166.2] := hS.top 7 rfl
        replace hS : Sat w0 w174 [Own (sliceR intR 3) [v137] r136.1, Own (sliceR (pairR (sliceR intR 3) (sliceR intR 3)) 57) [v138] r136.2, Own (sliceR intR 3) [v128] r127, Own (sliceR intR 3) [v121] r120.1, Own (sliceR (pairR (sliceR intR 3) (sliceR intR 3)) 57) [v122] r120.2, Box b144 30 [v137, v138], Box b103 25 [u0, u1], Own (sliceR intR 3) [v150] r149, Own (sliceR intR 3) [v167] r166.1, Own (sliceR (pairR (sliceR intR 3) (sliceR intR 3)) 57) [v168] r166.2] := hS.top 7 rfl
        replace hS : Sat w0 w174 [Own (sliceR intR 3) [v150] r149, Own (sliceR intR 3) [v137] r136.1, Own (sliceR (pairR (sliceR intR 3) (sliceR intR 3)) 57) [v138] r136.2, Own (sliceR intR 3) [v128] r127, Own (sliceR intR 3) [v121] r120.1, Own (sliceR (pairR (sliceR intR 3) (sliceR intR 3)) 57) [v122] r120.2, Box b144 30 [v137, v138], Box b103 25 [u0, u1], Own (sliceR intR 3) [v167] r166.1, Own (sliceR (pairR (sliceR intR 3) (sliceR intR 3)) 57) [v168] r166.2] := hS.top 7 rfl
        replace hS : Sat w0 w174 [Box b103 25 [u0, u1], Own (sliceR intR 3) [v150] r149, Own (sliceR intR 3) [v137] r136.1, Own (sliceR (pairR (sliceR intR 3) (sliceR intR 3)) 57) [v138] r136.2, Own (sliceR intR 3) [v128] r127, Own (sliceR intR 3) [v121] r120.1, Own (sliceR (pairR (sliceR intR 3) (sliceR intR 3)) 57) [v122] r120.2, Box b144 30 [v137, v138], Own (sliceR intR 3) [v167] r166.1, Own (sliceR (pairR (sliceR intR 3) (sliceR intR 3)) 57) [v168] r166.2] := hS.top 7 rfl
        replace hS : Sat w0 w174 [Box b144 30 [v137, v138], Box b103 25 [u0, u1], Own (sliceR intR 3) [v150] r149, Own (sliceR intR 3) [v137] r136.1, Own (sliceR (pairR (sliceR intR 3) (sliceR intR 3)) 57) [v138] r136.2, Own (sliceR intR 3) [v128] r127, Own (sliceR intR 3) [v121] r120.1, Own (sliceR (pairR (sliceR intR 3) (sliceR intR 3)) 57) [v122] r120.2, Own (sliceR intR 3) [v167] r166.1, Own (sliceR (pairR (sliceR intR 3) (sliceR intR 3)) 57) [v168] r166.2] := hS.top 7 rfl
        have hC := (hCd _).2 ⟨_, hS⟩
        refine ⟨fun _ => hC, ?_⟩
        refine al_p (v := .bool (!r173)) (by kernel_rfl) 4 rfl rfl (by decide) hC (by kernel_rfl) (by kernel_rfl) (sv_on rfl (fun w' hw' => by obtain ⟨_, hS⟩ := (hCd _).1 hw'; exact (pv_not rfl))) ?_
        refine al_nil (by kernel_rfl) ?_
        refine hQ163 _ _ _ ?_
        refine thn_n ?_
        replace hF := oif hF
        rcases hF with ⟨hb176, hF⟩ | ⟨hb176, hF⟩
        · refine cw_cond_f rfl (bnot_t hb176) ?_
          refine cw_skip ?_
          refine hQ162 _ _ _ ?_
          refine thn_n ?_
          refine cw_seq ?_
          refine cw_gen ?_
          intro Q177 hQ177
          refine cw_seq ?_
          refine cw_gen ?_
          intro Q178 hQ178
          refine cw_reg ?_
          refine el_pv (v := v150) (pv_move rfl) (by decide) ?_
          refine el_pv (v := u2) (pv_move rfl) (by decide) ?_
          replace hF := ob hF
          obtain ⟨r179, hr179, hF⟩ := hF
          refine el_call goes15 (laws_toIntS_ok (hS.up ha2) hr179) (congrArg List.toArray (mapc rfl rfl)) (by decide) ?_
          rintro _ w182 ⟨v180, rfl, hS'⟩
          refine ⟨_, rfl, ?_⟩
          have hx183 := hS'.below
          replace hS := hS.call1 hS'
          replace hF := ob hF
          obtain ⟨r184, hr184, hF⟩ := hF
          refine el_call goes17 (laws_eqIntS_ok (hS.rdAt (R := (sliceR intR 3)) 3 rfl) (hS.rdAt (R := (sliceR intR 3)) 0 rfl) hr184) (congrArg List.toArray (mapc rfl (mapc rfl rfl))) (by decide) ?_
          rintro _ w185 ⟨rfl, hx186⟩
          refine ⟨_, rfl, ?_⟩
          replace hS := hS.ext hx186
          refine el_pv (v := .bool (!r184)) (pv_not rfl) (by decide) ?_
          refine el_nil ?_
          refine hQ178 _ _ _ ?_
          refine thn_n ?_
          replace hF := oif hF
          rcases hF with ⟨hb187, hF⟩ | ⟨hb187, hF⟩
          · refine cw_cond_f rfl (bnot_t hb187) ?_
            refine cw_skip ?_
            refine hQ177 _ _ _ ?_
            refine thn_n ?_
            refine cw_seq ?_
            refine cw_gen ?_
            intro Q188 hQ188
            refine cw_reg ?_
            refine el_pv (v := .bool true) (pv_assign rfl) (by decide) ?_
            refine el_nil ?_
            refine hQ188 _ _ _ ?_
            refine thn_n ?_
            refine cw_ret ?_
            refine fin1 rfl rfl ?_
            have hr := Option.some.inj hF
            exact ⟨congrArg (fun (r : Bool) => Ending.returned (.bool r)) hr, hS.below⟩
          · refine cw_cond_t rfl (bnot_f hb187) ?_
            refine cw_seq ?_
            refine cw_gen ?_
            intro Q189 hQ189
            refine cw_reg ?_
            refine el_pv (v := .bool false) (pv_assign rfl) (by decide) ?_
            refine el_nil ?_
            refine hQ189 _ _ _ ?_
            refine thn_n ?_
            refine cw_ret ?_
            refine hQ177 _ _ _ ?_
            refine thn_r ?_
            refine fin1 rfl rfl ?_
            have hr := Option.some.inj hF
            exact ⟨congrArg (fun (r : Bool) => Ending.returned (.bool r)) hr, hS.below⟩
        · refine cw_cond_t rfl (bnot_f hb176) ?_
          refine cw_seq ?_
          refine cw_gen ?_
          intro Q190 hQ190
          refine cw_reg ?_
          refine el_pv (v := .bool false) (pv_assign rfl) (by decide) ?_
          refine el_nil ?_
          refine hQ190 _ _ _ ?_
          refine thn_n ?_
          refine cw_ret ?_
          refine hQ162 _ _ _ ?_
          refine thn_r ?_
          refine fin1 rfl rfl ?_
          have hr := Option.some.inj hF
          exact ⟨congrArg (fun (r : Bool) => Ending.returned (.bool r)) hr, hS.below⟩
set_option maxHeartbeats 4000000 in
theorem spec_FactorizedRank_ok {w0 : World} {u0 : Value} {a0 : List Int} {u1 : Value} {a1 : List (List Int × List Int)} {u2 : Value} {a2 : List Int} (ha0 : (sliceR intR 3).rd w0 [u0] a0) (ha1 : (sliceR (pairR (sliceR intR 3) (sliceR intR 3)) 57).rd w0 [u1] a1) (ha2 : (sliceR intR 3).rd w0 [u2] a2) {N : Nat} {r : Int × Bool} (hF : spec_FactorizedRank N a0 a1 a2 = some r) :
    Calls Try.prog 18 #[.agg #[u0, u1], u2] w0 fun e w' => e = .returned (.tuple #[.int .i64 r.1, .bool r.2]) ∧ Ext w0 w' := by
  unfold spec_FactorizedRank at hF
  refine calls_E Try.func18 rfl rfl (of_decide_eq_true rfl) ?_
  have hS := Sat.start w0
  refine cw_seq ?_
  refine cw_gen ?_
  intro Q101 hQ101
  refine cw_reg ?_
  refine el_box [u0, u1] rfl hS (by decide) ?_
  intro w102 b103 hS hx104
  refine el_pv (v := .int .i64 0) (pv_assign rfl) (by decide) ?_
  refine el_pv (v := .bool false) (pv_assign rfl) (by decide) ?_
  refine el_nil ?_
  refine hQ101 _ _ _ ?_
  refine thn_n ?_
  refine cw_seq ?_
  refine cw_gen ?_
  intro Q106 hQ106
  refine cw_seq ?_
  refine cw_gen ?_
  intro Q107 hQ107
  refine cw_reg ?_
  refine el_pv (v := .agg #[u0, u1]) (pv_loada (cs := [u0, u1]) rfl rfl (boxc0 (hS.boxAt 0 rfl))) (by decide) ?_
  replace hF := ob hF
  obtain ⟨r108, hr108, hF⟩ := hF
  refine el_call goes34 (spec_IsValidFactorization_ok (hS.up ha0) (hS.up ha1) hr108) (congrArg List.toArray (mapc rfl rfl)) (by decide) ?_
  rintro _ w109 ⟨rfl, hx110⟩
  refine ⟨_, rfl, ?_⟩
  replace hS := hS.ext hx110
  refine el_pv (v := .bool (!r108)) (pv_not rfl) (by decide) ?_
  refine el_pv (v := .bool (!r108)) (pv_move rfl) (by decide) ?_
  replace hF := oif hF
  rcases hF with ⟨hb111, hF⟩ | ⟨hb111, hF⟩
  · refine el_on rfl (bnot_t hb111) ?_
    refine el_pv (v := u2) (pv_move rfl) (by decide) ?_
    refine el_on rfl (bnot_t hb111) ?_
    refine el_pv (v := .int .i64 (a2.length : Int)) (pv_len rfl ha2) (by decide) ?_
    refine el_on rfl (bnot_t hb111) ?_
    refine el_pv (v := .pointer (some ⟨b103, 0 + 0, none⟩)) (pv_fieldAddr rfl) (by decide) ?_
    refine el_on rfl (bnot_t hb111) ?_
    refine el_pv (v := u0) (pv_loadc rfl ((hS.boxAt 0 rfl) 0 _ rfl)) (by decide) ?_
    refine el_on rfl (bnot_t hb111) ?_
    refine el_pv (v := .int .i64 (a0.length : Int)) (pv_len rfl ha0) (by decide) ?_
    refine el_on rfl (bnot_t hb111) ?_
    refine el_pv (v := .bool ((a2.length : Int) != (a0.length : Int))) (pv_neq rfl rfl) (by decide) ?_
    refine el_pv (v := .bool ((a2.length : Int) != (a0.length : Int))) (pv_pick_f rfl (bnot_t hb111) rfl) (by decide) ?_
    refine el_nil ?_
    refine hQ107 _ _ _ ?_
    refine thn_n ?_
    replace hF := oif hF
    rcases hF with ⟨hb112, hF⟩ | ⟨hb112, hF⟩
    · refine cw_cond_t rfl hb112 ?_
      refine cw_seq ?_
      refine cw_gen ?_
      intro Q113 hQ113
      refine cw_reg ?_
      refine el_pv (v := .int .i64 0) (pv_assign rfl) (by decide) ?_
      refine el_pv (v := .bool false) (pv_assign rfl) (by decide) ?_
      refine el_nil ?_
      refine hQ113 _ _ _ ?_
      refine thn_n ?_
      refine cw_ret ?_
      refine hQ106 _ _ _ ?_
      refine thn_r ?_
      refine fin2 rfl rfl rfl ?_
      have hr := Option.some.inj hF
      exact ⟨congrArg (fun (r : Int × Bool) => Ending.returned (.tuple #[.int .i64 r.1, .bool r.2])) hr, hS.below⟩
    · refine cw_cond_f rfl hb112 ?_
      refine cw_skip ?_
      refine hQ106 _ _ _ ?_
      refine thn_n ?_
      refine cw_seq ?_
      refine cw_gen ?_
      intro Q114 hQ114
      refine cw_reg ?_
      refine el_pv (v := .agg #[u0, u1]) (pv_loada (cs := [u0, u1]) rfl rfl (boxc0 (hS.boxAt 0 rfl))) (by decide) ?_
      replace hF := ob hF
      obtain ⟨r115, hr115, hF⟩ := hF
      refine el_call goes35 (spec_l23Counts_ok (hS.up ha0) (hS.up ha1) hr115) (congrArg List.toArray (mapc rfl rfl)) (by decide) ?_
      rintro _ w118 ⟨v116, rfl, hS'⟩
      refine ⟨_, rfl, ?_⟩
      have hx119 := hS'.below
      replace hS := hS.call1 hS'
      refine el_pv (v := v116) (pv_assign rfl) (by decide) ?_
      refine el_nil ?_
      refine hQ114 _ _ _ ?_
      refine thn_n ?_
      refine cw_seq ?_
      refine cw_gen ?_
      intro Q120 hQ120
      refine cw_reg ?_
      refine el_pv (v := .int .i64 0) (pv_assign rfl) (by decide) ?_
      refine el_nil ?_
      refine hQ120 _ _ _ ?_
      refine thn_n ?_
      refine cw_seq ?_
      refine cw_gen ?_
      intro Q121 hQ121
      refine cw_reg ?_
      refine el_pv (v := .pointer (some ⟨b103, 0 + 1, none⟩)) (pv_fieldAddr rfl) (by decide) ?_
      refine el_pv (v := u1) (pv_loadc rfl ((hS.boxAt 1 rfl) 1 _ rfl)) (by decide) ?_
      refine el_pv (v := .int .i64 (a1.length : Int)) (pv_len rfl ha1) (by decide) ?_
      replace hF := ob hF
      obtain ⟨x122, hx122, hF⟩ := hF
      refine el_pv (v := .int .i64 x122) (pv_sub rfl rfl hx122) (by decide) ?_
      refine el_pv (v := .int .i64 x122) (pv_assign rfl) (by decide) ?_
      refine el_nil ?_
      refine hQ121 _ _ _ ?_
      refine thn_n ?_
      refine cw_seq ?_
      refine cw_gen ?_
      intro Q123 hQ123
      refine cw_seq ?_
      refine cw_gen ?_
      intro Q124 hQ124
      refine cw_reg ?_
      refine el_pv (v := .int .i64 0) (pv_assign rfl) (by decide) ?_
      refine el_nil ?_
      refine hQ124 _ _ _ ?_
      refine thn_n ?_
      refine cw_block ?_
      refine cw_gen ?_
      intro Q125 hQ125
      obtain ⟨s126, hL, hK127⟩ := ob hF
      refine cw_loopS (fun k e w => ∃ (x128 : Int), ∃ (x129 : Int), ∃ (x130 : Int), e 1 = u2 ∧ e 2 = .pointer (some ⟨b103, 0, none⟩) ∧ e 6 = v116 ∧ e 7 = .int .i64 x128 ∧ e 8 = .int .i64 x129 ∧ e 9 = .int .i64 x130 ∧ Sat w0 w [Own (sliceR intR 3) [v116] r115, Box b103 30 [u0, u1]] ∧ spec_FactorizedRank_L1 N k a2 a0 a1 r115 x128 x129 x130 = some s126) N ?_ ?_ ?_
      · exact ⟨0, x122, 0, rfl, rfl, rfl, rfl, rfl, rfl, hS, hL⟩
      · rintro e w ⟨_, _, _, _, _, _, _, _, _, _, hz⟩; exact nomatch (show none = some _ from hz)
      · rintro k e138 w137 ⟨x128, x129, x130, he131, he132, he133, he134, he135, he136, hS, hF⟩
        refine cw_gen ?_
        intro Q139 hQ139
        refine cw_seq ?_
        refine cw_gen ?_
        intro Q140 hQ140
        refine cw_seq ?_
        refine cw_gen ?_
        intro Q141 hQ141
        refine cw_reg ?_
        refine el_pv (v := .int .i64 x130) (pv_move he136) (by decide) ?_
        refine el_pv (v := u2) (pv_move he131) (by decide) ?_
        refine el_pv (v := .int .i64 (a2.length : Int)) (pv_len rfl ha2) (by decide) ?_
        refine el_pv (v := .bool (decide (x130 < (a2.length : Int)))) (pv_lss rfl rfl) (by decide) ?_
        refine el_nil ?_
        refine hQ141 _ _ _ ?_
        refine thn_n ?_
        replace hF := oif hF
        rcases hF with ⟨hb142, hF⟩ | ⟨hb142, hF⟩
        · refine cw_cond_t rfl hb142 ?_
          refine cw_skip ?_
          refine hQ140 _ _ _ ?_
          refine thn_n ?_
          refine cw_seq ?_
          refine cw_gen ?_
          intro Q143 hQ143
          refine cw_block ?_
          refine cw_gen ?_
          intro Q144 hQ144
          refine cw_seq ?_
          refine cw_gen ?_
          intro Q145 hQ145
          refine cw_reg ?_
          refine el_pv (v := .int .i64 (-1)) (pv_assign rfl) (by decide) ?_
          refine el_nil ?_
          refine hQ145 _ _ _ ?_
          refine thn_n ?_
          refine cw_seq ?_
          refine cw_gen ?_
          intro Q146 hQ146
          refine cw_seq ?_
          refine cw_gen ?_
          intro Q147 hQ147
          refine cw_reg ?_
          refine el_pv (v := .int .i64 0) (pv_assign rfl) (by decide) ?_
          refine el_nil ?_
          refine hQ147 _ _ _ ?_
          refine thn_n ?_
          refine cw_block ?_
          refine cw_gen ?_
          intro Q148 hQ148
          obtain ⟨s149, hL, hK150⟩ := ob hF
          refine cw_loopS (fun k e w => ∃ (x151 : Int), ∃ (x152 : Int), ∃ (x153 : Int), e 1 = u2 ∧ e 2 = .pointer (some ⟨b103, 0, none⟩) ∧ e 6 = v116 ∧ e 7 = .int .i64 x151 ∧ e 8 = .int .i64 x129 ∧ e 9 = .int .i64 x130 ∧ e 10 = .int .i64 x152 ∧ e 11 = .int .i64 x153 ∧ Sat w0 w [Own (sliceR intR 3) [v116] r115, Box b103 30 [u0, u1]] ∧ spec_FactorizedRank_L2 N k a2 a0 a1 r115 x151 x129 x130 x152 x153 = some s149) N ?_ ?_ ?_
          · exact ⟨x128, (-1), 0, he131, he132, he133, he134, he135, he136, rfl, rfl, hS, hL⟩
          · rintro e w ⟨_, _, _, _, _, _, _, _, _, _, _, _, hz⟩; exact nomatch (show none = some _ from hz)
          · rintro k e163 w162 ⟨x151, x152, x153, he154, he155, he156, he157, he158, he159, he160, he161, hS, hF⟩
            refine cw_gen ?_
            intro Q164 hQ164
            refine cw_seq ?_
            refine cw_gen ?_
            intro Q165 hQ165
            refine cw_seq ?_
            refine cw_gen ?_
            intro Q166 hQ166
            refine cw_reg ?_
            refine el_pv (v := .int .i64 x153) (pv_move he161) (by decide) ?_
            refine el_pv (v := .pointer (some ⟨b103, 0 + 1, none⟩)) (pv_fieldAddr he155) (by decide) ?_
            refine el_pv (v := u1) (pv_loadc rfl ((hS.boxAt 1 rfl) 1 _ rfl)) (by decide) ?_
            refine el_pv (v := .int .i64 x129) (pv_move he158) (by decide) ?_
            replace hF := ob hF
            obtain ⟨x167, hx167, hF⟩ := hF
            refine el_index (wA := w0) rfl ha1 rfl (by decide) rfl hx167 (by decide) ?_
            intro b168 of169 c170 hr171 hm172
            obtain ⟨_, _, rfl, hr173, hr174⟩ := hr171
            obtain ⟨v175, rfl⟩ := slice_one hr173
            obtain ⟨v176, rfl⟩ := slice_one hr174
            refine el_pv (v := .pointer (some ⟨b168, of169 + 0, none⟩)) (pv_fieldAddr rfl) (by decide) ?_
            refine el_pv (v := v175) (pv_loadc rfl ((cells_up hS.below hm172) 0 _ rfl)) (by decide) ?_
            refine el_pv (v := .int .i64 (x167.1.length : Int)) (pv_len rfl hr173) (by decide) ?_
            refine el_pv (v := .bool (decide (x153 < (x167.1.length : Int)))) (pv_lss rfl rfl) (by decide) ?_
            refine el_nil ?_
            refine hQ166 _ _ _ ?_
            refine thn_n ?_
            replace hF := oif hF
            rcases hF with ⟨hb177, hF⟩ | ⟨hb177, hF⟩
            · refine cw_cond_t rfl hb177 ?_
              refine cw_skip ?_
              refine hQ165 _ _ _ ?_
              refine thn_n ?_
              refine cw_seq ?_
              refine cw_gen ?_
              intro Q178 hQ178
              refine cw_block ?_
              refine cw_gen ?_
              intro Q179 hQ179
              refine cw_seq ?_
              refine cw_gen ?_
              intro Q180 hQ180
              refine cw_seq ?_
              refine cw_gen ?_
              intro Q181 hQ181
              refine cw_regq (by kernel_rfl) (by kernel_rfl) ?_
              refine ql_pv (v := .pointer (some ⟨b103, 0 + 1, none⟩)) (pv_fieldAddr he155) (by decide) ?_
              refine ql_pv (v := u1) (pv_loadc rfl ((hS.boxAt 1 rfl) 1 _ rfl)) (by decide) ?_
              refine ql_pv (v := .int .i64 x129) (pv_move he158) (by decide) ?_
              replace hF := ob hF
              obtain ⟨x182, hx182, hF⟩ := hF
              refine ql_index (wA := w0) rfl ha1 rfl (by decide) rfl hx182 (by decide) ?_
              intro b183 of184 c185 hr186 hm187
              obtain ⟨_, _, rfl, hr188, hr189⟩ := hr186
              obtain ⟨v190, rfl⟩ := slice_one hr188
              obtain ⟨v191, rfl⟩ := slice_one hr189
              refine ql_pv (v := .pointer (some ⟨b183, of184 + 0, none⟩)) (pv_fieldAddr rfl) (by decide) ?_
              refine ql_pv (v := v190) (pv_loadc rfl ((cells_up hS.below hm187) 0 _ rfl)) (by decide) ?_
              refine ql_pv (v := .int .i64 x153) (pv_move he161) (by decide) ?_
              replace hF := ob hF
              obtain ⟨x192, hx192, hF⟩ := hF
              refine ql_index (wA := w0) rfl hr188 rfl (by decide) rfl hx192 (by decide) ?_
              intro b193 of194 c195 hr196 hm197
              obtain rfl := hr196
              refine ql_pv (v := .int .i64 x192) (pv_loadc rfl ((cells_up hS.below hm197) 0 _ rfl)) (by decide) ?_
              refine ql_pv (v := u2) (pv_move he154) (by decide) ?_
              refine ql_pv (v := .int .i64 x130) (pv_move he159) (by decide) ?_
              replace hF := ob hF
              obtain ⟨x198, hx198, hF⟩ := hF
              refine ql_index (wA := w0) rfl ha2 rfl (by decide) rfl hx198 (by decide) ?_
              intro b199 of200 c201 hr202 hm203
              obtain rfl := hr202
              refine ql_pv (v := .int .i64 x198) (pv_loadc rfl ((cells_up hS.below hm203) 0 _ rfl)) (by decide) ?_
              refine ql_pv (v := .bool (decide (x192 < x198))) (pv_lss rfl rfl) (by decide) ?_
              refine ql_nil ?_
              intro w204 hx205
              replace hS := hS.ext hx205
              refine hQ181 _ _ _ ?_
              refine thn_n ?_
              replace hF := oif hF
              rcases hF with ⟨hb206, hF⟩ | ⟨hb206, hF⟩
              · refine cw_cond_t rfl hb206 ?_
                refine cw_reg ?_
                refine el_pv (v := .int .i64 x151) (pv_move he157) (by decide) ?_
                refine el_pv (v := v116) (pv_move he156) (by decide) ?_
                refine el_pv (v := .pointer (some ⟨b103, 0 + 1, none⟩)) (pv_fieldAddr he155) (by decide) ?_
                refine el_pv (v := u1) (pv_loadc rfl ((hS.boxAt 1 rfl) 1 _ rfl)) (by decide) ?_
                refine el_pv (v := .int .i64 x129) (pv_move he158) (by decide) ?_
                replace hF := ob hF
                obtain ⟨x207, hx207, hF⟩ := hF
                refine el_index (wA := w0) rfl ha1 rfl (by decide) rfl hx207 (by decide) ?_
                intro b208 of209 c210 hr211 hm212
                obtain ⟨_, _, rfl, hr213, hr214⟩ := hr211
                obtain ⟨v215, rfl⟩ := slice_one hr213
                obtain ⟨v216, rfl⟩ := slice_one hr214
                refine el_pv (v := .pointer (some ⟨b208, of209 + 1, none⟩)) (pv_fieldAddr rfl) (by decide) ?_
                refine el_pv (v := v216) (pv_loadc rfl ((cells_up hS.below hm212) 1 _ rfl)) (by decide) ?_
                refine el_pv (v := .int .i64 x153) (pv_move he161) (by decide) ?_
                replace hF := ob hF
                obtain ⟨x217, hx217, hF⟩ := hF
                refine el_index (wA := w0) rfl hr214 rfl (by decide) rfl hx217 (by decide) ?_
                intro b218 of219 c220 hr221 hm222
                obtain rfl := hr221
                refine el_pv (v := .int .i64 x217) (pv_loadc rfl ((cells_up hS.below hm222) 0 _ rfl)) (by decide) ?_
                replace hF := ob hF
                obtain ⟨x223, hx223, hF⟩ := hF
                obtain ⟨g224, cap225, hv226⟩ := ownShape 0 hS rfl hx223
                refine el_pv (v := .pointer (some ⟨g224, x217.toNat * 1, none⟩)) (pv_indexF (v := v116) rfl hv226 rfl hx223) (by decide) ?_
                refine el_pv (v := .int .i64 x223) (pv_loadc rfl (hS.ownCell 0 rfl hv226 hx223)) (by decide) ?_
                replace hF := ob hF
                obtain ⟨x227, hx227, hF⟩ := hF
                refine el_pv (v := .int .i64 x227) (pv_add rfl rfl hx227) (by decide) ?_
                refine el_pv (v := .int .i64 x227) (pv_assign rfl) (by decide) ?_
                refine el_nil ?_
                refine hQ180 _ _ _ ?_
                refine thn_n ?_
                refine cw_seq ?_
                refine cw_gen ?_
                intro Q228 hQ228
                refine cw_regq (by kernel_rfl) (by kernel_rfl) ?_
                refine ql_pv (v := .pointer (some ⟨b103, 0 + 1, none⟩)) (pv_fieldAddr he155) (by decide) ?_
                refine ql_pv (v := u1) (pv_loadc rfl ((hS.boxAt 1 rfl) 1 _ rfl)) (by decide) ?_
                refine ql_pv (v := .int .i64 x129) (pv_move he158) (by decide) ?_
                replace hF := ob hF
                obtain ⟨x229, hx229, hF⟩ := hF
                refine ql_index (wA := w0) rfl ha1 rfl (by decide) rfl hx229 (by decide) ?_
                intro b230 of231 c232 hr233 hm234
                obtain ⟨_, _, rfl, hr235, hr236⟩ := hr233
                obtain ⟨v237, rfl⟩ := slice_one hr235
                obtain ⟨v238, rfl⟩ := slice_one hr236
                refine ql_pv (v := .pointer (some ⟨b230, of231 + 0, none⟩)) (pv_fieldAddr rfl) (by decide) ?_
                refine ql_pv (v := v237) (pv_loadc rfl ((cells_up hS.below hm234) 0 _ rfl)) (by decide) ?_
                refine ql_pv (v := .int .i64 x153) (pv_move he161) (by decide) ?_
                replace hF := ob hF
                obtain ⟨x239, hx239, hF⟩ := hF
                refine ql_index (wA := w0) rfl hr235 rfl (by decide) rfl hx239 (by decide) ?_
                intro b240 of241 c242 hr243 hm244
                obtain rfl := hr243
                refine ql_pv (v := .int .i64 x239) (pv_loadc rfl ((cells_up hS.below hm244) 0 _ rfl)) (by decide) ?_
                refine ql_pv (v := u2) (pv_move he154) (by decide) ?_
                refine ql_pv (v := .int .i64 x130) (pv_move he159) (by decide) ?_
                replace hF := ob hF
                obtain ⟨x245, hx245, hF⟩ := hF
                refine ql_index (wA := w0) rfl ha2 rfl (by decide) rfl hx245 (by decide) ?_
                intro b246 of247 c248 hr249 hm250
                obtain rfl := hr249
                refine ql_pv (v := .int .i64 x245) (pv_loadc rfl ((cells_up hS.below hm250) 0 _ rfl)) (by decide) ?_
                refine ql_pv (v := .bool (x239 == x245)) (pv_eql rfl rfl) (by decide) ?_
                refine ql_nil ?_
                intro w251 hx252
                replace hS := hS.ext hx252
                refine hQ228 _ _ _ ?_
                refine thn_n ?_
                replace hF := oif hF
                rcases hF with ⟨hb253, hF⟩ | ⟨hb253, hF⟩
                · refine cw_cond_t rfl hb253 ?_
                  refine cw_reg ?_
                  refine el_pv (v := .pointer (some ⟨b103, 0 + 1, none⟩)) (pv_fieldAddr he155) (by decide) ?_
                  refine el_pv (v := u1) (pv_loadc rfl ((hS.boxAt 1 rfl) 1 _ rfl)) (by decide) ?_
                  refine el_pv (v := .int .i64 x129) (pv_move he158) (by decide) ?_
                  replace hF := ob hF
                  obtain ⟨x254, hx254, hF⟩ := hF
                  refine el_index (wA := w0) rfl ha1 rfl (by decide) rfl hx254 (by decide) ?_
                  intro b255 of256 c257 hr258 hm259
                  obtain ⟨_, _, rfl, hr260, hr261⟩ := hr258
                  obtain ⟨v262, rfl⟩ := slice_one hr260
                  obtain ⟨v263, rfl⟩ := slice_one hr261
                  refine el_pv (v := .pointer (some ⟨b255, of256 + 1, none⟩)) (pv_fieldAddr rfl) (by decide) ?_
                  refine el_pv (v := v263) (pv_loadc rfl ((cells_up hS.below hm259) 1 _ rfl)) (by decide) ?_
                  refine el_pv (v := .int .i64 x153) (pv_move he161) (by decide) ?_
                  replace hF := ob hF
                  obtain ⟨x264, hx264, hF⟩ := hF
                  refine el_index (wA := w0) rfl hr261 rfl (by decide) rfl hx264 (by decide) ?_
                  intro b265 of266 c267 hr268 hm269
                  obtain rfl := hr268
                  refine el_pv (v := .int .i64 x264) (pv_loadc rfl ((cells_up hS.below hm269) 0 _ rfl)) (by decide) ?_
                  refine el_pv (v := .int .i64 x264) (pv_assign rfl) (by decide) ?_
                  refine el_nil ?_
                  refine hQ179 _ _ _ ?_
                  refine inb_n ?_
                  refine hQ178 _ _ _ ?_
                  refine thn_n ?_
                  refine cw_reg ?_
                  refine el_pv (v := .int .i64 x153) (pv_move he161) (by decide) ?_
                  replace hF := ob hF
                  obtain ⟨x270, hx270, hF⟩ := hF
                  refine el_pv (v := .int .i64 x270) (pv_add rfl rfl hx270) (by decide) ?_
                  refine el_pv (v := .int .i64 x270) (pv_assign rfl) (by decide) ?_
                  refine el_nil ?_
                  refine hQ164 _ _ _ ?_
                  refine thn_n ?_
                  replace hS : Sat w0 w251 [Box b103 30 [u0, u1], Own (sliceR intR 3) [v116] r115] := hS.top 1 rfl
                  replace hS : Sat w0 w251 [Own (sliceR intR 3) [v116] r115, Box b103 30 [u0, u1]] := hS.top 1 rfl
                  replace hS := hS.keep 2
                  exact ⟨x227, x264, x270, he154, he155, he156, rfl, he158, he159, rfl, rfl, hS, hF⟩
                · refine cw_cond_f rfl hb253 ?_
                  refine cw_skip ?_
                  refine hQ179 _ _ _ ?_
                  refine inb_n ?_
                  refine hQ178 _ _ _ ?_
                  refine thn_n ?_
                  refine cw_reg ?_
                  refine el_pv (v := .int .i64 x153) (pv_move he161) (by decide) ?_
                  replace hF := ob hF
                  obtain ⟨x271, hx271, hF⟩ := hF
                  refine el_pv (v := .int .i64 x271) (pv_add rfl rfl hx271) (by decide) ?_
                  refine el_pv (v := .int .i64 x271) (pv_assign rfl) (by decide) ?_
                  refine el_nil ?_
                  refine hQ164 _ _ _ ?_
                  refine thn_n ?_
                  replace hS : Sat w0 w251 [Box b103 30 [u0, u1], Own (sliceR intR 3) [v116] r115] := hS.top 1 rfl
                  replace hS : Sat w0 w251 [Own (sliceR intR 3) [v116] r115, Box b103 30 [u0, u1]] := hS.top 1 rfl
                  replace hS := hS.keep 2
                  exact ⟨x227, x152, x271, he154, he155, he156, rfl, he158, he159, he160, rfl, hS, hF⟩
              · refine cw_cond_f rfl hb206 ?_
                refine cw_skip ?_
                refine hQ180 _ _ _ ?_
                refine thn_n ?_
                refine cw_seq ?_
                refine cw_gen ?_
                intro Q272 hQ272
                refine cw_regq (by kernel_rfl) (by kernel_rfl) ?_
                refine ql_pv (v := .pointer (some ⟨b103, 0 + 1, none⟩)) (pv_fieldAddr he155) (by decide) ?_
                refine ql_pv (v := u1) (pv_loadc rfl ((hS.boxAt 1 rfl) 1 _ rfl)) (by decide) ?_
                refine ql_pv (v := .int .i64 x129) (pv_move he158) (by decide) ?_
                replace hF := ob hF
                obtain ⟨x273, hx273, hF⟩ := hF
                refine ql_index (wA := w0) rfl ha1 rfl (by decide) rfl hx273 (by decide) ?_
                intro b274 of275 c276 hr277 hm278
                obtain ⟨_, _, rfl, hr279, hr280⟩ := hr277
                obtain ⟨v281, rfl⟩ := slice_one hr279
                obtain ⟨v282, rfl⟩ := slice_one hr280
                refine ql_pv (v := .pointer (some ⟨b274, of275 + 0, none⟩)) (pv_fieldAddr rfl) (by decide) ?_
                refine ql_pv (v := v281) (pv_loadc rfl ((cells_up hS.below hm278) 0 _ rfl)) (by decide) ?_
                refine ql_pv (v := .int .i64 x153) (pv_move he161) (by decide) ?_
                replace hF := ob hF
                obtain ⟨x283, hx283, hF⟩ := hF
                refine ql_index (wA := w0) rfl hr279 rfl (by decide) rfl hx283 (by decide) ?_
                intro b284 of285 c286 hr287 hm288
                obtain rfl := hr287
                refine ql_pv (v := .int .i64 x283) (pv_loadc rfl ((cells_up hS.below hm288) 0 _ rfl)) (by decide) ?_
                refine ql_pv (v := u2) (pv_move he154) (by decide) ?_
                refine ql_pv (v := .int .i64 x130) (pv_move he159) (by decide) ?_
                replace hF := ob hF
                obtain ⟨x289, hx289, hF⟩ := hF
                refine ql_index (wA := w0) rfl ha2 rfl (by decide) rfl hx289 (by decide) ?_
                intro b290 of291 c292 hr293 hm294
                obtain rfl := hr293
                refine ql_pv (v := .int .i64 x289) (pv_loadc rfl ((cells_up hS.below hm294) 0 _ rfl)) (by decide) ?_
                refine ql_pv (v := .bool (x283 == x289)) (pv_eql rfl rfl) (by decide) ?_
                refine ql_nil ?_
                intro w295 hx296
                replace hS := hS.ext hx296
                refine hQ272 _ _ _ ?_
                refine thn_n ?_
                replace hF := oif hF
                rcases hF with ⟨hb297, hF⟩ | ⟨hb297, hF⟩
                · refine cw_cond_t rfl hb297 ?_
                  refine cw_reg ?_
                  refine el_pv (v := .pointer (some ⟨b103, 0 + 1, none⟩)) (pv_fieldAddr he155) (by decide) ?_
                  refine el_pv (v := u1) (pv_loadc rfl ((hS.boxAt 1 rfl) 1 _ rfl)) (by decide) ?_
                  refine el_pv (v := .int .i64 x129) (pv_move he158) (by decide) ?_
                  replace hF := ob hF
                  obtain ⟨x298, hx298, hF⟩ := hF
                  refine el_index (wA := w0) rfl ha1 rfl (by decide) rfl hx298 (by decide) ?_
                  intro b299 of300 c301 hr302 hm303
                  obtain ⟨_, _, rfl, hr304, hr305⟩ := hr302
                  obtain ⟨v306, rfl⟩ := slice_one hr304
                  obtain ⟨v307, rfl⟩ := slice_one hr305
                  refine el_pv (v := .pointer (some ⟨b299, of300 + 1, none⟩)) (pv_fieldAddr rfl) (by decide) ?_
                  refine el_pv (v := v307) (pv_loadc rfl ((cells_up hS.below hm303) 1 _ rfl)) (by decide) ?_
                  refine el_pv (v := .int .i64 x153) (pv_move he161) (by decide) ?_
                  replace hF := ob hF
                  obtain ⟨x308, hx308, hF⟩ := hF
                  refine el_index (wA := w0) rfl hr305 rfl (by decide) rfl hx308 (by decide) ?_
                  intro b309 of310 c311 hr312 hm313
                  obtain rfl := hr312
                  refine el_pv (v := .int .i64 x308) (pv_loadc rfl ((cells_up hS.below hm313) 0 _ rfl)) (by decide) ?_
                  refine el_pv (v := .int .i64 x308) (pv_assign rfl) (by decide) ?_
                  refine el_nil ?_
                  refine hQ179 _ _ _ ?_
                  refine inb_n ?_
                  refine hQ178 _ _ _ ?_
                  refine thn_n ?_
                  refine cw_reg ?_
                  refine el_pv (v := .int .i64 x153) (pv_move he161) (by decide) ?_
                  replace hF := ob hF
                  obtain ⟨x314, hx314, hF⟩ := hF
                  refine el_pv (v := .int .i64 x314) (pv_add rfl rfl hx314) (by decide) ?_
                  refine el_pv (v := .int .i64 x314) (pv_assign rfl) (by decide) ?_
                  refine el_nil ?_
                  refine hQ164 _ _ _ ?_
                  refine thn_n ?_
                  replace hS : Sat w0 w295 [Box b103 30 [u0, u1], Own (sliceR intR 3) [v116] r115] := hS.top 1 rfl
                  replace hS : Sat w0 w295 [Own (sliceR intR 3) [v116] r115, Box b103 30 [u0, u1]] := hS.top 1 rfl
                  replace hS := hS.keep 2
                  exact ⟨x151, x308, x314, he154, he155, he156, he157, he158, he159, rfl, rfl, hS, hF⟩
                · refine cw_cond_f rfl hb297 ?_
                  refine cw_skip ?_
                  refine hQ179 _ _ _ ?_
                  refine inb_n ?_
                  refine hQ178 _ _ _ ?_
                  refine thn_n ?_
                  refine cw_reg ?_
                  refine el_pv (v := .int .i64 x153) (pv_move he161) (by decide) ?_
                  replace hF := ob hF
                  obtain ⟨x315, hx315, hF⟩ := hF
                  refine el_pv (v := .int .i64 x315) (pv_add rfl rfl hx315) (by decide) ?_
                  refine el_pv (v := .int .i64 x315) (pv_assign rfl) (by decide) ?_
                  refine el_nil ?_
                  refine hQ164 _ _ _ ?_
                  refine thn_n ?_
                  replace hS : Sat w0 w295 [Box b103 30 [u0, u1], Own (sliceR intR 3) [v116] r115] := hS.top 1 rfl
                  replace hS : Sat w0 w295 [Own (sliceR intR 3) [v116] r115, Box b103 30 [u0, u1]] := hS.top 1 rfl
                  replace hS := hS.keep 2
                  exact ⟨x151, x152, x315, he154, he155, he156, he157, he158, he159, he160, rfl, hS, hF⟩
            · refine cw_cond_f rfl hb177 ?_
              refine cw_exit ?_
              refine hQ165 _ _ _ ?_
              refine thn_x ?_
              refine hQ164 _ _ _ ?_
              refine thn_x ?_
              replace hF := exB hF hK150
              refine hQ148 _ _ _ ?_
              refine inb_s ?_
              refine hQ146 _ _ _ ?_
              refine thn_n ?_
              refine cw_seq ?_
              refine cw_gen ?_
              intro Q316 hQ316
              refine cw_seq ?_
              refine cw_gen ?_
              intro Q317 hQ317
              refine cw_reg ?_
              refine el_pv (v := .int .i64 x152) (pv_move he160) (by decide) ?_
              refine el_pv (v := .bool (decide (x152 < 0))) (pv_lss rfl rfl) (by decide) ?_
              refine el_nil ?_
              refine hQ317 _ _ _ ?_
              refine thn_n ?_
              replace hF := oif hF
              rcases hF with ⟨hb318, hF⟩ | ⟨hb318, hF⟩
              · refine cw_cond_t rfl hb318 ?_
                refine cw_seq ?_
                refine cw_gen ?_
                intro Q319 hQ319
                refine cw_reg ?_
                refine el_pv (v := .int .i64 x151) (pv_move he157) (by decide) ?_
                refine el_pv (v := .int .i64 x151) (pv_assign rfl) (by decide) ?_
                refine el_pv (v := .bool false) (pv_assign rfl) (by decide) ?_
                refine el_nil ?_
                refine hQ319 _ _ _ ?_
                refine thn_n ?_
                refine cw_ret ?_
                refine hQ316 _ _ _ ?_
                refine thn_r ?_
                refine hQ144 _ _ _ ?_
                refine inb_r ?_
                refine hQ143 _ _ _ ?_
                refine thn_r ?_
                refine hQ139 _ _ _ ?_
                refine thn_r ?_
                refine hQ125 _ _ _ ?_
                refine inb_r ?_
                refine hQ123 _ _ _ ?_
                refine thn_r ?_
                replace hF := exL hF hK127
                refine fin2 rfl rfl rfl ?_
                have hr := Option.some.inj hF
                exact ⟨congrArg (fun (r : Int × Bool) => Ending.returned (.tuple #[.int .i64 r.1, .bool r.2])) hr, hS.below⟩
              · refine cw_cond_f rfl hb318 ?_
                refine cw_skip ?_
                refine hQ316 _ _ _ ?_
                refine thn_n ?_
                refine cw_reg ?_
                refine el_pv (v := .int .i64 x152) (pv_move he160) (by decide) ?_
                refine el_pv (v := .int .i64 x152) (pv_assign rfl) (by decide) ?_
                refine el_nil ?_
                refine hQ144 _ _ _ ?_
                refine inb_n ?_
                refine hQ143 _ _ _ ?_
                refine thn_n ?_
                refine cw_reg ?_
                refine el_pv (v := .int .i64 x130) (pv_move he159) (by decide) ?_
                replace hF := ob hF
                obtain ⟨x320, hx320, hF⟩ := hF
                refine el_pv (v := .int .i64 x320) (pv_add rfl rfl hx320) (by decide) ?_
                refine el_pv (v := .int .i64 x320) (pv_assign rfl) (by decide) ?_
                refine el_nil ?_
                refine hQ139 _ _ _ ?_
                refine thn_n ?_
                replace hS : Sat w0 w162 [Box b103 30 [u0, u1], Own (sliceR intR 3) [v116] r115] := hS.top 1 rfl
                replace hS : Sat w0 w162 [Own (sliceR intR 3) [v116] r115, Box b103 30 [u0, u1]] := hS.top 1 rfl
                replace hS := hS.keep 2
                exact ⟨x151, x152, x320, he154, he155, he156, he157, rfl, rfl, hS, hF⟩
        · refine cw_cond_f rfl hb142 ?_
          refine cw_exit ?_
          refine hQ140 _ _ _ ?_
          refine thn_x ?_
          refine hQ139 _ _ _ ?_
          refine thn_x ?_
          replace hF := exA hF hK127
          refine hQ125 _ _ _ ?_
          refine inb_s ?_
          refine hQ123 _ _ _ ?_
          refine thn_n ?_
          refine cw_seq ?_
          refine cw_gen ?_
          intro Q321 hQ321
          refine cw_regq (by kernel_rfl) (by kernel_rfl) ?_
          refine ql_pv (v := .int .i64 x128) (pv_move he134) (by decide) ?_
          refine ql_pv (v := .pointer (some ⟨b103, 0 + 1, none⟩)) (pv_fieldAddr he132) (by decide) ?_
          refine ql_pv (v := u1) (pv_loadc rfl ((hS.boxAt 1 rfl) 1 _ rfl)) (by decide) ?_
          refine ql_pv (v := .int .i64 (a1.length : Int)) (pv_len rfl ha1) (by decide) ?_
          refine ql_pv (v := .bool (decide (1 < (a1.length : Int)))) (pv_gtr rfl rfl) (by decide) ?_
          refine ql_pv (v := .bool (decide (1 < (a1.length : Int)))) (pv_move rfl) (by decide) ?_
          replace hF := oif hF
          rcases hF with ⟨hb322, hF⟩ | ⟨hb322, hF⟩
          · refine ql_on rfl hb322 ?_
            refine ql_pv (v := .pointer (some ⟨b103, 0 + 1, none⟩)) (pv_fieldAddr he132) (by decide) ?_
            refine ql_on rfl hb322 ?_
            refine ql_pv (v := u1) (pv_loadc rfl ((hS.boxAt 1 rfl) 1 _ rfl)) (by decide) ?_
            refine ql_on rfl hb322 ?_
            refine ql_pv (v := .pointer (some ⟨b103, 0 + 1, none⟩)) (pv_fieldAddr he132) (by decide) ?_
            refine ql_on rfl hb322 ?_
            refine ql_pv (v := u1) (pv_loadc rfl ((hS.boxAt 1 rfl) 1 _ rfl)) (by decide) ?_
            refine ql_on rfl hb322 ?_
            refine ql_pv (v := .int .i64 (a1.length : Int)) (pv_len rfl ha1) (by decide) ?_
            refine ql_on rfl hb322 ?_
            replace hF := ob hF
            obtain ⟨x323, hx323, hF⟩ := hF
            refine ql_pv (v := .int .i64 x323) (pv_sub rfl rfl hx323) (by decide) ?_
            refine ql_on rfl hb322 ?_
            replace hF := ob hF
            obtain ⟨x324, hx324, hF⟩ := hF
            refine ql_index (wA := w0) rfl ha1 rfl (by decide) rfl hx324 (by decide) ?_
            intro b325 of326 c327 hr328 hm329
            obtain ⟨_, _, rfl, hr330, hr331⟩ := hr328
            obtain ⟨v332, rfl⟩ := slice_one hr330
            obtain ⟨v333, rfl⟩ := slice_one hr331
            refine ql_on rfl hb322 ?_
            refine ql_pv (v := .pointer (some ⟨b325, of326 + 0, none⟩)) (pv_fieldAddr rfl) (by decide) ?_
            refine ql_on rfl hb322 ?_
            refine ql_pv (v := v332) (pv_loadc rfl ((cells_up hS.below hm329) 0 _ rfl)) (by decide) ?_
            refine ql_on rfl hb322 ?_
            refine ql_pv (v := .int .i64 (x324.1.length : Int)) (pv_len rfl hr330) (by decide) ?_
            refine ql_on rfl hb322 ?_
            refine ql_pv (v := .bool (decide (0 < (x324.1.length : Int)))) (pv_gtr rfl rfl) (by decide) ?_
            refine ql_pv (v := .bool (decide (0 < (x324.1.length : Int)))) (pv_pick_t rfl hb322 rfl) (by decide) ?_
            refine ql_pv (v := .bool (decide (0 < (x324.1.length : Int)))) (pv_move rfl) (by decide) ?_
            replace hF := oif hF
            rcases hF with ⟨hb334, hF⟩ | ⟨hb334, hF⟩
            · refine ql_off rfl hb334 rfl (by decide) ?_
              refine ql_off rfl hb334 rfl (by decide) ?_
              refine ql_off rfl hb334 rfl (by decide) ?_
              refine ql_off rfl hb334 rfl (by decide) ?_
              refine ql_pv (v := .bool true) (pv_pick_t rfl hb334 rfl) (by decide) ?_
              refine ql_pv (v := .int .i64 x128) (pv_assign rfl) (by decide) ?_
              refine ql_pv (v := .bool true) (pv_assign rfl) (by decide) ?_
              refine ql_nil ?_
              intro w335 hx336
              replace hS := hS.ext hx336
              refine hQ321 _ _ _ ?_
              refine thn_n ?_
              refine cw_ret ?_
              refine fin2 rfl rfl rfl ?_
              have hr := Option.some.inj hF
              exact ⟨congrArg (fun (r : Int × Bool) => Ending.returned (.tuple #[.int .i64 r.1, .bool r.2])) hr, hS.below⟩
            · refine ql_on rfl hb334 ?_
              refine ql_pv (v := .pointer (some ⟨b103, 0 + 1, none⟩)) (pv_fieldAddr he132) (by decide) ?_
              refine ql_on rfl hb334 ?_
              refine ql_pv (v := u1) (pv_loadc rfl ((hS.boxAt 1 rfl) 1 _ rfl)) (by decide) ?_
              refine ql_on rfl hb334 ?_
              refine ql_pv (v := .int .i64 (a1.length : Int)) (pv_len rfl ha1) (by decide) ?_
              refine ql_on rfl hb334 ?_
              refine ql_pv (v := .bool ((a1.length : Int) == 1)) (pv_eql rfl rfl) (by decide) ?_
              refine ql_pv (v := .bool ((a1.length : Int) == 1)) (pv_pick_f rfl hb334 rfl) (by decide) ?_
              refine ql_pv (v := .int .i64 x128) (pv_assign rfl) (by decide) ?_
              refine ql_pv (v := .bool ((a1.length : Int) == 1)) (pv_assign rfl) (by decide) ?_
              refine ql_nil ?_
              intro w337 hx338
              replace hS := hS.ext hx338
              refine hQ321 _ _ _ ?_
              refine thn_n ?_
              refine cw_ret ?_
              refine fin2 rfl rfl rfl ?_
              have hr := Option.some.inj hF
              exact ⟨congrArg (fun (r : Int × Bool) => Ending.returned (.tuple #[.int .i64 r.1, .bool r.2])) hr, hS.below⟩
          · refine ql_off rfl hb322 rfl (by decide) ?_
            refine ql_off rfl hb322 rfl (by decide) ?_
            refine ql_off rfl hb322 rfl (by decide) ?_
            refine ql_off rfl hb322 rfl (by decide) ?_
            refine ql_off rfl hb322 rfl (by decide) ?_
            refine ql_off rfl hb322 rfl (by decide) ?_
            refine ql_off rfl hb322 rfl (by decide) ?_
            refine ql_off rfl hb322 rfl (by decide) ?_
            refine ql_off rfl hb322 rfl (by decide) ?_
            refine ql_off rfl hb322 rfl (by decide) ?_
            refine ql_off rfl hb322 rfl (by decide) ?_
            refine ql_pv (v := .bool false) (pv_pick_f rfl hb322 rfl) (by decide) ?_
            refine ql_pv (v := .bool false) (pv_move rfl) (by decide) ?_
            refine ql_on rfl rfl ?_
            refine ql_pv (v := .pointer (some ⟨b103, 0 + 1, none⟩)) (pv_fieldAddr he132) (by decide) ?_
            refine ql_on rfl rfl ?_
            refine ql_pv (v := u1) (pv_loadc rfl ((hS.boxAt 1 rfl) 1 _ rfl)) (by decide) ?_
            refine ql_on rfl rfl ?_
            refine ql_pv (v := .int .i64 (a1.length : Int)) (pv_len rfl ha1) (by decide) ?_
            refine ql_on rfl rfl ?_
            refine ql_pv (v := .bool ((a1.length : Int) == 1)) (pv_eql rfl rfl) (by decide) ?_
            refine ql_pv (v := .bool ((a1.length : Int) == 1)) (pv_pick_f rfl rfl rfl) (by decide) ?_
            refine ql_pv (v := .int .i64 x128) (pv_assign rfl) (by decide) ?_
            refine ql_pv (v := .bool ((a1.length : Int) == 1)) (pv_assign rfl) (by decide) ?_
            refine ql_nil ?_
            intro w339 hx340
            replace hS := hS.ext hx340
            refine hQ321 _ _ _ ?_
            refine thn_n ?_
            refine cw_ret ?_
            refine fin2 rfl rfl rfl ?_
            have hr := Option.some.inj hF
            exact ⟨congrArg (fun (r : Int × Bool) => Ending.returned (.tuple #[.int .i64 r.1, .bool r.2])) hr, hS.below⟩
  · refine el_off rfl (bnot_f hb111) rfl (by decide) ?_
    refine el_off rfl (bnot_f hb111) rfl (by decide) ?_
    refine el_off rfl (bnot_f hb111) rfl (by decide) ?_
    refine el_off rfl (bnot_f hb111) rfl (by decide) ?_
    refine el_off rfl (bnot_f hb111) rfl (by decide) ?_
    refine el_off rfl (bnot_f hb111) rfl (by decide) ?_
    refine el_pv (v := .bool true) (pv_pick_t rfl (bnot_f hb111) rfl) (by decide) ?_
    refine el_nil ?_
    refine hQ107 _ _ _ ?_
    refine thn_n ?_
    refine cw_cond_t rfl rfl ?_
    refine cw_seq ?_
    refine cw_gen ?_
    intro Q341 hQ341
    refine cw_reg ?_
    refine el_pv (v := .int .i64 0) (pv_assign rfl) (by decide) ?_
    refine el_pv (v := .bool false) (pv_assign rfl) (by decide) ?_
    refine el_nil ?_
    refine hQ341 _ _ _ ?_
    refine thn_n ?_
    refine cw_ret ?_
    refine hQ106 _ _ _ ?_
    refine thn_r ?_
    refine fin2 rfl rfl rfl ?_
    have hr := Option.some.inj hF
    exact ⟨congrArg (fun (r : Int × Bool) => Ending.returned (.tuple #[.int .i64 r.1, .bool r.2])) hr, hS.below⟩
set_option maxHeartbeats 4000000 in
theorem impl_rankIn_ok' (N : Nat) : ∀ {w0 : World} {u0 : Value} {a0 : List Int} {u1 : Value} {a1 : List (List Int × List Int)} {u2 : Value} {a2 : List Int} {a3 : Int} {u4 : Value} {a4 : List Int} (_ : (sliceR intR 3).rd w0 [u0] a0) (_ : (sliceR (pairR (sliceR intR 3) (sliceR intR 3)) 57).rd w0 [u1] a1) (_ : (sliceR intR 3).rd w0 [u2] a2) (_ : (sliceR intR 3).rd w0 [u4] a4) {r : Int × Bool} (_ : impl_rankIn N a0 a1 a2 a3 a4 = some r),
    Calls Try.prog 42 #[.agg #[u0, u1], u2, .int .i64 a3, u4] w0 fun e w' => e = .returned (.tuple #[.int .i64 r.1, .bool r.2]) ∧ Ext w0 w' := by
  induction N with
  | zero => intros; exact nomatch (show none = some _ by assumption)
  | succ N ih =>
    intro w0 u0 a0 u1 a1 u2 a2 a3 u4 a4 ha0 ha1 ha2 ha4 r hF
    refine calls_E Try.func42 rfl rfl (of_decide_eq_true rfl) ?_
    have hS := Sat.start w0
    refine cw_seq ?_
    refine cw_gen ?_
    intro Q101 hQ101
    refine cw_reg ?_
    refine el_box [u0, u1] rfl hS (by decide) ?_
    intro w102 b103 hS hx104
    refine el_pv (v := .int .i64 0) (pv_assign rfl) (by decide) ?_
    refine el_pv (v := .bool false) (pv_assign rfl) (by decide) ?_
    refine el_nil ?_
    refine hQ101 _ _ _ ?_
    refine thn_n ?_
    refine cw_seq ?_
    refine cw_gen ?_
    intro Q106 hQ106
    refine cw_seq ?_
    refine cw_gen ?_
    intro Q107 hQ107
    refine cw_reg ?_
    refine el_pv (v := .int .i64 a3) (pv_move rfl) (by decide) ?_
    refine el_pv (v := .bool (a3 == 0)) (pv_eql rfl rfl) (by decide) ?_
    refine el_nil ?_
    refine hQ107 _ _ _ ?_
    refine thn_n ?_
    replace hF := oif hF
    rcases hF with ⟨hb108, hF⟩ | ⟨hb108, hF⟩
    · refine cw_cond_t rfl hb108 ?_
      refine cw_seq ?_
      refine cw_gen ?_
      intro Q109 hQ109
      refine cw_reg ?_
      refine el_pv (v := .int .i64 0) (pv_assign rfl) (by decide) ?_
      refine el_pv (v := .bool true) (pv_assign rfl) (by decide) ?_
      refine el_nil ?_
      refine hQ109 _ _ _ ?_
      refine thn_n ?_
      refine cw_ret ?_
      refine hQ106 _ _ _ ?_
      refine thn_r ?_
      refine fin2 rfl rfl rfl ?_
      have hr := Option.some.inj hF
      exact ⟨congrArg (fun (r : Int × Bool) => Ending.returned (.tuple #[.int .i64 r.1, .bool r.2])) hr, hS.below⟩
    · refine cw_cond_f rfl hb108 ?_
      refine cw_skip ?_
      refine hQ106 _ _ _ ?_
      refine thn_n ?_
      refine cw_seq ?_
      refine cw_gen ?_
      intro Q110 hQ110
      refine cw_reg ?_
      refine el_pv (v := .pointer (some ⟨b103, 0 + 1, none⟩)) (pv_fieldAddr rfl) (by decide) ?_
      refine el_pv (v := u1) (pv_loadc rfl ((hS.boxAt 0 rfl) 1 _ rfl)) (by decide) ?_
      refine el_pv (v := .int .i64 a3) (pv_move rfl) (by decide) ?_
      replace hF := ob hF
      obtain ⟨x111, hx111, hF⟩ := hF
      refine el_index (wA := w0) rfl ha1 rfl (by decide) rfl hx111 (by decide) ?_
      intro b112 of113 c114 hr115 hm116
      obtain ⟨_, _, rfl, hr117, hr118⟩ := hr115
      obtain ⟨v119, rfl⟩ := slice_one hr117
      obtain ⟨v120, rfl⟩ := slice_one hr118
      refine el_pv (v := .agg #[v119, v120]) (pv_loada (cs := [v119, v120]) rfl rfl (cells_up hS.below hm116)) (by decide) ?_
      refine el_alloc hS (by decide) ?_
      intro w121 b122 hS hx123
      refine el_storev (hS.top 0 rfl) rfl [v119, v120] rfl rfl (of_decide_eq_true rfl) (all_cons (oc hr117) (all_cons (oc hr118) rfl)) ?_
      intro w125 hS
      replace hS : Sat w0 w125 [Box b122 57 [v119, v120], Box b103 30 [u0, u1]] := hS
      refine el_nil ?_
      refine hQ110 _ _ _ ?_
      refine thn_n ?_
      refine cw_seq ?_
      refine cw_gen ?_
      intro Q126 hQ126
      refine cw_reg ?_
      refine el_pv (v := .int .i64 0) (pv_assign rfl) (by decide) ?_
      refine el_nil ?_
      refine hQ126 _ _ _ ?_
      refine thn_n ?_
      refine cw_seq ?_
      refine cw_gen ?_
      intro Q127 hQ127
      refine cw_seq ?_
      refine cw_gen ?_
      intro Q128 hQ128
      refine cw_reg ?_
      refine el_pv (v := .pointer (some ⟨b122, 0 + 0, none⟩)) (pv_fieldAddr rfl) (by decide) ?_
      refine el_pv (v := v119) (pv_loadc rfl ((hS.boxAt 0 rfl) 0 _ rfl)) (by decide) ?_
      refine el_pv (v := .int .i64 (x111.1.length : Int)) (pv_len rfl hr117) (by decide) ?_
      refine el_pv (v := .int .i64 0) (pv_move rfl) (by decide) ?_
      refine el_nil ?_
      refine hQ128 _ _ _ ?_
      refine thn_n ?_
      refine cw_block ?_
      refine cw_gen ?_
      intro Q129 hQ129
      obtain ⟨s130, hL, hK131⟩ := ob hF
      refine cw_loopS (fun k e w => ∃ (x132 : Int), ∃ (x133 : Int), e 1 = u2 ∧ e 3 = u4 ∧ e 4 = .pointer (some ⟨b103, 0, none⟩) ∧ e 10 = .pointer (some ⟨b122, 0, none⟩) ∧ e 11 = .int .i64 x132 ∧ e 24 = v119 ∧ e 25 = .int .i64 (x111.1.length : Int) ∧ e 26 = .int .i64 x133 ∧ Sat w0 w [Box b122 57 [v119, v120], Box b103 30 [u0, u1]] ∧ impl_rankIn_L1 (impl_rankIn N) N k a2 a4 a0 a1 x111.1 x111.2 x132 x111.1 (x111.1.length : Int) x133 = some s130) N ?_ ?_ ?_
      · exact ⟨0, 0, rfl, rfl, rfl, rfl, rfl, rfl, rfl, rfl, hS, hL⟩
      · rintro e w ⟨_, _, _, _, _, _, _, _, _, _, _, hz⟩; exact nomatch (show none = some _ from hz)
      · rintro k e143 w142 ⟨x132, x133, he134, he135, he136, he137, he138, he139, he140, he141, hS, hF⟩
        refine cw_gen ?_
        intro Q144 hQ144
        refine cw_seq ?_
        refine cw_gen ?_
        intro Q145 hQ145
        refine cw_reg ?_
        refine el_pv (v := .bool (decide (x133 < (x111.1.length : Int)))) (pv_lss he141 he140) (by decide) ?_
        refine el_nil ?_
        refine hQ145 _ _ _ ?_
        refine thn_n ?_
        refine cw_seq ?_
        refine cw_gen ?_
        intro Q146 hQ146
        replace hF := oif hF
        rcases hF with ⟨hb147, hF⟩ | ⟨hb147, hF⟩
        · refine cw_cond_t rfl hb147 ?_
          refine cw_skip ?_
          refine hQ146 _ _ _ ?_
          refine thn_n ?_
          refine cw_seq ?_
          refine cw_gen ?_
          intro Q148 hQ148
          refine cw_block ?_
          refine cw_gen ?_
          intro Q149 hQ149
          refine cw_seq ?_
          refine cw_gen ?_
          intro Q150 hQ150
          refine cw_reg ?_
          refine el_pv (v := .int .i64 x133) (pv_move he141) (by decide) ?_
          replace hF := ob hF
          obtain ⟨x151, hx151, hF⟩ := hF
          refine el_index (wA := w0) he139 hr117 rfl (by decide) he141 hx151 (by decide) ?_
          intro b152 of153 c154 hr155 hm156
          obtain rfl := hr155
          refine el_pv (v := .int .i64 x151) (pv_loadc rfl ((cells_up hS.below hm156) 0 _ rfl)) (by decide) ?_
          refine el_pv (v := .int .i64 x133) (pv_assign rfl) (by decide) ?_
          refine el_pv (v := .int .i64 x151) (pv_assign rfl) (by decide) ?_
          refine el_nil ?_
          refine hQ150 _ _ _ ?_
          refine thn_n ?_
          refine cw_seq ?_
          refine cw_gen ?_
          intro Q157 hQ157
          refine cw_seq ?_
          refine cw_gen ?_
          intro Q158 hQ158
          refine cw_reg ?_
          refine el_pv (v := .int .i64 x151) (pv_move rfl) (by decide) ?_
          refine el_pv (v := u4) (pv_move he135) (by decide) ?_
          replace hF := ob hF
          obtain ⟨x159, hx159, hF⟩ := hF
          refine el_index (wA := w0) rfl ha4 rfl (by decide) rfl hx159 (by decide) ?_
          intro b160 of161 c162 hr163 hm164
          obtain rfl := hr163
          refine el_pv (v := .int .i64 x159) (pv_loadc rfl ((cells_up hS.below hm164) 0 _ rfl)) (by decide) ?_
          refine el_pv (v := .bool (decide (x151 < x159))) (pv_lss rfl rfl) (by decide) ?_
          refine el_nil ?_
          refine hQ158 _ _ _ ?_
          refine thn_n ?_
          replace hF := oif hF
          rcases hF with ⟨hb165, hF⟩ | ⟨hb165, hF⟩
          · refine cw_cond_t rfl hb165 ?_
            refine cw_reg ?_
            refine el_pv (v := .int .i64 x132) (pv_move he138) (by decide) ?_
            refine el_pv (v := u2) (pv_move he134) (by decide) ?_
            refine el_pv (v := .pointer (some ⟨b122, 0 + 1, none⟩)) (pv_fieldAddr he137) (by decide) ?_
            refine el_pv (v := v120) (pv_loadc rfl ((hS.boxAt 0 rfl) 1 _ rfl)) (by decide) ?_
            refine el_pv (v := .int .i64 x133) (pv_move rfl) (by decide) ?_
            replace hF := ob hF
            obtain ⟨x166, hx166, hF⟩ := hF
            refine el_index (wA := w0) rfl hr118 rfl (by decide) rfl hx166 (by decide) ?_
            intro b167 of168 c169 hr170 hm171
            obtain rfl := hr170
            refine el_pv (v := .int .i64 x166) (pv_loadc rfl ((cells_up hS.below hm171) 0 _ rfl)) (by decide) ?_
            replace hF := ob hF
            obtain ⟨x172, hx172, hF⟩ := hF
            refine el_index (wA := w0) rfl ha2 rfl (by decide) rfl hx172 (by decide) ?_
            intro b173 of174 c175 hr176 hm177
            obtain rfl := hr176
            refine el_pv (v := .int .i64 x172) (pv_loadc rfl ((cells_up hS.below hm177) 0 _ rfl)) (by decide) ?_
            replace hF := ob hF
            obtain ⟨x178, hx178, hF⟩ := hF
            refine el_pv (v := .int .i64 x178) (pv_add rfl rfl hx178) (by decide) ?_
            refine el_pv (v := .int .i64 x178) (pv_assign rfl) (by decide) ?_
            refine el_nil ?_
            refine hQ157 _ _ _ ?_
            refine thn_n ?_
            refine cw_seq ?_
            refine cw_gen ?_
            intro Q179 hQ179
            refine cw_reg ?_
            refine el_pv (v := .int .i64 x151) (pv_move rfl) (by decide) ?_
            refine el_pv (v := u4) (pv_move he135) (by decide) ?_
            replace hF := ob hF
            obtain ⟨x180, hx180, hF⟩ := hF
            refine el_index (wA := w0) rfl ha4 rfl (by decide) rfl hx180 (by decide) ?_
            intro b181 of182 c183 hr184 hm185
            obtain rfl := hr184
            refine el_pv (v := .int .i64 x180) (pv_loadc rfl ((cells_up hS.below hm185) 0 _ rfl)) (by decide) ?_
            refine el_pv (v := .bool (x151 == x180)) (pv_eql rfl rfl) (by decide) ?_
            refine el_nil ?_
            refine hQ179 _ _ _ ?_
            refine thn_n ?_
            replace hF := oif hF
            rcases hF with ⟨hb186, hF⟩ | ⟨hb186, hF⟩
            · refine cw_cond_t rfl hb186 ?_
              refine cw_seq ?_
              refine cw_gen ?_
              intro Q187 hQ187
              refine cw_regq (by kernel_rfl) (by kernel_rfl) ?_
              refine ql_pv (v := .agg #[u0, u1]) (pv_loada (cs := [u0, u1]) he136 rfl (boxc0 (hS.boxAt 1 rfl))) (by decide) ?_
              refine ql_pv (v := u2) (pv_move he134) (by decide) ?_
              refine ql_pv (v := .pointer (some ⟨b122, 0 + 1, none⟩)) (pv_fieldAddr he137) (by decide) ?_
              refine ql_pv (v := v120) (pv_loadc rfl ((hS.boxAt 0 rfl) 1 _ rfl)) (by decide) ?_
              refine ql_pv (v := .int .i64 x133) (pv_move rfl) (by decide) ?_
              replace hF := ob hF
              obtain ⟨x188, hx188, hF⟩ := hF
              refine ql_index (wA := w0) rfl hr118 rfl (by decide) rfl hx188 (by decide) ?_
              intro b189 of190 c191 hr192 hm193
              obtain rfl := hr192
              refine ql_pv (v := .int .i64 x188) (pv_loadc rfl ((cells_up hS.below hm193) 0 _ rfl)) (by decide) ?_
              refine ql_pv (v := u4) (pv_move he135) (by decide) ?_
              replace hF := ob hF
              obtain ⟨x194, hx194, hF⟩ := hF
              refine ql_slice (wA := w0) rfl rfl ha4 (.inl (congrArg some rfl)) (.inr ⟨rfl, rfl⟩) hx194 (by decide) ?_
              intro v195 hr196
              replace hF := ob hF
              obtain ⟨r197, hr197, hF⟩ := hF
              refine ql_call (.tuple #[.int .i64 r197.1, .bool r197.2]) goes42 (fun w' hw' => ih (rd_up (hS.up ha0) hw') (rd_up (hS.up ha1) hw') (rd_up (hS.up ha2) hw') (rd_up (hS.up hr196) hw') hr197) (congrArg List.toArray (mapc rfl (mapc rfl (mapc rfl (mapc rfl rfl))))) (by decide) ?_
              refine ql_pv (v := .tuple #[.int .i64 r197.1, .bool r197.2]) (pv_move rfl) (by decide) ?_
              refine ql_pv (v := .int .i64 r197.1) (pv_extract rfl rfl) (by decide) ?_
              refine ql_pv (v := .bool r197.2) (pv_extract rfl rfl) (by decide) ?_
              refine ql_pv (v := .int .i64 r197.1) (pv_assign rfl) (by decide) ?_
              refine ql_pv (v := .bool r197.2) (pv_assign rfl) (by decide) ?_
              refine ql_nil ?_
              intro w198 hx199
              replace hS := hS.ext hx199
              refine hQ187 _ _ _ ?_
              refine thn_n ?_
              refine cw_seq ?_
              refine cw_gen ?_
              intro Q200 hQ200
              refine cw_reg ?_
              refine el_pv (v := .int .i64 x178) (pv_move rfl) (by decide) ?_
              refine el_pv (v := .int .i64 r197.1) (pv_move rfl) (by decide) ?_
              replace hF := ob hF
              obtain ⟨x201, hx201, hF⟩ := hF
              refine el_pv (v := .int .i64 x201) (pv_add rfl rfl hx201) (by decide) ?_
              refine el_pv (v := .bool r197.2) (pv_move rfl) (by decide) ?_
              refine el_pv (v := .int .i64 x201) (pv_assign rfl) (by decide) ?_
              refine el_pv (v := .bool r197.2) (pv_assign rfl) (by decide) ?_
              refine el_nil ?_
              refine hQ200 _ _ _ ?_
              refine thn_n ?_
              refine cw_ret ?_
              refine hQ149 _ _ _ ?_
              refine inb_r ?_
              refine hQ148 _ _ _ ?_
              refine thn_r ?_
              refine hQ144 _ _ _ ?_
              refine thn_r ?_
              refine hQ129 _ _ _ ?_
              refine inb_r ?_
              refine hQ127 _ _ _ ?_
              refine thn_r ?_
              replace hF := exL hF hK131
              refine fin2 rfl rfl rfl ?_
              have hr := Option.some.inj hF
              exact ⟨congrArg (fun (r : Int × Bool) => Ending.returned (.tuple #[.int .i64 r.1, .bool r.2])) hr, hS.below⟩
            · refine cw_cond_f rfl hb186 ?_
              refine cw_skip ?_
              refine hQ149 _ _ _ ?_
              refine inb_n ?_
              refine hQ148 _ _ _ ?_
              refine thn_n ?_
              refine cw_reg ?_
              replace hF := ob hF
              obtain ⟨x202, hx202, hF⟩ := hF
              refine el_pv (v := .int .i64 x202) (pv_add he141 rfl hx202) (by decide) ?_
              refine el_pv (v := .int .i64 x202) (pv_move rfl) (by decide) ?_
              refine el_nil ?_
              refine hQ144 _ _ _ ?_
              refine thn_n ?_
              replace hS : Sat w0 w142 [Box b103 30 [u0, u1], Box b122 57 [v119, v120]] := hS.top 1 rfl
              replace hS : Sat w0 w142 [Box b122 57 [v119, v120], Box b103 30 [u0, u1]] := hS.top 1 rfl
              replace hS := hS.keep 2
              exact ⟨x178, x202, he134, he135, he136, he137, rfl, he139, he140, rfl, hS, hF⟩
          · refine cw_cond_f rfl hb165 ?_
            refine cw_skip ?_
            refine hQ157 _ _ _ ?_
            refine thn_n ?_
            refine cw_seq ?_
            refine cw_gen ?_
            intro Q203 hQ203
            refine cw_reg ?_
            refine el_pv (v := .int .i64 x151) (pv_move rfl) (by decide) ?_
            refine el_pv (v := u4) (pv_move he135) (by decide) ?_
            replace hF := ob hF
            obtain ⟨x204, hx204, hF⟩ := hF
            refine el_index (wA := w0) rfl ha4 rfl (by decide) rfl hx204 (by decide) ?_
            intro b205 of206 c207 hr208 hm209
            obtain rfl := hr208
            refine el_pv (v := .int .i64 x204) (pv_loadc rfl ((cells_up hS.below hm209) 0 _ rfl)) (by decide) ?_
            refine el_pv (v := .bool (x151 == x204)) (pv_eql rfl rfl) (by decide) ?_
            refine el_nil ?_
            refine hQ203 _ _ _ ?_
            refine thn_n ?_
            replace hF := oif hF
            rcases hF with ⟨hb210, hF⟩ | ⟨hb210, hF⟩
            · refine cw_cond_t rfl hb210 ?_
              refine cw_seq ?_
              refine cw_gen ?_
              intro Q211 hQ211
              refine cw_regq (by kernel_rfl) (by kernel_rfl) ?_
              refine ql_pv (v := .agg #[u0, u1]) (pv_loada (cs := [u0, u1]) he136 rfl (boxc0 (hS.boxAt 1 rfl))) (by decide) ?_
              refine ql_pv (v := u2) (pv_move he134) (by decide) ?_
              refine ql_pv (v := .pointer (some ⟨b122, 0 + 1, none⟩)) (pv_fieldAddr he137) (by decide) ?_
              refine ql_pv (v := v120) (pv_loadc rfl ((hS.boxAt 0 rfl) 1 _ rfl)) (by decide) ?_
              refine ql_pv (v := .int .i64 x133) (pv_move rfl) (by decide) ?_
              replace hF := ob hF
              obtain ⟨x212, hx212, hF⟩ := hF
              refine ql_index (wA := w0) rfl hr118 rfl (by decide) rfl hx212 (by decide) ?_
              intro b213 of214 c215 hr216 hm217
              obtain rfl := hr216
              refine ql_pv (v := .int .i64 x212) (pv_loadc rfl ((cells_up hS.below hm217) 0 _ rfl)) (by decide) ?_
              refine ql_pv (v := u4) (pv_move he135) (by decide) ?_
              replace hF := ob hF
              obtain ⟨x218, hx218, hF⟩ := hF
              refine ql_slice (wA := w0) rfl rfl ha4 (.inl (congrArg some rfl)) (.inr ⟨rfl, rfl⟩) hx218 (by decide) ?_
              intro v219 hr220
              replace hF := ob hF
              obtain ⟨r221, hr221, hF⟩ := hF
              refine ql_call (.tuple #[.int .i64 r221.1, .bool r221.2]) goes42 (fun w' hw' => ih (rd_up (hS.up ha0) hw') (rd_up (hS.up ha1) hw') (rd_up (hS.up ha2) hw') (rd_up (hS.up hr220) hw') hr221) (congrArg List.toArray (mapc rfl (mapc rfl (mapc rfl (mapc rfl rfl))))) (by decide) ?_
              refine ql_pv (v := .tuple #[.int .i64 r221.1, .bool r221.2]) (pv_move rfl) (by decide) ?_
              refine ql_pv (v := .int .i64 r221.1) (pv_extract rfl rfl) (by decide) ?_
              refine ql_pv (v := .bool r221.2) (pv_extract rfl rfl) (by decide) ?_
              refine ql_pv (v := .int .i64 r221.1) (pv_assign rfl) (by decide) ?_
              refine ql_pv (v := .bool r221.2) (pv_assign rfl) (by decide) ?_
              refine ql_nil ?_
              intro w222 hx223
              replace hS := hS.ext hx223
              refine hQ211 _ _ _ ?_
              refine thn_n ?_
              refine cw_seq ?_
              refine cw_gen ?_
              intro Q224 hQ224
              refine cw_reg ?_
              refine el_pv (v := .int .i64 x132) (pv_move he138) (by decide) ?_
              refine el_pv (v := .int .i64 r221.1) (pv_move rfl) (by decide) ?_
              replace hF := ob hF
              obtain ⟨x225, hx225, hF⟩ := hF
              refine el_pv (v := .int .i64 x225) (pv_add rfl rfl hx225) (by decide) ?_
              refine el_pv (v := .bool r221.2) (pv_move rfl) (by decide) ?_
              refine el_pv (v := .int .i64 x225) (pv_assign rfl) (by decide) ?_
              refine el_pv (v := .bool r221.2) (pv_assign rfl) (by decide) ?_
              refine el_nil ?_
              refine hQ224 _ _ _ ?_
              refine thn_n ?_
              refine cw_ret ?_
              refine hQ149 _ _ _ ?_
              refine inb_r ?_
              refine hQ148 _ _ _ ?_
              refine thn_r ?_
              refine hQ144 _ _ _ ?_
              refine thn_r ?_
              refine hQ129 _ _ _ ?_
              refine inb_r ?_
              refine hQ127 _ _ _ ?_
              refine thn_r ?_
              replace hF := exL hF hK131
              refine fin2 rfl rfl rfl ?_
              have hr := Option.some.inj hF
              exact ⟨congrArg (fun (r : Int × Bool) => Ending.returned (.tuple #[.int .i64 r.1, .bool r.2])) hr, hS.below⟩
            · refine cw_cond_f rfl hb210 ?_
              refine cw_skip ?_
              refine hQ149 _ _ _ ?_
              refine inb_n ?_
              refine hQ148 _ _ _ ?_
              refine thn_n ?_
              refine cw_reg ?_
              replace hF := ob hF
              obtain ⟨x226, hx226, hF⟩ := hF
              refine el_pv (v := .int .i64 x226) (pv_add he141 rfl hx226) (by decide) ?_
              refine el_pv (v := .int .i64 x226) (pv_move rfl) (by decide) ?_
              refine el_nil ?_
              refine hQ144 _ _ _ ?_
              refine thn_n ?_
              replace hS : Sat w0 w142 [Box b103 30 [u0, u1], Box b122 57 [v119, v120]] := hS.top 1 rfl
              replace hS : Sat w0 w142 [Box b122 57 [v119, v120], Box b103 30 [u0, u1]] := hS.top 1 rfl
              replace hS := hS.keep 2
              exact ⟨x132, x226, he134, he135, he136, he137, he138, he139, he140, rfl, hS, hF⟩
        · refine cw_cond_f rfl hb147 ?_
          refine cw_exit ?_
          refine hQ146 _ _ _ ?_
          refine thn_x ?_
          refine hQ144 _ _ _ ?_
          refine thn_x ?_
          replace hF := exA hF hK131
          refine hQ129 _ _ _ ?_
          refine inb_s ?_
          refine hQ127 _ _ _ ?_
          refine thn_n ?_
          refine cw_seq ?_
          refine cw_gen ?_
          intro Q227 hQ227
          refine cw_reg ?_
          refine el_pv (v := .int .i64 x132) (pv_move he138) (by decide) ?_
          refine el_pv (v := .int .i64 x132) (pv_assign rfl) (by decide) ?_
          refine el_pv (v := .bool false) (pv_assign rfl) (by decide) ?_
          refine el_nil ?_
          refine hQ227 _ _ _ ?_
          refine thn_n ?_
          refine cw_ret ?_
          refine fin2 rfl rfl rfl ?_
          have hr := Option.some.inj hF
          exact ⟨congrArg (fun (r : Int × Bool) => Ending.returned (.tuple #[.int .i64 r.1, .bool r.2])) hr, hS.below⟩
theorem impl_rankIn_ok {w0 : World} {u0 : Value} {a0 : List Int} {u1 : Value} {a1 : List (List Int × List Int)} {u2 : Value} {a2 : List Int} {a3 : Int} {u4 : Value} {a4 : List Int} (ha0 : (sliceR intR 3).rd w0 [u0] a0) (ha1 : (sliceR (pairR (sliceR intR 3) (sliceR intR 3)) 57).rd w0 [u1] a1) (ha2 : (sliceR intR 3).rd w0 [u2] a2) (ha4 : (sliceR intR 3).rd w0 [u4] a4) {N : Nat} {r : Int × Bool} (hF : impl_rankIn N a0 a1 a2 a3 a4 = some r) :
    Calls Try.prog 42 #[.agg #[u0, u1], u2, .int .i64 a3, u4] w0 fun e w' => e = .returned (.tuple #[.int .i64 r.1, .bool r.2]) ∧ Ext w0 w' := impl_rankIn_ok' N ha0 ha1 ha2 ha4 hF
set_option maxHeartbeats 4000000 in
theorem impl_FactorizedRank_ok {w0 : World} {u0 : Value} {a0 : List Int} {u1 : Value} {a1 : List (List Int × List Int)} {u2 : Value} {a2 : List Int} (ha0 : (sliceR intR 3).rd w0 [u0] a0) (ha1 : (sliceR (pairR (sliceR intR 3) (sliceR intR 3)) 57).rd w0 [u1] a1) (ha2 : (sliceR intR 3).rd w0 [u2] a2) {N : Nat} {r : Int × Bool} (hF : impl_FactorizedRank N a0 a1 a2 = some r) :
    Calls Try.prog 19 #[.agg #[u0, u1], u2] w0 fun e w' => e = .returned (.tuple #[.int .i64 r.1, .bool r.2]) ∧ Ext w0 w' := by
  unfold impl_FactorizedRank at hF
  refine calls_E Try.func19 rfl rfl (of_decide_eq_true rfl) ?_
  have hS := Sat.start w0
  refine cw_seq ?_
  refine cw_gen ?_
  intro Q101 hQ101
  refine cw_reg ?_
  refine el_box [u0, u1] rfl hS (by decide) ?_
  intro w102 b103 hS hx104
  refine el_pv (v := .int .i64 0) (pv_assign rfl) (by decide) ?_
  refine el_pv (v := .bool false) (pv_assign rfl) (by decide) ?_
  refine el_nil ?_
  refine hQ101 _ _ _ ?_
  refine thn_n ?_
  refine cw_seq ?_
  refine cw_gen ?_
  intro Q106 hQ106
  refine cw_seq ?_
  refine cw_gen ?_
  intro Q107 hQ107
  refine cw_reg ?_
  refine el_pv (v := .agg #[u0, u1]) (pv_loada (cs := [u0, u1]) rfl rfl (boxc0 (hS.boxAt 0 rfl))) (by decide) ?_
  replace hF := ob hF
  obtain ⟨r108, hr108, hF⟩ := hF
  refine el_call goes37 (impl_IsValidFactorization_ok (hS.up ha0) (hS.up ha1) hr108) (congrArg List.toArray (mapc rfl rfl)) (by decide) ?_
  rintro _ w109 ⟨rfl, hx110⟩
  refine ⟨_, rfl, ?_⟩
  replace hS := hS.ext hx110
  refine el_pv (v := .bool (!r108)) (pv_not rfl) (by decide) ?_
  refine el_pv (v := .bool (!r108)) (pv_move rfl) (by decide) ?_
  replace hF := oif hF
  rcases hF with ⟨hb111, hF⟩ | ⟨hb111, hF⟩
  · refine el_on rfl (bnot_t hb111) ?_
    refine el_pv (v := u2) (pv_move rfl) (by decide) ?_
    refine el_on rfl (bnot_t hb111) ?_
    refine el_pv (v := .int .i64 (a2.length : Int)) (pv_len rfl ha2) (by decide) ?_
    refine el_on rfl (bnot_t hb111) ?_
    refine el_pv (v := .pointer (some ⟨b103, 0 + 0, none⟩)) (pv_fieldAddr rfl) (by decide) ?_
    refine el_on rfl (bnot_t hb111) ?_
    refine el_pv (v := u0) (pv_loadc rfl ((hS.boxAt 0 rfl) 0 _ rfl)) (by decide) ?_
    refine el_on rfl (bnot_t hb111) ?_
    refine el_pv (v := .int .i64 (a0.length : Int)) (pv_len rfl ha0) (by decide) ?_
    refine el_on rfl (bnot_t hb111) ?_
    refine el_pv (v := .bool ((a2.length : Int) != (a0.length : Int))) (pv_neq rfl rfl) (by decide) ?_
    refine el_pv (v := .bool ((a2.length : Int) != (a0.length : Int))) (pv_pick_f rfl (bnot_t hb111) rfl) (by decide) ?_
    refine el_nil ?_
    refine hQ107 _ _ _ ?_
    refine thn_n ?_
    replace hF := oif hF
    rcases hF with ⟨hb112, hF⟩ | ⟨hb112, hF⟩
    · refine cw_cond_t rfl hb112 ?_
      refine cw_seq ?_
      refine cw_gen ?_
      intro Q113 hQ113
      refine cw_reg ?_
      refine el_pv (v := .int .i64 0) (pv_assign rfl) (by decide) ?_
      refine el_pv (v := .bool false) (pv_assign rfl) (by decide) ?_
      refine el_nil ?_
      refine hQ113 _ _ _ ?_
      refine thn_n ?_
      refine cw_ret ?_
      refine hQ106 _ _ _ ?_
      refine thn_r ?_
      refine fin2 rfl rfl rfl ?_
      have hr := Option.some.inj hF
      exact ⟨congrArg (fun (r : Int × Bool) => Ending.returned (.tuple #[.int .i64 r.1, .bool r.2])) hr, hS.below⟩
    · refine cw_cond_f rfl hb112 ?_
      refine cw_skip ?_
      refine hQ106 _ _ _ ?_
      refine thn_n ?_
      refine cw_seq ?_
      refine cw_gen ?_
      intro Q114 hQ114
      refine cw_reg ?_
      refine el_pv (v := .agg #[u0, u1]) (pv_loada (cs := [u0, u1]) rfl rfl (boxc0 (hS.boxAt 0 rfl))) (by decide) ?_
      replace hF := ob hF
      obtain ⟨r115, hr115, hF⟩ := hF
      refine el_call goes38 (impl_counts_ok (hS.up ha0) (hS.up ha1) hr115) (congrArg List.toArray (mapc rfl rfl)) (by decide) ?_
      rintro _ w118 ⟨v116, rfl, hS'⟩
      refine ⟨_, rfl, ?_⟩
      have hx119 := hS'.below
      replace hS := hS.call1 hS'
      refine el_pv (v := v116) (pv_assign rfl) (by decide) ?_
      refine el_nil ?_
      refine hQ114 _ _ _ ?_
      refine thn_n ?_
      refine cw_seq ?_
      refine cw_gen ?_
      intro Q120 hQ120
      refine cw_seq ?_
      refine cw_gen ?_
      intro Q121 hQ121
      refine cw_reg ?_
      refine el_pv (v := v116) (pv_move rfl) (by decide) ?_
      refine el_pv (v := v116) (pv_move rfl) (by decide) ?_
      refine el_pv (v := .int .i64 (r115.length : Int)) (pv_len rfl (hS.rdAt (R := (sliceR intR 3)) 0 rfl)) (by decide) ?_
      replace hF := ob hF
      obtain ⟨x122, hx122, hF⟩ := hF
      refine el_pv (v := .int .i64 x122) (pv_sub rfl rfl hx122) (by decide) ?_
      replace hF := ob hF
      obtain ⟨x123, hx123, hF⟩ := hF
      obtain ⟨g124, cap125, hv126⟩ := ownShape 0 hS rfl hx123
      refine el_pv (v := .pointer (some ⟨g124, x122.toNat * 1, none⟩)) (pv_indexF (v := v116) rfl hv126 rfl hx123) (by decide) ?_
      refine el_pv (v := .int .i64 x123) (pv_loadc rfl (hS.ownCell 0 rfl hv126 hx123)) (by decide) ?_
      refine el_pv (v := .bool (x123 == 0)) (pv_eql rfl rfl) (by decide) ?_
      refine el_nil ?_
      refine hQ121 _ _ _ ?_
      refine thn_n ?_
      replace hF := oif hF
      rcases hF with ⟨hb127, hF⟩ | ⟨hb127, hF⟩
      · refine cw_cond_t rfl hb127 ?_
        refine cw_seq ?_
        refine cw_gen ?_
        intro Q128 hQ128
        refine cw_reg ?_
        refine el_pv (v := .int .i64 0) (pv_assign rfl) (by decide) ?_
        refine el_pv (v := .bool false) (pv_assign rfl) (by decide) ?_
        refine el_nil ?_
        refine hQ128 _ _ _ ?_
        refine thn_n ?_
        refine cw_ret ?_
        refine hQ120 _ _ _ ?_
        refine thn_r ?_
        refine fin2 rfl rfl rfl ?_
        have hr := Option.some.inj hF
        exact ⟨congrArg (fun (r : Int × Bool) => Ending.returned (.tuple #[.int .i64 r.1, .bool r.2])) hr, hS.below⟩
      · refine cw_cond_f rfl hb127 ?_
        refine cw_skip ?_
        refine hQ120 _ _ _ ?_
        refine thn_n ?_
        refine cw_seq ?_
        refine cw_gen ?_
        intro Q129 hQ129
        refine cw_reg ?_
        refine el_pv (v := .agg #[u0, u1]) (pv_loada (cs := [u0, u1]) rfl rfl (boxc0 (hS.boxAt 1 rfl))) (by decide) ?_
        refine el_pv (v := v116) (pv_move rfl) (by decide) ?_
        refine el_pv (v := v116) (pv_move rfl) (by decide) ?_
        refine el_pv (v := .int .i64 (r115.length : Int)) (pv_len rfl (hS.rdAt (R := (sliceR intR 3)) 0 rfl)) (by decide) ?_
        replace hF := ob hF
        obtain ⟨x130, hx130, hF⟩ := hF
        refine el_pv (v := .int .i64 x130) (pv_sub rfl rfl hx130) (by decide) ?_
        refine el_pv (v := u2) (pv_move rfl) (by decide) ?_
        replace hF := ob hF
        obtain ⟨r131, hr131, hF⟩ := hF
        refine el_call goes42 (impl_rankIn_ok (hS.up ha0) (hS.up ha1) (hS.rdAt (R := (sliceR intR 3)) 0 rfl) (hS.up ha2) hr131) (congrArg List.toArray (mapc rfl (mapc rfl (mapc rfl (mapc rfl rfl))))) (by decide) ?_
        rintro _ w132 ⟨rfl, hx133⟩
        refine ⟨_, rfl, ?_⟩
        replace hS := hS.ext hx133
        refine el_pv (v := .int .i64 r131.1) (pv_extract rfl rfl) (by decide) ?_
        refine el_pv (v := .bool r131.2) (pv_extract rfl rfl) (by decide) ?_
        refine el_pv (v := .int .i64 r131.1) (pv_assign rfl) (by decide) ?_
        refine el_pv (v := .bool r131.2) (pv_assign rfl) (by decide) ?_
        refine el_nil ?_
        refine hQ129 _ _ _ ?_
        refine thn_n ?_
        refine cw_ret ?_
        refine fin2 rfl rfl rfl ?_
        have hr := Option.some.inj hF
        exact ⟨congrArg (fun (r : Int × Bool) => Ending.returned (.tuple #[.int .i64 r.1, .bool r.2])) hr, hS.below⟩
  · refine el_off rfl (bnot_f hb111) rfl (by decide) ?_
    refine el_off rfl (bnot_f hb111) rfl (by decide) ?_
    refine el_off rfl (bnot_f hb111) rfl (by decide) ?_
    refine el_off rfl (bnot_f hb111) rfl (by decide) ?_
    refine el_off rfl (bnot_f hb111) rfl (by decide) ?_
    refine el_off rfl (bnot_f hb111) rfl (by decide) ?_
    refine el_pv (v := .bool true) (pv_pick_t rfl (bnot_f hb111) rfl) (by decide) ?_
    refine el_nil ?_
    refine hQ107 _ _ _ ?_
    refine thn_n ?_
    refine cw_cond_t rfl rfl ?_
    refine cw_seq ?_
    refine cw_gen ?_
    intro Q134 hQ134
    refine cw_reg ?_
    refine el_pv (v := .int .i64 0) (pv_assign rfl) (by decide) ?_
    refine el_pv (v := .bool false) (pv_assign rfl) (by decide) ?_
    refine el_nil ?_
    refine hQ134 _ _ _ ?_
    refine thn_n ?_
    refine cw_ret ?_
    refine hQ106 _ _ _ ?_
    refine thn_r ?_
    refine fin2 rfl rfl rfl ?_
    have hr := Option.some.inj hF
    exact ⟨congrArg (fun (r : Int × Bool) => Ending.returned (.tuple #[.int .i64 r.1, .bool r.2])) hr, hS.below⟩
set_option maxHeartbeats 4000000 in
theorem laws_FnExactFactorizedRank_ok {w0 : World} {u0 : Value} {a0 : List Int} {u1 : Value} {a1 : List (List Int × List Int)} {u2 : Value} {a2 : List Int} (ha0 : (sliceR intR 3).rd w0 [u0] a0) (ha1 : (sliceR (pairR (sliceR intR 3) (sliceR intR 3)) 62).rd w0 [u1] a1) (ha2 : (sliceR intR 3).rd w0 [u2] a2) {N : Nat} {r : Bool} (hF : laws_FnExactFactorizedRank N a0 a1 a2 = some r) :
    Calls Try.prog 5 #[.agg #[u0, u1], u2] w0 fun e w' => e = .returned (.bool r) ∧ Ext w0 w' := by
  unfold laws_FnExactFactorizedRank at hF
  refine calls_E Try.func5 rfl rfl (of_decide_eq_true rfl) ?_
  have hS := Sat.start w0
  refine cw_seq ?_
  refine cw_gen ?_
  intro Q101 hQ101
  refine cw_reg ?_
  refine el_box [u0, u1] rfl hS (by decide) ?_
  intro w102 b103 hS hx104
  refine el_pv (v := .bool false) (pv_assign rfl) (by decide) ?_
  refine el_nil ?_
  refine hQ101 _ _ _ ?_
  refine thn_n ?_
  refine cw_seq ?_
  refine cw_gen ?_
  intro Q106 hQ106
  refine cw_seq ?_
  refine cw_gen ?_
  intro Q107 hQ107
  refine cw_reg ?_
  refine el_pv (v := u2) (pv_move rfl) (by decide) ?_
  refine el_pv (v := .int .i64 (a2.length : Int)) (pv_len rfl ha2) (by decide) ?_
  refine el_pv (v := .bool (decide (1048576 < (a2.length : Int)))) (pv_gtr rfl rfl) (by decide) ?_
  refine el_nil ?_
  refine hQ107 _ _ _ ?_
  refine thn_n ?_
  replace hF := oif hF
  rcases hF with ⟨hb108, hF⟩ | ⟨hb108, hF⟩
  · refine cw_cond_t rfl hb108 ?_
    refine cw_seq ?_
    refine cw_gen ?_
    intro Q109 hQ109
    refine cw_reg ?_
    refine el_pv (v := .bool true) (pv_assign rfl) (by decide) ?_
    refine el_nil ?_
    refine hQ109 _ _ _ ?_
    refine thn_n ?_
    refine cw_ret ?_
    refine hQ106 _ _ _ ?_
    refine thn_r ?_
    refine fin1 rfl rfl ?_
    have hr := Option.some.inj hF
    exact ⟨congrArg (fun (r : Bool) => Ending.returned (.bool r)) hr, hS.below⟩
  · refine cw_cond_f rfl hb108 ?_
    refine cw_skip ?_
    refine hQ106 _ _ _ ?_
    refine thn_n ?_
    refine cw_seq ?_
    refine cw_gen ?_
    intro Q110 hQ110
    refine cw_reg ?_
    refine el_pv (v := .int .i64 1048576) (pv_assign rfl) (by decide) ?_
    refine el_nil ?_
    refine hQ110 _ _ _ ?_
    refine thn_n ?_
    refine cw_seq ?_
    refine cw_gen ?_
    intro Q111 hQ111
    refine cw_reg ?_
    refine el_pv (v := .agg #[u0, u1]) (pv_loada (cs := [u0, u1]) rfl rfl (boxc0 (hS.boxAt 0 rfl))) (by decide) ?_
    refine el_pv (v := .int .i64 1048576) (pv_move rfl) (by decide) ?_
    replace hF := ob hF
    obtain ⟨r112, hr112, hF⟩ := hF
    refine el_call goes9 (laws_szFactorization_ok (hS.up ha0) (hS.up ha1) hr112) (congrArg List.toArray (mapc rfl (mapc rfl rfl))) (by decide) ?_
    rintro _ w113 ⟨rfl, hx114⟩
    refine ⟨_, rfl, ?_⟩
    replace hS := hS.ext hx114
    refine el_pv (v := .int .i64 r112) (pv_assign rfl) (by decide) ?_
    refine el_nil ?_
    refine hQ111 _ _ _ ?_
    refine thn_n ?_
    refine cw_seq ?_
    refine cw_gen ?_
    intro Q115 hQ115
    refine cw_seq ?_
    refine cw_gen ?_
    intro Q116 hQ116
    refine cw_reg ?_
    refine el_pv (v := .int .i64 r112) (pv_move rfl) (by decide) ?_
    refine el_pv (v := .bool (decide (r112 < 0))) (pv_lss rfl rfl) (by decide) ?_
    refine el_nil ?_
    refine hQ116 _ _ _ ?_
    refine thn_n ?_
    replace hF := oif hF
    rcases hF with ⟨hb117, hF⟩ | ⟨hb117, hF⟩
    · refine cw_cond_t rfl hb117 ?_
      refine cw_seq ?_
      refine cw_gen ?_
      intro Q118 hQ118
      refine cw_reg ?_
      refine el_pv (v := .bool true) (pv_assign rfl) (by decide) ?_
      refine el_nil ?_
      refine hQ118 _ _ _ ?_
      refine thn_n ?_
      refine cw_ret ?_
      refine hQ115 _ _ _ ?_
      refine thn_r ?_
      refine fin1 rfl rfl ?_
      have hr := Option.some.inj hF
      exact ⟨congrArg (fun (r : Bool) => Ending.returned (.bool r)) hr, hS.below⟩
    · refine cw_cond_f rfl hb117 ?_
      refine cw_skip ?_
      refine hQ115 _ _ _ ?_
      refine thn_n ?_
      refine cw_seq ?_
      refine cw_gen ?_
      intro Q119 hQ119
      refine cw_reg ?_
      refine el_pv (v := .agg #[u0, u1]) (pv_loada (cs := [u0, u1]) rfl rfl (boxc0 (hS.boxAt 0 rfl))) (by decide) ?_
      replace hF := ob hF
      obtain ⟨r120, hr120, hF⟩ := hF
      refine el_call goes11 (laws_toFactorization_ok (hS.up ha0) (hS.up ha1) hr120) (congrArg List.toArray (mapc rfl rfl)) (by decide) ?_
      rintro _ w125 ⟨v121, v122, rfl, hS'⟩
      refine ⟨_, rfl, ?_⟩
      have hx126 := hS'.below
      replace hS := hS.call2 hS'
      refine el_pv (v := u2) (pv_move rfl) (by decide) ?_
      replace hF := ob hF
      obtain ⟨r127, hr127, hF⟩ := hF
      refine el_call goes15 (laws_toIntS_ok (hS.up ha2) hr127) (congrArg List.toArray (mapc rfl rfl)) (by decide) ?_
      rintro _ w130 ⟨v128, rfl, hS'⟩
      refine ⟨_, rfl, ?_⟩
      have hx131 := hS'.below
      replace hS := hS.call1 hS'
      replace hF := ob hF
      obtain ⟨r132, hr132, hF⟩ := hF
      refine el_call goes18 (spec_FactorizedRank_ok (hS.rdAt (R := (sliceR intR 3)) 1 rfl) (hS.rdAt (R := (sliceR (pairR (sliceR intR 3) (sliceR intR 3)) 57)) 2 rfl) (hS.rdAt (R := (sliceR intR 3)) 0 rfl) hr132) (congrArg List.toArray (mapc rfl (mapc rfl rfl))) (by decide) ?_
      rintro _ w133 ⟨rfl, hx134⟩
      refine ⟨_, rfl, ?_⟩
      replace hS := hS.ext hx134
      refine el_pv (v := .tuple #[.int .i64 r132.1, .bool r132.2]) (pv_move rfl) (by decide) ?_
      refine el_pv (v := .int .i64 r132.1) (pv_extract rfl rfl) (by decide) ?_
      refine el_pv (v := .bool r132.2) (pv_extract rfl rfl) (by decide) ?_
      refine el_pv (v := .int .i64 r132.1) (pv_assign rfl) (by decide) ?_
      refine el_pv (v := .bool r132.2) (pv_assign rfl) (by decide) ?_
      refine el_nil ?_
      refine hQ119 _ _ _ ?_
      refine thn_n ?_
      refine cw_seq ?_
      refine cw_gen ?_
      intro Q135 hQ135
      refine cw_reg ?_
      refine el_pv (v := .agg #[u0, u1]) (pv_loada (cs := [u0, u1]) rfl rfl (boxc0 (hS.boxAt 3 rfl))) (by decide) ?_
      replace hF := ob hF
      obtain ⟨r136, hr136, hF⟩ := hF
      refine el_call goes11 (laws_toFactorization_ok (hS.up ha0) (hS.up ha1) hr136) (congrArg List.toArray (mapc rfl rfl)) (by decide) ?_
      rintro _ w141 ⟨v137, v138, rfl, hS'⟩
      refine ⟨_, rfl, ?_⟩
      have hx142 := hS'.below
      replace hS := hS.call2 hS'
      refine el_alloc hS (by decide) ?_
      intro w143 b144 hS hx145
      refine el_storev (hS.top 0 rfl) rfl [v137, v138] rfl rfl (of_decide_eq_true rfl) (all_cons (oc (hS.rdAt (R := (sliceR intR 3)) 1 rfl)) (all_cons (oc (hS.rdAt (R := (sliceR (pairR (sliceR intR 3) (sliceR intR 3)) 57)) 2 rfl)) rfl)) ?_
      intro w147 hS
      replace hS : Sat w0 w147 [Box b144 30 [v137, v138], Own (sliceR intR 3) [v137] r136.1, Own (sliceR (pairR (sliceR intR 3) (sliceR intR 3)) 57) [v138] r136.2, Own (sliceR intR 3) [v128] r127, Own (sliceR intR 3) [v121] r120.1, Own (sliceR (pairR (sliceR intR 3) (sliceR intR 3)) 57) [v122] r120.2, Box b103 25 [u0, u1]] := hS
      refine el_nil ?_
      refine hQ135 _ _ _ ?_
      refine thn_n ?_
      refine cw_seq ?_
      refine cw_gen ?_
      intro Q148 hQ148
      refine cw_reg ?_
      refine el_pv (v := u2) (pv_move rfl) (by decide) ?_
      replace hF := ob hF
      obtain ⟨r149, hr149, hF⟩ := hF
      refine el_call goes15 (laws_toIntS_ok (hS.up ha2) hr149) (congrArg List.toArray (mapc rfl rfl)) (by decide) ?_
      rintro _ w152 ⟨v150, rfl, hS'⟩
      refine ⟨_, rfl, ?_⟩
      have hx153 := hS'.below
      replace hS := hS.call1 hS'
      refine el_pv (v := v150) (pv_assign rfl) (by decide) ?_
      refine el_nil ?_
      refine hQ148 _ _ _ ?_
      refine thn_n ?_
      refine cw_seq ?_
      refine cw_gen ?_
      intro Q154 hQ154
      refine cw_reg ?_
      refine el_pv (v := .agg #[v137, v138]) (pv_loada (cs := [v137, v138]) rfl rfl (boxc0 (hS.boxAt 1 rfl))) (by decide) ?_
      refine el_pv (v := v150) (pv_move rfl) (by decide) ?_
      replace hF := ob hF
      obtain ⟨r155, hr155, hF⟩ := hF
      refine el_call goes19 (impl_FactorizedRank_ok (hS.rdAt (R := (sliceR intR 3)) 2 rfl) (hS.rdAt (R := (sliceR (pairR (sliceR intR 3) (sliceR intR 3)) 57)) 3 rfl) (hS.rdAt (R := (sliceR intR 3)) 0 rfl) hr155) (congrArg List.toArray (mapc rfl (mapc rfl rfl))) (by decide) ?_
      rintro _ w156 ⟨rfl, hx157⟩
      refine ⟨_, rfl, ?_⟩
      replace hS := hS.ext hx157
      refine el_pv (v := .tuple #[.int .i64 r155.1, .bool r155.2]) (pv_move rfl) (by decide) ?_
      refine el_pv (v := .int .i64 r155.1) (pv_extract rfl rfl) (by decide) ?_
      refine el_pv (v := .bool r155.2) (pv_extract rfl rfl) (by decide) ?_
      refine el_pv (v := .int .i64 r155.1) (pv_assign rfl) (by decide) ?_
      refine el_pv (v := .bool r155.2) (pv_assign rfl) (by decide) ?_
      refine el_nil ?_
      refine hQ154 _ _ _ ?_
      refine thn_n ?_
      refine cw_seq ?_
      refine cw_gen ?_
      intro Q158 hQ158
      refine cw_seq ?_
      refine cw_gen ?_
      intro Q159 hQ159
      refine cw_reg ?_
      refine el_pv (v := .int .i64 r155.1) (pv_move rfl) (by decide) ?_
      refine el_pv (v := .int .i64 r132.1) (pv_move rfl) (by decide) ?_
      refine el_pv (v := .bool (r155.1 != r132.1)) (pv_neq rfl rfl) (by decide) ?_
      refine el_pv (v := .bool (r155.1 != r132.1)) (pv_move rfl) (by decide) ?_
      replace hF := oif hF
      rcases hF with ⟨hb160, hF⟩ | ⟨hb160, hF⟩
      · refine el_off rfl hb160 rfl (by decide) ?_
        refine el_off rfl hb160 rfl (by decide) ?_
        refine el_off rfl hb160 rfl (by decide) ?_
        refine el_pv (v := .bool true) (pv_pick_t rfl hb160 rfl) (by decide) ?_
        refine el_nil ?_
        refine hQ159 _ _ _ ?_
        refine thn_n ?_
        refine cw_cond_t rfl rfl ?_
        refine cw_seq ?_
        refine cw_gen ?_
        intro Q161 hQ161
        refine cw_reg ?_
        refine el_pv (v := .bool false) (pv_assign rfl) (by decide) ?_
        refine el_nil ?_
        refine hQ161 _ _ _ ?_
        refine thn_n ?_
        refine cw_ret ?_
        refine hQ158 _ _ _ ?_
        refine thn_r ?_
        refine fin1 rfl rfl ?_
        have hr := Option.some.inj hF
        exact ⟨congrArg (fun (r : Bool) => Ending.returned (.bool r)) hr, hS.below⟩
      · refine el_on rfl hb160 ?_
        refine el_pv (v := .bool r155.2) (pv_move rfl) (by decide) ?_
        refine el_on rfl hb160 ?_
        refine el_pv (v := .bool r132.2) (pv_move rfl) (by decide) ?_
        refine el_on rfl hb160 ?_
        refine el_pv (v := .bool (r155.2 != r132.2)) (pv_neqB Try.underlying4 rfl rfl) (by decide) ?_
        refine el_pv (v := .bool (r155.2 != r132.2)) (pv_pick_f rfl hb160 rfl) (by decide) ?_
        refine el_nil ?_
        refine hQ159 _ _ _ ?_
        refine thn_n ?_
        replace hF := oif hF
        rcases hF with ⟨hb162, hF⟩ | ⟨hb162, hF⟩
        · refine cw_cond_t rfl hb162 ?_
          refine cw_seq ?_
          refine cw_gen ?_
          intro Q163 hQ163
          refine cw_reg ?_
          refine el_pv (v := .bool false) (pv_assign rfl) (by decide) ?_
          refine el_nil ?_
          refine hQ163 _ _ _ ?_
          refine thn_n ?_
          refine cw_ret ?_
          refine hQ158 _ _ _ ?_
          refine thn_r ?_
          refine fin1 rfl rfl ?_
          have hr := Option.some.inj hF
          exact ⟨congrArg (fun (r : Bool) => Ending.returned (.bool r)) hr, hS.below⟩
        · refine cw_cond_f rfl hb162 ?_
          refine cw_skip ?_
          refine hQ158 _ _ _ ?_
          refine thn_n ?_
          refine cw_seq ?_
          refine cw_gen ?_
          intro Q164 hQ164
          refine cw_seq ?_
          refine cw_gen ?_
          intro Q165 hQ165
          obtain ⟨C, hCd⟩ : ∃ C : World → Prop, ∀ w, C w ↔ ∃ G, Sat w0 w ([Box b144 30 [v137, v138], Box b103 25 [u0, u1], Own (sliceR intR 3) [v150] r149, Own (sliceR intR 3) [v137] r136.1, Own (sliceR (pairR (sliceR intR 3) (sliceR intR 3)) 57) [v138] r136.2, Own (sliceR intR 3) [v128] r127, Own (sliceR intR 3) [v121] r120.1, Own (sliceR (pairR (sliceR intR 3) (sliceR intR 3)) 57) [v122] r120.2] ++ G) := ⟨_, fun _ => Iff.rfl⟩
          refine cw_regb [0, 1, 2, 3, 4] C (by kernel_rfl) ?_
          intro w166 hx167
          replace hS := hS.ext hx167
          replace hS : Sat w0 w166 [Own (sliceR (pairR (sliceR intR 3) (sliceR intR 3)) 57) [v122] r120.2, Own (sliceR intR 3) [v150] r149, Box b144 30 [v137, v138], Own (sliceR intR 3) [v137] r136.1, Own (sliceR (pairR (sliceR intR 3) (sliceR intR 3)) 57) [v138] r136.2, Own (sliceR intR 3) [v128] r127, Own (sliceR intR 3) [v121] r120.1, Box b103 25 [u0, u1]] := hS.top 6 rfl
          replace hS : Sat w0 w166 [Own (sliceR intR 3) [v121] r120.1, Own (sliceR (pairR (sliceR intR 3) (sliceR intR 3)) 57) [v122] r120.2, Own (sliceR intR 3) [v150] r149, Box b144 30 [v137, v138], Own (sliceR intR 3) [v137] r136.1, Own (sliceR (pairR (sliceR intR 3) (sliceR intR 3)) 57) [v138] r136.2, Own (sliceR intR 3) [v128] r127, Box b103 25 [u0, u1]] := hS.top 6 rfl
          replace hS : Sat w0 w166 [Own (sliceR intR 3) [v128] r127, Own (sliceR intR 3) [v121] r120.1, Own (sliceR (pairR (sliceR intR 3) (sliceR intR 3)) 57) [v122] r120.2, Own (sliceR intR 3) [v150] r149, Box b144 30 [v137, v138], Own (sliceR intR 3) [v137] r136.1, Own (sliceR (pairR (sliceR intR 3) (sliceR intR 3)) 57) [v138] r136.2, Box b103 25 [u0, u1]] := hS.top 6 rfl
          replace hS : Sat w0 w166 [Own (sliceR (pairR (sliceR intR 3) (sliceR intR 3)) 57) [v138] r136.2, Own (sliceR intR 3) [v128] r127, Own (sliceR intR 3) [v121] r120.1, Own (sliceR (pairR (sliceR intR 3) (sliceR intR 3)) 57) [v122] r120.2, Own (sliceR intR 3) [v150] r149, Box b144 30 [v137, v138], Own (sliceR intR 3) [v137] r136.1, Box b103 25 [u0, u1]] := hS.top 6 rfl
          replace hS : Sat w0 w166 [Own (sliceR intR 3) [v137] r136.1, Own (sliceR (pairR (sliceR intR 3) (sliceR intR 3)) 57) [v138] r136.2, Own (sliceR intR 3) [v128] r127, Own (sliceR intR 3) [v121] r120.1, Own (sliceR (pairR (sliceR intR 3) (sliceR intR 3)) 57) [v122] r120.2, Own (sliceR intR 3) [v150] r149, Box b144 30 [v137, v138], Box b103 25 [u0, u1]] := hS.top 6 rfl
          replace hS : Sat w0 w166 [Own (sliceR intR 3) [v150] r149, Own (sliceR intR 3) [v137] r136.1, Own (sliceR (pairR (sliceR intR 3) (sliceR intR 3)) 57) [v138] r136.2, Own (sliceR intR 3) [v128] r127, Own (sliceR intR 3) [v121] r120.1, Own (sliceR (pairR (sliceR intR 3) (sliceR intR 3)) 57) [v122] r120.2, Box b144 30 [v137, v138], Box b103 25 [u0, u1]] := hS.top 5 rfl
          replace hS : Sat w0 w166 [Box b103 25 [u0, u1], Own (sliceR intR 3) [v150] r149, Own (sliceR intR 3) [v137] r136.1, Own (sliceR (pairR (sliceR intR 3) (sliceR intR 3)) 57) [v138] r136.2, Own (sliceR intR 3) [v128] r127, Own (sliceR intR 3) [v121] r120.1, Own (sliceR (pairR (sliceR intR 3) (sliceR intR 3)) 57) [v122] r120.2, Box b144 30 [v137, v138]] := hS.top 7 rfl
          replace hS : Sat w0 w166 [Box b144 30 [v137, v138], Box b103 25 [u0, u1], Own (sliceR intR 3) [v150] r149, Own (sliceR intR 3) [v137] r136.1, Own (sliceR (pairR (sliceR intR 3) (sliceR intR 3)) 57) [v138] r136.2, Own (sliceR intR 3) [v128] r127, Own (sliceR intR 3) [v121] r120.1, Own (sliceR (pairR (sliceR intR 3) (sliceR intR 3)) 57) [v122] r120.2] := hS.top 7 rfl
          have hC := (hCd _).2 ⟨_, hS⟩
          refine al_p (v := .agg #[v137, v138]) (by kernel_rfl) 0 rfl rfl (by decide) hC (by kernel_rfl) (by kernel_rfl) (sv_on rfl (fun w' hw' => by obtain ⟨_, hS⟩ := (hCd _).1 hw'; exact (pv_loada (cs := [v137, v138]) rfl rfl (boxc0 (hS.boxAt 0 rfl))))) ?_
          refine al_p (v := .agg #[u0, u1]) (by kernel_rfl) 1 rfl rfl (by decide) hC (by kernel_rfl) (by kernel_rfl) (sv_on rfl (fun w' hw' => by obtain ⟨_, hS⟩ := (hCd _).1 hw'; exact (pv_loada (cs := [u0, u1]) rfl rfl (boxc0 (hS.boxAt 1 rfl))))) ?_
          refine al_one 2 (by kernel_rfl) rfl ?_
          replace hF := ob hF
          obtain ⟨r168, hr168, hF⟩ := hF
          refine el_call goes11 (laws_toFactorization_ok (hS.up ha0) (hS.up ha1) hr168) (congrArg List.toArray (mapc rfl rfl)) (by decide) ?_
          rintro _ w173 ⟨v169, v170, rfl, hS'⟩
          refine ⟨_, rfl, ?_⟩
          have hx174 := hS'.below
          replace hS := hS.call2 hS'
          refine el_nil ?_
          replace hS : Sat w0 w173 [Own (sliceR (pairR (sliceR intR 3) (sliceR intR 3)) 57) [v122] r120.2, Own (sliceR intR 3) [v169] r168.1, Own (sliceR (pairR (sliceR intR 3) (sliceR intR 3)) 57) [v170] r168.2, Box b144 30 [v137, v138], Box b103 25 [u0, u1], Own (sliceR intR 3) [v150] r149, Own (sliceR intR 3) [v137] r136.1, Own (sliceR (pairR (sliceR intR 3) (sliceR intR 3)) 57) [v138] r136.2, Own (sliceR intR 3) [v128] r127, Own (sliceR intR 3) [v121] r120.1] := hS.top 9 rfl
          replace hS : Sat w0 w173 [Own (sliceR intR 3) [v121] r120.1, Own (sliceR (pairR (sliceR intR 3) (sliceR intR 3)) 57) [v122] r120.2, Own (sliceR intR 3) [v169] r168.1, Own (sliceR (pairR (sliceR intR 3) (sliceR intR 3)) 57) [v170] r168.2, Box b144 30 [v137, v138], Box b103 25 [u0, u1], Own (sliceR intR 3) [v150] r149, Own (sliceR intR 3) [v137] r136.1, Own (sliceR (pairR (sliceR intR 3) (sliceR intR 3)) 57) [v138] r136.2, Own (sliceR intR 3) [v128] r127] := hS.top 9 rfl
          replace hS : Sat w0 w173 [Own (sliceR intR 3) [v128] r127, Own (sliceR intR 3) [v121] r120.1, Own (sliceR (pairR (sliceR intR 3) (sliceR intR 3)) 57) [v122] r120.2, Own (sliceR intR 3) [v169] r168.1, Own (sliceR (pairR (sliceR intR 3) (sliceR intR 3)) 57) [v170] r168.2, Box b144 30 [v137, v138], Box b103 25 [u0, u1], Own (sliceR intR 3) [v150] r149, Own (sliceR intR 3) [v137] r136.1, Own (sliceR (pairR (sliceR intR 3) (sliceR intR 3)) 57) [v138] r136.2] := hS.top 9 rfl
          replace hS : Sat w0 w173 [Own (sliceR (pairR (sliceR intR 3) (sliceR intR 3)) 57) [v138] r136.2, Own (sliceR intR 3) [v128] r127, Own (sliceR intR 3) [v121] r120.1, Own (sliceR (pairR (sliceR intR 3) (sliceR intR 3)) 57) [v122] r120.2, Own (sliceR intR 3) [v169] r168.1, Own (sliceR (pairR (sliceR intR 3) (sliceR intR 3)) 57) [v170] r168.2, Box b144 30 [v137, v138], Box b103 25 [u0, u1], Own (sliceR intR 3) [v150] r149, Own (sliceR intR 3) [v137] r136.1] := hS.top 9 rfl
          replace hS : Sat w0 w173 [Own (sliceR intR 3) [v137] r136.1, Own (sliceR (pairR (sliceR intR 3) (sliceR intR 3)) 57) [v138] r136.2, Own (sliceR intR 3) [v128] r127, Own (sliceR intR 3) [v121] r120.1, Own (sliceR (pairR (sliceR intR 3) (sliceR intR 3)) 57) [v122] r120.2, Own (sliceR intR 3) [v169] r168.1, Own (sliceR (pairR (sliceR intR 3) (sliceR intR 3)) 57) [v170] r168.2, Box b144 30 [v137, v138], Box b103 25 [u0, u1], Own (sliceR intR 3) [v150] r149] := hS.top 9 rfl
          replace hS : Sat w0 w173 [Own (sliceR intR 3) [v150] r149, Own (sliceR intR 3) [v137] r136.1, Own (sliceR (pairR (sliceR intR 3) (sliceR intR 3)) 57) [v138] r136.2, Own (sliceR intR 3) [v128] r127, Own (sliceR intR 3) [v121] r120.1, Own (sliceR (pairR (sliceR intR 3) (sliceR intR 3)) 57) [v122] r120.2, Own (sliceR intR 3) [v169] r168.1, Own (sliceR (pairR (sliceR intR 3) (sliceR intR 3)) 57) [v170] r168.2, Box b144 30 [v137, v138], Box b103 25 [u0, u1]] := hS.top 9 rfl
          replace hS : Sat w0 w173 [Box b103 25 [u0, u1], Own (sliceR intR 3) [v150] r149, Own (sliceR intR 3) [v137] r136.1, Own (sliceR (pairR (sliceR intR 3) (sliceR intR 3)) 57) [v138] r136.2, Own (sliceR intR 3) [v128] r127, Own (sliceR intR 3) [v121] r120.1, Own (sliceR (pairR (sliceR intR 3) (sliceR intR 3)) 57) [v122] r120.2, Own (sliceR intR 3) [v169] r168.1, Own (sliceR (pairR (sliceR intR 3) (sliceR intR 3)) 57) [v170] r168.2, Box b144 30 [v137, v138]] := hS.top 9 rfl
          replace hS : Sat w0 w173 [Box b144 30 [v137, v138], Box b103 25 [u0, u1], Own (sliceR intR 3) [v150] r149, Own (sliceR intR 3) [v137] r136.1, Own (sliceR (pairR (sliceR intR 3) (sliceR intR 3)) 57) [v138] r136.2, Own (sliceR intR 3) [v128] r127, Own (sliceR intR 3) [v121] r120.1, Own (sliceR (pairR (sliceR intR 3) (sliceR intR 3)) 57) [v122] r120.2, Own (sliceR intR 3) [v169] r168.1, Own (sliceR (pairR (sliceR intR 3) (sliceR intR 3)) 57) [v170] r168.2] := hS.top 9 rfl
          have hC := (hCd _).2 ⟨_, hS⟩
          have hoc150 := oc (hS.rdAt (R := (sliceR intR 3)) 2 rfl)
          have hoc137 := oc (hS.rdAt (R := (sliceR intR 3)) 3 rfl)
          have hoc138 := oc (hS.rdAt (R := (sliceR (pairR (sliceR intR 3) (sliceR intR 3)) 57)) 4 rfl)
          have hoc128 := oc (hS.rdAt (R := (sliceR intR 3)) 5 rfl)
          have hoc121 := oc (hS.rdAt (R := (sliceR intR 3)) 6 rfl)
          have hoc122 := oc (hS.rdAt (R := (sliceR (pairR (sliceR intR 3) (sliceR intR 3)) 57)) 7 rfl)
          have hoc169 := oc (hS.rdAt (R := (sliceR intR 3)) 8 rfl)
          have hoc170 := oc (hS.rdAt (R := (sliceR (pairR (sliceR intR 3) (sliceR intR 3)) 57)) 9 rfl)
          refine ⟨fun _ => hC, ?_⟩
          refine al_one 3 (by kernel_rfl) rfl ?_
          replace hF := ob hF
          obtain ⟨r175, hr175, hF⟩ := hF
          refine el_call goes13 (laws_eqFactorization_ok (hS.rdAt (R := (sliceR intR 3)) 3 rfl) (hS.rdAt (R := (sliceR (pairR (sliceR intR 3) (sliceR intR 3)) 57)) 4 rfl) (hS.rdAt (R := (sliceR intR 3)) 8 rfl) (hS.rdAt (R := (sliceR (pairR (sliceR intR 3) (sliceR intR 3)) 57)) 9 rfl) hr175) (congrArg List.toArray (mapc rfl (mapc rfl rfl))) (by decide) ?_
          rintro _ w176 ⟨rfl, hx177⟩
          refine ⟨_, rfl, ?_⟩
          replace hS := hS.ext hx177
          refine el_nil ?_
          replace hS : Sat w0 w176 [Own (sliceR (pairR (sliceR intR 3) (sliceR intR 3)) 57) [v122] r120.2, Box b144 30 [v137, v138], Box b103 25 [u0, u1], Own (sliceR intR 3) [v150] r149, Own (sliceR intR 3) [v137] r136.1, Own (sliceR (pairR (sliceR intR 3) (sliceR intR 3)) 57) [v138] r136.2, Own (sliceR intR 3) [v128] r127, Own (sliceR intR 3) [v121] r120.1, Own (sliceR intR 3) [v169] r168.1, Own (sliceR (pairR (sliceR intR 3) (sliceR intR 3)) 57) [v170] r168.2] := hS.top 7 rfl
          replace hS : Sat w0 w176 [Own (sliceR intR 3) [v121] r120.1, Own (sliceR (pairR (sliceR intR 3) (sliceR intR 3)) 57) [v122] r120.2, Box b144 30 [v137, v138], Box b103 25 [u0, u1], Own (sliceR intR 3) [v150] r149, Own (sliceR intR 3) [v137] r136.1, Own (sliceR (pairR (sliceR intR 3) (sliceR intR 3)) 57) [v138] r136.2, Own (sliceR intR 3) [v128] r127, Own (sliceR intR 3) [v169] r168.1, Own (sliceR (pairR (sliceR intR 3) (sliceR intR 3)) 57) [v170] r168.2] := hS.top 7 rfl
          replace hS : Sat w0 w176 [Own (sliceR intR 3) [v128] r127, Own (sliceR intR 3) [v121] r120.1, Own (sliceR (pairR (sliceR intR 3) (sliceR intR 3)) 57) [v122] r120.2, Box b144 30 [v137, v138], Box b103 25 [u0, u1], Own (sliceR intR 3) [v150] r149, Own (sliceR intR 3) [v137] r136.1, Own (sliceR (pairR (sliceR intR 3) (sliceR intR 3)) 57) [v138] r136.2, Own (sliceR intR 3) [v169] r168.1, Own (sliceR (pairR (sliceR intR 3) (sliceR intR 3)) 57) [v170] r168.2] := hS.top 7 rfl
          replace hS : Sat w0 w176 [Own (sliceR (pairR (sliceR intR 3) (sliceR intR 3)) 57) [v138] r136.2, Own (sliceR intR 3) [v128] r127, Own (sliceR intR 3) [v121] r120.1, Own (sliceR (pairR (sliceR intR 3) (sliceR intR 3)) 57) [v122] r120.2, Box b144 30 [v137, v138], Box b103 25 [u0, u1], Own (sliceR intR 3) [v150] r149, Own (sliceR intR 3) [v137] r136.1, Own (sliceR intR 3) [v169] r168.1, Own (sliceR (pairR (sliceR intR 3) (sliceR intR 3)) 57) [v170] r168.2] := hS.top 7 rfl
          replace hS : Sat w0 w176 [Own (sliceR intR 3) [v137] r136.1, Own (sliceR (pairR (sliceR intR 3) (sliceR intR 3)) 57) [v138] r136.2, Own (sliceR intR 3) [v128] r127, Own (sliceR intR 3) [v121] r120.1, Own (sliceR (pairR (sliceR intR 3) (sliceR intR 3)) 57) [v122] r120.2, Box b144 30 [v137, v138], Box b103 25 [u0, u1], Own (sliceR intR 3) [v150] r149, Own (sliceR intR 3) [v169] r168.1, Own (sliceR (pairR (sliceR intR 3) (sliceR intR 3)) 57) [v170] r168.2] := hS.top 7 rfl
          replace hS : Sat w0 w176 [Own (sliceR intR 3) [v150] r149, Own (sliceR intR 3) [v137] r136.1, Own (sliceR (pairR (sliceR intR 3) (sliceR intR 3)) 57) [v138] r136.2, Own (sliceR intR 3) [v128] r127, Own (sliceR intR 3) [v121] r120.1, Own (sliceR (pairR (sliceR intR 3) (sliceR intR 3)) 57) [v122] r120.2, Box b144 30 [v137, v138], Box b103 25 [u0, u1], Own (sliceR intR 3) [v169] r168.1, Own (sliceR (pairR (sliceR intR 3) (sliceR intR 3)) 57) [v170] r168.2] := hS.top 7 rfl
          replace hS : Sat w0 w176 [Box b103 25 [u0, u1], Own (sliceR intR 3) [v150] r149, Own (sliceR intR 3) [v137] r136.1, Own (sliceR (pairR (sliceR intR 3) (sliceR intR 3)) 57) [v138] r136.2, Own (sliceR intR 3) [v128] r127, Own (sliceR intR 3) [v121] r120.1, Own (sliceR (pairR (sliceR intR 3) (sliceR intR 3)) 57) [v122] r120.2, Box b144 30 [v137, v138], Own (sliceR intR 3) [v169] r168.1, Own (sliceR (pairR (sliceR intR 3) (sliceR intR 3)) 57) [v170] r168.2] := hS.top 7 rfl
          replace hS : Sat w0 w176 [Box b144 30 [v137, v138], Box b103 25 [u0, u1], Own (sliceR intR 3) [v150] r149, Own (sliceR intR 3) [v137] r136.1, Own (sliceR (pairR (sliceR intR 3) (sliceR intR 3)) 57) [v138] r136.2, Own (sliceR intR 3) [v128] r127, Own (sliceR intR 3) [v121] r120.1, Own (sliceR (pairR (sliceR intR 3) (sliceR intR 3)) 57) [v122] r120.2, Own (sliceR intR 3) [v169] r168.1, Own (sliceR (pairR (sliceR intR 3) (sliceR intR 3)) 57) [v170] r168.2] := hS.top 7 rfl
          have hC := (hCd _).2 ⟨_, hS⟩
          refine ⟨fun _ => hC, ?_⟩
          refine al_p (v := .bool (!r175)) (by kernel_rfl) 4 rfl rfl (by decide) hC (by kernel_rfl) (by kernel_rfl) (sv_on rfl (fun w' hw' => by obtain ⟨_, hS⟩ := (hCd _).1 hw'; exact (pv_not rfl))) ?_
          refine al_nil (by kernel_rfl) ?_
          refine hQ165 _ _ _ ?_
          refine thn_n ?_
          replace hF := oif hF
          rcases hF with ⟨hb178, hF⟩ | ⟨hb178, hF⟩
          · refine cw_cond_f rfl (bnot_t hb178) ?_
            refine cw_skip ?_
            refine hQ164 _ _ _ ?_
            refine thn_n ?_
            refine cw_seq ?_
            refine cw_gen ?_
            intro Q179 hQ179
            refine cw_seq ?_
            refine cw_gen ?_
            intro Q180 hQ180
            refine cw_reg ?_
            refine el_pv (v := v150) (pv_move rfl) (by decide) ?_
            refine el_pv (v := u2) (pv_move rfl) (by decide) ?_
            replace hF := ob hF
            obtain ⟨r181, hr181, hF⟩ := hF
            refine el_call goes15 (laws_toIntS_ok (hS.up ha2) hr181) (congrArg List.toArray (mapc rfl rfl)) (by decide) ?_
            rintro _ w184 ⟨v182, rfl, hS'⟩
            refine ⟨_, rfl, ?_⟩
            have hx185 := hS'.below
            replace hS := hS.call1 hS'
            replace hF := ob hF
            obtain ⟨r186, hr186, hF⟩ := hF
            refine el_call goes17 (laws_eqIntS_ok (hS.rdAt (R := (sliceR intR 3)) 3 rfl) (hS.rdAt (R := (sliceR intR 3)) 0 rfl) hr186) (congrArg List.toArray (mapc rfl (mapc rfl rfl))) (by decide) ?_
            rintro _ w187 ⟨rfl, hx188⟩
            refine ⟨_, rfl, ?_⟩
            replace hS := hS.ext hx188
            refine el_pv (v := .bool (!r186)) (pv_not rfl) (by decide) ?_
            refine el_nil ?_
            refine hQ180 _ _ _ ?_
            refine thn_n ?_
            replace hF := oif hF
            rcases hF with ⟨hb189, hF⟩ | ⟨hb189, hF⟩
            · refine cw_cond_f rfl (bnot_t hb189) ?_
              refine cw_skip ?_
              refine hQ179 _ _ _ ?_
              refine thn_n ?_
              refine cw_seq ?_
              refine cw_gen ?_
              intro Q190 hQ190
              refine cw_reg ?_
              refine el_pv (v := .bool true) (pv_assign rfl) (by decide) ?_
              refine el_nil ?_
              refine hQ190 _ _ _ ?_
              refine thn_n ?_
              refine cw_ret ?_
              refine fin1 rfl rfl ?_
              have hr := Option.some.inj hF
              exact ⟨congrArg (fun (r : Bool) => Ending.returned (.bool r)) hr, hS.below⟩
            · refine cw_cond_t rfl (bnot_f hb189) ?_
              refine cw_seq ?_
              refine cw_gen ?_
              intro Q191 hQ191
              refine cw_reg ?_
              refine el_pv (v := .bool false) (pv_assign rfl) (by decide) ?_
              refine el_nil ?_
              refine hQ191 _ _ _ ?_
              refine thn_n ?_
              refine cw_ret ?_
              refine hQ179 _ _ _ ?_
              refine thn_r ?_
              refine fin1 rfl rfl ?_
              have hr := Option.some.inj hF
              exact ⟨congrArg (fun (r : Bool) => Ending.returned (.bool r)) hr, hS.below⟩
          · refine cw_cond_t rfl (bnot_f hb178) ?_
            refine cw_seq ?_
            refine cw_gen ?_
            intro Q192 hQ192
            refine cw_reg ?_
            refine el_pv (v := .bool false) (pv_assign rfl) (by decide) ?_
            refine el_nil ?_
            refine hQ192 _ _ _ ?_
            refine thn_n ?_
            refine cw_ret ?_
            refine hQ164 _ _ _ ?_
            refine thn_r ?_
            refine fin1 rfl rfl ?_
            have hr := Option.some.inj hF
            exact ⟨congrArg (fun (r : Bool) => Ending.returned (.bool r)) hr, hS.below⟩
set_option maxHeartbeats 4000000 in
theorem spec_FactorizationContains_ok {w0 : World} {u0 : Value} {a0 : List Int} {u1 : Value} {a1 : List (List Int × List Int)} {u2 : Value} {a2 : List Int} (ha0 : (sliceR intR 3).rd w0 [u0] a0) (ha1 : (sliceR (pairR (sliceR intR 3) (sliceR intR 3)) 57).rd w0 [u1] a1) (ha2 : (sliceR intR 3).rd w0 [u2] a2) {N : Nat} {r : Bool} (hF : spec_FactorizationContains N a0 a1 a2 = some r) :
    Calls Try.prog 20 #[.agg #[u0, u1], u2] w0 fun e w' => e = .returned (.bool r) ∧ Ext w0 w' := by
  unfold spec_FactorizationContains at hF
  refine calls_E Try.func20 rfl rfl (of_decide_eq_true rfl) ?_
  have hS := Sat.start w0
  refine cw_seq ?_
  refine cw_gen ?_
  intro Q101 hQ101
  refine cw_reg ?_
  refine el_box [u0, u1] rfl hS (by decide) ?_
  intro w102 b103 hS hx104
  refine el_pv (v := .bool false) (pv_assign rfl) (by decide) ?_
  refine el_nil ?_
  refine hQ101 _ _ _ ?_
  refine thn_n ?_
  refine cw_seq ?_
  refine cw_gen ?_
  intro Q106 hQ106
  refine cw_reg ?_
  refine el_pv (v := .agg #[u0, u1]) (pv_loada (cs := [u0, u1]) rfl rfl (boxc0 (hS.boxAt 0 rfl))) (by decide) ?_
  refine el_pv (v := u2) (pv_move rfl) (by decide) ?_
  replace hF := ob hF
  obtain ⟨r107, hr107, hF⟩ := hF
  refine el_call goes18 (spec_FactorizedRank_ok (hS.up ha0) (hS.up ha1) (hS.up ha2) hr107) (congrArg List.toArray (mapc rfl (mapc rfl rfl))) (by decide) ?_
  rintro _ w108 ⟨rfl, hx109⟩
  refine ⟨_, rfl, ?_⟩
  replace hS := hS.ext hx109
  refine el_pv (v := .tuple #[.int .i64 r107.1, .bool r107.2]) (pv_move rfl) (by decide) ?_
  refine el_pv (v := .int .i64 r107.1) (pv_extract rfl rfl) (by decide) ?_
  refine el_pv (v := .bool r107.2) (pv_extract rfl rfl) (by decide) ?_
  refine el_pv (v := .int .i64 r107.1) (pv_assign rfl) (by decide) ?_
  refine el_pv (v := .bool r107.2) (pv_assign rfl) (by decide) ?_
  refine el_nil ?_
  refine hQ106 _ _ _ ?_
  refine thn_n ?_
  refine cw_seq ?_
  refine cw_gen ?_
  intro Q110 hQ110
  refine cw_reg ?_
  refine el_pv (v := .bool r107.2) (pv_move rfl) (by decide) ?_
  refine el_pv (v := .bool r107.2) (pv_assign rfl) (by decide) ?_
  refine el_nil ?_
  refine hQ110 _ _ _ ?_
  refine thn_n ?_
  refine cw_ret ?_
  refine fin1 rfl rfl ?_
  have hr := Option.some.inj hF
  exact ⟨congrArg (fun (r : Bool) => Ending.returned (.bool r)) hr, hS.below⟩
set_option maxHeartbeats 4000000 in
theorem impl_FactorizationContains_ok {w0 : World} {u0 : Value} {a0 : List Int} {u1 : Value} {a1 : List (List Int × List Int)} {u2 : Value} {a2 : List Int} (ha0 : (sliceR intR 3).rd w0 [u0] a0) (ha1 : (sliceR (pairR (sliceR intR 3) (sliceR intR 3)) 57).rd w0 [u1] a1) (ha2 : (sliceR intR 3).rd w0 [u2] a2) {N : Nat} {r : Bool} (hF : impl_FactorizationContains N a0 a1 a2 = some r) :
    Calls Try.prog 21 #[.agg #[u0, u1], u2] w0 fun e w' => e = .returned (.bool r) ∧ Ext w0 w' := by
  unfold impl_FactorizationContains at hF
  refine calls_E Try.func21 rfl rfl (of_decide_eq_true rfl) ?_
  have hS := Sat.start w0
  refine cw_seq ?_
  refine cw_gen ?_
  intro Q101 hQ101
  refine cw_reg ?_
  refine el_box [u0, u1] rfl hS (by decide) ?_
  intro w102 b103 hS hx104
  refine el_pv (v := .bool false) (pv_assign rfl) (by decide) ?_
  refine el_nil ?_
  refine hQ101 _ _ _ ?_
  refine thn_n ?_
  refine cw_seq ?_
  refine cw_gen ?_
  intro Q106 hQ106
  refine cw_reg ?_
  refine el_pv (v := .agg #[u0, u1]) (pv_loada (cs := [u0, u1]) rfl rfl (boxc0 (hS.boxAt 0 rfl))) (by decide) ?_
  refine el_pv (v := u2) (pv_move rfl) (by decide) ?_
  replace hF := ob hF
  obtain ⟨r107, hr107, hF⟩ := hF
  refine el_call goes19 (impl_FactorizedRank_ok (hS.up ha0) (hS.up ha1) (hS.up ha2) hr107) (congrArg List.toArray (mapc rfl (mapc rfl rfl))) (by decide) ?_
  rintro _ w108 ⟨rfl, hx109⟩
  refine ⟨_, rfl, ?_⟩
  replace hS := hS.ext hx109
  refine el_pv (v := .tuple #[.int .i64 r107.1, .bool r107.2]) (pv_move rfl) (by decide) ?_
  refine el_pv (v := .int .i64 r107.1) (pv_extract rfl rfl) (by decide) ?_
  refine el_pv (v := .bool r107.2) (pv_extract rfl rfl) (by decide) ?_
  refine el_pv (v := .int .i64 r107.1) (pv_assign rfl) (by decide) ?_
  refine el_pv (v := .bool r107.2) (pv_assign rfl) (by decide) ?_
  refine el_nil ?_
  refine hQ106 _ _ _ ?_
  refine thn_n ?_
  refine cw_seq ?_
  refine cw_gen ?_
  intro Q110 hQ110
  refine cw_reg ?_
  refine el_pv (v := .bool r107.2) (pv_move rfl) (by decide) ?_
  refine el_pv (v := .bool r107.2) (pv_assign rfl) (by decide) ?_
  refine el_nil ?_
  refine hQ110 _ _ _ ?_
  refine thn_n ?_
  refine cw_ret ?_
  refine fin1 rfl rfl ?_
  have hr := Option.some.inj hF
  exact ⟨congrArg (fun (r : Bool) => Ending.returned (.bool r)) hr, hS.below⟩
set_option maxHeartbeats 4000000 in
theorem laws_FnExactFactorizationContains_ok {w0 : World} {u0 : Value} {a0 : List Int} {u1 : Value} {a1 : List (List Int × List Int)} {u2 : Value} {a2 : List Int} (ha0 : (sliceR intR 3).rd w0 [u0] a0) (ha1 : (sliceR (pairR (sliceR intR 3) (sliceR intR 3)) 62).rd w0 [u1] a1) (ha2 : (sliceR intR 3).rd w0 [u2] a2) {N : Nat} {r : Bool} (hF : laws_FnExactFactorizationContains N a0 a1 a2 = some r) :
    Calls Try.prog 6 #[.agg #[u0, u1], u2] w0 fun e w' => e = .returned (.bool r) ∧ Ext w0 w' := by
  unfold laws_FnExactFactorizationContains at hF
  refine calls_E Try.func6 rfl rfl (of_decide_eq_true rfl) ?_
  have hS := Sat.start w0
  refine cw_seq ?_
  refine cw_gen ?_
  intro Q101 hQ101
  refine cw_reg ?_
  refine el_box [u0, u1] rfl hS (by decide) ?_
  intro w102 b103 hS hx104
  refine el_pv (v := .bool false) (pv_assign rfl) (by decide) ?_
  refine el_nil ?_
  refine hQ101 _ _ _ ?_
  refine thn_n ?_
  refine cw_seq ?_
  refine cw_gen ?_
  intro Q106 hQ106
  refine cw_seq ?_
  refine cw_gen ?_
  intro Q107 hQ107
  refine cw_reg ?_
  refine el_pv (v := u2) (pv_move rfl) (by decide) ?_
  refine el_pv (v := .int .i64 (a2.length : Int)) (pv_len rfl ha2) (by decide) ?_
  refine el_pv (v := .bool (decide (1048576 < (a2.length : Int)))) (pv_gtr rfl rfl) (by decide) ?_
  refine el_nil ?_
  refine hQ107 _ _ _ ?_
  refine thn_n ?_
  replace hF := oif hF
  rcases hF with ⟨hb108, hF⟩ | ⟨hb108, hF⟩
  · refine cw_cond_t rfl hb108 ?_
    refine cw_seq ?_
    refine cw_gen ?_
    intro Q109 hQ109
    refine cw_reg ?_
    refine el_pv (v := .bool true) (pv_assign rfl) (by decide) ?_
    refine el_nil ?_
    refine hQ109 _ _ _ ?_
    refine thn_n ?_
    refine cw_ret ?_
    refine hQ106 _ _ _ ?_
    refine thn_r ?_
    refine fin1 rfl rfl ?_
    have hr := Option.some.inj hF
    exact ⟨congrArg (fun (r : Bool) => Ending.returned (.bool r)) hr, hS.below⟩
  · refine cw_cond_f rfl hb108 ?_
    refine cw_skip ?_
    refine hQ106 _ _ _ ?_
    refine thn_n ?_
    refine cw_seq ?_
    refine cw_gen ?_
    intro Q110 hQ110
    refine cw_reg ?_
    refine el_pv (v := .int .i64 1048576) (pv_assign rfl) (by decide) ?_
    refine el_nil ?_
    refine hQ110 _ _ _ ?_
    refine thn_n ?_
    refine cw_seq ?_
    refine cw_gen ?_
    intro Q111 hQ111
    refine cw_reg ?_
    refine el_pv (v := .agg #[u0, u1]) (pv_loada (cs := [u0, u1]) rfl rfl (boxc0 (hS.boxAt 0 rfl))) (by decide) ?_
    refine el_pv (v := .int .i64 1048576) (pv_move rfl) (by decide) ?_
    replace hF := ob hF
    obtain ⟨r112, hr112, hF⟩ := hF
    refine el_call goes9 (laws_szFactorization_ok (hS.up ha0) (hS.up ha1) hr112) (congrArg List.toArray (mapc rfl (mapc rfl rfl))) (by decide) ?_
    rintro _ w113 ⟨rfl, hx114⟩
    refine ⟨_, rfl, ?_⟩
    replace hS := hS.ext hx114
    refine el_pv (v := .int .i64 r112) (pv_assign rfl) (by decide) ?_
    refine el_nil ?_
    refine hQ111 _ _ _ ?_
    refine thn_n ?_
    refine cw_seq ?_
    refine cw_gen ?_
    intro Q115 hQ115
    refine cw_seq ?_
    refine cw_gen ?_
    intro Q116 hQ116
    refine cw_reg ?_
    refine el_pv (v := .int .i64 r112) (pv_move rfl) (by decide) ?_
    refine el_pv (v := .bool (decide (r112 < 0))) (pv_lss rfl rfl) (by decide) ?_
    refine el_nil ?_
    refine hQ116 _ _ _ ?_
    refine thn_n ?_
    replace hF := oif hF
    rcases hF with ⟨hb117, hF⟩ | ⟨hb117, hF⟩
    · refine cw_cond_t rfl hb117 ?_
      refine cw_seq ?_
      refine cw_gen ?_
      intro Q118 hQ118
      refine cw_reg ?_
      refine el_pv (v := .bool true) (pv_assign rfl) (by decide) ?_
      refine el_nil ?_
      refine hQ118 _ _ _ ?_
      refine thn_n ?_
      refine cw_ret ?_
      refine hQ115 _ _ _ ?_
      refine thn_r ?_
      refine fin1 rfl rfl ?_
      have hr := Option.some.inj hF
      exact ⟨congrArg (fun (r : Bool) => Ending.returned (.bool r)) hr, hS.below⟩
    · refine cw_cond_f rfl hb117 ?_
      refine cw_skip ?_
      refine hQ115 _ _ _ ?_
      refine thn_n ?_
      refine cw_seq ?_
      refine cw_gen ?_
      intro Q119 hQ119
      refine cw_reg ?_
      refine el_pv (v := .agg #[u0, u1]) (pv_loada (cs := [u0, u1]) rfl rfl (boxc0 (hS.boxAt 0 rfl))) (by decide) ?_
      replace hF := ob hF
      obtain ⟨r120, hr120, hF⟩ := hF
      refine el_call goes11 (laws_toFactorization_ok (hS.up ha0) (hS.up ha1) hr120) (congrArg List.toArray (mapc rfl rfl)) (by decide) ?_
      rintro _ w125 ⟨v121, v122, rfl, hS'⟩
      refine ⟨_, rfl, ?_⟩
      have hx126 := hS'.below
      replace hS := hS.call2 hS'
      refine el_pv (v := u2) (pv_move rfl) (by decide) ?_
      replace hF := ob hF
      obtain ⟨r127, hr127, hF⟩ := hF
      refine el_call goes15 (laws_toIntS_ok (hS.up ha2) hr127) (congrArg List.toArray (mapc rfl rfl)) (by decide) ?_
      rintro _ w130 ⟨v128, rfl, hS'⟩
      refine ⟨_, rfl, ?_⟩
      have hx131 := hS'.below
      replace hS := hS.call1 hS'
      replace hF := ob hF
      obtain ⟨r132, hr132, hF⟩ := hF
      refine el_call goes20 (spec_FactorizationContains_ok (hS.rdAt (R := (sliceR intR 3)) 1 rfl) (hS.rdAt (R := (sliceR (pairR (sliceR intR 3) (sliceR intR 3)) 57)) 2 rfl) (hS.rdAt (R := (sliceR intR 3)) 0 rfl) hr132) (congrArg List.toArray (mapc rfl (mapc rfl rfl))) (by decide) ?_
      rintro _ w133 ⟨rfl, hx134⟩
      refine ⟨_, rfl, ?_⟩
      replace hS := hS.ext hx134
      refine el_pv (v := .bool r132) (pv_assign rfl) (by decide) ?_
      refine el_nil ?_
      refine hQ119 _ _ _ ?_
      refine thn_n ?_
      refine cw_seq ?_
      refine cw_gen ?_
      intro Q135 hQ135
      refine cw_reg ?_
      refine el_pv (v := .agg #[u0, u1]) (pv_loada (cs := [u0, u1]) rfl rfl (boxc0 (hS.boxAt 3 rfl))) (by decide) ?_
      replace hF := ob hF
      obtain ⟨r136, hr136, hF⟩ := hF
      refine el_call goes11 (laws_toFactorization_ok (hS.up ha0) (hS.up ha1) hr136) (congrArg List.toArray (mapc rfl rfl)) (by decide) ?_
      rintro _ w141 ⟨v137, v138, rfl, hS'⟩
      refine ⟨_, rfl, ?_⟩
      have hx142 := hS'.below
      replace hS := hS.call2 hS'
      refine el_alloc hS (by decide) ?_
      intro w143 b144 hS hx145
      refine el_storev (hS.top 0 rfl) rfl [v137, v138] rfl rfl (of_decide_eq_true rfl) (all_cons (oc (hS.rdAt (R := (sliceR intR 3)) 1 rfl)) (all_cons (oc (hS.rdAt (R := (sliceR (pairR (sliceR intR 3) (sliceR intR 3)) 57)) 2 rfl)) rfl)) ?_
      intro w147 hS
      replace hS : Sat w0 w147 [Box b144 30 [v137, v138], Own (sliceR intR 3) [v137] r136.1, Own (sliceR (pairR (sliceR intR 3) (sliceR intR 3)) 57) [v138] r136.2, Own (sliceR intR 3) [v128] r127, Own (sliceR intR 3) [v121] r120.1, Own (sliceR (pairR (sliceR intR 3) (sliceR intR 3)) 57) [v122] r120.2, Box b103 25 [u0, u1]] := hS
      refine el_nil ?_
      refine hQ135 _ _ _ ?_
      refine thn_n ?_
      refine cw_seq ?_
      refine cw_gen ?_
      intro Q148 hQ148
      refine cw_reg ?_
      refine el_pv (v := u2) (pv_move rfl) (by decide) ?_
      replace hF := ob hF
      obtain ⟨r149, hr149, hF⟩ := hF
      refine el_call goes15 (laws_toIntS_ok (hS.up ha2) hr149) (congrArg List.toArray (mapc rfl rfl)) (by decide) ?_
      rintro _ w152 ⟨v150, rfl, hS'⟩
      refine ⟨_, rfl, ?_⟩
      have hx153 := hS'.below
      replace hS := hS.call1 hS'
      refine el_pv (v := v150) (pv_assign rfl) (by decide) ?_
      refine el_nil ?_
      refine hQ148 _ _ _ ?_
      refine thn_n ?_
      refine cw_seq ?_
      refine cw_gen ?_
      intro Q154 hQ154
      refine cw_reg ?_
      refine el_pv (v := .agg #[v137, v138]) (pv_loada (cs := [v137, v138]) rfl rfl (boxc0 (hS.boxAt 1 rfl))) (by decide) ?_
      refine el_pv (v := v150) (pv_move rfl) (by decide) ?_
      replace hF := ob hF
      obtain ⟨r155, hr155, hF⟩ := hF
      refine el_call goes21 (impl_FactorizationContains_ok (hS.rdAt (R := (sliceR intR 3)) 2 rfl) (hS.rdAt (R := (sliceR (pairR (sliceR intR 3) (sliceR intR 3)) 57)) 3 rfl) (hS.rdAt (R := (sliceR intR 3)) 0 rfl) hr155) (congrArg List.toArray (mapc rfl (mapc rfl rfl))) (by decide) ?_
      rintro _ w156 ⟨rfl, hx157⟩
      refine ⟨_, rfl, ?_⟩
      replace hS := hS.ext hx157
      refine el_pv (v := .bool r155) (pv_assign rfl) (by decide) ?_
      refine el_nil ?_
      refine hQ154 _ _ _ ?_
      refine thn_n ?_
      refine cw_seq ?_
      refine cw_gen ?_
      intro Q158 hQ158
      refine cw_seq ?_
      refine cw_gen ?_
      intro Q159 hQ159
      refine cw_reg ?_
      refine el_pv (v := .bool r155) (pv_move rfl) (by decide) ?_
      refine el_pv (v := .bool r132) (pv_move rfl) (by decide) ?_
      refine el_pv (v := .bool (r155 != r132)) (pv_neqB Try.underlying4 rfl rfl) (by decide) ?_
      refine el_nil ?_
      refine hQ159 _ _ _ ?_
      refine thn_n ?_
      replace hF := oif hF
      rcases hF with ⟨hb160, hF⟩ | ⟨hb160, hF⟩
      · refine cw_cond_t rfl hb160 ?_
        refine cw_seq ?_
        refine cw_gen ?_
        intro Q161 hQ161
        refine cw_reg ?_
        refine el_pv (v := .bool false) (pv_assign rfl) (by decide) ?_
        refine el_nil ?_
        refine hQ161 _ _ _ ?_
        refine thn_n ?_
        refine cw_ret ?_
        refine hQ158 _ _ _ ?_
        refine thn_r ?_
        refine fin1 rfl rfl ?_
        have hr := Option.some.inj hF
        exact ⟨congrArg (fun (r : Bool) => Ending.returned (.bool r)) hr, hS.below⟩
      · refine cw_cond_f rfl hb160 ?_
        refine cw_skip ?_
        refine hQ158 _ _ _ ?_
        refine thn_n ?_
        refine cw_seq ?_
        refine cw_gen ?_
        intro Q162 hQ162
        refine cw_seq ?_
        refine cw_gen ?_
        intro Q163 hQ163
        obtain ⟨C, hCd⟩ : ∃ C : World → Prop, ∀ w, C w ↔ ∃ G, Sat w0 w ([Box b144 30 [v137, v138], Box b103 25 [u0, u1], Own (sliceR intR 3) [v150] r149, Own (sliceR intR 3) [v137] r136.1, Own (sliceR (pairR (sliceR intR 3) (sliceR intR 3)) 57) [v138] r136.2, Own (sliceR intR 3) [v128] r127, Own (sliceR intR 3) [v121] r120.1, Own (sliceR (pairR (sliceR intR 3) (sliceR intR 3)) 57) [v122] r120.2] ++ G) := ⟨_, fun _ => Iff.rfl⟩
        refine cw_regb [0, 1, 2, 3, 4] C (by kernel_rfl) ?_
        intro w164 hx165
        replace hS := hS.ext hx165
        replace hS : Sat w0 w164 [Own (sliceR (pairR (sliceR intR 3) (sliceR intR 3)) 57) [v122] r120.2, Own (sliceR intR 3) [v150] r149, Box b144 30 [v137, v138], Own (sliceR intR 3) [v137] r136.1, Own (sliceR (pairR (sliceR intR 3) (sliceR intR 3)) 57) [v138] r136.2, Own (sliceR intR 3) [v128] r127, Own (sliceR intR 3) [v121] r120.1, Box b103 25 [u0, u1]] := hS.top 6 rfl
        replace hS : Sat w0 w164 [Own (sliceR intR 3) [v121] r120.1, Own (sliceR (pairR (sliceR intR 3) (sliceR intR 3)) 57) [v122] r120.2, Own (sliceR intR 3) [v150] r149, Box b144 30 [v137, v138], Own (sliceR intR 3) [v137] r136.1, Own (sliceR (pairR (sliceR intR 3) (sliceR intR 3)) 57) [v138] r136.2, Own (sliceR intR 3) [v128] r127, Box b103 25 [u0, u1]] := hS.top 6 rfl
        replace hS : Sat w0 w164 [Own (sliceR intR 3) [v128] r127, Own (sliceR intR 3) [v121] r120.1, Own (sliceR (pairR (sliceR intR 3) (sliceR intR 3)) 57) [v122] r120.2, Own (sliceR intR 3) [v150] r149, Box b144 30 [v137, v138], Own (sliceR intR 3) [v137] r136.1, Own (sliceR (pairR (sliceR intR 3) (sliceR intR 3)) 57) [v138] r136.2, Box b103 25 [u0, u1]] := hS.top 6 rfl
        replace hS : Sat w0 w164 [Own (sliceR (pairR (sliceR intR 3) (sliceR intR 3)) 57) [v138] r136.2, Own (sliceR intR 3) [v128] r127, Own (sliceR intR 3) [v121] r120.1, Own (sliceR (pairR (sliceR intR 3) (sliceR intR 3)) 57) [v122] r120.2, Own (sliceR intR 3) [v150] r149, Box b144 30 [v137, v138], Own (sliceR intR 3) [v137] r136.1, Box b103 25 [u0, u1]] := hS.top 6 rfl
        replace hS : Sat w0 w164 [Own (sliceR intR 3) [v137] r136.1, Own (sliceR (pairR (sliceR intR 3) (sliceR intR 3)) 57) [v138] r136.2, Own (sliceR intR 3) [v128] r127, Own (sliceR intR 3) [v121] r120.1, Own (sliceR (pairR (sliceR intR 3) (sliceR intR 3)) 57) [v122] r120.2, Own (sliceR intR 3) [v150] r149, Box b144 30 [v137, v138], Box b103 25 [u0, u1]] := hS.top 6 rfl
        replace hS : Sat w0 w164 [Own (sliceR intR 3) [v150] r149, Own (sliceR intR 3) [v137] r136.1, Own (sliceR (pairR (sliceR intR 3) (sliceR intR 3)) 57) [v138] r136.2, Own (sliceR intR 3) [v128] r127, Own (sliceR intR 3) [v121] r120.1, Own (sliceR (pairR (sliceR intR 3) (sliceR intR 3)) 57) [v122] r120.2, Box b144 30 [v137, v138], Box b103 25 [u0, u1]] := hS.top 5 rfl
        replace hS : Sat w0 w164 [Box b103 25 [u0, u1], Own (sliceR intR 3) [v150] r149, Own (sliceR intR 3) [v137] r136.1, Own (sliceR (pairR (sliceR intR 3) (sliceR intR 3)) 57) [v138] r136.2, Own (sliceR intR 3) [v128] r127, Own (sliceR intR 3) [v121] r120.1, Own (sliceR (pairR (sliceR intR 3) (sliceR intR 3)) 57) [v122] r120.2, Box b144 30 [v137, v138]] := hS.top 7 rfl
        replace hS : Sat w0 w164 [Box b144 30 [v137, v138], Box b103 25 [u0, u1], Own (sliceR intR 3) [v150] r149, Own (sliceR intR 3) [v137] r136.1, Own (sliceR (pairR (sliceR intR 3) (sliceR intR 3)) 57) [v138] r136.2, Own (sliceR intR 3) [v128] r127, Own (sliceR intR 3) [v121] r120.1, Own (sliceR (pairR (sliceR intR 3) (sliceR intR 3)) 57) [v122] r120.2] := hS.top 7 rfl
        have hC := (hCd _).2 ⟨_, hS⟩
        refine al_p (v := .agg #[v137, v138]) (by kernel_rfl) 0 rfl rfl (by decide) hC (by kernel_rfl) (by kernel_rfl) (sv_on rfl (fun w' hw' => by obtain ⟨_, hS⟩ := (hCd _).1 hw'; exact (pv_loada (cs := [v137, v138]) rfl rfl (boxc0 (hS.boxAt 0 rfl))))) ?_
        refine al_p (v := .agg #[u0, u1]) (by kernel_rfl) 1 rfl rfl (by decide) hC (by kernel_rfl) (by kernel_rfl) (sv_on rfl (fun w' hw' => by obtain ⟨_, hS⟩ := (hCd _).1 hw'; exact (pv_loada (cs := [u0, u1]) rfl rfl (boxc0 (hS.boxAt 1 rfl))))) ?_
        refine al_one 2 (by kernel_rfl) rfl ?_
        replace hF := ob hF
        obtain ⟨r166, hr166, hF⟩ := hF
        refine el_call goes11 (laws_toFactorization_ok (hS.up ha0) (hS.up ha1) hr166) (congrArg List.toArray (mapc rfl rfl)) (by decide) ?_
        rintro _ w171 ⟨v167, v168, rfl, hS'⟩
        refine ⟨_, rfl, ?_⟩
        have hx172 := hS'.below
        replace hS := hS.call2 hS'
        refine el_nil ?_
        replace hS : Sat w0 w171 [Own (sliceR (pairR (sliceR intR 3) (sliceR intR 3)) 57) [v122] r120.2, Own (sliceR intR 3) [v167] r166.1, Own (sliceR (pairR (sliceR intR 3) (sliceR intR 3)) 57) [v168] r166.2, Box b144 30 [v137, v138], Box b103 25 [u0, u1], Own (sliceR intR 3) [v150] r149, Own (sliceR intR 3) [v137] r136.1, Own (sliceR (pairR (sliceR intR 3) (sliceR intR 3)) 57) [v138] r136.2, Own (sliceR intR 3) [v128] r127, Own (sliceR intR 3) [v121] r120.1] := hS.top 9 rfl
        replace hS : Sat w0 w171 [Own (sliceR intR 3) [v121] r120.1, Own (sliceR (pairR (sliceR intR 3) (sliceR intR 3)) 57) [v122] r120.2, Own (sliceR intR 3) [v167] r166.1, Own (sliceR (pairR (sliceR intR 3) (sliceR intR 3)) 57) [v168] r166.2, Box b144 30 [v137, v138], Box b103 25 [u0, u1], Own (sliceR intR 3) [v150] r149, Own (sliceR intR 3) [v137] r136.1, Own (sliceR (pairR (sliceR intR 3) (sliceR intR 3)) 57) [v138] r136.2, Own (sliceR intR 3) [v128] r127] := hS.top 9 rfl
        replace hS : Sat w0 w171 [Own (sliceR intR 3) [v128] r127, Own (sliceR intR 3) [v121] r120.1, Own (sliceR (pairR (sliceR intR 3) (sliceR intR 3)) 57) [v122] r120.2, Own (sliceR intR 3) [v167] r166.1, Own (sliceR (pairR (sliceR intR 3) (sliceR intR 3)) 57) [v168] r166.2, Box b144 30 [v137, v138], Box b103 25 [u0, u1], Own (sliceR intR 3) [v150] r149, Own (sliceR intR 3) [v137] r136.1, Own (sliceR (pairR (sliceR intR 3) (sliceR intR 3)) 57) [v138] r136.2] := hS.top 9 rfl
        replace hS : Sat w0 w171 [Own (sliceR (pairR (sliceR intR 3) (sliceR intR 3)) 57) [v138] r136.2, Own (sliceR intR 3) [v128] r127, Own (sliceR intR 3) [v121] r120.1, Own (sliceR (pairR (sliceR intR 3) (sliceR intR 3)) 57) [v122] r120.2, Own (sliceR intR 3) [v167] r166.1, Own (sliceR (pairR (sliceR intR 3) (sliceR intR 3)) 57) [v168] r166.2, Box b144 30 [v137, v138], Box b103 25 [u0, u1], Own (sliceR intR 3) [v150] r149, Own (sliceR intR 3) [v137] r136.1] := hS.top 9 rfl
        replace hS : Sat w0 w171 [Own (sliceR intR 3) [v137] r136.1, Own (sliceR (pairR (sliceR intR 3) (sliceR intR 3)) 57) [v138] r136.2, Own (sliceR intR 3) [v128] r127, Own (sliceR intR 3) [v121] r120.1, Own (sliceR (pairR (sliceR intR 3) (sliceR intR 3)) 57) [v122] r120.2, Own (sliceR intR 3) [v167] r166.1, Own (sliceR (pairR (sliceR intR 3) (sliceR intR 3)) 57) [v168] r166.2, Box b144 30 [v137, v138], Box b103 25 [u0, u1], Own (sliceR intR 3) [v150] r149] := hS.top 9 rfl
        replace hS : Sat w0 w171 [Own (sliceR intR 3) [v150] r149, Own (sliceR intR 3) [v137] r136.1, Own (sliceR (pairR (sliceR intR 3) (sliceR intR 3)) 57) [v138] r136.2, Own (sliceR intR 3) [v128] r127, Own (sliceR intR 3) [v121] r120.1, Own (sliceR (pairR (sliceR intR 3) (sliceR intR 3)) 57) [v122] r120.2, Own (sliceR intR 3) [v167] r166.1, Own (sliceR (pairR (sliceR intR 3) (sliceR intR 3)) 57) [v168] r166.2, Box b144 30 [v137, v138], Box b103 25 [u0, u1]] := hS.top 9 rfl
        replace hS : Sat w0 w171 [Box b103 25 [u0, u1], Own (sliceR intR 3) [v150] r149, Own (sliceR intR 3) [v137] r136.1, Own (sliceR (pairR (sliceR intR 3) (sliceR intR 3)) 57) [v138] r136.2, Own (sliceR intR 3) [v128] r127, Own (sliceR intR 3) [v121] r120.1, Own (sliceR (pairR (sliceR intR 3) (sliceR intR 3)) 57) [v122] r120.2, Own (sliceR intR 3) [v167] r166.1, Own (sliceR (pairR (sliceR intR 3) (sliceR intR 3)) 57) [v168] r166.2, Box b144 30 [v137, v138]] := hS.top 9 rfl
        replace hS : Sat w0 w171 [Box b144 30 [v137, v138], Box b103 25 [u0, u1], Own (sliceR intR 3) [v150] r149, Own (sliceR intR 3) [v137] r136.1, Own (sliceR (pairR (sliceR intR 3) (sliceR intR 3)) 57) [v138] r136.2, Own (sliceR intR 3) [v128] r127, Own (sliceR intR 3) [v121] r120.1, Own (sliceR (pairR (sliceR intR 3) (sliceR intR 3)) 57) [v122] r120.2, Own (sliceR intR 3) [v167] r166.1, Own (sliceR (pairR (sliceR intR 3) (sliceR intR 3)) 57) [v168] r166.2] := hS.top 9 rfl
        have hC := (hCd _).2 ⟨_, hS⟩
        have hoc150 := oc (hS.rdAt (R := (sliceR intR 3)) 2 rfl)
        have hoc137 := oc (hS.rdAt (R := (sliceR intR 3)) 3 rfl)
        have hoc138 := oc (hS.rdAt (R := (sliceR (pairR (sliceR intR 3) (sliceR intR 3)) 57)) 4 rfl)
        have hoc128 := oc (hS.rdAt (R := (sliceR intR 3)) 5 rfl)
        have hoc121 := oc (hS.rdAt (R := (sliceR intR 3)) 6 rfl)
        have hoc122 := oc (hS.rdAt (R := (sliceR (pairR (sliceR intR 3) (sliceR intR 3)) 57)) 7 rfl)
        have hoc167 := oc (hS.rdAt (R := (sliceR intR 3)) 8 rfl)
        have hoc168 := oc (hS.rdAt (R := (sliceR (pairR (sliceR intR 3) (sliceR intR 3)) 57)) 9 rfl)
        refine ⟨fun _ => hC, ?_⟩
        refine al_one 3 (by kernel_rfl) rfl ?_
        replace hF := ob hF
        obtain ⟨r173, hr173, hF⟩ := hF
        refine el_call goes13 (laws_eqFactorization_ok (hS.rdAt (R := (sliceR intR 3)) 3 rfl) (hS.rdAt (R := (sliceR (pairR (sliceR intR 3) (sliceR intR 3)) 57)) 4 rfl) (hS.rdAt (R := (sliceR intR 3)) 8 rfl) (hS.rdAt (R := (sliceR (pairR (sliceR intR 3) (sliceR intR 3)) 57)) 9 rfl) hr173) (congrArg List.toArray (mapc rfl (mapc rfl rfl))) (by decide) ?_
        rintro _ w174 ⟨rfl, hx175⟩
        refine ⟨_, rfl, ?_⟩
        replace hS := hS.ext hx175
        refine el_nil ?_
        replace hS : Sat w0 w174 [Own (sliceR (pairR (sliceR intR 3) (sliceR intR 3)) 57) [v122] r120.2, Box b144 30 [v137, v138], Box b103 25 [u0, u1], Own (sliceR intR 3) [v150] r149, Own (sliceR intR 3) [v137] r136.1, Own (sliceR (pairR (sliceR intR 3) (sliceR intR 3)) 57) [v138] r136.2, Own (sliceR intR 3) [v128] r127, Own (sliceR intR 3) [v121] r120.1, Own (sliceR intR 3) [v167] r166.1, Own (sliceR (pairR (sliceR intR 3) (sliceR intR 3)) 57) [v168] r166.2] := hS.top 7 rfl
        replace hS : Sat w0 w174 [Own (sliceR intR 3) [v121] r120.1, Own (sliceR (pairR (sliceR intR 3) (sliceR intR 3)) 57) [v122] r120.2, Box b144 30 [v137, v138], Box b103 25 [u0, u1], Own (sliceR intR 3) [v150] r149, Own (sliceR intR 3) [v137] r136.1, Own (sliceR (pairR (sliceR intR 3) (sliceR intR 3)) 57) [v138] r136.2, Own (sliceR intR 3) [v128] r127, Own (sliceR intR 3) [v167] r166.1, Own (sliceR (pairR (sliceR intR 3) (sliceR intR 3)) 57) [v168] r166.2] := hS.top 7 rfl
        replace hS : Sat w0 w174 [Own (sliceR intR 3) [v128] r127, Own (sliceR intR 3) [v121] r120.1, Own (sliceR (pairR (sliceR intR 3) (sliceR intR 3)) 57) [v122] r120.2, Box b144 30 [v137, v138], Box b103 25 [u0, u1], Own (sliceR intR 3) [v150] r149, Own (sliceR intR 3) [v137] r136.1, Own (sliceR (pairR (sliceR intR 3) (sliceR intR 3)) 57) [v138] r136.2, Own (sliceR intR 3) [v167] r166.1, Own (sliceR (pairR (sliceR intR 3) (sliceR intR 3)) 57) [v168] r166.2] := hS.top 7 rfl
        replace hS : Sat w0 w174 [Own (sliceR (pairR (sliceR intR 3) (sliceR intR 3)) 57) [v138] r136.2, Own (sliceR intR 3) [v128] r127, Own (sliceR intR 3) [v121] r120.1, Own (sliceR (pairR (sliceR intR 3) (sliceR intR 3)) 57) [v122] r120.2, Box b144 30 [v137, v138], Box b103 25 [u0, u1], Own (sliceR intR 3) [v150] r149, Own (sliceR intR 3) [v137] r136.1, Own (sliceR intR 3) [v167] r166.1, Own (sliceR (pairR (sliceR intR 3) (sliceR intR 3)) 57) [v168] r166.2] := hS.top 7 rfl
        replace hS : Sat w0 w174 [Own (sliceR intR 3) [v137] r136.1, Own (sliceR (pairR (sliceR intR 3) (sliceR intR 3)) 57) [v138] r136.2, Own (sliceR intR 3) [v128] r127, Own (sliceR intR 3) [v121] r120.1, Own (sliceR (pairR (sliceR intR 3) (sliceR intR 3)) 57) [v122] r120.2, Box b144 30 [v137, v138], Box b103 25 [u0, u1], Own (sliceR intR 3) [v150] r149, Own (sliceR intR 3) [v167] r166.1, Own (sliceR (pairR (sliceR intR 3) (sliceR intR 3)) 57) [v168] r166.2] := hS.top 7 rfl
        replace hS : Sat w0 w174 [Own (sliceR intR 3) [v150] r149, Own (sliceR intR 3) [v137] r136.1, Own (sliceR (pairR (sliceR intR 3) (sliceR intR 3)) 57) [v138] r136.2, Own (sliceR intR 3) [v128] r127, Own (sliceR intR 3) [v121] r120.1, Own (sliceR (pairR (sliceR intR 3) (sliceR intR 3)) 57) [v122] r120.2, Box b144 30 [v137, v138], Box b103 25 [u0, u1], Own (sliceR intR 3) [v167] r166.1, Own (sliceR (pairR (sliceR intR 3) (sliceR intR 3)) 57) [v168] r166.2] := hS.top 7 rfl
        replace hS : Sat w0 w174 [Box b103 25 [u0, u1], Own (sliceR intR 3) [v150] r149, Own (sliceR intR 3) [v137] r136.1, Own (sliceR (pairR (sliceR intR 3) (sliceR intR 3)) 57) [v138] r136.2, Own (sliceR intR 3) [v128] r127, Own (sliceR intR 3) [v121] r120.1, Own (sliceR (pairR (sliceR intR 3) (sliceR intR 3)) 57) [v122] r120.2, Box b144 30 [v137, v138], Own (sliceR intR 3) [v167] r166.1, Own (sliceR (pairR (sliceR intR 3) (sliceR intR 3)) 57) [v168] r166.2] := hS.top 7 rfl
        replace hS : Sat w0 w174 [Box b144 30 [v137, v138], Box b103 25 [u0, u1], Own (sliceR intR 3) [v150] r149, Own (sliceR intR 3) [v137] r136.1, Own (sliceR (pairR (sliceR intR 3) (sliceR intR 3)) 57) [v138] r136.2, Own (sliceR intR 3) [v128] r127, Own (sliceR intR 3) [v121] r120.1, Own (sliceR (pairR (sliceR intR 3) (sliceR intR 3)) 57) [v122] r120.2, Own (sliceR intR 3) [v167] r166.1, Own (sliceR (pairR (sliceR intR 3) (sliceR intR 3)) 57) [v168] r166.2] := hS.top 7 rfl
        have hC := (hCd _).2 ⟨_, hS⟩
        refine ⟨fun _ => hC, ?_⟩
        refine al_p (v := .bool (!r173)) (by kernel_rfl) 4 rfl rfl (by decide) hC (by kernel_rfl) (by kernel_rfl) (sv_on rfl (fun w' hw' => by obtain ⟨_, hS⟩ := (hCd _).1 hw'; exact (pv_not rfl))) ?_
        refine al_nil (by kernel_rfl) ?_
        refine hQ163 _ _ _ ?_
        refine thn_n ?_
        replace hF := oif hF
        rcases hF with ⟨hb176, hF⟩ | ⟨hb176, hF⟩
        · refine cw_cond_f rfl (bnot_t hb176) ?_
          refine cw_skip ?_
          refine hQ162 _ _ _ ?_
          refine thn_n ?_
          refine cw_seq ?_
          refine cw_gen ?_
          intro Q177 hQ177
          refine cw_seq ?_
          refine cw_gen ?_
          intro Q178 hQ178
          refine cw_reg ?_
          refine el_pv (v := v150) (pv_move rfl) (by decide) ?_
          refine el_pv (v := u2) (pv_move rfl) (by decide) ?_
          replace hF := ob hF
          obtain ⟨r179, hr179, hF⟩ := hF
          refine el_call goes15 (laws_toIntS_ok (hS.up ha2) hr179) (congrArg List.toArray (mapc rfl rfl)) (by decide) ?_
          rintro _ w182 ⟨v180, rfl, hS'⟩
          refine ⟨_, rfl, ?_⟩
          have hx183 := hS'.below
          replace hS := hS.call1 hS'
          replace hF := ob hF
          obtain ⟨r184, hr184, hF⟩ := hF
          refine el_call goes17 (laws_eqIntS_ok (hS.rdAt (R := (sliceR intR 3)) 3 rfl) (hS.rdAt (R := (sliceR intR 3)) 0 rfl) hr184) (congrArg List.toArray (mapc rfl (mapc rfl rfl))) (by decide) ?_
          rintro _ w185 ⟨rfl, hx186⟩
          refine ⟨_, rfl, ?_⟩
          replace hS := hS.ext hx186
          refine el_pv (v := .bool (!r184)) (pv_not rfl) (by decide) ?_
          refine el_nil ?_
          refine hQ178 _ _ _ ?_
          refine thn_n ?_
          replace hF := oif hF
          rcases hF with ⟨hb187, hF⟩ | ⟨hb187, hF⟩
          · refine cw_cond_f rfl (bnot_t hb187) ?_
            refine cw_skip ?_
            refine hQ177 _ _ _ ?_
            refine thn_n ?_
            refine cw_seq ?_
            refine cw_gen ?_
            intro Q188 hQ188
            refine cw_reg ?_
            refine el_pv (v := .bool true) (pv_assign rfl) (by decide) ?_
            refine el_nil ?_
            refine hQ188 _ _ _ ?_
            refine thn_n ?_
            refine cw_ret ?_
            refine fin1 rfl rfl ?_
            have hr := Option.some.inj hF
            exact ⟨congrArg (fun (r : Bool) => Ending.returned (.bool r)) hr, hS.below⟩
          · refine cw_cond_t rfl (bnot_f hb187) ?_
            refine cw_seq ?_
            refine cw_gen ?_
            intro Q189 hQ189
            refine cw_reg ?_
            refine el_pv (v := .bool false) (pv_assign rfl) (by decide) ?_
            refine el_nil ?_
            refine hQ189 _ _ _ ?_
            refine thn_n ?_
            refine cw_ret ?_
            refine hQ177 _ _ _ ?_
            refine thn_r ?_
            refine fin1 rfl rfl ?_
            have hr := Option.some.inj hF
            exact ⟨congrArg (fun (r : Bool) => Ending.returned (.bool r)) hr, hS.below⟩
        · refine cw_cond_t rfl (bnot_f hb176) ?_
          refine cw_seq ?_
          refine cw_gen ?_
          intro Q190 hQ190
          refine cw_reg ?_
          refine el_pv (v := .bool false) (pv_assign rfl) (by decide) ?_
          refine el_nil ?_
          refine hQ190 _ _ _ ?_
          refine thn_n ?_
          refine cw_ret ?_
          refine hQ162 _ _ _ ?_
          refine thn_r ?_
          refine fin1 rfl rfl ?_
          have hr := Option.some.inj hF
          exact ⟨congrArg (fun (r : Bool) => Ending.returned (.bool r)) hr, hS.below⟩
set_option maxHeartbeats 4000000 in
theorem spec_FactorizedRowAt_ok {w0 : World} {u0 : Value} {a0 : List Int} {u1 : Value} {a1 : List (List Int × List Int)} {a2 : Int} (ha0 : (sliceR intR 3).rd w0 [u0] a0) (ha1 : (sliceR (pairR (sliceR intR 3) (sliceR intR 3)) 57).rd w0 [u1] a1) {N : Nat} {r : (List Int) × Bool} (hF : spec_FactorizedRowAt N a0 a1 a2 = some r) :
    Calls Try.prog 22 #[.agg #[u0, u1], .int .i64 a2] w0 fun e w' => ∃ (q0 : Value), e = .returned (.tuple #[q0, .bool r.2]) ∧ Sat w0 w' [Own (sliceR intR 3) [q0] r.1] := by
  unfold spec_FactorizedRowAt at hF
  refine calls_E Try.func22 rfl rfl (of_decide_eq_true rfl) ?_
  have hS := Sat.start w0
  refine cw_seq ?_
  refine cw_gen ?_
  intro Q101 hQ101
  refine cw_reg ?_
  refine el_box [u0, u1] rfl hS (by decide) ?_
  intro w102 b103 hS hx104
  refine el_pv (v := (.slice none 0 0)) (pv_assign rfl) (by decide) ?_
  refine el_pv (v := .bool false) (pv_assign rfl) (by decide) ?_
  refine el_nil ?_
  refine hQ101 _ _ _ ?_
  refine thn_n ?_
  refine cw_seq ?_
  refine cw_gen ?_
  intro Q106 hQ106
  refine cw_seq ?_
  refine cw_gen ?_
  intro Q107 hQ107
  refine cw_reg ?_
  refine el_pv (v := .agg #[u0, u1]) (pv_loada (cs := [u0, u1]) rfl rfl (boxc0 (hS.boxAt 0 rfl))) (by decide) ?_
  replace hF := ob hF
  obtain ⟨r108, hr108, hF⟩ := hF
  refine el_call goes34 (spec_IsValidFactorization_ok (hS.up ha0) (hS.up ha1) hr108) (congrArg List.toArray (mapc rfl rfl)) (by decide) ?_
  rintro _ w109 ⟨rfl, hx110⟩
  refine ⟨_, rfl, ?_⟩
  replace hS := hS.ext hx110
  refine el_pv (v := .bool (!r108)) (pv_not rfl) (by decide) ?_
  refine el_pv (v := .bool (!r108)) (pv_move rfl) (by decide) ?_
  replace hF := oif hF
  rcases hF with ⟨hb111, hF⟩ | ⟨hb111, hF⟩
  · refine el_on rfl (bnot_t hb111) ?_
    refine el_pv (v := .int .i64 a2) (pv_move rfl) (by decide) ?_
    refine el_on rfl (bnot_t hb111) ?_
    refine el_pv (v := .agg #[u0, u1]) (pv_loada (cs := [u0, u1]) rfl rfl (boxc0 (hS.boxAt 0 rfl))) (by decide) ?_
    refine el_on rfl (bnot_t hb111) ?_
    replace hF := ob hF
    obtain ⟨r112, hr112, hF⟩ := hF
    refine el_call goes10 (spec_FactorizedRowCount_ok (hS.up ha0) (hS.up ha1) hr112) (congrArg List.toArray (mapc rfl rfl)) (by decide) ?_
    rintro _ w113 ⟨rfl, hx114⟩
    refine ⟨_, rfl, ?_⟩
    replace hS := hS.ext hx114
    refine el_on rfl (bnot_t hb111) ?_
    replace hF := ob hF
    obtain ⟨x115, hx115, hF⟩ := hF
    refine el_pv (v := .int .i64 x115) (pv_sub rfl rfl hx115) (by decide) ?_
    refine el_on rfl (bnot_t hb111) ?_
    replace hF := ob hF
    obtain ⟨r116, hr116, hF⟩ := hF
    refine el_call goes43 (spec_l1In_ok hr116) (congrArg List.toArray (mapc rfl (mapc rfl (mapc rfl rfl)))) (by decide) ?_
    rintro _ w117 ⟨rfl, hx118⟩
    refine ⟨_, rfl, ?_⟩
    replace hS := hS.ext hx118
    refine el_on rfl (bnot_t hb111) ?_
    refine el_pv (v := .bool (!r116)) (pv_not rfl) (by decide) ?_
    refine el_pv (v := .bool (!r116)) (pv_pick_f rfl (bnot_t hb111) rfl) (by decide) ?_
    refine el_nil ?_
    refine hQ107 _ _ _ ?_
    refine thn_n ?_
    replace hF := oif hF
    rcases hF with ⟨hb119, hF⟩ | ⟨hb119, hF⟩
    · refine cw_cond_f rfl (bnot_t hb119) ?_
      refine cw_skip ?_
      refine hQ106 _ _ _ ?_
      refine thn_n ?_
      refine cw_seq ?_
      refine cw_gen ?_
      intro Q120 hQ120
      refine cw_reg ?_
      refine el_pv (v := .agg #[u0, u1]) (pv_loada (cs := [u0, u1]) rfl rfl (boxc0 (hS.boxAt 0 rfl))) (by decide) ?_
      replace hF := ob hF
      obtain ⟨r121, hr121, hF⟩ := hF
      refine el_call goes35 (spec_l23Counts_ok (hS.up ha0) (hS.up ha1) hr121) (congrArg List.toArray (mapc rfl rfl)) (by decide) ?_
      rintro _ w124 ⟨v122, rfl, hS'⟩
      refine ⟨_, rfl, ?_⟩
      have hx125 := hS'.below
      replace hS := hS.call1 hS'
      refine el_pv (v := v122) (pv_assign rfl) (by decide) ?_
      refine el_nil ?_
      refine hQ120 _ _ _ ?_
      refine thn_n ?_
      refine cw_seq ?_
      refine cw_gen ?_
      intro Q126 hQ126
      refine cw_reg ?_
      refine el_buildSlice0 intR hS (by decide) ?_
      intro w127 v129 hS hx128
      refine el_pv (v := v129) (pv_assign rfl) (by decide) ?_
      refine el_nil ?_
      refine hQ126 _ _ _ ?_
      refine thn_n ?_
      refine cw_seq ?_
      refine cw_gen ?_
      intro Q131 hQ131
      refine cw_seq ?_
      refine cw_gen ?_
      intro Q132 hQ132
      refine cw_reg ?_
      refine el_pv (v := .pointer (some ⟨b103, 0 + 1, none⟩)) (pv_fieldAddr rfl) (by decide) ?_
      refine el_pv (v := u1) (pv_loadc rfl ((hS.boxAt 2 rfl) 1 _ rfl)) (by decide) ?_
      refine el_pv (v := .int .i64 (a1.length : Int)) (pv_len rfl ha1) (by decide) ?_
      replace hF := ob hF
      obtain ⟨x133, hx133, hF⟩ := hF
      refine el_pv (v := .int .i64 x133) (pv_sub rfl rfl hx133) (by decide) ?_
      refine el_pv (v := .int .i64 x133) (pv_assign rfl) (by decide) ?_
      refine el_nil ?_
      refine hQ132 _ _ _ ?_
      refine thn_n ?_
      refine cw_block ?_
      refine cw_gen ?_
      intro Q134 hQ134
      obtain ⟨s135, hL, hK136⟩ := ob hF
      refine cw_loopS (fun k e w => ∃ (x137 : Int), ∃ (v139 : Value), ∃ (x138 : List Int), ∃ (x140 : Int), e 1 = .int .i64 x137 ∧ e 2 = .pointer (some ⟨b103, 0, none⟩) ∧ e 6 = v122 ∧ e 7 = v139 ∧ e 8 = .int .i64 x140 ∧ Sat w0 w [Own (sliceR intR 3) [v139] x138, Own (sliceR intR 3) [v122] r121, Box b103 30 [u0, u1]] ∧ spec_FactorizedRowAt_L1 N k x137 a0 a1 r121 x138 x140 = some s135) N ?_ ?_ ?_
      · exact ⟨a2, v129, [], x133, rfl, rfl, rfl, rfl, rfl, hS, hL⟩
      · rintro e w ⟨_, _, _, _, _, _, _, _, _, _, hz⟩; exact nomatch (show none = some _ from hz)
      · rintro k e147 w146 ⟨x137, v139, x138, x140, he141, he142, he143, he144, he145, hS, hF⟩
        refine cw_gen ?_
        intro Q148 hQ148
        refine cw_seq ?_
        refine cw_gen ?_
        intro Q149 hQ149
        refine cw_seq ?_
        refine cw_gen ?_
        intro Q150 hQ150
        refine cw_reg ?_
        refine el_pv (v := .int .i64 x140) (pv_move he145) (by decide) ?_
        refine el_pv (v := .bool (decide (0 < x140))) (pv_gtr rfl rfl) (by decide) ?_
        refine el_nil ?_
        refine hQ150 _ _ _ ?_
        refine thn_n ?_
        replace hF := oif hF
        rcases hF with ⟨hb151, hF⟩ | ⟨hb151, hF⟩
        · refine cw_cond_t rfl hb151 ?_
          refine cw_skip ?_
          refine hQ149 _ _ _ ?_
          refine thn_n ?_
          refine cw_block ?_
          refine cw_gen ?_
          intro Q152 hQ152
          refine cw_seq ?_
          refine cw_gen ?_
          intro Q153 hQ153
          refine cw_reg ?_
          refine el_pv (v := .int .i64 0) (pv_assign rfl) (by decide) ?_
          refine el_nil ?_
          refine hQ153 _ _ _ ?_
          refine thn_n ?_
          refine cw_seq ?_
          refine cw_gen ?_
          intro Q154 hQ154
          refine cw_block ?_
          refine cw_gen ?_
          intro Q155 hQ155
          obtain ⟨s156, hL, hK157⟩ := ob hF
          refine cw_loopS (fun k e w => ∃ (x158 : Int), ∃ (x159 : Int), e 1 = .int .i64 x158 ∧ e 2 = .pointer (some ⟨b103, 0, none⟩) ∧ e 6 = v122 ∧ e 7 = v139 ∧ e 8 = .int .i64 x140 ∧ e 9 = .int .i64 x159 ∧ Sat w0 w [Own (sliceR intR 3) [v139] x138, Own (sliceR intR 3) [v122] r121, Box b103 30 [u0, u1]] ∧ spec_FactorizedRowAt_L2 N k x158 a0 a1 r121 x138 x140 x159 = some s156) N ?_ ?_ ?_
          · exact ⟨x137, 0, he141, he142, he143, he144, he145, rfl, hS, hL⟩
          · rintro e w ⟨_, _, _, _, _, _, _, _, _, hz⟩; exact nomatch (show none = some _ from hz)
          · rintro k e167 w166 ⟨x158, x159, he160, he161, he162, he163, he164, he165, hS, hF⟩
            refine cw_gen ?_
            intro Q168 hQ168
            refine cw_seq ?_
            refine cw_gen ?_
            intro Q169 hQ169
            refine cw_seq ?_
            refine cw_gen ?_
            intro Q170 hQ170
            refine cw_reg ?_
            refine el_pv (v := .int .i64 x158) (pv_move he160) (by decide) ?_
            refine el_pv (v := v122) (pv_move he162) (by decide) ?_
            refine el_pv (v := .pointer (some ⟨b103, 0 + 1, none⟩)) (pv_fieldAddr he161) (by decide) ?_
            refine el_pv (v := u1) (pv_loadc rfl ((hS.boxAt 2 rfl) 1 _ rfl)) (by decide) ?_
            refine el_pv (v := .int .i64 x140) (pv_move he164) (by decide) ?_
            replace hF := ob hF
            obtain ⟨x171, hx171, hF⟩ := hF
            refine el_index (wA := w0) rfl ha1 rfl (by decide) rfl hx171 (by decide) ?_
            intro b172 of173 c174 hr175 hm176
            obtain ⟨_, _, rfl, hr177, hr178⟩ := hr175
            obtain ⟨v179, rfl⟩ := slice_one hr177
            obtain ⟨v180, rfl⟩ := slice_one hr178
            refine el_pv (v := .pointer (some ⟨b172, of173 + 1, none⟩)) (pv_fieldAddr rfl) (by decide) ?_
            refine el_pv (v := v180) (pv_loadc rfl ((cells_up hS.below hm176) 1 _ rfl)) (by decide) ?_
            refine el_pv (v := .int .i64 x159) (pv_move he165) (by decide) ?_
            replace hF := ob hF
            obtain ⟨x181, hx181, hF⟩ := hF
            refine el_index (wA := w0) rfl hr178 rfl (by decide) rfl hx181 (by decide) ?_
            intro b182 of183 c184 hr185 hm186
            obtain rfl := hr185
            refine el_pv (v := .int .i64 x181) (pv_loadc rfl ((cells_up hS.below hm186) 0 _ rfl)) (by decide) ?_
            replace hF := ob hF
            obtain ⟨x187, hx187, hF⟩ := hF
            obtain ⟨g188, cap189, hv190⟩ := ownShape 1 hS rfl hx187
            refine el_pv (v := .pointer (some ⟨g188, x181.toNat * 1, none⟩)) (pv_indexF (v := v122) rfl hv190 rfl hx187) (by decide) ?_
            refine el_pv (v := .int .i64 x187) (pv_loadc rfl (hS.ownCell 1 rfl hv190 hx187)) (by decide) ?_
            refine el_pv (v := .bool (decide (x187 ≤ x158))) (pv_geq rfl rfl) (by decide) ?_
            refine el_nil ?_
            refine hQ170 _ _ _ ?_
            refine thn_n ?_
            replace hF := oif hF
            rcases hF with ⟨hb191, hF⟩ | ⟨hb191, hF⟩
            · refine cw_cond_t rfl hb191 ?_
              refine cw_skip ?_
              refine hQ169 _ _ _ ?_
              refine thn_n ?_
              refine cw_block ?_
              refine cw_gen ?_
              intro Q192 hQ192
              refine cw_seq ?_
              refine cw_gen ?_
              intro Q193 hQ193
              refine cw_reg ?_
              refine el_pv (v := .int .i64 x158) (pv_move he160) (by decide) ?_
              refine el_pv (v := v122) (pv_move he162) (by decide) ?_
              refine el_pv (v := .pointer (some ⟨b103, 0 + 1, none⟩)) (pv_fieldAddr he161) (by decide) ?_
              refine el_pv (v := u1) (pv_loadc rfl ((hS.boxAt 2 rfl) 1 _ rfl)) (by decide) ?_
              refine el_pv (v := .int .i64 x140) (pv_move he164) (by decide) ?_
              replace hF := ob hF
              obtain ⟨x194, hx194, hF⟩ := hF
              refine el_index (wA := w0) rfl ha1 rfl (by decide) rfl hx194 (by decide) ?_
              intro b195 of196 c197 hr198 hm199
              obtain ⟨_, _, rfl, hr200, hr201⟩ := hr198
              obtain ⟨v202, rfl⟩ := slice_one hr200
              obtain ⟨v203, rfl⟩ := slice_one hr201
              refine el_pv (v := .pointer (some ⟨b195, of196 + 1, none⟩)) (pv_fieldAddr rfl) (by decide) ?_
              refine el_pv (v := v203) (pv_loadc rfl ((cells_up hS.below hm199) 1 _ rfl)) (by decide) ?_
              refine el_pv (v := .int .i64 x159) (pv_move he165) (by decide) ?_
              replace hF := ob hF
              obtain ⟨x204, hx204, hF⟩ := hF
              refine el_index (wA := w0) rfl hr201 rfl (by decide) rfl hx204 (by decide) ?_
              intro b205 of206 c207 hr208 hm209
              obtain rfl := hr208
              refine el_pv (v := .int .i64 x204) (pv_loadc rfl ((cells_up hS.below hm209) 0 _ rfl)) (by decide) ?_
              replace hF := ob hF
              obtain ⟨x210, hx210, hF⟩ := hF
              obtain ⟨g211, cap212, hv213⟩ := ownShape 1 hS rfl hx210
              refine el_pv (v := .pointer (some ⟨g211, x204.toNat * 1, none⟩)) (pv_indexF (v := v122) rfl hv213 rfl hx210) (by decide) ?_
              refine el_pv (v := .int .i64 x210) (pv_loadc rfl (hS.ownCell 1 rfl hv213 hx210)) (by decide) ?_
              replace hF := ob hF
              obtain ⟨x214, hx214, hF⟩ := hF
              refine el_pv (v := .int .i64 x214) (pv_sub rfl rfl hx214) (by decide) ?_
              refine el_pv (v := .int .i64 x214) (pv_assign rfl) (by decide) ?_
              refine el_nil ?_
              refine hQ193 _ _ _ ?_
              refine thn_n ?_
              refine cw_reg ?_
              refine el_pv (v := .int .i64 x159) (pv_move he165) (by decide) ?_
              replace hF := ob hF
              obtain ⟨x215, hx215, hF⟩ := hF
              refine el_pv (v := .int .i64 x215) (pv_add rfl rfl hx215) (by decide) ?_
              refine el_pv (v := .int .i64 x215) (pv_assign rfl) (by decide) ?_
              refine el_nil ?_
              refine hQ192 _ _ _ ?_
              refine inb_n ?_
              refine hQ168 _ _ _ ?_
              refine thn_n ?_
              replace hS : Sat w0 w166 [Box b103 30 [u0, u1], Own (sliceR intR 3) [v139] x138, Own (sliceR intR 3) [v122] r121] := hS.top 2 rfl
              replace hS : Sat w0 w166 [Own (sliceR intR 3) [v122] r121, Box b103 30 [u0, u1], Own (sliceR intR 3) [v139] x138] := hS.top 2 rfl
              replace hS : Sat w0 w166 [Own (sliceR intR 3) [v139] x138, Own (sliceR intR 3) [v122] r121, Box b103 30 [u0, u1]] := hS.top 2 rfl
              replace hS := hS.keep 3
              exact ⟨x214, x215, rfl, he161, he162, he163, he164, rfl, hS, hF⟩
            · refine cw_cond_f rfl hb191 ?_
              refine cw_exit ?_
              refine hQ169 _ _ _ ?_
              refine thn_x ?_
              refine hQ168 _ _ _ ?_
              refine thn_x ?_
              replace hF := exB hF hK157
              refine hQ155 _ _ _ ?_
              refine inb_s ?_
              refine hQ154 _ _ _ ?_
              refine thn_n ?_
              refine cw_seq ?_
              refine cw_gen ?_
              intro Q216 hQ216
              refine cw_reg ?_
              refine el_pv (v := v139) (pv_move he163) (by decide) ?_
              refine el_pv (v := .pointer (some ⟨b103, 0 + 1, none⟩)) (pv_fieldAddr he161) (by decide) ?_
              refine el_pv (v := u1) (pv_loadc rfl ((hS.boxAt 2 rfl) 1 _ rfl)) (by decide) ?_
              refine el_pv (v := .int .i64 x140) (pv_move he164) (by decide) ?_
              replace hF := ob hF
              obtain ⟨x217, hx217, hF⟩ := hF
              refine el_index (wA := w0) rfl ha1 rfl (by decide) rfl hx217 (by decide) ?_
              intro b218 of219 c220 hr221 hm222
              obtain ⟨_, _, rfl, hr223, hr224⟩ := hr221
              obtain ⟨v225, rfl⟩ := slice_one hr223
              obtain ⟨v226, rfl⟩ := slice_one hr224
              refine el_pv (v := .pointer (some ⟨b218, of219 + 0, none⟩)) (pv_fieldAddr rfl) (by decide) ?_
              refine el_pv (v := v225) (pv_loadc rfl ((cells_up hS.below hm222) 0 _ rfl)) (by decide) ?_
              refine el_pv (v := .int .i64 x159) (pv_move he165) (by decide) ?_
              replace hF := ob hF
              obtain ⟨x227, hx227, hF⟩ := hF
              refine el_index (wA := w0) rfl hr223 rfl (by decide) rfl hx227 (by decide) ?_
              intro b228 of229 c230 hr231 hm232
              obtain rfl := hr231
              refine el_pv (v := .int .i64 x227) (pv_loadc rfl ((cells_up hS.below hm232) 0 _ rfl)) (by decide) ?_
              refine el_buildSlice1 [.int .i64 x227] rfl (by rfl) (by decide) rfl (by decide) hS (by decide) ?_
              intro w233 b235 hS hx234
              replace hF := ob hF
              obtain ⟨x239, hx239, hF⟩ := hF
              have hrow240 := hS.boxRow 0 rfl
              replace hS : Sat w0 w233 [Own (sliceR intR 3) [v139] x138, Box b235 3 [.int .i64 x227], Own (sliceR intR 3) [v122] r121, Box b103 30 [u0, u1]] := hS.top 1 rfl
              replace hS := hS.int x227
              replace hS := hS.one
              refine el_append rfl (by decide) rfl (by decide) hS rfl rfl rfl (by simp) hrow240 hx239 (by decide) ?_
              intro w237 v238 hS
              refine el_pv (v := v238) (pv_assign rfl) (by decide) ?_
              refine el_nil ?_
              refine hQ216 _ _ _ ?_
              refine thn_n ?_
              refine cw_reg ?_
              refine el_pv (v := .pointer (some ⟨b103, 0 + 1, none⟩)) (pv_fieldAddr he161) (by decide) ?_
              refine el_pv (v := u1) (pv_loadc rfl ((hS.boxAt 3 rfl) 1 _ rfl)) (by decide) ?_
              refine el_pv (v := .int .i64 x140) (pv_move he164) (by decide) ?_
              replace hF := ob hF
              obtain ⟨x242, hx242, hF⟩ := hF
              refine el_index (wA := w0) rfl ha1 rfl (by decide) rfl hx242 (by decide) ?_
              intro b243 of244 c245 hr246 hm247
              obtain ⟨_, _, rfl, hr248, hr249⟩ := hr246
              obtain ⟨v250, rfl⟩ := slice_one hr248
              obtain ⟨v251, rfl⟩ := slice_one hr249
              refine el_pv (v := .pointer (some ⟨b243, of244 + 1, none⟩)) (pv_fieldAddr rfl) (by decide) ?_
              refine el_pv (v := v251) (pv_loadc rfl ((cells_up hS.below hm247) 1 _ rfl)) (by decide) ?_
              refine el_pv (v := .int .i64 x159) (pv_move he165) (by decide) ?_
              replace hF := ob hF
              obtain ⟨x252, hx252, hF⟩ := hF
              refine el_index (wA := w0) rfl hr249 rfl (by decide) rfl hx252 (by decide) ?_
              intro b253 of254 c255 hr256 hm257
              obtain rfl := hr256
              refine el_pv (v := .int .i64 x252) (pv_loadc rfl ((cells_up hS.below hm257) 0 _ rfl)) (by decide) ?_
              refine el_pv (v := .int .i64 x252) (pv_assign rfl) (by decide) ?_
              refine el_nil ?_
              refine hQ152 _ _ _ ?_
              refine inb_n ?_
              refine hQ148 _ _ _ ?_
              refine thn_n ?_
              replace hS : Sat w0 w237 [Box b103 30 [u0, u1], Own (sliceR intR 3) [v238] x239, Box b235 3 [.int .i64 x227], Own (sliceR intR 3) [v122] r121] := hS.top 3 rfl
              replace hS : Sat w0 w237 [Own (sliceR intR 3) [v122] r121, Box b103 30 [u0, u1], Own (sliceR intR 3) [v238] x239, Box b235 3 [.int .i64 x227]] := hS.top 3 rfl
              replace hS : Sat w0 w237 [Own (sliceR intR 3) [v238] x239, Own (sliceR intR 3) [v122] r121, Box b103 30 [u0, u1], Box b235 3 [.int .i64 x227]] := hS.top 2 rfl
              replace hS := hS.keep 3
              exact ⟨x158, v238, x239, x252, he160, he161, he162, rfl, rfl, hS, hF⟩
        · refine cw_cond_f rfl hb151 ?_
          refine cw_exit ?_
          refine hQ149 _ _ _ ?_
          refine thn_x ?_
          refine hQ148 _ _ _ ?_
          refine thn_x ?_
          replace hF := exB hF hK136
          refine hQ134 _ _ _ ?_
          refine inb_s ?_
          refine hQ131 _ _ _ ?_
          refine thn_n ?_
          refine cw_seq ?_
          refine cw_gen ?_
          intro Q258 hQ258
          refine cw_reg ?_
          refine el_pv (v := v139) (pv_move he144) (by decide) ?_
          refine el_pv (v := v139) (pv_assign rfl) (by decide) ?_
          refine el_pv (v := .bool true) (pv_assign rfl) (by decide) ?_
          refine el_nil ?_
          refine hQ258 _ _ _ ?_
          refine thn_n ?_
          refine cw_ret ?_
          refine fin2 rfl rfl rfl ?_
          have hr := Option.some.inj hF
          exact ⟨v139, congrArg (fun (r : (List Int) × Bool) => Ending.returned (.tuple #[v139, .bool r.2])) hr, Eq.mp (congrArg (fun (r : (List Int) × Bool) => Sat w0 w146 [Own (sliceR intR 3) [v139] r.1]) hr) (hS.keep 1)⟩
    · refine cw_cond_t rfl (bnot_f hb119) ?_
      refine cw_seq ?_
      refine cw_gen ?_
      intro Q259 hQ259
      refine cw_reg ?_
      refine el_buildSlice0 intR hS (by decide) ?_
      intro w260 v262 hS hx261
      refine el_pv (v := v262) (pv_assign rfl) (by decide) ?_
      refine el_pv (v := .bool false) (pv_assign rfl) (by decide) ?_
      refine el_nil ?_
      refine hQ259 _ _ _ ?_
      refine thn_n ?_
      refine cw_ret ?_
      refine hQ106 _ _ _ ?_
      refine thn_r ?_
      refine fin2 rfl rfl rfl ?_
      have hr := Option.some.inj hF
      exact ⟨v262, congrArg (fun (r : (List Int) × Bool) => Ending.returned (.tuple #[v262, .bool r.2])) hr, Eq.mp (congrArg (fun (r : (List Int) × Bool) => Sat w0 w260 [Own (sliceR intR 3) [v262] r.1]) hr) (hS.keep 1)⟩
  · refine el_off rfl (bnot_f hb111) rfl (by decide) ?_
    refine el_off rfl (bnot_f hb111) rfl (by decide) ?_
    refine el_off rfl (bnot_f hb111) rfl (by decide) ?_
    refine el_off rfl (bnot_f hb111) rfl (by decide) ?_
    refine el_off rfl (bnot_f hb111) rfl (by decide) ?_
    refine el_off rfl (bnot_f hb111) rfl (by decide) ?_
    refine el_pv (v := .bool true) (pv_pick_t rfl (bnot_f hb111) rfl) (by decide) ?_
    refine el_nil ?_
    refine hQ107 _ _ _ ?_
    refine thn_n ?_
    refine cw_cond_t rfl rfl ?_
    refine cw_seq ?_
    refine cw_gen ?_
    intro Q264 hQ264
    refine cw_reg ?_
    refine el_buildSlice0 intR hS (by decide) ?_
    intro w265 v267 hS hx266
    refine el_pv (v := v267) (pv_assign rfl) (by decide) ?_
    refine el_pv (v := .bool false) (pv_assign rfl) (by decide) ?_
    refine el_nil ?_
    refine hQ264 _ _ _ ?_
    refine thn_n ?_
    refine cw_ret ?_
    refine hQ106 _ _ _ ?_
    refine thn_r ?_
    refine fin2 rfl rfl rfl ?_
    have hr := Option.some.inj hF
    exact ⟨v267, congrArg (fun (r : (List Int) × Bool) => Ending.returned (.tuple #[v267, .bool r.2])) hr, Eq.mp (congrArg (fun (r : (List Int) × Bool) => Sat w0 w265 [Own (sliceR intR 3) [v267] r.1]) hr) (hS.keep 1)⟩
set_option maxHeartbeats 4000000 in
theorem impl_FactorizedRowAt_ok {w0 : World} {u0 : Value} {a0 : List Int} {u1 : Value} {a1 : List (List Int × List Int)} {a2 : Int} (ha0 : (sliceR intR 3).rd w0 [u0] a0) (ha1 : (sliceR (pairR (sliceR intR 3) (sliceR intR 3)) 57).rd w0 [u1] a1) {N : Nat} {r : (List Int) × Bool} (hF : impl_FactorizedRowAt N a0 a1 a2 = some r) :
    Calls Try.prog 23 #[.agg #[u0, u1], .int .i64 a2] w0 fun e w' => ∃ (q0 : Value), e = .returned (.tuple #[q0, .bool r.2]) ∧ Sat w0 w' [Own (sliceR intR 3) [q0] r.1] := by
  unfold impl_FactorizedRowAt at hF
  refine calls_E Try.func23 rfl rfl (of_decide_eq_true rfl) ?_
  have hS := Sat.start w0
  refine cw_seq ?_
  refine cw_gen ?_
  intro Q101 hQ101
  refine cw_reg ?_
  refine el_box [u0, u1] rfl hS (by decide) ?_
  intro w102 b103 hS hx104
  refine el_pv (v := (.slice none 0 0)) (pv_assign rfl) (by decide) ?_
  refine el_pv (v := .bool false) (pv_assign rfl) (by decide) ?_
  refine el_nil ?_
  refine hQ101 _ _ _ ?_
  refine thn_n ?_
  refine cw_seq ?_
  refine cw_gen ?_
  intro Q106 hQ106
  refine cw_seq ?_
  refine cw_gen ?_
  intro Q107 hQ107
  refine cw_reg ?_
  refine el_pv (v := .int .i64 a2) (pv_move rfl) (by decide) ?_
  refine el_pv (v := .agg #[u0, u1]) (pv_loada (cs := [u0, u1]) rfl rfl (boxc0 (hS.boxAt 0 rfl))) (by decide) ?_
  replace hF := ob hF
  obtain ⟨r108, hr108, hF⟩ := hF
  refine el_call goes12 (impl_FactorizedRowCount_ok (hS.up ha0) (hS.up ha1) hr108) (congrArg List.toArray (mapc rfl rfl)) (by decide) ?_
  rintro _ w109 ⟨rfl, hx110⟩
  refine ⟨_, rfl, ?_⟩
  replace hS := hS.ext hx110
  replace hF := ob hF
  obtain ⟨x111, hx111, hF⟩ := hF
  refine el_pv (v := .int .i64 x111) (pv_sub rfl rfl hx111) (by decide) ?_
  replace hF := ob hF
  obtain ⟨r112, hr112, hF⟩ := hF
  refine el_call goes44 (impl_within_ok hr112) (congrArg List.toArray (mapc rfl (mapc rfl (mapc rfl rfl)))) (by decide) ?_
  rintro _ w113 ⟨rfl, hx114⟩
  refine ⟨_, rfl, ?_⟩
  replace hS := hS.ext hx114
  refine el_pv (v := .bool (!r112)) (pv_not rfl) (by decide) ?_
  refine el_nil ?_
  refine hQ107 _ _ _ ?_
  refine thn_n ?_
  replace hF := oif hF
  rcases hF with ⟨hb115, hF⟩ | ⟨hb115, hF⟩
  · refine cw_cond_f rfl (bnot_t hb115) ?_
    refine cw_skip ?_
    refine hQ106 _ _ _ ?_
    refine thn_n ?_
    refine cw_seq ?_
    refine cw_gen ?_
    intro Q116 hQ116
    refine cw_reg ?_
    refine el_pv (v := .agg #[u0, u1]) (pv_loada (cs := [u0, u1]) rfl rfl (boxc0 (hS.boxAt 0 rfl))) (by decide) ?_
    replace hF := ob hF
    obtain ⟨r117, hr117, hF⟩ := hF
    refine el_call goes38 (impl_counts_ok (hS.up ha0) (hS.up ha1) hr117) (congrArg List.toArray (mapc rfl rfl)) (by decide) ?_
    rintro _ w120 ⟨v118, rfl, hS'⟩
    refine ⟨_, rfl, ?_⟩
    have hx121 := hS'.below
    replace hS := hS.call1 hS'
    refine el_pv (v := v118) (pv_assign rfl) (by decide) ?_
    refine el_nil ?_
    refine hQ116 _ _ _ ?_
    refine thn_n ?_
    refine cw_seq ?_
    refine cw_gen ?_
    intro Q122 hQ122
    refine cw_reg ?_
    refine el_buildSlice0 intR hS (by decide) ?_
    intro w123 v125 hS hx124
    refine el_pv (v := v125) (pv_assign rfl) (by decide) ?_
    refine el_nil ?_
    refine hQ122 _ _ _ ?_
    refine thn_n ?_
    refine cw_seq ?_
    refine cw_gen ?_
    intro Q127 hQ127
    refine cw_seq ?_
    refine cw_gen ?_
    intro Q128 hQ128
    refine cw_reg ?_
    refine el_pv (v := v118) (pv_move rfl) (by decide) ?_
    refine el_pv (v := .int .i64 (r117.length : Int)) (pv_len rfl (hS.rdAt (R := (sliceR intR 3)) 1 rfl)) (by decide) ?_
    replace hF := ob hF
    obtain ⟨x129, hx129, hF⟩ := hF
    refine el_pv (v := .int .i64 x129) (pv_sub rfl rfl hx129) (by decide) ?_
    refine el_pv (v := .int .i64 x129) (pv_assign rfl) (by decide) ?_
    refine el_nil ?_
    refine hQ128 _ _ _ ?_
    refine thn_n ?_
    refine cw_block ?_
    refine cw_gen ?_
    intro Q130 hQ130
    obtain ⟨s131, hL, hK132⟩ := ob hF
    refine cw_loopS (fun k e w => ∃ (x133 : Int), ∃ (v135 : Value), ∃ (x134 : List Int), ∃ (x136 : Int), e 1 = .int .i64 x133 ∧ e 2 = .pointer (some ⟨b103, 0, none⟩) ∧ e 6 = v118 ∧ e 7 = v135 ∧ e 8 = .int .i64 x136 ∧ Sat w0 w [Own (sliceR intR 3) [v135] x134, Own (sliceR intR 3) [v118] r117, Box b103 30 [u0, u1]] ∧ impl_FactorizedRowAt_L1 N k x133 a0 a1 r117 x134 x136 = some s131) N ?_ ?_ ?_
    · exact ⟨a2, v125, [], x129, rfl, rfl, rfl, rfl, rfl, hS, hL⟩
    · rintro e w ⟨_, _, _, _, _, _, _, _, _, _, hz⟩; exact nomatch (show none = some _ from hz)
    · rintro k e143 w142 ⟨x133, v135, x134, x136, he137, he138, he139, he140, he141, hS, hF⟩
      refine cw_gen ?_
      intro Q144 hQ144
      refine cw_seq ?_
      refine cw_gen ?_
      intro Q145 hQ145
      refine cw_seq ?_
      refine cw_gen ?_
      intro Q146 hQ146
      refine cw_reg ?_
      refine el_pv (v := .int .i64 x136) (pv_move he141) (by decide) ?_
      refine el_pv (v := .bool (decide (0 < x136))) (pv_gtr rfl rfl) (by decide) ?_
      refine el_nil ?_
      refine hQ146 _ _ _ ?_
      refine thn_n ?_
      replace hF := oif hF
      rcases hF with ⟨hb147, hF⟩ | ⟨hb147, hF⟩
      · refine cw_cond_t rfl hb147 ?_
        refine cw_skip ?_
        refine hQ145 _ _ _ ?_
        refine thn_n ?_
        refine cw_block ?_
        refine cw_gen ?_
        intro Q148 hQ148
        refine cw_seq ?_
        refine cw_gen ?_
        intro Q149 hQ149
        refine cw_reg ?_
        refine el_pv (v := .pointer (some ⟨b103, 0 + 1, none⟩)) (pv_fieldAddr he138) (by decide) ?_
        refine el_pv (v := u1) (pv_loadc rfl ((hS.boxAt 2 rfl) 1 _ rfl)) (by decide) ?_
        refine el_pv (v := .int .i64 x136) (pv_move he141) (by decide) ?_
        replace hF := ob hF
        obtain ⟨x150, hx150, hF⟩ := hF
        refine el_index (wA := w0) rfl ha1 rfl (by decide) rfl hx150 (by decide) ?_
        intro b151 of152 c153 hr154 hm155
        obtain ⟨_, _, rfl, hr156, hr157⟩ := hr154
        obtain ⟨v158, rfl⟩ := slice_one hr156
        obtain ⟨v159, rfl⟩ := slice_one hr157
        refine el_pv (v := .agg #[v158, v159]) (pv_loada (cs := [v158, v159]) rfl rfl (cells_up hS.below hm155)) (by decide) ?_
        refine el_alloc hS (by decide) ?_
        intro w160 b161 hS hx162
        refine el_storev (hS.top 0 rfl) rfl [v158, v159] rfl rfl (of_decide_eq_true rfl) (all_cons (oc hr156) (all_cons (oc hr157) rfl)) ?_
        intro w164 hS
        replace hS : Sat w0 w164 [Box b161 57 [v158, v159], Own (sliceR intR 3) [v135] x134, Own (sliceR intR 3) [v118] r117, Box b103 30 [u0, u1]] := hS
        refine el_nil ?_
        refine hQ149 _ _ _ ?_
        refine thn_n ?_
        refine cw_seq ?_
        refine cw_gen ?_
        intro Q165 hQ165
        refine cw_reg ?_
        refine el_pv (v := .int .i64 0) (pv_assign rfl) (by decide) ?_
        refine el_nil ?_
        refine hQ165 _ _ _ ?_
        refine thn_n ?_
        refine cw_seq ?_
        refine cw_gen ?_
        intro Q166 hQ166
        refine cw_block ?_
        refine cw_gen ?_
        intro Q167 hQ167
        obtain ⟨s168, hL, hK169⟩ := ob hF
        refine cw_loopS (fun k e w => ∃ (x170 : Int), ∃ (x171 : Int), e 1 = .int .i64 x170 ∧ e 2 = .pointer (some ⟨b103, 0, none⟩) ∧ e 6 = v118 ∧ e 7 = v135 ∧ e 9 = .pointer (some ⟨b161, 0, none⟩) ∧ e 10 = .int .i64 x171 ∧ Sat w0 w [Box b161 57 [v158, v159], Own (sliceR intR 3) [v135] x134, Own (sliceR intR 3) [v118] r117, Box b103 30 [u0, u1]] ∧ impl_FactorizedRowAt_L2 N k x170 a0 a1 r117 x134 x150.1 x150.2 x171 = some s168) N ?_ ?_ ?_
        · exact ⟨x133, 0, he137, he138, he139, he140, rfl, rfl, hS, hL⟩
        · rintro e w ⟨_, _, _, _, _, _, _, _, _, hz⟩; exact nomatch (show none = some _ from hz)
        · rintro k e179 w178 ⟨x170, x171, he172, he173, he174, he175, he176, he177, hS, hF⟩
          refine cw_gen ?_
          intro Q180 hQ180
          refine cw_seq ?_
          refine cw_gen ?_
          intro Q181 hQ181
          refine cw_seq ?_
          refine cw_gen ?_
          intro Q182 hQ182
          refine cw_reg ?_
          refine el_pv (v := .int .i64 x170) (pv_move he172) (by decide) ?_
          refine el_pv (v := v118) (pv_move he174) (by decide) ?_
          refine el_pv (v := .pointer (some ⟨b161, 0 + 1, none⟩)) (pv_fieldAddr he176) (by decide) ?_
          refine el_pv (v := v159) (pv_loadc rfl ((hS.boxAt 0 rfl) 1 _ rfl)) (by decide) ?_
          refine el_pv (v := .int .i64 x171) (pv_move he177) (by decide) ?_
          replace hF := ob hF
          obtain ⟨x183, hx183, hF⟩ := hF
          refine el_index (wA := w0) rfl hr157 rfl (by decide) rfl hx183 (by decide) ?_
          intro b184 of185 c186 hr187 hm188
          obtain rfl := hr187
          refine el_pv (v := .int .i64 x183) (pv_loadc rfl ((cells_up hS.below hm188) 0 _ rfl)) (by decide) ?_
          replace hF := ob hF
          obtain ⟨x189, hx189, hF⟩ := hF
          obtain ⟨g190, cap191, hv192⟩ := ownShape 2 hS rfl hx189
          refine el_pv (v := .pointer (some ⟨g190, x183.toNat * 1, none⟩)) (pv_indexF (v := v118) rfl hv192 rfl hx189) (by decide) ?_
          refine el_pv (v := .int .i64 x189) (pv_loadc rfl (hS.ownCell 2 rfl hv192 hx189)) (by decide) ?_
          refine el_pv (v := .bool (decide (x189 ≤ x170))) (pv_geq rfl rfl) (by decide) ?_
          refine el_nil ?_
          refine hQ182 _ _ _ ?_
          refine thn_n ?_
          replace hF := oif hF
          rcases hF with ⟨hb193, hF⟩ | ⟨hb193, hF⟩
          · refine cw_cond_t rfl hb193 ?_
            refine cw_skip ?_
            refine hQ181 _ _ _ ?_
            refine thn_n ?_
            refine cw_block ?_
            refine cw_gen ?_
            intro Q194 hQ194
            refine cw_seq ?_
            refine cw_gen ?_
            intro Q195 hQ195
            refine cw_reg ?_
            refine el_pv (v := .int .i64 x170) (pv_move he172) (by decide) ?_
            refine el_pv (v := v118) (pv_move he174) (by decide) ?_
            refine el_pv (v := .pointer (some ⟨b161, 0 + 1, none⟩)) (pv_fieldAddr he176) (by decide) ?_
            refine el_pv (v := v159) (pv_loadc rfl ((hS.boxAt 0 rfl) 1 _ rfl)) (by decide) ?_
            refine el_pv (v := .int .i64 x171) (pv_move he177) (by decide) ?_
            replace hF := ob hF
            obtain ⟨x196, hx196, hF⟩ := hF
            refine el_index (wA := w0) rfl hr157 rfl (by decide) rfl hx196 (by decide) ?_
            intro b197 of198 c199 hr200 hm201
            obtain rfl := hr200
            refine el_pv (v := .int .i64 x196) (pv_loadc rfl ((cells_up hS.below hm201) 0 _ rfl)) (by decide) ?_
            replace hF := ob hF
            obtain ⟨x202, hx202, hF⟩ := hF
            obtain ⟨g203, cap204, hv205⟩ := ownShape 2 hS rfl hx202
            refine el_pv (v := .pointer (some ⟨g203, x196.toNat * 1, none⟩)) (pv_indexF (v := v118) rfl hv205 rfl hx202) (by decide) ?_
            refine el_pv (v := .int .i64 x202) (pv_loadc rfl (hS.ownCell 2 rfl hv205 hx202)) (by decide) ?_
            replace hF := ob hF
            obtain ⟨x206, hx206, hF⟩ := hF
            refine el_pv (v := .int .i64 x206) (pv_sub rfl rfl hx206) (by decide) ?_
            refine el_pv (v := .int .i64 x206) (pv_assign rfl) (by decide) ?_
            refine el_nil ?_
            refine hQ195 _ _ _ ?_
            refine thn_n ?_
            refine cw_reg ?_
            refine el_pv (v := .int .i64 x171) (pv_move he177) (by decide) ?_
            replace hF := ob hF
            obtain ⟨x207, hx207, hF⟩ := hF
            refine el_pv (v := .int .i64 x207) (pv_add rfl rfl hx207) (by decide) ?_
            refine el_pv (v := .int .i64 x207) (pv_assign rfl) (by decide) ?_
            refine el_nil ?_
            refine hQ194 _ _ _ ?_
            refine inb_n ?_
            refine hQ180 _ _ _ ?_
            refine thn_n ?_
            replace hS : Sat w0 w178 [Box b103 30 [u0, u1], Box b161 57 [v158, v159], Own (sliceR intR 3) [v135] x134, Own (sliceR intR 3) [v118] r117] := hS.top 3 rfl
            replace hS : Sat w0 w178 [Own (sliceR intR 3) [v118] r117, Box b103 30 [u0, u1], Box b161 57 [v158, v159], Own (sliceR intR 3) [v135] x134] := hS.top 3 rfl
            replace hS : Sat w0 w178 [Own (sliceR intR 3) [v135] x134, Own (sliceR intR 3) [v118] r117, Box b103 30 [u0, u1], Box b161 57 [v158, v159]] := hS.top 3 rfl
            replace hS : Sat w0 w178 [Box b161 57 [v158, v159], Own (sliceR intR 3) [v135] x134, Own (sliceR intR 3) [v118] r117, Box b103 30 [u0, u1]] := hS.top 3 rfl
            replace hS := hS.keep 4
            exact ⟨x206, x207, rfl, he173, he174, he175, he176, rfl, hS, hF⟩
          · refine cw_cond_f rfl hb193 ?_
            refine cw_exit ?_
            refine hQ181 _ _ _ ?_
            refine thn_x ?_
            refine hQ180 _ _ _ ?_
            refine thn_x ?_
            replace hF := exB hF hK169
            refine hQ167 _ _ _ ?_
            refine inb_s ?_
            refine hQ166 _ _ _ ?_
            refine thn_n ?_
            refine cw_seq ?_
            refine cw_gen ?_
            intro Q208 hQ208
            refine cw_reg ?_
            refine el_pv (v := v135) (pv_move he175) (by decide) ?_
            refine el_pv (v := .pointer (some ⟨b161, 0 + 0, none⟩)) (pv_fieldAddr he176) (by decide) ?_
            refine el_pv (v := v158) (pv_loadc rfl ((hS.boxAt 0 rfl) 0 _ rfl)) (by decide) ?_
            refine el_pv (v := .int .i64 x171) (pv_move he177) (by decide) ?_
            replace hF := ob hF
            obtain ⟨x209, hx209, hF⟩ := hF
            refine el_index (wA := w0) rfl hr156 rfl (by decide) rfl hx209 (by decide) ?_
            intro b210 of211 c212 hr213 hm214
            obtain rfl := hr213
            refine el_pv (v := .int .i64 x209) (pv_loadc rfl ((cells_up hS.below hm214) 0 _ rfl)) (by decide) ?_
            refine el_buildSlice1 [.int .i64 x209] rfl (by rfl) (by decide) rfl (by decide) hS (by decide) ?_
            intro w215 b217 hS hx216
            replace hF := ob hF
            obtain ⟨x221, hx221, hF⟩ := hF
            have hrow222 := hS.boxRow 0 rfl
            replace hS : Sat w0 w215 [Own (sliceR intR 3) [v135] x134, Box b217 3 [.int .i64 x209], Box b161 57 [v158, v159], Own (sliceR intR 3) [v118] r117, Box b103 30 [u0, u1]] := hS.top 2 rfl
            replace hS := hS.int x209
            replace hS := hS.one
            refine el_append rfl (by decide) rfl (by decide) hS rfl rfl rfl (by simp) hrow222 hx221 (by decide) ?_
            intro w219 v220 hS
            refine el_pv (v := v220) (pv_assign rfl) (by decide) ?_
            refine el_nil ?_
            refine hQ208 _ _ _ ?_
            refine thn_n ?_
            refine cw_reg ?_
            refine el_pv (v := .pointer (some ⟨b161, 0 + 1, none⟩)) (pv_fieldAddr he176) (by decide) ?_
            refine el_pv (v := v159) (pv_loadc rfl ((hS.boxAt 2 rfl) 1 _ rfl)) (by decide) ?_
            refine el_pv (v := .int .i64 x171) (pv_move he177) (by decide) ?_
            replace hF := ob hF
            obtain ⟨x224, hx224, hF⟩ := hF
            refine el_index (wA := w0) rfl hr157 rfl (by decide) rfl hx224 (by decide) ?_
            intro b225 of226 c227 hr228 hm229
            obtain rfl := hr228
            refine el_pv (v := .int .i64 x224) (pv_loadc rfl ((cells_up hS.below hm229) 0 _ rfl)) (by decide) ?_
            refine el_pv (v := .int .i64 x224) (pv_assign rfl) (by decide) ?_
            refine el_nil ?_
            refine hQ148 _ _ _ ?_
            refine inb_n ?_
            refine hQ144 _ _ _ ?_
            refine thn_n ?_
            replace hS : Sat w0 w219 [Box b103 30 [u0, u1], Own (sliceR intR 3) [v220] x221, Box b217 3 [.int .i64 x209], Box b161 57 [v158, v159], Own (sliceR intR 3) [v118] r117] := hS.top 4 rfl
            replace hS : Sat w0 w219 [Own (sliceR intR 3) [v118] r117, Box b103 30 [u0, u1], Own (sliceR intR 3) [v220] x221, Box b217 3 [.int .i64 x209], Box b161 57 [v158, v159]] := hS.top 4 rfl
            replace hS : Sat w0 w219 [Own (sliceR intR 3) [v220] x221, Own (sliceR intR 3) [v118] r117, Box b103 30 [u0, u1], Box b217 3 [.int .i64 x209], Box b161 57 [v158, v159]] := hS.top 2 rfl
            replace hS := hS.keep 3
            exact ⟨x170, v220, x221, x224, he172, he173, he174, rfl, rfl, hS, hF⟩
      · refine cw_cond_f rfl hb147 ?_
        refine cw_exit ?_
        refine hQ145 _ _ _ ?_
        refine thn_x ?_
        refine hQ144 _ _ _ ?_
        refine thn_x ?_
        replace hF := exB hF hK132
        refine hQ130 _ _ _ ?_
        refine inb_s ?_
        refine hQ127 _ _ _ ?_
        refine thn_n ?_
        refine cw_seq ?_
        refine cw_gen ?_
        intro Q230 hQ230
        refine cw_reg ?_
        refine el_pv (v := v135) (pv_move he140) (by decide) ?_
        refine el_pv (v := v135) (pv_assign rfl) (by decide) ?_
        refine el_pv (v := .bool true) (pv_assign rfl) (by decide) ?_
        refine el_nil ?_
        refine hQ230 _ _ _ ?_
        refine thn_n ?_
        refine cw_ret ?_
        refine fin2 rfl rfl rfl ?_
        have hr := Option.some.inj hF
        exact ⟨v135, congrArg (fun (r : (List Int) × Bool) => Ending.returned (.tuple #[v135, .bool r.2])) hr, Eq.mp (congrArg (fun (r : (List Int) × Bool) => Sat w0 w142 [Own (sliceR intR 3) [v135] r.1]) hr) (hS.keep 1)⟩
  · refine cw_cond_t rfl (bnot_f hb115) ?_
    refine cw_seq ?_
    refine cw_gen ?_
    intro Q231 hQ231
    refine cw_reg ?_
    refine el_pv (v := (.slice none 0 0)) (pv_assign rfl) (by decide) ?_
    refine el_pv (v := .bool false) (pv_assign rfl) (by decide) ?_
    refine el_nil ?_
    refine hQ231 _ _ _ ?_
    refine thn_n ?_
    refine cw_ret ?_
    refine hQ106 _ _ _ ?_
    refine thn_r ?_
    replace hS := hS.nil intR 3
    refine fin2 rfl rfl rfl ?_
    have hr := Option.some.inj hF
    exact ⟨(.slice none 0 0), congrArg (fun (r : (List Int) × Bool) => Ending.returned (.tuple #[(.slice none 0 0), .bool r.2])) hr, Eq.mp (congrArg (fun (r : (List Int) × Bool) => Sat w0 w113 [Own (sliceR intR 3) [(.slice none 0 0)] r.1]) hr) (hS.keep 1)⟩
set_option maxHeartbeats 4000000 in
theorem laws_markIntS_ok {w0 : World} {w00 : World} {G0 : List Asn} {u0 : Value} {a0 : List Int} {a1 : Int} (hS : Sat w00 w0 (Own (sliceR intR 3) [u0] a0 :: G0)) {N : Nat} {r : Int × (List Int)} (hF : laws_markIntS N a0 a1 = some r) :
    Calls Try.prog 25 #[u0, .int .i64 a1] w0 fun e w' => e = .returned (.int .i64 r.1) ∧ Sat w00 w' (Own (sliceR intR 3) [u0] r.2 :: G0) := by
  unfold laws_markIntS at hF
  refine calls_E Try.func25 rfl rfl (of_decide_eq_true rfl) ?_
  refine cw_seq ?_
  refine cw_gen ?_
  intro Q101 hQ101
  refine cw_reg ?_
  refine el_pv (v := .int .i64 0) (pv_assign rfl) (by decide) ?_
  refine el_nil ?_
  refine hQ101 _ _ _ ?_
  refine thn_n ?_
  refine cw_seq ?_
  refine cw_gen ?_
  intro Q102 hQ102
  refine cw_seq ?_
  refine cw_gen ?_
  intro Q103 hQ103
  refine cw_reg ?_
  refine el_pv (v := .int .i64 0) (pv_assign rfl) (by decide) ?_
  refine el_nil ?_
  refine hQ103 _ _ _ ?_
  refine thn_n ?_
  refine cw_block ?_
  refine cw_gen ?_
  intro Q104 hQ104
  obtain ⟨s105, hL, hK106⟩ := ob hF
  refine cw_loopS (fun k e w => ∃ (x107 : List Int), ∃ (x108 : Int), ∃ (x109 : Int), e 0 = u0 ∧ e 1 = .int .i64 x108 ∧ e 5 = .int .i64 x109 ∧ Sat w00 w (Own (sliceR intR 3) [u0] x107 :: G0) ∧ laws_markIntS_L1 N k x107 x108 x109 = some s105) N ?_ ?_ ?_
  · exact ⟨a0, a1, 0, rfl, rfl, rfl, hS, hL⟩
  · rintro e w ⟨_, _, _, _, _, _, _, hz⟩; exact nomatch (show none = some _ from hz)
  · rintro k e114 w113 ⟨x107, x108, x109, he110, he111, he112, hS, hF⟩
    refine cw_gen ?_
    intro Q115 hQ115
    refine cw_seq ?_
    refine cw_gen ?_
    intro Q116 hQ116
    refine cw_seq ?_
    refine cw_gen ?_
    intro Q117 hQ117
    refine cw_reg ?_
    refine el_pv (v := .int .i64 x109) (pv_move he112) (by decide) ?_
    refine el_pv (v := u0) (pv_move he110) (by decide) ?_
    refine el_pv (v := .int .i64 (x107.length : Int)) (pv_len rfl (hS.rdAt (R := (sliceR intR 3)) 0 rfl)) (by decide) ?_
    refine el_pv (v := .bool (decide (x109 < (x107.length : Int)))) (pv_lss rfl rfl) (by decide) ?_
    refine el_nil ?_
    refine hQ117 _ _ _ ?_
    refine thn_n ?_
    replace hF := oif hF
    rcases hF with ⟨hb118, hF⟩ | ⟨hb118, hF⟩
    · refine cw_cond_t rfl hb118 ?_
      refine cw_skip ?_
      refine hQ116 _ _ _ ?_
      refine thn_n ?_
      refine cw_seq ?_
      refine cw_gen ?_
      intro Q119 hQ119
      refine cw_block ?_
      refine cw_gen ?_
      intro Q120 hQ120
      refine cw_seq ?_
      refine cw_gen ?_
      intro Q121 hQ121
      refine cw_reg ?_
      refine el_pv (v := u0) (pv_move he110) (by decide) ?_
      refine el_pv (v := .int .i64 x109) (pv_move he112) (by decide) ?_
      refine el_pv (v := .int .i64 x108) (pv_move he111) (by decide) ?_
      replace hF := ob hF
      obtain ⟨x122, hx122, hF⟩ := hF
      obtain ⟨g123, cap124, hv125⟩ := ownShape 0 hS rfl hx122
      refine el_pv (v := .pointer (some ⟨g123, x109.toNat * 1, none⟩)) (pv_indexF (v := u0) rfl hv125 rfl hx122) (by decide) ?_
      replace hF := ob hF
      obtain ⟨x127, hx127, hF⟩ := hF
      replace hS := hS.int x108
      refine el_storeO rfl hv125 hS hx127 rfl rfl ?_
      intro w126 hS
      refine el_nil ?_
      refine hQ121 _ _ _ ?_
      refine thn_n ?_
      refine cw_reg ?_
      refine el_pv (v := .int .i64 x108) (pv_move he111) (by decide) ?_
      replace hF := ob hF
      obtain ⟨x128, hx128, hF⟩ := hF
      refine el_pv (v := .int .i64 x128) (pv_add rfl rfl hx128) (by decide) ?_
      refine el_pv (v := .int .i64 x128) (pv_assign rfl) (by decide) ?_
      refine el_nil ?_
      refine hQ120 _ _ _ ?_
      refine inb_n ?_
      refine hQ119 _ _ _ ?_
      refine thn_n ?_
      refine cw_reg ?_
      refine el_pv (v := .int .i64 x109) (pv_move he112) (by decide) ?_
      replace hF := ob hF
      obtain ⟨x129, hx129, hF⟩ := hF
      refine el_pv (v := .int .i64 x129) (pv_add rfl rfl hx129) (by decide) ?_
      refine el_pv (v := .int .i64 x129) (pv_assign rfl) (by decide) ?_
      refine el_nil ?_
      refine hQ115 _ _ _ ?_
      refine thn_n ?_
      exact ⟨x127, x128, x129, he110, rfl, rfl, hS, hF⟩
    · refine cw_cond_f rfl hb118 ?_
      refine cw_exit ?_
      refine hQ116 _ _ _ ?_
      refine thn_x ?_
      refine hQ115 _ _ _ ?_
      refine thn_x ?_
      replace hF := exB hF hK106
      refine hQ104 _ _ _ ?_
      refine inb_s ?_
      refine hQ102 _ _ _ ?_
      refine thn_n ?_
      refine cw_seq ?_
      refine cw_gen ?_
      intro Q130 hQ130
      refine cw_reg ?_
      refine el_pv (v := .int .i64 x108) (pv_move he111) (by decide) ?_
      refine el_pv (v := .int .i64 x108) (pv_assign rfl) (by decide) ?_
      refine el_nil ?_
      refine hQ130 _ _ _ ?_
      refine thn_n ?_
      refine cw_ret ?_
      refine fin1 rfl rfl ?_
      have hr := Option.some.inj hF
      exact ⟨congrArg (fun (r : Int × (List Int)) => Ending.returned (.int .i64 r.1)) hr, Eq.mp (congrArg (fun (r : Int × (List Int)) => Sat w00 w113 (Own (sliceR intR 3) [u0] r.2 :: G0)) hr) hS⟩
end Go.Proofs.Ytbjfbfjacchjiaa
