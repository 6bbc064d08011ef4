/- The walks through functions of the program: each hands back what it comes to. No condition but that it comes to something. -/
import Derived.Test.YtbjfbfjacchjiaaW1
import Derived.Test.YtbjfbfjacchjiaaW2D
namespace Go.Proofs.Ytbjfbfjacchjiaa
open Go.RowKit
set_option maxRecDepth 100000
set_option maxHeartbeats 4000000 in
theorem impl_sameInts_ok {w0 : World} {u0 : Value} {a0 : List Int} {u1 : Value} {a1 : List Int} (ha0 : (sliceR intR 3).rd w0 [u0] a0) (ha1 : (sliceR intR 3).rd w0 [u1] a1) {N : Nat} {r : Bool} (hF : impl_sameInts N a0 a1 = some r) :
    Calls Try.prog 60 #[u0, u1] w0 fun e w' => e = .returned (.bool r) ∧ Ext w0 w' := by
  unfold impl_sameInts at hF
  refine calls_E Try.func60 rfl rfl (of_decide_eq_true rfl) ?_
  have hS := Sat.start w0
  refine cw_seq ?_
  refine cw_gen ?_
  intro Q101 hQ101
  refine cw_reg ?_
  refine el_pv (v := .bool false) (pv_assign rfl) (by decide) ?_
  refine el_nil ?_
  refine hQ101 _ _ _ ?_
  refine thn_n ?_
  refine cw_seq ?_
  refine cw_gen ?_
  intro Q102 hQ102
  refine cw_seq ?_
  refine cw_gen ?_
  intro Q103 hQ103
  refine cw_reg ?_
  refine el_pv (v := u0) (pv_move rfl) (by decide) ?_
  refine el_pv (v := .int .i64 (a0.length : Int)) (pv_len rfl ha0) (by decide) ?_
  refine el_pv (v := u1) (pv_move rfl) (by decide) ?_
  refine el_pv (v := .int .i64 (a1.length : Int)) (pv_len rfl ha1) (by decide) ?_
  refine el_pv (v := .bool ((a0.length : Int) != (a1.length : Int))) (pv_neq rfl rfl) (by decide) ?_
  refine el_nil ?_
  refine hQ103 _ _ _ ?_
  refine thn_n ?_
  replace hF := oif hF
  rcases hF with ⟨hb104, hF⟩ | ⟨hb104, hF⟩
  · refine cw_cond_t rfl hb104 ?_
    refine cw_seq ?_
    refine cw_gen ?_
    intro Q105 hQ105
    refine cw_reg ?_
    refine el_pv (v := .bool false) (pv_assign rfl) (by decide) ?_
    refine el_nil ?_
    refine hQ105 _ _ _ ?_
    refine thn_n ?_
    refine cw_ret ?_
    refine hQ102 _ _ _ ?_
    refine thn_r ?_
    refine fin1 rfl rfl ?_
    have hr := Option.some.inj hF
    exact ⟨congrArg (fun (r : Bool) => Ending.returned (.bool r)) hr, hS.below⟩
  · refine cw_cond_f rfl hb104 ?_
    refine cw_skip ?_
    refine hQ102 _ _ _ ?_
    refine thn_n ?_
    refine cw_seq ?_
    refine cw_gen ?_
    intro Q106 hQ106
    refine cw_seq ?_
    refine cw_gen ?_
    intro Q107 hQ107
    refine cw_reg ?_
    refine el_pv (v := u0) (pv_move rfl) (by decide) ?_
    refine el_pv (v := .int .i64 (a0.length : Int)) (pv_len rfl ha0) (by decide) ?_
    refine el_pv (v := .int .i64 0) (pv_move rfl) (by decide) ?_
    refine el_nil ?_
    refine hQ107 _ _ _ ?_
    refine thn_n ?_
    refine cw_block ?_
    refine cw_gen ?_
    intro Q108 hQ108
    obtain ⟨s109, hL, hK110⟩ := ob hF
    refine cw_loopS (fun k e w => ∃ (x111 : Int), e 0 = u0 ∧ e 1 = u1 ∧ e 12 = .int .i64 (a0.length : Int) ∧ e 13 = .int .i64 x111 ∧ Sat w0 w [] ∧ impl_sameInts_L1 N k a0 a1 (a0.length : Int) x111 = some s109) N ?_ ?_ ?_
    · exact ⟨0, rfl, rfl, rfl, rfl, hS, hL⟩
    · rintro e w ⟨_, _, _, _, _, _, hz⟩; exact nomatch (show none = some _ from hz)
    · rintro k e117 w116 ⟨x111, he112, he113, he114, he115, hS, hF⟩
      refine cw_gen ?_
      intro Q118 hQ118
      refine cw_seq ?_
      refine cw_gen ?_
      intro Q119 hQ119
      refine cw_reg ?_
      refine el_pv (v := .bool (decide (x111 < (a0.length : Int)))) (pv_lss he115 he114) (by decide) ?_
      refine el_nil ?_
      refine hQ119 _ _ _ ?_
      refine thn_n ?_
      refine cw_seq ?_
      refine cw_gen ?_
      intro Q120 hQ120
      replace hF := oif hF
      rcases hF with ⟨hb121, hF⟩ | ⟨hb121, hF⟩
      · refine cw_cond_t rfl hb121 ?_
        refine cw_skip ?_
        refine hQ120 _ _ _ ?_
        refine thn_n ?_
        refine cw_seq ?_
        refine cw_gen ?_
        intro Q122 hQ122
        refine cw_block ?_
        refine cw_gen ?_
        intro Q123 hQ123
        refine cw_seq ?_
        refine cw_gen ?_
        intro Q124 hQ124
        refine cw_reg ?_
        refine el_pv (v := .int .i64 x111) (pv_move he115) (by decide) ?_
        refine el_pv (v := .int .i64 x111) (pv_assign rfl) (by decide) ?_
        refine el_nil ?_
        refine hQ124 _ _ _ ?_
        refine thn_n ?_
        refine cw_seq ?_
        refine cw_gen ?_
        intro Q125 hQ125
        refine cw_regq (by kernel_rfl) (by kernel_rfl) ?_
        refine ql_pv (v := u0) (pv_move he112) (by decide) ?_
        refine ql_pv (v := .int .i64 x111) (pv_move rfl) (by decide) ?_
        replace hF := ob hF
        obtain ⟨x126, hx126, hF⟩ := hF
        refine ql_index (wA := w0) rfl ha0 rfl (by decide) rfl hx126 (by decide) ?_
        intro b127 of128 c129 hr130 hm131
        obtain rfl := hr130
        refine ql_pv (v := .int .i64 x126) (pv_loadc rfl ((cells_up hS.below hm131) 0 _ rfl)) (by decide) ?_
        refine ql_pv (v := u1) (pv_move he113) (by decide) ?_
        refine ql_pv (v := .int .i64 x111) (pv_move rfl) (by decide) ?_
        replace hF := ob hF
        obtain ⟨x132, hx132, hF⟩ := hF
        refine ql_index (wA := w0) rfl ha1 rfl (by decide) rfl hx132 (by decide) ?_
        intro b133 of134 c135 hr136 hm137
        obtain rfl := hr136
        refine ql_pv (v := .int .i64 x132) (pv_loadc rfl ((cells_up hS.below hm137) 0 _ rfl)) (by decide) ?_
        refine ql_pv (v := .bool (x126 != x132)) (pv_neq rfl rfl) (by decide) ?_
        refine ql_nil ?_
        intro w138 hx139
        replace hS := hS.ext hx139
        refine hQ125 _ _ _ ?_
        refine thn_n ?_
        replace hF := oif hF
        rcases hF with ⟨hb140, hF⟩ | ⟨hb140, hF⟩
        · refine cw_cond_t rfl hb140 ?_
          refine cw_seq ?_
          refine cw_gen ?_
          intro Q141 hQ141
          refine cw_reg ?_
          refine el_pv (v := .bool false) (pv_assign rfl) (by decide) ?_
          refine el_nil ?_
          refine hQ141 _ _ _ ?_
          refine thn_n ?_
          refine cw_ret ?_
          refine hQ123 _ _ _ ?_
          refine inb_r ?_
          refine hQ122 _ _ _ ?_
          refine thn_r ?_
          refine hQ118 _ _ _ ?_
          refine thn_r ?_
          refine hQ108 _ _ _ ?_
          refine inb_r ?_
          refine hQ106 _ _ _ ?_
          refine thn_r ?_
          replace hF := exL hF hK110
          refine fin1 rfl rfl ?_
          have hr := Option.some.inj hF
          exact ⟨congrArg (fun (r : Bool) => Ending.returned (.bool r)) hr, hS.below⟩
        · refine cw_cond_f rfl hb140 ?_
          refine cw_skip ?_
          refine hQ123 _ _ _ ?_
          refine inb_n ?_
          refine hQ122 _ _ _ ?_
          refine thn_n ?_
          refine cw_reg ?_
          replace hF := ob hF
          obtain ⟨x142, hx142, hF⟩ := hF
          refine el_pv (v := .int .i64 x142) (pv_add he115 rfl hx142) (by decide) ?_
          refine el_pv (v := .int .i64 x142) (pv_move rfl) (by decide) ?_
          refine el_nil ?_
          refine hQ118 _ _ _ ?_
          refine thn_n ?_
          replace hS := hS.keep 0
          exact ⟨x142, he112, he113, he114, rfl, hS, hF⟩
      · refine cw_cond_f rfl hb121 ?_
        refine cw_exit ?_
        refine hQ120 _ _ _ ?_
        refine thn_x ?_
        refine hQ118 _ _ _ ?_
        refine thn_x ?_
        replace hF := exA hF hK110
        refine hQ108 _ _ _ ?_
        refine inb_s ?_
        refine hQ106 _ _ _ ?_
        refine thn_n ?_
        refine cw_seq ?_
        refine cw_gen ?_
        intro Q143 hQ143
        refine cw_reg ?_
        refine el_pv (v := .bool true) (pv_assign rfl) (by decide) ?_
        refine el_nil ?_
        refine hQ143 _ _ _ ?_
        refine thn_n ?_
        refine cw_ret ?_
        refine fin1 rfl rfl ?_
        have hr := Option.some.inj hF
        exact ⟨congrArg (fun (r : Bool) => Ending.returned (.bool r)) hr, hS.below⟩
set_option maxHeartbeats 4000000 in
theorem impl_sameNode_ok {w0 : World} {u0 : Value} {a0 : List Int} {u1 : Value} {a1 : List Int} {u2 : Value} {a2 : List Int} {u3 : Value} {a3 : List Int} (ha0 : (sliceR intR 3).rd w0 [u0] a0) (ha1 : (sliceR intR 3).rd w0 [u1] a1) (ha2 : (sliceR intR 3).rd w0 [u2] a2) (ha3 : (sliceR intR 3).rd w0 [u3] a3) {N : Nat} {r : Bool} (hF : impl_sameNode N a0 a1 a2 a3 = some r) :
    Calls Try.prog 58 #[.agg #[u0, u1], .agg #[u2, u3]] w0 fun e w' => e = .returned (.bool r) ∧ Ext w0 w' := by
  unfold impl_sameNode at hF
  refine calls_E Try.func58 rfl rfl (of_decide_eq_true rfl) ?_
  have hS := Sat.start w0
  refine cw_seq ?_
  refine cw_gen ?_
  intro Q101 hQ101
  refine cw_reg ?_
  refine el_box [u0, u1] rfl hS (by decide) ?_
  intro w102 b103 hS hx104
  refine el_box [u2, u3] rfl hS (by decide) ?_
  intro w106 b107 hS hx108
  refine el_pv (v := .bool false) (pv_assign rfl) (by decide) ?_
  refine el_nil ?_
  refine hQ101 _ _ _ ?_
  refine thn_n ?_
  refine cw_seq ?_
  refine cw_gen ?_
  intro Q110 hQ110
  refine cw_reg ?_
  refine el_pv (v := .pointer (some ⟨b103, 0 + 0, none⟩)) (pv_fieldAddr rfl) (by decide) ?_
  refine el_pv (v := u0) (pv_loadc rfl ((hS.boxAt 1 rfl) 0 _ rfl)) (by decide) ?_
  refine el_pv (v := .pointer (some ⟨b107, 0 + 0, none⟩)) (pv_fieldAddr rfl) (by decide) ?_
  refine el_pv (v := u2) (pv_loadc rfl ((hS.boxAt 0 rfl) 0 _ rfl)) (by decide) ?_
  replace hF := ob hF
  obtain ⟨r111, hr111, hF⟩ := hF
  refine el_call goes60 (impl_sameInts_ok (hS.up ha0) (hS.up ha2) hr111) (congrArg List.toArray (mapc rfl (mapc rfl rfl))) (by decide) ?_
  rintro _ w112 ⟨rfl, hx113⟩
  refine ⟨_, rfl, ?_⟩
  replace hS := hS.ext hx113
  refine el_pv (v := .bool r111) (pv_move rfl) (by decide) ?_
  replace hF := oif hF
  rcases hF with ⟨hb114, hF⟩ | ⟨hb114, hF⟩
  · refine el_on rfl hb114 ?_
    refine el_pv (v := .pointer (some ⟨b103, 0 + 1, none⟩)) (pv_fieldAddr rfl) (by decide) ?_
    refine el_on rfl hb114 ?_
    refine el_pv (v := u1) (pv_loadc rfl ((hS.boxAt 1 rfl) 1 _ rfl)) (by decide) ?_
    refine el_on rfl hb114 ?_
    refine el_pv (v := .pointer (some ⟨b107, 0 + 1, none⟩)) (pv_fieldAddr rfl) (by decide) ?_
    refine el_on rfl hb114 ?_
    refine el_pv (v := u3) (pv_loadc rfl ((hS.boxAt 0 rfl) 1 _ rfl)) (by decide) ?_
    refine el_on rfl hb114 ?_
    replace hF := ob hF
    obtain ⟨r115, hr115, hF⟩ := hF
    refine el_call goes60 (impl_sameInts_ok (hS.up ha1) (hS.up ha3) hr115) (congrArg List.toArray (mapc rfl (mapc rfl rfl))) (by decide) ?_
    rintro _ w116 ⟨rfl, hx117⟩
    refine ⟨_, rfl, ?_⟩
    replace hS := hS.ext hx117
    refine el_pv (v := .bool r115) (pv_pick_t rfl hb114 rfl) (by decide) ?_
    refine el_pv (v := .bool r115) (pv_assign rfl) (by decide) ?_
    refine el_nil ?_
    refine hQ110 _ _ _ ?_
    refine thn_n ?_
    refine cw_ret ?_
    refine fin1 rfl rfl ?_
    have hr := Option.some.inj hF
    exact ⟨congrArg (fun (r : Bool) => Ending.returned (.bool r)) hr, hS.below⟩
  · refine el_off rfl hb114 rfl (by decide) ?_
    refine el_off rfl hb114 rfl (by decide) ?_
    refine el_off rfl hb114 rfl (by decide) ?_
    refine el_off rfl hb114 rfl (by decide) ?_
    refine el_off rfl hb114 rfl (by decide) ?_
    refine el_pv (v := .bool false) (pv_pick_f rfl hb114 rfl) (by decide) ?_
    refine el_pv (v := .bool false) (pv_assign rfl) (by decide) ?_
    refine el_nil ?_
    refine hQ110 _ _ _ ?_
    refine thn_n ?_
    refine cw_ret ?_
    refine fin1 rfl rfl ?_
    have hr := Option.some.inj hF
    exact ⟨congrArg (fun (r : Bool) => Ending.returned (.bool r)) hr, hS.below⟩
set_option maxHeartbeats 4000000 in
theorem impl_nodeOk_ok {w0 : World} {u0 : Value} {a0 : List Int} {u1 : Value} {a1 : List (List Int × List Int)} {u2 : Value} {a2 : List Int} {a3 : Int} (ha0 : (sliceR intR 3).rd w0 [u0] a0) (ha1 : (sliceR (pairR (sliceR intR 3) (sliceR intR 3)) 57).rd w0 [u1] a1) (ha2 : (sliceR intR 3).rd w0 [u2] a2) {N : Nat} {r : Int × Bool} (hF : impl_nodeOk N a0 a1 a2 a3 = some r) :
    Calls Try.prog 53 #[.agg #[u0, u1], u2, .int .i64 a3] w0 fun e w' => e = .returned (.tuple #[.int .i64 r.1, .bool r.2]) ∧ Ext w0 w' := by
  unfold impl_nodeOk at hF
  refine calls_E Try.func53 rfl rfl (of_decide_eq_true rfl) ?_
  have hS := Sat.start w0
  refine cw_seq ?_
  refine cw_gen ?_
  intro Q101 hQ101
  refine cw_reg ?_
  refine el_box [u0, u1] rfl hS (by decide) ?_
  intro w102 b103 hS hx104
  refine el_pv (v := .int .i64 0) (pv_assign rfl) (by decide) ?_
  refine el_pv (v := .bool false) (pv_assign rfl) (by decide) ?_
  refine el_nil ?_
  refine hQ101 _ _ _ ?_
  refine thn_n ?_
  refine cw_seq ?_
  refine cw_gen ?_
  intro Q106 hQ106
  refine cw_reg ?_
  refine el_pv (v := .pointer (some ⟨b103, 0 + 1, none⟩)) (pv_fieldAddr rfl) (by decide) ?_
  refine el_pv (v := u1) (pv_loadc rfl ((hS.boxAt 0 rfl) 1 _ rfl)) (by decide) ?_
  refine el_pv (v := .int .i64 a3) (pv_move rfl) (by decide) ?_
  replace hF := ob hF
  obtain ⟨x107, hx107, hF⟩ := hF
  refine el_index (wA := w0) rfl ha1 rfl (by decide) rfl hx107 (by decide) ?_
  intro b108 of109 c110 hr111 hm112
  obtain ⟨_, _, rfl, hr113, hr114⟩ := hr111
  obtain ⟨v115, rfl⟩ := slice_one hr113
  obtain ⟨v116, rfl⟩ := slice_one hr114
  refine el_pv (v := .agg #[v115, v116]) (pv_loada (cs := [v115, v116]) rfl rfl (cells_up hS.below hm112)) (by decide) ?_
  refine el_alloc hS (by decide) ?_
  intro w117 b118 hS hx119
  refine el_storev (hS.top 0 rfl) rfl [v115, v116] rfl rfl (of_decide_eq_true rfl) (all_cons (oc hr113) (all_cons (oc hr114) rfl)) ?_
  intro w121 hS
  replace hS : Sat w0 w121 [Box b118 57 [v115, v116], Box b103 30 [u0, u1]] := hS
  refine el_nil ?_
  refine hQ106 _ _ _ ?_
  refine thn_n ?_
  refine cw_seq ?_
  refine cw_gen ?_
  intro Q122 hQ122
  refine cw_seq ?_
  refine cw_gen ?_
  intro Q123 hQ123
  refine cw_reg ?_
  refine el_pv (v := .pointer (some ⟨b118, 0 + 0, none⟩)) (pv_fieldAddr rfl) (by decide) ?_
  refine el_pv (v := v115) (pv_loadc rfl ((hS.boxAt 0 rfl) 0 _ rfl)) (by decide) ?_
  refine el_pv (v := .int .i64 (x107.1.length : Int)) (pv_len rfl hr113) (by decide) ?_
  refine el_pv (v := .pointer (some ⟨b118, 0 + 1, none⟩)) (pv_fieldAddr rfl) (by decide) ?_
  refine el_pv (v := v116) (pv_loadc rfl ((hS.boxAt 0 rfl) 1 _ rfl)) (by decide) ?_
  refine el_pv (v := .int .i64 (x107.2.length : Int)) (pv_len rfl hr114) (by decide) ?_
  refine el_pv (v := .bool ((x107.1.length : Int) != (x107.2.length : Int))) (pv_neq rfl rfl) (by decide) ?_
  refine el_pv (v := .bool ((x107.1.length : Int) != (x107.2.length : Int))) (pv_move rfl) (by decide) ?_
  replace hF := oif hF
  rcases hF with ⟨hb124, hF⟩ | ⟨hb124, hF⟩
  · refine el_off rfl hb124 rfl (by decide) ?_
    refine el_off rfl hb124 rfl (by decide) ?_
    refine el_off rfl hb124 rfl (by decide) ?_
    refine el_off rfl hb124 rfl (by decide) ?_
    refine el_pv (v := .bool true) (pv_pick_t rfl hb124 rfl) (by decide) ?_
    refine el_pv (v := .bool true) (pv_move rfl) (by decide) ?_
    refine el_off rfl rfl rfl (by decide) ?_
    refine el_off rfl rfl rfl (by decide) ?_
    refine el_off rfl rfl rfl (by decide) ?_
    refine el_off rfl rfl rfl (by decide) ?_
    refine el_pv (v := .bool true) (pv_pick_t rfl rfl rfl) (by decide) ?_
    refine el_nil ?_
    refine hQ123 _ _ _ ?_
    refine thn_n ?_
    refine cw_cond_t rfl rfl ?_
    refine cw_seq ?_
    refine cw_gen ?_
    intro Q125 hQ125
    refine cw_reg ?_
    refine el_pv (v := .int .i64 0) (pv_assign rfl) (by decide) ?_
    refine el_pv (v := .bool false) (pv_assign rfl) (by decide) ?_
    refine el_nil ?_
    refine hQ125 _ _ _ ?_
    refine thn_n ?_
    refine cw_ret ?_
    refine hQ122 _ _ _ ?_
    refine thn_r ?_
    refine fin2 rfl rfl rfl ?_
    have hr := Option.some.inj hF
    exact ⟨congrArg (fun (r : Int × Bool) => Ending.returned (.tuple #[.int .i64 r.1, .bool r.2])) hr, hS.below⟩
  · refine el_on rfl hb124 ?_
    refine el_pv (v := .pointer (some ⟨b118, 0 + 0, none⟩)) (pv_fieldAddr rfl) (by decide) ?_
    refine el_on rfl hb124 ?_
    refine el_pv (v := v115) (pv_loadc rfl ((hS.boxAt 0 rfl) 0 _ rfl)) (by decide) ?_
    refine el_on rfl hb124 ?_
    replace hF := ob hF
    obtain ⟨r126, hr126, hF⟩ := hF
    refine el_call goes56 (impl_AreValidValues_ok (hS.up hr113) hr126) (congrArg List.toArray (mapc rfl rfl)) (by decide) ?_
    rintro _ w127 ⟨rfl, hx128⟩
    refine ⟨_, rfl, ?_⟩
    replace hS := hS.ext hx128
    refine el_on rfl hb124 ?_
    refine el_pv (v := .bool (!r126)) (pv_not rfl) (by decide) ?_
    refine el_pv (v := .bool (!r126)) (pv_pick_f rfl hb124 rfl) (by decide) ?_
    refine el_pv (v := .bool (!r126)) (pv_move rfl) (by decide) ?_
    replace hF := oif hF
    rcases hF with ⟨hb129, hF⟩ | ⟨hb129, hF⟩
    · refine el_on rfl (bnot_t hb129) ?_
      refine el_pv (v := .pointer (some ⟨b118, 0 + 0, none⟩)) (pv_fieldAddr rfl) (by decide) ?_
      refine el_on rfl (bnot_t hb129) ?_
      refine el_pv (v := v115) (pv_loadc rfl ((hS.boxAt 0 rfl) 0 _ rfl)) (by decide) ?_
      refine el_on rfl (bnot_t hb129) ?_
      replace hF := ob hF
      obtain ⟨r130, hr130, hF⟩ := hF
      refine el_call goes57 (impl_IsStrictlyAscending_ok (hS.up hr113) hr130) (congrArg List.toArray (mapc rfl rfl)) (by decide) ?_
      rintro _ w131 ⟨rfl, hx132⟩
      refine ⟨_, rfl, ?_⟩
      replace hS := hS.ext hx132
      refine el_on rfl (bnot_t hb129) ?_
      refine el_pv (v := .bool (!r130)) (pv_not rfl) (by decide) ?_
      refine el_pv (v := .bool (!r130)) (pv_pick_f rfl (bnot_t hb129) rfl) (by decide) ?_
      refine el_nil ?_
      refine hQ123 _ _ _ ?_
      refine thn_n ?_
      replace hF := oif hF
      rcases hF with ⟨hb133, hF⟩ | ⟨hb133, hF⟩
      · refine cw_cond_f rfl (bnot_t hb133) ?_
        refine cw_skip ?_
        refine hQ122 _ _ _ ?_
        refine thn_n ?_
        refine cw_seq ?_
        refine cw_gen ?_
        intro Q134 hQ134
        refine cw_seq ?_
        refine cw_gen ?_
        intro Q135 hQ135
        refine cw_reg ?_
        refine el_pv (v := .pointer (some ⟨b118, 0 + 0, none⟩)) (pv_fieldAddr rfl) (by decide) ?_
        refine el_pv (v := v115) (pv_loadc rfl ((hS.boxAt 0 rfl) 0 _ rfl)) (by decide) ?_
        refine el_pv (v := .int .i64 (x107.1.length : Int)) (pv_len rfl hr113) (by decide) ?_
        refine el_pv (v := .bool ((x107.1.length : Int) == 0)) (pv_eql rfl rfl) (by decide) ?_
        refine el_nil ?_
        refine hQ135 _ _ _ ?_
        refine thn_n ?_
        replace hF := oif hF
        rcases hF with ⟨hb136, hF⟩ | ⟨hb136, hF⟩
        · refine cw_cond_t rfl hb136 ?_
          refine cw_seq ?_
          refine cw_gen ?_
          intro Q137 hQ137
          refine cw_regq (by kernel_rfl) (by kernel_rfl) ?_
          refine ql_pv (v := .pointer (some ⟨b103, 0 + 0, none⟩)) (pv_fieldAddr rfl) (by decide) ?_
          refine ql_pv (v := u0) (pv_loadc rfl ((hS.boxAt 1 rfl) 0 _ rfl)) (by decide) ?_
          refine ql_pv (v := .int .i64 (a0.length : Int)) (pv_len rfl ha0) (by decide) ?_
          refine ql_pv (v := .int .i64 a3) (pv_move rfl) (by decide) ?_
          refine ql_pv (v := .pointer (some ⟨b103, 0 + 1, none⟩)) (pv_fieldAddr rfl) (by decide) ?_
          refine ql_pv (v := u1) (pv_loadc rfl ((hS.boxAt 1 rfl) 1 _ rfl)) (by decide) ?_
          refine ql_pv (v := .int .i64 (a1.length : Int)) (pv_len rfl ha1) (by decide) ?_
          replace hF := ob hF
          obtain ⟨x138, hx138, hF⟩ := hF
          refine ql_pv (v := .int .i64 x138) (pv_sub rfl rfl hx138) (by decide) ?_
          refine ql_pv (v := .bool (a3 == x138)) (pv_eql rfl rfl) (by decide) ?_
          refine ql_pv (v := .int .i64 (a0.length : Int)) (pv_assign rfl) (by decide) ?_
          refine ql_pv (v := .bool (a3 == x138)) (pv_assign rfl) (by decide) ?_
          refine ql_nil ?_
          intro w139 hx140
          replace hS := hS.ext hx140
          refine hQ137 _ _ _ ?_
          refine thn_n ?_
          refine cw_ret ?_
          refine hQ134 _ _ _ ?_
          refine thn_r ?_
          refine fin2 rfl rfl rfl ?_
          have hr := Option.some.inj hF
          exact ⟨congrArg (fun (r : Int × Bool) => Ending.returned (.tuple #[.int .i64 r.1, .bool r.2])) hr, hS.below⟩
        · refine cw_cond_f rfl hb136 ?_
          refine cw_skip ?_
          refine hQ134 _ _ _ ?_
          refine thn_n ?_
          refine cw_seq ?_
          refine cw_gen ?_
          intro Q141 hQ141
          refine cw_seq ?_
          refine cw_gen ?_
          intro Q142 hQ142
          refine cw_reg ?_
          refine el_pv (v := .pointer (some ⟨b118, 0 + 1, none⟩)) (pv_fieldAddr rfl) (by decide) ?_
          refine el_pv (v := v116) (pv_loadc rfl ((hS.boxAt 0 rfl) 1 _ rfl)) (by decide) ?_
          refine el_pv (v := .int .i64 (x107.2.length : Int)) (pv_len rfl hr114) (by decide) ?_
          refine el_pv (v := .int .i64 0) (pv_move rfl) (by decide) ?_
          refine el_nil ?_
          refine hQ142 _ _ _ ?_
          refine thn_n ?_
          refine cw_block ?_
          refine cw_gen ?_
          intro Q143 hQ143
          obtain ⟨s144, hL, hK145⟩ := ob hF
          refine cw_loopS (fun k e w => ∃ (x146 : Int), e 1 = u2 ∧ e 2 = .int .i64 a3 ∧ e 3 = .pointer (some ⟨b103, 0, none⟩) ∧ e 8 = .pointer (some ⟨b118, 0, none⟩) ∧ e 51 = v116 ∧ e 52 = .int .i64 (x107.2.length : Int) ∧ e 53 = .int .i64 x146 ∧ Sat w0 w [Box b118 57 [v115, v116], Box b103 30 [u0, u1]] ∧ impl_nodeOk_L1 N k a2 a3 a0 a1 x107.1 x107.2 x107.2 (x107.2.length : Int) x146 = some s144) N ?_ ?_ ?_
          · exact ⟨0, rfl, rfl, rfl, rfl, rfl, rfl, rfl, hS, hL⟩
          · rintro e w ⟨_, _, _, _, _, _, _, _, _, hz⟩; exact nomatch (show none = some _ from hz)
          · rintro k e155 w154 ⟨x146, he147, he148, he149, he150, he151, he152, he153, hS, hF⟩
            refine cw_gen ?_
            intro Q156 hQ156
            refine cw_seq ?_
            refine cw_gen ?_
            intro Q157 hQ157
            refine cw_reg ?_
            refine el_pv (v := .bool (decide (x146 < (x107.2.length : Int)))) (pv_lss he153 he152) (by decide) ?_
            refine el_nil ?_
            refine hQ157 _ _ _ ?_
            refine thn_n ?_
            refine cw_seq ?_
            refine cw_gen ?_
            intro Q158 hQ158
            replace hF := oif hF
            rcases hF with ⟨hb159, hF⟩ | ⟨hb159, hF⟩
            · refine cw_cond_t rfl hb159 ?_
              refine cw_skip ?_
              refine hQ158 _ _ _ ?_
              refine thn_n ?_
              refine cw_seq ?_
              refine cw_gen ?_
              intro Q160 hQ160
              refine cw_block ?_
              refine cw_gen ?_
              intro Q161 hQ161
              refine cw_seq ?_
              refine cw_gen ?_
              intro Q162 hQ162
              refine cw_reg ?_
              replace hF := ob hF
              obtain ⟨x163, hx163, hF⟩ := hF
              refine el_index (wA := w0) he151 hr114 rfl (by decide) he153 hx163 (by decide) ?_
              intro b164 of165 c166 hr167 hm168
              obtain rfl := hr167
              refine el_pv (v := .int .i64 x163) (pv_loadc rfl ((cells_up hS.below hm168) 0 _ rfl)) (by decide) ?_
              refine el_pv (v := .int .i64 x163) (pv_assign rfl) (by decide) ?_
              refine el_nil ?_
              refine hQ162 _ _ _ ?_
              refine thn_n ?_
              refine cw_seq ?_
              refine cw_gen ?_
              intro Q169 hQ169
              refine cw_regq (by kernel_rfl) (by kernel_rfl) ?_
              refine ql_pv (v := .int .i64 x163) (pv_move rfl) (by decide) ?_
              refine ql_pv (v := .int .i64 a3) (pv_move he148) (by decide) ?_
              replace hF := ob hF
              obtain ⟨x170, hx170, hF⟩ := hF
              refine ql_pv (v := .int .i64 x170) (pv_sub rfl rfl hx170) (by decide) ?_
              replace hF := ob hF
              obtain ⟨r171, hr171, hF⟩ := hF
              refine ql_call (.bool r171) goes44 (fun w' hw' => impl_within_ok hr171) (congrArg List.toArray (mapc rfl (mapc rfl (mapc rfl rfl)))) (by decide) ?_
              refine ql_pv (v := .bool (!r171)) (pv_not rfl) (by decide) ?_
              refine ql_pv (v := .bool (!r171)) (pv_move rfl) (by decide) ?_
              replace hF := oif hF
              rcases hF with ⟨hb172, hF⟩ | ⟨hb172, hF⟩
              · refine ql_on rfl (bnot_t hb172) ?_
                refine ql_pv (v := u2) (pv_move he147) (by decide) ?_
                refine ql_on rfl (bnot_t hb172) ?_
                refine ql_pv (v := .int .i64 x163) (pv_move rfl) (by decide) ?_
                refine ql_on rfl (bnot_t hb172) ?_
                replace hF := ob hF
                obtain ⟨x173, hx173, hF⟩ := hF
                refine ql_index (wA := w0) rfl ha2 rfl (by decide) rfl hx173 (by decide) ?_
                intro b174 of175 c176 hr177 hm178
                obtain rfl := hr177
                refine ql_on rfl (bnot_t hb172) ?_
                refine ql_pv (v := .int .i64 x173) (pv_loadc rfl ((cells_up hS.below hm178) 0 _ rfl)) (by decide) ?_
                refine ql_on rfl (bnot_t hb172) ?_
                refine ql_pv (v := u2) (pv_move he147) (by decide) ?_
                refine ql_on rfl (bnot_t hb172) ?_
                refine ql_pv (v := .pointer (some ⟨b118, 0 + 1, none⟩)) (pv_fieldAddr he150) (by decide) ?_
                refine ql_on rfl (bnot_t hb172) ?_
                refine ql_pv (v := v116) (pv_loadc rfl ((hS.boxAt 0 rfl) 1 _ rfl)) (by decide) ?_
                refine ql_on rfl (bnot_t hb172) ?_
                replace hF := ob hF
                obtain ⟨x179, hx179, hF⟩ := hF
                refine ql_index (wA := w0) rfl hr114 rfl (by decide) rfl hx179 (by decide) ?_
                intro b180 of181 c182 hr183 hm184
                obtain rfl := hr183
                refine ql_on rfl (bnot_t hb172) ?_
                refine ql_pv (v := .int .i64 x179) (pv_loadc rfl ((cells_up hS.below hm184) 0 _ rfl)) (by decide) ?_
                refine ql_on rfl (bnot_t hb172) ?_
                replace hF := ob hF
                obtain ⟨x185, hx185, hF⟩ := hF
                refine ql_index (wA := w0) rfl ha2 rfl (by decide) rfl hx185 (by decide) ?_
                intro b186 of187 c188 hr189 hm190
                obtain rfl := hr189
                refine ql_on rfl (bnot_t hb172) ?_
                refine ql_pv (v := .int .i64 x185) (pv_loadc rfl ((cells_up hS.below hm190) 0 _ rfl)) (by decide) ?_
                refine ql_on rfl (bnot_t hb172) ?_
                refine ql_pv (v := .bool (x173 != x185)) (pv_neq rfl rfl) (by decide) ?_
                refine ql_pv (v := .bool (x173 != x185)) (pv_pick_f rfl (bnot_t hb172) rfl) (by decide) ?_
                refine ql_nil ?_
                intro w191 hx192
                replace hS := hS.ext hx192
                refine hQ169 _ _ _ ?_
                refine thn_n ?_
                replace hF := oif hF
                rcases hF with ⟨hb193, hF⟩ | ⟨hb193, hF⟩
                · refine cw_cond_t rfl hb193 ?_
                  refine cw_seq ?_
                  refine cw_gen ?_
                  intro Q194 hQ194
                  refine cw_reg ?_
                  refine el_pv (v := .int .i64 0) (pv_assign rfl) (by decide) ?_
                  refine el_pv (v := .bool false) (pv_assign rfl) (by decide) ?_
                  refine el_nil ?_
                  refine hQ194 _ _ _ ?_
                  refine thn_n ?_
                  refine cw_ret ?_
                  refine hQ161 _ _ _ ?_
                  refine inb_r ?_
                  refine hQ160 _ _ _ ?_
                  refine thn_r ?_
                  refine hQ156 _ _ _ ?_
                  refine thn_r ?_
                  refine hQ143 _ _ _ ?_
                  refine inb_r ?_
                  refine hQ141 _ _ _ ?_
                  refine thn_r ?_
                  replace hF := exL hF hK145
                  refine fin2 rfl rfl rfl ?_
                  have hr := Option.some.inj hF
                  exact ⟨congrArg (fun (r : Int × Bool) => Ending.returned (.tuple #[.int .i64 r.1, .bool r.2])) hr, hS.below⟩
                · refine cw_cond_f rfl hb193 ?_
                  refine cw_skip ?_
                  refine hQ161 _ _ _ ?_
                  refine inb_n ?_
                  refine hQ160 _ _ _ ?_
                  refine thn_n ?_
                  refine cw_reg ?_
                  replace hF := ob hF
                  obtain ⟨x195, hx195, hF⟩ := hF
                  refine el_pv (v := .int .i64 x195) (pv_add he153 rfl hx195) (by decide) ?_
                  refine el_pv (v := .int .i64 x195) (pv_move rfl) (by decide) ?_
                  refine el_nil ?_
                  refine hQ156 _ _ _ ?_
                  refine thn_n ?_
                  replace hS : Sat w0 w191 [Box b103 30 [u0, u1], Box b118 57 [v115, v116]] := hS.top 1 rfl
                  replace hS : Sat w0 w191 [Box b118 57 [v115, v116], Box b103 30 [u0, u1]] := hS.top 1 rfl
                  replace hS := hS.keep 2
                  exact ⟨x195, he147, he148, he149, he150, he151, he152, rfl, hS, hF⟩
              · refine ql_off rfl (bnot_f hb172) rfl (by decide) ?_
                refine ql_off rfl (bnot_f hb172) rfl (by decide) ?_
                refine ql_off rfl (bnot_f hb172) rfl (by decide) ?_
                refine ql_off rfl (bnot_f hb172) rfl (by decide) ?_
                refine ql_off rfl (bnot_f hb172) rfl (by decide) ?_
                refine ql_off rfl (bnot_f hb172) rfl (by decide) ?_
                refine ql_off rfl (bnot_f hb172) rfl (by decide) ?_
                refine ql_off rfl (bnot_f hb172) rfl (by decide) ?_
                refine ql_off rfl (bnot_f hb172) rfl (by decide) ?_
                refine ql_off rfl (bnot_f hb172) rfl (by decide) ?_
                refine ql_off rfl (bnot_f hb172) rfl (by decide) ?_
                refine ql_off rfl (bnot_f hb172) rfl (by decide) ?_
                refine ql_pv (v := .bool true) (pv_pick_t rfl (bnot_f hb172) rfl) (by decide) ?_
                refine ql_nil ?_
                intro w196 hx197
                replace hS := hS.ext hx197
                refine hQ169 _ _ _ ?_
                refine thn_n ?_
                refine cw_cond_t rfl rfl ?_
                refine cw_seq ?_
                refine cw_gen ?_
                intro Q198 hQ198
                refine cw_reg ?_
                refine el_pv (v := .int .i64 0) (pv_assign rfl) (by decide) ?_
                refine el_pv (v := .bool false) (pv_assign rfl) (by decide) ?_
                refine el_nil ?_
                refine hQ198 _ _ _ ?_
                refine thn_n ?_
                refine cw_ret ?_
                refine hQ161 _ _ _ ?_
                refine inb_r ?_
                refine hQ160 _ _ _ ?_
                refine thn_r ?_
                refine hQ156 _ _ _ ?_
                refine thn_r ?_
                refine hQ143 _ _ _ ?_
                refine inb_r ?_
                refine hQ141 _ _ _ ?_
                refine thn_r ?_
                replace hF := exL hF hK145
                refine fin2 rfl rfl rfl ?_
                have hr := Option.some.inj hF
                exact ⟨congrArg (fun (r : Int × Bool) => Ending.returned (.tuple #[.int .i64 r.1, .bool r.2])) hr, hS.below⟩
            · refine cw_cond_f rfl hb159 ?_
              refine cw_exit ?_
              refine hQ158 _ _ _ ?_
              refine thn_x ?_
              refine hQ156 _ _ _ ?_
              refine thn_x ?_
              replace hF := exA hF hK145
              refine hQ143 _ _ _ ?_
              refine inb_s ?_
              refine hQ141 _ _ _ ?_
              refine thn_n ?_
              refine cw_seq ?_
              refine cw_gen ?_
              intro Q199 hQ199
              refine cw_seq ?_
              refine cw_gen ?_
              intro Q200 hQ200
              refine cw_reg ?_
              refine el_pv (v := .pointer (some ⟨b103, 0 + 1, none⟩)) (pv_fieldAddr he149) (by decide) ?_
              refine el_pv (v := u1) (pv_loadc rfl ((hS.boxAt 1 rfl) 1 _ rfl)) (by decide) ?_
              refine el_pv (v := .int .i64 a3) (pv_move he148) (by decide) ?_
              replace hF := ob hF
              obtain ⟨x201, hx201, hF⟩ := hF
              refine el_slice (wA := w0) rfl rfl ha1 (.inl (congrArg some rfl)) (.inl (congrArg some rfl)) hx201 (by decide) ?_
              intro v202 hr203
              refine el_pv (v := .int .i64 (x201.length : Int)) (pv_len rfl hr203) (by decide) ?_
              refine el_pv (v := .int .i64 0) (pv_move rfl) (by decide) ?_
              refine el_nil ?_
              refine hQ200 _ _ _ ?_
              refine thn_n ?_
              refine cw_block ?_
              refine cw_gen ?_
              intro Q204 hQ204
              obtain ⟨s205, hL, hK206⟩ := ob hF
              replace hS : Sat w0 w154 [Box b118 57 [v115, v116]] := hS.rem 1 rfl
              refine cw_loopS (fun k e w => ∃ (x207 : Int), e 1 = u2 ∧ e 8 = .pointer (some ⟨b118, 0, none⟩) ∧ e 80 = v202 ∧ e 81 = .int .i64 (x201.length : Int) ∧ e 82 = .int .i64 x207 ∧ Sat w0 w [Box b118 57 [v115, v116]] ∧ impl_nodeOk_L2 N k a2 x107.1 x107.2 x201 (x201.length : Int) x207 = some s205) N ?_ ?_ ?_
              · exact ⟨0, he147, he150, rfl, rfl, rfl, hS, hL⟩
              · rintro e w ⟨_, _, _, _, _, _, _, hz⟩; exact nomatch (show none = some _ from hz)
              · rintro k e214 w213 ⟨x207, he208, he209, he210, he211, he212, hS, hF⟩
                refine cw_gen ?_
                intro Q215 hQ215
                refine cw_seq ?_
                refine cw_gen ?_
                intro Q216 hQ216
                refine cw_reg ?_
                refine el_pv (v := .bool (decide (x207 < (x201.length : Int)))) (pv_lss he212 he211) (by decide) ?_
                refine el_nil ?_
                refine hQ216 _ _ _ ?_
                refine thn_n ?_
                refine cw_seq ?_
                refine cw_gen ?_
                intro Q217 hQ217
                replace hF := oif hF
                rcases hF with ⟨hb218, hF⟩ | ⟨hb218, hF⟩
                · refine cw_cond_t rfl hb218 ?_
                  refine cw_skip ?_
                  refine hQ217 _ _ _ ?_
                  refine thn_n ?_
                  refine cw_seq ?_
                  refine cw_gen ?_
                  intro Q219 hQ219
                  refine cw_block ?_
                  refine cw_gen ?_
                  intro Q220 hQ220
                  refine cw_seq ?_
                  refine cw_gen ?_
                  intro Q221 hQ221
                  refine cw_reg ?_
                  replace hF := ob hF
                  obtain ⟨x222, hx222, hF⟩ := hF
                  refine el_index (wA := w0) he210 hr203 rfl (by decide) he212 hx222 (by decide) ?_
                  intro b223 of224 c225 hr226 hm227
                  obtain ⟨_, _, rfl, hr228, hr229⟩ := hr226
                  obtain ⟨v230, rfl⟩ := slice_one hr228
                  obtain ⟨v231, rfl⟩ := slice_one hr229
                  refine el_pv (v := .agg #[v230, v231]) (pv_loada (cs := [v230, v231]) rfl rfl (cells_up hS.below hm227)) (by decide) ?_
                  refine el_alloc hS (by decide) ?_
                  intro w232 b233 hS hx234
                  refine el_storev (hS.top 0 rfl) rfl [v230, v231] rfl rfl (of_decide_eq_true rfl) (all_cons (oc hr228) (all_cons (oc hr229) rfl)) ?_
                  intro w236 hS
                  replace hS : Sat w0 w236 [Box b233 57 [v230, v231], Box b118 57 [v115, v116]] := hS
                  refine el_nil ?_
                  refine hQ221 _ _ _ ?_
                  refine thn_n ?_
                  refine cw_seq ?_
                  refine cw_gen ?_
                  intro Q237 hQ237
                  refine cw_reg ?_
                  refine el_pv (v := .agg #[v230, v231]) (pv_loada (cs := [v230, v231]) rfl rfl (boxc0 (hS.boxAt 0 rfl))) (by decide) ?_
                  refine el_pv (v := .agg #[v115, v116]) (pv_loada (cs := [v115, v116]) he209 rfl (boxc0 (hS.boxAt 1 rfl))) (by decide) ?_
                  replace hF := ob hF
                  obtain ⟨r238, hr238, hF⟩ := hF
                  refine el_call goes58 (impl_sameNode_ok (hS.up hr228) (hS.up hr229) (hS.up hr113) (hS.up hr114) hr238) (congrArg List.toArray (mapc rfl (mapc rfl rfl))) (by decide) ?_
                  rintro _ w239 ⟨rfl, hx240⟩
                  refine ⟨_, rfl, ?_⟩
                  replace hS := hS.ext hx240
                  refine el_nil ?_
                  refine hQ237 _ _ _ ?_
                  refine thn_n ?_
                  replace hF := oif hF
                  rcases hF with ⟨hb241, hF⟩ | ⟨hb241, hF⟩
                  · refine cw_cond_t rfl hb241 ?_
                    refine cw_seq ?_
                    refine cw_gen ?_
                    intro Q242 hQ242
                    refine cw_reg ?_
                    refine el_pv (v := .int .i64 0) (pv_assign rfl) (by decide) ?_
                    refine el_pv (v := .bool false) (pv_assign rfl) (by decide) ?_
                    refine el_nil ?_
                    refine hQ242 _ _ _ ?_
                    refine thn_n ?_
                    refine cw_ret ?_
                    refine hQ220 _ _ _ ?_
                    refine inb_r ?_
                    refine hQ219 _ _ _ ?_
                    refine thn_r ?_
                    refine hQ215 _ _ _ ?_
                    refine thn_r ?_
                    refine hQ204 _ _ _ ?_
                    refine inb_r ?_
                    refine hQ199 _ _ _ ?_
                    refine thn_r ?_
                    replace hF := exL hF hK206
                    refine fin2 rfl rfl rfl ?_
                    have hr := Option.some.inj hF
                    exact ⟨congrArg (fun (r : Int × Bool) => Ending.returned (.tuple #[.int .i64 r.1, .bool r.2])) hr, hS.below⟩
                  · refine cw_cond_f rfl hb241 ?_
                    refine cw_skip ?_
                    refine hQ220 _ _ _ ?_
                    refine inb_n ?_
                    refine hQ219 _ _ _ ?_
                    refine thn_n ?_
                    refine cw_reg ?_
                    replace hF := ob hF
                    obtain ⟨x243, hx243, hF⟩ := hF
                    refine el_pv (v := .int .i64 x243) (pv_add he212 rfl hx243) (by decide) ?_
                    refine el_pv (v := .int .i64 x243) (pv_move rfl) (by decide) ?_
                    refine el_nil ?_
                    refine hQ215 _ _ _ ?_
                    refine thn_n ?_
                    replace hS : Sat w0 w239 [Box b118 57 [v115, v116], Box b233 57 [v230, v231]] := hS.top 1 rfl
                    replace hS := hS.keep 1
                    exact ⟨x243, he208, he209, he210, he211, rfl, hS, hF⟩
                · refine cw_cond_f rfl hb218 ?_
                  refine cw_exit ?_
                  refine hQ217 _ _ _ ?_
                  refine thn_x ?_
                  refine hQ215 _ _ _ ?_
                  refine thn_x ?_
                  replace hF := exA hF hK206
                  refine hQ204 _ _ _ ?_
                  refine inb_s ?_
                  refine hQ199 _ _ _ ?_
                  refine thn_n ?_
                  refine cw_seq ?_
                  refine cw_gen ?_
                  intro Q244 hQ244
                  refine cw_reg ?_
                  refine el_pv (v := u2) (pv_move he208) (by decide) ?_
                  refine el_pv (v := .pointer (some ⟨b118, 0 + 1, none⟩)) (pv_fieldAddr he209) (by decide) ?_
                  refine el_pv (v := v116) (pv_loadc rfl ((hS.boxAt 0 rfl) 1 _ rfl)) (by decide) ?_
                  replace hF := ob hF
                  obtain ⟨x245, hx245, hF⟩ := hF
                  refine el_index (wA := w0) rfl hr114 rfl (by decide) rfl hx245 (by decide) ?_
                  intro b246 of247 c248 hr249 hm250
                  obtain rfl := hr249
                  refine el_pv (v := .int .i64 x245) (pv_loadc rfl ((cells_up hS.below hm250) 0 _ rfl)) (by decide) ?_
                  replace hF := ob hF
                  obtain ⟨x251, hx251, hF⟩ := hF
                  refine el_index (wA := w0) rfl ha2 rfl (by decide) rfl hx251 (by decide) ?_
                  intro b252 of253 c254 hr255 hm256
                  obtain rfl := hr255
                  refine el_pv (v := .int .i64 x251) (pv_loadc rfl ((cells_up hS.below hm256) 0 _ rfl)) (by decide) ?_
                  replace hF := ob hF
                  obtain ⟨x257, hx257, hF⟩ := hF
                  refine el_pv (v := .int .i64 x257) (pv_add rfl rfl hx257) (by decide) ?_
                  refine el_pv (v := .int .i64 x257) (pv_assign rfl) (by decide) ?_
                  refine el_pv (v := .bool true) (pv_assign rfl) (by decide) ?_
                  refine el_nil ?_
                  refine hQ244 _ _ _ ?_
                  refine thn_n ?_
                  refine cw_ret ?_
                  refine fin2 rfl rfl rfl ?_
                  have hr := Option.some.inj hF
                  exact ⟨congrArg (fun (r : Int × Bool) => Ending.returned (.tuple #[.int .i64 r.1, .bool r.2])) hr, hS.below⟩
      · refine cw_cond_t rfl (bnot_f hb133) ?_
        refine cw_seq ?_
        refine cw_gen ?_
        intro Q258 hQ258
        refine cw_reg ?_
        refine el_pv (v := .int .i64 0) (pv_assign rfl) (by decide) ?_
        refine el_pv (v := .bool false) (pv_assign rfl) (by decide) ?_
        refine el_nil ?_
        refine hQ258 _ _ _ ?_
        refine thn_n ?_
        refine cw_ret ?_
        refine hQ122 _ _ _ ?_
        refine thn_r ?_
        refine fin2 rfl rfl rfl ?_
        have hr := Option.some.inj hF
        exact ⟨congrArg (fun (r : Int × Bool) => Ending.returned (.tuple #[.int .i64 r.1, .bool r.2])) hr, hS.below⟩
    · refine el_off rfl (bnot_f hb129) rfl (by decide) ?_
      refine el_off rfl (bnot_f hb129) rfl (by decide) ?_
      refine el_off rfl (bnot_f hb129) rfl (by decide) ?_
      refine el_off rfl (bnot_f hb129) rfl (by decide) ?_
      refine el_pv (v := .bool true) (pv_pick_t rfl (bnot_f hb129) rfl) (by decide) ?_
      refine el_nil ?_
      refine hQ123 _ _ _ ?_
      refine thn_n ?_
      refine cw_cond_t rfl rfl ?_
      refine cw_seq ?_
      refine cw_gen ?_
      intro Q259 hQ259
      refine cw_reg ?_
      refine el_pv (v := .int .i64 0) (pv_assign rfl) (by decide) ?_
      refine el_pv (v := .bool false) (pv_assign rfl) (by decide) ?_
      refine el_nil ?_
      refine hQ259 _ _ _ ?_
      refine thn_n ?_
      refine cw_ret ?_
      refine hQ122 _ _ _ ?_
      refine thn_r ?_
      refine fin2 rfl rfl rfl ?_
      have hr := Option.some.inj hF
      exact ⟨congrArg (fun (r : Int × Bool) => Ending.returned (.tuple #[.int .i64 r.1, .bool r.2])) hr, hS.below⟩
set_option maxHeartbeats 4000000 in
theorem impl_IsValidFactorization_ok {w0 : World} {u0 : Value} {a0 : List Int} {u1 : Value} {a1 : List (List Int × List Int)} (ha0 : (sliceR intR 3).rd w0 [u0] a0) (ha1 : (sliceR (pairR (sliceR intR 3) (sliceR intR 3)) 57).rd w0 [u1] a1) {N : Nat} {r : Bool} (hF : impl_IsValidFactorization N a0 a1 = some r) :
    Calls Try.prog 37 #[.agg #[u0, u1]] w0 fun e w' => e = .returned (.bool r) ∧ Ext w0 w' := by
  unfold impl_IsValidFactorization at hF
  refine calls_E Try.func37 rfl rfl (of_decide_eq_true rfl) ?_
  have hS := Sat.start w0
  refine cw_seq ?_
  refine cw_gen ?_
  intro Q101 hQ101
  refine cw_reg ?_
  refine el_box [u0, u1] rfl hS (by decide) ?_
  intro w102 b103 hS hx104
  refine el_pv (v := .bool false) (pv_assign rfl) (by decide) ?_
  refine el_nil ?_
  refine hQ101 _ _ _ ?_
  refine thn_n ?_
  refine cw_seq ?_
  refine cw_gen ?_
  intro Q106 hQ106
  refine cw_reg ?_
  refine el_pv (v := .agg #[u0, u1]) (pv_loada (cs := [u0, u1]) rfl rfl (boxc0 (hS.boxAt 0 rfl))) (by decide) ?_
  refine el_alloc hS (by decide) ?_
  intro w107 b108 hS hx109
  refine el_storev (hS.top 0 rfl) rfl [u0, u1] rfl rfl (of_decide_eq_true rfl) (all_cons (oc ha0) (all_cons (oc ha1) rfl)) ?_
  intro w111 hS
  replace hS : Sat w0 w111 [Box b108 30 [u0, u1], Box b103 30 [u0, u1]] := hS
  refine el_nil ?_
  refine hQ106 _ _ _ ?_
  refine thn_n ?_
  refine cw_seq ?_
  refine cw_gen ?_
  intro Q112 hQ112
  refine cw_seq ?_
  refine cw_gen ?_
  intro Q113 hQ113
  refine cw_reg ?_
  refine el_pv (v := .pointer (some ⟨b108, 0 + 0, none⟩)) (pv_fieldAddr rfl) (by decide) ?_
  refine el_pv (v := u0) (pv_loadc rfl ((hS.boxAt 0 rfl) 0 _ rfl)) (by decide) ?_
  replace hF := ob hF
  obtain ⟨r114, hr114, hF⟩ := hF
  refine el_call goes52 (impl_IsPermutation_ok (hS.up ha0) hr114) (congrArg List.toArray (mapc rfl rfl)) (by decide) ?_
  rintro _ w115 ⟨rfl, hx116⟩
  refine ⟨_, rfl, ?_⟩
  replace hS := hS.ext hx116
  refine el_pv (v := .bool (!r114)) (pv_not rfl) (by decide) ?_
  refine el_pv (v := .bool (!r114)) (pv_move rfl) (by decide) ?_
  replace hF := oif hF
  rcases hF with ⟨hb117, hF⟩ | ⟨hb117, hF⟩
  · refine el_on rfl (bnot_t hb117) ?_
    refine el_pv (v := .pointer (some ⟨b108, 0 + 1, none⟩)) (pv_fieldAddr rfl) (by decide) ?_
    refine el_on rfl (bnot_t hb117) ?_
    refine el_pv (v := u1) (pv_loadc rfl ((hS.boxAt 0 rfl) 1 _ rfl)) (by decide) ?_
    refine el_on rfl (bnot_t hb117) ?_
    refine el_pv (v := .int .i64 (a1.length : Int)) (pv_len rfl ha1) (by decide) ?_
    refine el_on rfl (bnot_t hb117) ?_
    replace hF := ob hF
    obtain ⟨r118, hr118, hF⟩ := hF
    refine el_call goes44 (impl_within_ok hr118) (congrArg List.toArray (mapc rfl (mapc rfl (mapc rfl rfl)))) (by decide) ?_
    rintro _ w119 ⟨rfl, hx120⟩
    refine ⟨_, rfl, ?_⟩
    replace hS := hS.ext hx120
    refine el_on rfl (bnot_t hb117) ?_
    refine el_pv (v := .bool (!r118)) (pv_not rfl) (by decide) ?_
    refine el_pv (v := .bool (!r118)) (pv_pick_f rfl (bnot_t hb117) rfl) (by decide) ?_
    refine el_pv (v := .bool (!r118)) (pv_move rfl) (by decide) ?_
    replace hF := oif hF
    rcases hF with ⟨hb121, hF⟩ | ⟨hb121, hF⟩
    · refine el_on rfl (bnot_t hb121) ?_
      refine el_pv (v := .pointer (some ⟨b108, 0 + 1, none⟩)) (pv_fieldAddr rfl) (by decide) ?_
      refine el_on rfl (bnot_t hb121) ?_
      refine el_pv (v := u1) (pv_loadc rfl ((hS.boxAt 0 rfl) 1 _ rfl)) (by decide) ?_
      refine el_on rfl (bnot_t hb121) ?_
      replace hF := ob hF
      obtain ⟨x122, hx122, hF⟩ := hF
      refine el_index (wA := w0) rfl ha1 rfl (by decide) rfl hx122 (by decide) ?_
      intro b123 of124 c125 hr126 hm127
      obtain ⟨_, _, rfl, hr128, hr129⟩ := hr126
      obtain ⟨v130, rfl⟩ := slice_one hr128
      obtain ⟨v131, rfl⟩ := slice_one hr129
      refine el_on rfl (bnot_t hb121) ?_
      refine el_pv (v := .pointer (some ⟨b123, of124 + 0, none⟩)) (pv_fieldAddr rfl) (by decide) ?_
      refine el_on rfl (bnot_t hb121) ?_
      refine el_pv (v := v130) (pv_loadc rfl ((cells_up hS.below hm127) 0 _ rfl)) (by decide) ?_
      refine el_on rfl (bnot_t hb121) ?_
      refine el_pv (v := .int .i64 (x122.1.length : Int)) (pv_len rfl hr128) (by decide) ?_
      refine el_on rfl (bnot_t hb121) ?_
      refine el_pv (v := .bool (decide (0 < (x122.1.length : Int)))) (pv_gtr rfl rfl) (by decide) ?_
      refine el_pv (v := .bool (decide (0 < (x122.1.length : Int)))) (pv_pick_f rfl (bnot_t hb121) rfl) (by decide) ?_
      refine el_pv (v := .bool (decide (0 < (x122.1.length : Int)))) (pv_move rfl) (by decide) ?_
      replace hF := oif hF
      rcases hF with ⟨hb132, hF⟩ | ⟨hb132, hF⟩
      · refine el_off rfl hb132 rfl (by decide) ?_
        refine el_off rfl hb132 rfl (by decide) ?_
        refine el_off rfl hb132 rfl (by decide) ?_
        refine el_off rfl hb132 rfl (by decide) ?_
        refine el_off rfl hb132 rfl (by decide) ?_
        refine el_off rfl hb132 rfl (by decide) ?_
        refine el_off rfl hb132 rfl (by decide) ?_
        refine el_pv (v := .bool true) (pv_pick_t rfl hb132 rfl) (by decide) ?_
        refine el_nil ?_
        refine hQ113 _ _ _ ?_
        refine thn_n ?_
        refine cw_cond_t rfl rfl ?_
        refine cw_seq ?_
        refine cw_gen ?_
        intro Q133 hQ133
        refine cw_reg ?_
        refine el_pv (v := .bool false) (pv_assign rfl) (by decide) ?_
        refine el_nil ?_
        refine hQ133 _ _ _ ?_
        refine thn_n ?_
        refine cw_ret ?_
        refine hQ112 _ _ _ ?_
        refine thn_r ?_
        refine fin1 rfl rfl ?_
        have hr := Option.some.inj hF
        exact ⟨congrArg (fun (r : Bool) => Ending.returned (.bool r)) hr, hS.below⟩
      · refine el_on rfl hb132 ?_
        refine el_pv (v := .pointer (some ⟨b108, 0 + 1, none⟩)) (pv_fieldAddr rfl) (by decide) ?_
        refine el_on rfl hb132 ?_
        refine el_pv (v := u1) (pv_loadc rfl ((hS.boxAt 0 rfl) 1 _ rfl)) (by decide) ?_
        refine el_on rfl hb132 ?_
        replace hF := ob hF
        obtain ⟨x134, hx134, hF⟩ := hF
        refine el_index (wA := w0) rfl ha1 rfl (by decide) rfl hx134 (by decide) ?_
        intro b135 of136 c137 hr138 hm139
        obtain ⟨_, _, rfl, hr140, hr141⟩ := hr138
        obtain ⟨v142, rfl⟩ := slice_one hr140
        obtain ⟨v143, rfl⟩ := slice_one hr141
        refine el_on rfl hb132 ?_
        refine el_pv (v := .pointer (some ⟨b135, of136 + 1, none⟩)) (pv_fieldAddr rfl) (by decide) ?_
        refine el_on rfl hb132 ?_
        refine el_pv (v := v143) (pv_loadc rfl ((cells_up hS.below hm139) 1 _ rfl)) (by decide) ?_
        refine el_on rfl hb132 ?_
        refine el_pv (v := .int .i64 (x134.2.length : Int)) (pv_len rfl hr141) (by decide) ?_
        refine el_on rfl hb132 ?_
        refine el_pv (v := .bool (decide (0 < (x134.2.length : Int)))) (pv_gtr rfl rfl) (by decide) ?_
        refine el_pv (v := .bool (decide (0 < (x134.2.length : Int)))) (pv_pick_f rfl hb132 rfl) (by decide) ?_
        refine el_nil ?_
        refine hQ113 _ _ _ ?_
        refine thn_n ?_
        replace hF := oif hF
        rcases hF with ⟨hb144, hF⟩ | ⟨hb144, hF⟩
        · refine cw_cond_t rfl hb144 ?_
          refine cw_seq ?_
          refine cw_gen ?_
          intro Q145 hQ145
          refine cw_reg ?_
          refine el_pv (v := .bool false) (pv_assign rfl) (by decide) ?_
          refine el_nil ?_
          refine hQ145 _ _ _ ?_
          refine thn_n ?_
          refine cw_ret ?_
          refine hQ112 _ _ _ ?_
          refine thn_r ?_
          refine fin1 rfl rfl ?_
          have hr := Option.some.inj hF
          exact ⟨congrArg (fun (r : Bool) => Ending.returned (.bool r)) hr, hS.below⟩
        · refine cw_cond_f rfl hb144 ?_
          refine cw_skip ?_
          refine hQ112 _ _ _ ?_
          refine thn_n ?_
          refine cw_seq ?_
          refine cw_gen ?_
          intro Q146 hQ146
          refine cw_reg ?_
          refine el_pv (v := .pointer (some ⟨b108, 0 + 1, none⟩)) (pv_fieldAddr rfl) (by decide) ?_
          refine el_pv (v := u1) (pv_loadc rfl ((hS.boxAt 0 rfl) 1 _ rfl)) (by decide) ?_
          refine el_pv (v := .int .i64 (a1.length : Int)) (pv_len rfl ha1) (by decide) ?_
          replace hF := ob hF
          obtain ⟨x150, hx150, hF⟩ := hF
          refine el_make (R := intR) (x0 := 0) rfl (by decide) rfl (fun _ => ⟨rfl, rfl⟩) rfl rfl hx150 hS (by decide) ?_
          intro w147 g148 k149 hS hx151 hlx150
          refine el_pv (v := (.slice (some ⟨g148, 0, none⟩) k149 k149)) (pv_assign rfl) (by decide) ?_
          refine el_nil ?_
          refine hQ146 _ _ _ ?_
          refine thn_n ?_
          refine cw_seq ?_
          refine cw_gen ?_
          intro Q153 hQ153
          refine cw_seq ?_
          refine cw_gen ?_
          intro Q154 hQ154
          refine cw_reg ?_
          refine el_pv (v := .int .i64 1) (pv_assign rfl) (by decide) ?_
          refine el_nil ?_
          refine hQ154 _ _ _ ?_
          refine thn_n ?_
          refine cw_block ?_
          refine cw_gen ?_
          intro Q155 hQ155
          obtain ⟨s156, hL, hK157⟩ := ob hF
          replace hS : Sat w0 w147 [Own (sliceR intR 3) [(.slice (some ⟨g148, 0, none⟩) k149 k149)] x150, Box b108 30 [u0, u1]] := hS.rem 2 rfl
          refine cw_loopS (fun k e w => ∃ (v159 : Value), ∃ (x158 : List Int), ∃ (x160 : Int), e 3 = .pointer (some ⟨b108, 0, none⟩) ∧ e 4 = v159 ∧ e 5 = .int .i64 x160 ∧ Sat w0 w [Own (sliceR intR 3) [v159] x158, Box b108 30 [u0, u1]] ∧ impl_IsValidFactorization_L1 N k a0 a1 x158 x160 = some s156) N ?_ ?_ ?_
          · exact ⟨(.slice (some ⟨g148, 0, none⟩) k149 k149), x150, 1, rfl, rfl, rfl, hS, hL⟩
          · rintro e w ⟨_, _, _, _, _, _, _, hz⟩; exact nomatch (show none = some _ from hz)
          · rintro k e165 w164 ⟨v159, x158, x160, he161, he162, he163, hS, hF⟩
            refine cw_gen ?_
            intro Q166 hQ166
            refine cw_seq ?_
            refine cw_gen ?_
            intro Q167 hQ167
            refine cw_seq ?_
            refine cw_gen ?_
            intro Q168 hQ168
            refine cw_reg ?_
            refine el_pv (v := .int .i64 x160) (pv_move he163) (by decide) ?_
            refine el_pv (v := .pointer (some ⟨b108, 0 + 1, none⟩)) (pv_fieldAddr he161) (by decide) ?_
            refine el_pv (v := u1) (pv_loadc rfl ((hS.boxAt 1 rfl) 1 _ rfl)) (by decide) ?_
            refine el_pv (v := .int .i64 (a1.length : Int)) (pv_len rfl ha1) (by decide) ?_
            refine el_pv (v := .bool (decide (x160 < (a1.length : Int)))) (pv_lss rfl rfl) (by decide) ?_
            refine el_nil ?_
            refine hQ168 _ _ _ ?_
            refine thn_n ?_
            replace hF := oif hF
            rcases hF with ⟨hb169, hF⟩ | ⟨hb169, hF⟩
            · refine cw_cond_t rfl hb169 ?_
              refine cw_skip ?_
              refine hQ167 _ _ _ ?_
              refine thn_n ?_
              refine cw_seq ?_
              refine cw_gen ?_
              intro Q170 hQ170
              refine cw_block ?_
              refine cw_gen ?_
              intro Q171 hQ171
              refine cw_seq ?_
              refine cw_gen ?_
              intro Q172 hQ172
              refine cw_reg ?_
              refine el_pv (v := .agg #[u0, u1]) (pv_loada (cs := [u0, u1]) he161 rfl (boxc0 (hS.boxAt 1 rfl))) (by decide) ?_
              refine el_pv (v := v159) (pv_move he162) (by decide) ?_
              refine el_pv (v := .int .i64 x160) (pv_move he163) (by decide) ?_
              replace hF := ob hF
              obtain ⟨r173, hr173, hF⟩ := hF
              refine el_call goes53 (impl_nodeOk_ok (hS.up ha0) (hS.up ha1) (hS.rdAt (R := (sliceR intR 3)) 0 rfl) hr173) (congrArg List.toArray (mapc rfl (mapc rfl (mapc rfl rfl)))) (by decide) ?_
              rintro _ w174 ⟨rfl, hx175⟩
              refine ⟨_, rfl, ?_⟩
              replace hS := hS.ext hx175
              refine el_pv (v := .tuple #[.int .i64 r173.1, .bool r173.2]) (pv_move rfl) (by decide) ?_
              refine el_pv (v := .int .i64 r173.1) (pv_extract rfl rfl) (by decide) ?_
              refine el_pv (v := .bool r173.2) (pv_extract rfl rfl) (by decide) ?_
              refine el_pv (v := .int .i64 r173.1) (pv_assign rfl) (by decide) ?_
              refine el_pv (v := .bool r173.2) (pv_assign rfl) (by decide) ?_
              refine el_nil ?_
              refine hQ172 _ _ _ ?_
              refine thn_n ?_
              refine cw_seq ?_
              refine cw_gen ?_
              intro Q176 hQ176
              refine cw_seq ?_
              refine cw_gen ?_
              intro Q177 hQ177
              refine cw_reg ?_
              refine el_pv (v := .bool r173.2) (pv_move rfl) (by decide) ?_
              refine el_pv (v := .bool (!r173.2)) (pv_not rfl) (by decide) ?_
              refine el_nil ?_
              refine hQ177 _ _ _ ?_
              refine thn_n ?_
              replace hF := oif hF
              rcases hF with ⟨hb178, hF⟩ | ⟨hb178, hF⟩
              · refine cw_cond_f rfl (bnot_t hb178) ?_
                refine cw_skip ?_
                refine hQ176 _ _ _ ?_
                refine thn_n ?_
                refine cw_reg ?_
                refine el_pv (v := v159) (pv_move he162) (by decide) ?_
                refine el_pv (v := .int .i64 x160) (pv_move he163) (by decide) ?_
                refine el_pv (v := .int .i64 r173.1) (pv_move rfl) (by decide) ?_
                replace hF := ob hF
                obtain ⟨x179, hx179, hF⟩ := hF
                obtain ⟨g180, cap181, hv182⟩ := ownShape 0 hS rfl hx179
                refine el_pv (v := .pointer (some ⟨g180, x160.toNat * 1, none⟩)) (pv_indexF (v := v159) rfl hv182 rfl hx179) (by decide) ?_
                replace hF := ob hF
                obtain ⟨x184, hx184, hF⟩ := hF
                replace hS := hS.int r173.1
                refine el_storeO rfl hv182 hS hx184 rfl rfl ?_
                intro w183 hS
                refine el_nil ?_
                refine hQ171 _ _ _ ?_
                refine inb_n ?_
                refine hQ170 _ _ _ ?_
                refine thn_n ?_
                refine cw_reg ?_
                refine el_pv (v := .int .i64 x160) (pv_move he163) (by decide) ?_
                replace hF := ob hF
                obtain ⟨x185, hx185, hF⟩ := hF
                refine el_pv (v := .int .i64 x185) (pv_add rfl rfl hx185) (by decide) ?_
                refine el_pv (v := .int .i64 x185) (pv_assign rfl) (by decide) ?_
                refine el_nil ?_
                refine hQ166 _ _ _ ?_
                refine thn_n ?_
                replace hS : Sat w0 w183 [Box b108 30 [u0, u1], Own (sliceR intR 3) [v159] x184] := hS.top 1 rfl
                replace hS : Sat w0 w183 [Own (sliceR intR 3) [v159] x184, Box b108 30 [u0, u1]] := hS.top 1 rfl
                replace hS := hS.keep 2
                exact ⟨v159, x184, x185, he161, he162, rfl, hS, hF⟩
              · refine cw_cond_t rfl (bnot_f hb178) ?_
                refine cw_seq ?_
                refine cw_gen ?_
                intro Q186 hQ186
                refine cw_reg ?_
                refine el_pv (v := .bool false) (pv_assign rfl) (by decide) ?_
                refine el_nil ?_
                refine hQ186 _ _ _ ?_
                refine thn_n ?_
                refine cw_ret ?_
                refine hQ176 _ _ _ ?_
                refine thn_r ?_
                refine hQ171 _ _ _ ?_
                refine inb_r ?_
                refine hQ170 _ _ _ ?_
                refine thn_r ?_
                refine hQ166 _ _ _ ?_
                refine thn_r ?_
                refine hQ155 _ _ _ ?_
                refine inb_r ?_
                refine hQ153 _ _ _ ?_
                refine thn_r ?_
                replace hF := exL hF hK157
                refine fin1 rfl rfl ?_
                have hr := Option.some.inj hF
                exact ⟨congrArg (fun (r : Bool) => Ending.returned (.bool r)) hr, hS.below⟩
            · refine cw_cond_f rfl hb169 ?_
              refine cw_exit ?_
              refine hQ167 _ _ _ ?_
              refine thn_x ?_
              refine hQ166 _ _ _ ?_
              refine thn_x ?_
              replace hF := exA hF hK157
              refine hQ155 _ _ _ ?_
              refine inb_s ?_
              refine hQ153 _ _ _ ?_
              refine thn_n ?_
              refine cw_seq ?_
              refine cw_gen ?_
              intro Q187 hQ187
              refine cw_regq (by kernel_rfl) (by kernel_rfl) ?_
              refine ql_pv (v := v159) (pv_move he162) (by decide) ?_
              refine ql_pv (v := v159) (pv_move he162) (by decide) ?_
              refine ql_pv (v := .int .i64 (x158.length : Int)) (pv_len rfl (hS.rdAt (R := (sliceR intR 3)) 0 rfl)) (by decide) ?_
              replace hF := ob hF
              obtain ⟨x188, hx188, hF⟩ := hF
              refine ql_pv (v := .int .i64 x188) (pv_sub rfl rfl hx188) (by decide) ?_
              replace hF := ob hF
              obtain ⟨x189, hx189, hF⟩ := hF
              obtain ⟨g190, cap191, hv192⟩ := ownShape 0 hS rfl hx189
              refine ql_pv (v := .pointer (some ⟨g190, x188.toNat * 1, none⟩)) (pv_indexF (v := v159) rfl hv192 rfl hx189) (by decide) ?_
              refine ql_pv (v := .int .i64 x189) (pv_loadc rfl (hS.ownCell 0 rfl hv192 hx189)) (by decide) ?_
              refine ql_pv (v := .pointer (some ⟨b108, 0 + 0, none⟩)) (pv_fieldAddr he161) (by decide) ?_
              refine ql_pv (v := u0) (pv_loadc rfl ((hS.boxAt 1 rfl) 0 _ rfl)) (by decide) ?_
              refine ql_pv (v := .int .i64 (a0.length : Int)) (pv_len rfl ha0) (by decide) ?_
              refine ql_pv (v := .bool (x189 == (a0.length : Int))) (pv_eql rfl rfl) (by decide) ?_
              refine ql_pv (v := .bool (x189 == (a0.length : Int))) (pv_assign rfl) (by decide) ?_
              refine ql_nil ?_
              intro w193 hx194
              replace hS := hS.ext hx194
              refine hQ187 _ _ _ ?_
              refine thn_n ?_
              refine cw_ret ?_
              refine fin1 rfl rfl ?_
              have hr := Option.some.inj hF
              exact ⟨congrArg (fun (r : Bool) => Ending.returned (.bool r)) hr, hS.below⟩
    · refine el_off rfl (bnot_f hb121) rfl (by decide) ?_
      refine el_off rfl (bnot_f hb121) rfl (by decide) ?_
      refine el_off rfl (bnot_f hb121) rfl (by decide) ?_
      refine el_off rfl (bnot_f hb121) rfl (by decide) ?_
      refine el_off rfl (bnot_f hb121) rfl (by decide) ?_
      refine el_off rfl (bnot_f hb121) rfl (by decide) ?_
      refine el_off rfl (bnot_f hb121) rfl (by decide) ?_
      refine el_pv (v := .bool true) (pv_pick_t rfl (bnot_f hb121) rfl) (by decide) ?_
      refine el_pv (v := .bool true) (pv_move rfl) (by decide) ?_
      refine el_off rfl rfl rfl (by decide) ?_
      refine el_off rfl rfl rfl (by decide) ?_
      refine el_off rfl rfl rfl (by decide) ?_
      refine el_off rfl rfl rfl (by decide) ?_
      refine el_off rfl rfl rfl (by decide) ?_
      refine el_off rfl rfl rfl (by decide) ?_
      refine el_off rfl rfl rfl (by decide) ?_
      refine el_pv (v := .bool true) (pv_pick_t rfl rfl rfl) (by decide) ?_
      refine el_nil ?_
      refine hQ113 _ _ _ ?_
      refine thn_n ?_
      refine cw_cond_t rfl rfl ?_
      refine cw_seq ?_
      refine cw_gen ?_
      intro Q195 hQ195
      refine cw_reg ?_
      refine el_pv (v := .bool false) (pv_assign rfl) (by decide) ?_
      refine el_nil ?_
      refine hQ195 _ _ _ ?_
      refine thn_n ?_
      refine cw_ret ?_
      refine hQ112 _ _ _ ?_
      refine thn_r ?_
      refine fin1 rfl rfl ?_
      have hr := Option.some.inj hF
      exact ⟨congrArg (fun (r : Bool) => Ending.returned (.bool r)) hr, hS.below⟩
  · refine el_off rfl (bnot_f hb117) rfl (by decide) ?_
    refine el_off rfl (bnot_f hb117) rfl (by decide) ?_
    refine el_off rfl (bnot_f hb117) rfl (by decide) ?_
    refine el_off rfl (bnot_f hb117) rfl (by decide) ?_
    refine el_off rfl (bnot_f hb117) rfl (by decide) ?_
    refine el_pv (v := .bool true) (pv_pick_t rfl (bnot_f hb117) rfl) (by decide) ?_
    refine el_pv (v := .bool true) (pv_move rfl) (by decide) ?_
    refine el_off rfl rfl rfl (by decide) ?_
    refine el_off rfl rfl rfl (by decide) ?_
    refine el_off rfl rfl rfl (by decide) ?_
    refine el_off rfl rfl rfl (by decide) ?_
    refine el_off rfl rfl rfl (by decide) ?_
    refine el_off rfl rfl rfl (by decide) ?_
    refine el_off rfl rfl rfl (by decide) ?_
    refine el_pv (v := .bool true) (pv_pick_t rfl rfl rfl) (by decide) ?_
    refine el_pv (v := .bool true) (pv_move rfl) (by decide) ?_
    refine el_off rfl rfl rfl (by decide) ?_
    refine el_off rfl rfl rfl (by decide) ?_
    refine el_off rfl rfl rfl (by decide) ?_
    refine el_off rfl rfl rfl (by decide) ?_
    refine el_off rfl rfl rfl (by decide) ?_
    refine el_off rfl rfl rfl (by decide) ?_
    refine el_off rfl rfl rfl (by decide) ?_
    refine el_pv (v := .bool true) (pv_pick_t rfl rfl rfl) (by decide) ?_
    refine el_nil ?_
    refine hQ113 _ _ _ ?_
    refine thn_n ?_
    refine cw_cond_t rfl rfl ?_
    refine cw_seq ?_
    refine cw_gen ?_
    intro Q196 hQ196
    refine cw_reg ?_
    refine el_pv (v := .bool false) (pv_assign rfl) (by decide) ?_
    refine el_nil ?_
    refine hQ196 _ _ _ ?_
    refine thn_n ?_
    refine cw_ret ?_
    refine hQ112 _ _ _ ?_
    refine thn_r ?_
    refine fin1 rfl rfl ?_
    have hr := Option.some.inj hF
    exact ⟨congrArg (fun (r : Bool) => Ending.returned (.bool r)) hr, hS.below⟩
set_option maxHeartbeats 4000000 in
theorem impl_counts_ok {w0 : World} {u0 : Value} {a0 : List Int} {u1 : Value} {a1 : List (List Int × List Int)} (_ : (sliceR intR 3).rd w0 [u0] a0) (ha1 : (sliceR (pairR (sliceR intR 3) (sliceR intR 3)) 57).rd w0 [u1] a1) {N : Nat} {r : (List Int)} (hF : impl_counts N a0 a1 = some r) :
    Calls Try.prog 38 #[.agg #[u0, u1]] w0 fun e w' => ∃ (q0 : Value), e = .returned (q0) ∧ Sat w0 w' [Own (sliceR intR 3) [q0] r] := by
  unfold impl_counts at hF
  refine calls_E Try.func38 rfl rfl (of_decide_eq_true rfl) ?_
  have hS := Sat.start w0
  refine cw_seq ?_
  refine cw_gen ?_
  intro Q101 hQ101
  refine cw_reg ?_
  refine el_box [u0, u1] rfl hS (by decide) ?_
  intro w102 b103 hS hx104
  refine el_pv (v := (.slice none 0 0)) (pv_assign rfl) (by decide) ?_
  refine el_nil ?_
  refine hQ101 _ _ _ ?_
  refine thn_n ?_
  refine cw_seq ?_
  refine cw_gen ?_
  intro Q106 hQ106
  refine cw_reg ?_
  refine el_pv (v := .pointer (some ⟨b103, 0 + 1, none⟩)) (pv_fieldAddr rfl) (by decide) ?_
  refine el_pv (v := u1) (pv_loadc rfl ((hS.boxAt 0 rfl) 1 _ rfl)) (by decide) ?_
  refine el_pv (v := .int .i64 (a1.length : Int)) (pv_len rfl ha1) (by decide) ?_
  replace hF := ob hF
  obtain ⟨x110, hx110, hF⟩ := hF
  refine el_make (R := intR) (x0 := 0) rfl (by decide) rfl (fun _ => ⟨rfl, rfl⟩) rfl rfl hx110 hS (by decide) ?_
  intro w107 g108 k109 hS hx111 hlx110
  refine el_pv (v := (.slice (some ⟨g108, 0, none⟩) k109 k109)) (pv_assign rfl) (by decide) ?_
  refine el_nil ?_
  refine hQ106 _ _ _ ?_
  refine thn_n ?_
  refine cw_seq ?_
  refine cw_gen ?_
  intro Q113 hQ113
  refine cw_seq ?_
  refine cw_gen ?_
  intro Q114 hQ114
  refine cw_reg ?_
  refine el_pv (v := .pointer (some ⟨b103, 0 + 1, none⟩)) (pv_fieldAddr rfl) (by decide) ?_
  refine el_pv (v := u1) (pv_loadc rfl ((hS.boxAt 1 rfl) 1 _ rfl)) (by decide) ?_
  refine el_pv (v := .int .i64 (a1.length : Int)) (pv_len rfl ha1) (by decide) ?_
  refine el_pv (v := .int .i64 0) (pv_move rfl) (by decide) ?_
  refine el_nil ?_
  refine hQ114 _ _ _ ?_
  refine thn_n ?_
  refine cw_block ?_
  refine cw_gen ?_
  intro Q115 hQ115
  obtain ⟨s116, hL, hK117⟩ := ob hF
  replace hS : Sat w0 w107 [Own (sliceR intR 3) [(.slice (some ⟨g108, 0, none⟩) k109 k109)] x110] := hS.rem 1 rfl
  refine cw_loopS (fun k e w => ∃ (v119 : Value), ∃ (x118 : List Int), ∃ (x120 : Int), e 3 = v119 ∧ e 13 = u1 ∧ e 14 = .int .i64 (a1.length : Int) ∧ e 15 = .int .i64 x120 ∧ Sat w0 w [Own (sliceR intR 3) [v119] x118] ∧ impl_counts_L1 N k x118 a1 (a1.length : Int) x120 = some s116) N ?_ ?_ ?_
  · exact ⟨(.slice (some ⟨g108, 0, none⟩) k109 k109), x110, 0, rfl, rfl, rfl, rfl, hS, hL⟩
  · rintro e w ⟨_, _, _, _, _, _, _, _, hz⟩; exact nomatch (show none = some _ from hz)
  · rintro k e126 w125 ⟨v119, x118, x120, he121, he122, he123, he124, hS, hF⟩
    refine cw_gen ?_
    intro Q127 hQ127
    refine cw_seq ?_
    refine cw_gen ?_
    intro Q128 hQ128
    refine cw_reg ?_
    refine el_pv (v := .bool (decide (x120 < (a1.length : Int)))) (pv_lss he124 he123) (by decide) ?_
    refine el_nil ?_
    refine hQ128 _ _ _ ?_
    refine thn_n ?_
    refine cw_seq ?_
    refine cw_gen ?_
    intro Q129 hQ129
    replace hF := oif hF
    rcases hF with ⟨hb130, hF⟩ | ⟨hb130, hF⟩
    · refine cw_cond_t rfl hb130 ?_
      refine cw_skip ?_
      refine hQ129 _ _ _ ?_
      refine thn_n ?_
      refine cw_seq ?_
      refine cw_gen ?_
      intro Q131 hQ131
      refine cw_block ?_
      refine cw_gen ?_
      intro Q132 hQ132
      refine cw_seq ?_
      refine cw_gen ?_
      intro Q133 hQ133
      refine cw_reg ?_
      refine el_pv (v := .int .i64 x120) (pv_move he124) (by decide) ?_
      replace hF := ob hF
      obtain ⟨x134, hx134, hF⟩ := hF
      refine el_index (wA := w0) he122 ha1 rfl (by decide) he124 hx134 (by decide) ?_
      intro b135 of136 c137 hr138 hm139
      obtain ⟨_, _, rfl, hr140, hr141⟩ := hr138
      obtain ⟨v142, rfl⟩ := slice_one hr140
      obtain ⟨v143, rfl⟩ := slice_one hr141
      refine el_pv (v := .agg #[v142, v143]) (pv_loada (cs := [v142, v143]) rfl rfl (cells_up hS.below hm139)) (by decide) ?_
      refine el_alloc hS (by decide) ?_
      intro w144 b145 hS hx146
      refine el_pv (v := .int .i64 x120) (pv_assign rfl) (by decide) ?_
      refine el_storev (hS.top 0 rfl) rfl [v142, v143] rfl rfl (of_decide_eq_true rfl) (all_cons (oc hr140) (all_cons (oc hr141) rfl)) ?_
      intro w148 hS
      replace hS : Sat w0 w148 [Box b145 57 [v142, v143], Own (sliceR intR 3) [v119] x118] := hS
      refine el_nil ?_
      refine hQ133 _ _ _ ?_
      refine thn_n ?_
      refine cw_seq ?_
      refine cw_gen ?_
      intro Q149 hQ149
      refine cw_seq ?_
      refine cw_gen ?_
      intro Q150 hQ150
      refine cw_reg ?_
      refine el_pv (v := .int .i64 x120) (pv_move rfl) (by decide) ?_
      refine el_pv (v := .bool (x120 == 0)) (pv_eql rfl rfl) (by decide) ?_
      refine el_nil ?_
      refine hQ150 _ _ _ ?_
      refine thn_n ?_
      replace hF := oif hF
      rcases hF with ⟨hb151, hF⟩ | ⟨hb151, hF⟩
      · refine cw_cond_t rfl hb151 ?_
        refine cw_reg ?_
        refine el_pv (v := v119) (pv_move he121) (by decide) ?_
        replace hF := ob hF
        obtain ⟨x152, hx152, hF⟩ := hF
        obtain ⟨g153, cap154, hv155⟩ := ownShape 1 hS rfl hx152
        refine el_pv (v := .pointer (some ⟨g153, (0 : Int).toNat * 1, none⟩)) (pv_indexF (v := v119) rfl hv155 rfl hx152) (by decide) ?_
        replace hF := ob hF
        obtain ⟨x157, hx157, hF⟩ := hF
        replace hS : Sat w0 w148 [Own (sliceR intR 3) [v119] x118, Box b145 57 [v142, v143]] := hS.top 1 rfl
        replace hS := hS.int 1
        refine el_storeO rfl hv155 hS hx157 rfl rfl ?_
        intro w156 hS
        refine el_nil ?_
        refine hQ149 _ _ _ ?_
        refine thn_n ?_
        refine cw_seq ?_
        refine cw_gen ?_
        intro Q158 hQ158
        refine cw_reg ?_
        refine el_pv (v := .pointer (some ⟨b145, 0 + 1, none⟩)) (pv_fieldAddr rfl) (by decide) ?_
        refine el_pv (v := v143) (pv_loadc rfl ((hS.boxAt 1 rfl) 1 _ rfl)) (by decide) ?_
        refine el_pv (v := .int .i64 (x134.2.length : Int)) (pv_len rfl hr141) (by decide) ?_
        refine el_pv (v := .int .i64 0) (pv_move rfl) (by decide) ?_
        refine el_nil ?_
        refine hQ158 _ _ _ ?_
        refine thn_n ?_
        refine cw_block ?_
        refine cw_gen ?_
        intro Q159 hQ159
        obtain ⟨s160, hL, hK161⟩ := ob hF
        replace hS : Sat w0 w156 [Own (sliceR intR 3) [v119] x157] := hS.rem 1 rfl
        refine cw_loopS (fun k e w => ∃ (v163 : Value), ∃ (x162 : List Int), ∃ (x164 : Int), e 3 = v163 ∧ e 4 = .int .i64 x120 ∧ e 13 = u1 ∧ e 14 = .int .i64 (a1.length : Int) ∧ e 15 = .int .i64 x120 ∧ e 25 = v143 ∧ e 26 = .int .i64 (x134.2.length : Int) ∧ e 27 = .int .i64 x164 ∧ Sat w0 w [Own (sliceR intR 3) [v163] x162] ∧ impl_counts_L2 N k x162 x120 a1 (a1.length : Int) x120 x134.2 (x134.2.length : Int) x164 = some s160) N ?_ ?_ ?_
        · exact ⟨v119, x157, 0, he121, rfl, he122, he123, he124, rfl, rfl, rfl, hS, hL⟩
        · rintro e w ⟨_, _, _, _, _, _, _, _, _, _, _, _, hz⟩; exact nomatch (show none = some _ from hz)
        · rintro k e174 w173 ⟨v163, x162, x164, he165, he166, he167, he168, he169, he170, he171, he172, hS, hF⟩
          refine cw_gen ?_
          intro Q175 hQ175
          refine cw_seq ?_
          refine cw_gen ?_
          intro Q176 hQ176
          refine cw_reg ?_
          refine el_pv (v := .bool (decide (x164 < (x134.2.length : Int)))) (pv_lss he172 he171) (by decide) ?_
          refine el_nil ?_
          refine hQ176 _ _ _ ?_
          refine thn_n ?_
          refine cw_seq ?_
          refine cw_gen ?_
          intro Q177 hQ177
          replace hF := oif hF
          rcases hF with ⟨hb178, hF⟩ | ⟨hb178, hF⟩
          · refine cw_cond_t rfl hb178 ?_
            refine cw_skip ?_
            refine hQ177 _ _ _ ?_
            refine thn_n ?_
            refine cw_seq ?_
            refine cw_gen ?_
            intro Q179 hQ179
            refine cw_block ?_
            refine cw_gen ?_
            intro Q180 hQ180
            refine cw_seq ?_
            refine cw_gen ?_
            intro Q181 hQ181
            refine cw_reg ?_
            replace hF := ob hF
            obtain ⟨x182, hx182, hF⟩ := hF
            refine el_index (wA := w0) he170 hr141 rfl (by decide) he172 hx182 (by decide) ?_
            intro b183 of184 c185 hr186 hm187
            obtain rfl := hr186
            refine el_pv (v := .int .i64 x182) (pv_loadc rfl ((cells_up hS.below hm187) 0 _ rfl)) (by decide) ?_
            refine el_pv (v := .int .i64 x182) (pv_assign rfl) (by decide) ?_
            refine el_nil ?_
            refine hQ181 _ _ _ ?_
            refine thn_n ?_
            obtain ⟨C, hCd⟩ : ∃ C : World → Prop, ∀ w, C w ↔ ∃ G, Sat w0 w ([Own (sliceR intR 3) [v163] x162] ++ G) := ⟨_, fun _ => Iff.rfl⟩
            refine cw_regb [0, 1, 2, 3, 4, 5, 6, 7, 8, 9, 10, 11, 12] C (by kernel_rfl) ?_
            intro w188 hx189
            replace hS := hS.ext hx189
            have hC := (hCd _).2 ⟨_, hS⟩
            refine al_p (v := v163) (by kernel_rfl) 0 rfl rfl (by decide) hC (by kernel_rfl) (by kernel_rfl) (sv_on rfl (fun w' hw' => by obtain ⟨_, hS⟩ := (hCd _).1 hw'; exact (pv_move he165))) ?_
            refine al_p (v := .int .i64 x120) (by kernel_rfl) 1 rfl rfl (by decide) hC (by kernel_rfl) (by kernel_rfl) (sv_on rfl (fun w' hw' => by obtain ⟨_, hS⟩ := (hCd _).1 hw'; exact (pv_move he166))) ?_
            refine al_p (v := v163) (by kernel_rfl) 2 rfl rfl (by decide) hC (by kernel_rfl) (by kernel_rfl) (sv_on rfl (fun w' hw' => by obtain ⟨_, hS⟩ := (hCd _).1 hw'; exact (pv_move he165))) ?_
            refine al_p (v := .int .i64 x120) (by kernel_rfl) 3 rfl rfl (by decide) hC (by kernel_rfl) (by kernel_rfl) (sv_on rfl (fun w' hw' => by obtain ⟨_, hS⟩ := (hCd _).1 hw'; exact (pv_move he166))) ?_
            replace hF := ob hF
            obtain ⟨x190, hx190, hF⟩ := hF
            obtain ⟨g191, cap192, hv193⟩ := (by obtain ⟨_, hS⟩ := (hCd _).1 hC; exact ownShape 0 hS rfl hx190 : ∃ g cap, (v163 : Value) = .slice (some ⟨g, 0, none⟩) (x162).length cap)
            refine al_p (v := .pointer (some ⟨g191, x120.toNat * 1, none⟩)) (by kernel_rfl) 4 rfl rfl (by decide) hC (by kernel_rfl) (by kernel_rfl) (sv_on rfl (fun w' hw' => by obtain ⟨_, hS⟩ := (hCd _).1 hw'; exact (pv_indexF (v := v163) rfl hv193 rfl hx190))) ?_
            refine al_p (v := .int .i64 x190) (by kernel_rfl) 5 rfl rfl (by decide) hC (by kernel_rfl) (by kernel_rfl) (sv_on rfl (fun w' hw' => by obtain ⟨_, hS⟩ := (hCd _).1 hw'; exact (pv_loadc rfl (hS.ownCell 0 rfl hv193 hx190)))) ?_
            refine al_p (v := v163) (by kernel_rfl) 6 rfl rfl (by decide) hC (by kernel_rfl) (by kernel_rfl) (sv_on rfl (fun w' hw' => by obtain ⟨_, hS⟩ := (hCd _).1 hw'; exact (pv_move he165))) ?_
            refine al_p (v := .int .i64 x182) (by kernel_rfl) 7 rfl rfl (by decide) hC (by kernel_rfl) (by kernel_rfl) (sv_on rfl (fun w' hw' => by obtain ⟨_, hS⟩ := (hCd _).1 hw'; exact (pv_move rfl))) ?_
            replace hF := ob hF
            obtain ⟨x194, hx194, hF⟩ := hF
            obtain ⟨g195, cap196, hv197⟩ := (by obtain ⟨_, hS⟩ := (hCd _).1 hC; exact ownShape 0 hS rfl hx194 : ∃ g cap, (v163 : Value) = .slice (some ⟨g, 0, none⟩) (x162).length cap)
            refine al_p (v := .pointer (some ⟨g195, x182.toNat * 1, none⟩)) (by kernel_rfl) 8 rfl rfl (by decide) hC (by kernel_rfl) (by kernel_rfl) (sv_on rfl (fun w' hw' => by obtain ⟨_, hS⟩ := (hCd _).1 hw'; exact (pv_indexF (v := v163) rfl hv197 rfl hx194))) ?_
            refine al_p (v := .int .i64 x194) (by kernel_rfl) 9 rfl rfl (by decide) hC (by kernel_rfl) (by kernel_rfl) (sv_on rfl (fun w' hw' => by obtain ⟨_, hS⟩ := (hCd _).1 hw'; exact (pv_loadc rfl (hS.ownCell 0 rfl hv197 hx194)))) ?_
            replace hF := ob hF
            obtain ⟨x198, hx198, hF⟩ := hF
            refine al_p (v := .int .i64 x198) (by kernel_rfl) 10 rfl rfl (by decide) hC (by kernel_rfl) (by kernel_rfl) (sv_on rfl (fun w' hw' => by obtain ⟨_, hS⟩ := (hCd _).1 hw'; exact (pv_add rfl rfl hx198))) ?_
            refine al_p (v := .int .i64 (imn 1000000000 x198)) (by kernel_rfl) 11 rfl rfl (by decide) hC (by kernel_rfl) (by kernel_rfl) (sv_on rfl (fun w' hw' => by obtain ⟨_, hS⟩ := (hCd _).1 hw'; exact (pv_min rfl rfl))) ?_
            replace hF := ob hF
            obtain ⟨x199, hx199, hF⟩ := hF
            obtain ⟨g200, cap201, hv202⟩ := (by obtain ⟨_, hS⟩ := (hCd _).1 hC; exact ownShape 0 hS rfl hx199 : ∃ g cap, (v163 : Value) = .slice (some ⟨g, 0, none⟩) (x162).length cap)
            refine al_p (v := .pointer (some ⟨g200, x120.toNat * 1, none⟩)) (by kernel_rfl) 12 rfl rfl (by decide) hC (by kernel_rfl) (by kernel_rfl) (sv_on rfl (fun w' hw' => by obtain ⟨_, hS⟩ := (hCd _).1 hw'; exact (pv_indexF (v := v163) rfl hv202 rfl hx199))) ?_
            refine al_one 13 (by kernel_rfl) rfl ?_
            replace hF := ob hF
            obtain ⟨x204, hx204, hF⟩ := hF
            replace hS := hS.int (imn 1000000000 x198)
            refine el_storeO rfl hv202 hS hx204 rfl rfl ?_
            intro w203 hS
            refine el_nil ?_
            refine ⟨fun h => (nomatch (show false = true from h)), ?_⟩
            refine al_nil (by kernel_rfl) ?_
            refine hQ180 _ _ _ ?_
            refine inb_n ?_
            refine hQ179 _ _ _ ?_
            refine thn_n ?_
            refine cw_reg ?_
            replace hF := ob hF
            obtain ⟨x205, hx205, hF⟩ := hF
            refine el_pv (v := .int .i64 x205) (pv_add he172 rfl hx205) (by decide) ?_
            refine el_pv (v := .int .i64 x205) (pv_move rfl) (by decide) ?_
            refine el_nil ?_
            refine hQ175 _ _ _ ?_
            refine thn_n ?_
            replace hS := hS.keep 1
            exact ⟨v163, x204, x205, he165, he166, he167, he168, he169, he170, he171, rfl, hS, hF⟩
          · refine cw_cond_f rfl hb178 ?_
            refine cw_exit ?_
            refine hQ177 _ _ _ ?_
            refine thn_x ?_
            refine hQ175 _ _ _ ?_
            refine thn_x ?_
            replace hF := exB hF hK161
            refine hQ159 _ _ _ ?_
            refine inb_s ?_
            refine hQ132 _ _ _ ?_
            refine inb_n ?_
            refine hQ131 _ _ _ ?_
            refine thn_n ?_
            refine cw_reg ?_
            replace hF := ob hF
            obtain ⟨x206, hx206, hF⟩ := hF
            refine el_pv (v := .int .i64 x206) (pv_add he169 rfl hx206) (by decide) ?_
            refine el_pv (v := .int .i64 x206) (pv_move rfl) (by decide) ?_
            refine el_nil ?_
            refine hQ127 _ _ _ ?_
            refine thn_n ?_
            replace hS := hS.keep 1
            exact ⟨v163, x162, x206, he165, he167, he168, rfl, hS, hF⟩
      · refine cw_cond_f rfl hb151 ?_
        refine cw_skip ?_
        refine hQ149 _ _ _ ?_
        refine thn_n ?_
        refine cw_seq ?_
        refine cw_gen ?_
        intro Q207 hQ207
        refine cw_reg ?_
        refine el_pv (v := .pointer (some ⟨b145, 0 + 1, none⟩)) (pv_fieldAddr rfl) (by decide) ?_
        refine el_pv (v := v143) (pv_loadc rfl ((hS.boxAt 0 rfl) 1 _ rfl)) (by decide) ?_
        refine el_pv (v := .int .i64 (x134.2.length : Int)) (pv_len rfl hr141) (by decide) ?_
        refine el_pv (v := .int .i64 0) (pv_move rfl) (by decide) ?_
        refine el_nil ?_
        refine hQ207 _ _ _ ?_
        refine thn_n ?_
        refine cw_block ?_
        refine cw_gen ?_
        intro Q208 hQ208
        obtain ⟨s209, hL, hK210⟩ := ob hF
        replace hS : Sat w0 w148 [Own (sliceR intR 3) [v119] x118] := hS.rem 0 rfl
        refine cw_loopS (fun k e w => ∃ (v212 : Value), ∃ (x211 : List Int), ∃ (x213 : Int), e 3 = v212 ∧ e 4 = .int .i64 x120 ∧ e 13 = u1 ∧ e 14 = .int .i64 (a1.length : Int) ∧ e 15 = .int .i64 x120 ∧ e 25 = v143 ∧ e 26 = .int .i64 (x134.2.length : Int) ∧ e 27 = .int .i64 x213 ∧ Sat w0 w [Own (sliceR intR 3) [v212] x211] ∧ impl_counts_L2 N k x211 x120 a1 (a1.length : Int) x120 x134.2 (x134.2.length : Int) x213 = some s209) N ?_ ?_ ?_
        · exact ⟨v119, x118, 0, he121, rfl, he122, he123, he124, rfl, rfl, rfl, hS, hL⟩
        · rintro e w ⟨_, _, _, _, _, _, _, _, _, _, _, _, hz⟩; exact nomatch (show none = some _ from hz)
        · rintro k e223 w222 ⟨v212, x211, x213, he214, he215, he216, he217, he218, he219, he220, he221, hS, hF⟩
          refine cw_gen ?_
          intro Q224 hQ224
          refine cw_seq ?_
          refine cw_gen ?_
          intro Q225 hQ225
          refine cw_reg ?_
          refine el_pv (v := .bool (decide (x213 < (x134.2.length : Int)))) (pv_lss he221 he220) (by decide) ?_
          refine el_nil ?_
          refine hQ225 _ _ _ ?_
          refine thn_n ?_
          refine cw_seq ?_
          refine cw_gen ?_
          intro Q226 hQ226
          replace hF := oif hF
          rcases hF with ⟨hb227, hF⟩ | ⟨hb227, hF⟩
          · refine cw_cond_t rfl hb227 ?_
            refine cw_skip ?_
            refine hQ226 _ _ _ ?_
            refine thn_n ?_
            refine cw_seq ?_
            refine cw_gen ?_
            intro Q228 hQ228
            refine cw_block ?_
            refine cw_gen ?_
            intro Q229 hQ229
            refine cw_seq ?_
            refine cw_gen ?_
            intro Q230 hQ230
            refine cw_reg ?_
            replace hF := ob hF
            obtain ⟨x231, hx231, hF⟩ := hF
            refine el_index (wA := w0) he219 hr141 rfl (by decide) he221 hx231 (by decide) ?_
            intro b232 of233 c234 hr235 hm236
            obtain rfl := hr235
            refine el_pv (v := .int .i64 x231) (pv_loadc rfl ((cells_up hS.below hm236) 0 _ rfl)) (by decide) ?_
            refine el_pv (v := .int .i64 x231) (pv_assign rfl) (by decide) ?_
            refine el_nil ?_
            refine hQ230 _ _ _ ?_
            refine thn_n ?_
            obtain ⟨C, hCd⟩ : ∃ C : World → Prop, ∀ w, C w ↔ ∃ G, Sat w0 w ([Own (sliceR intR 3) [v212] x211] ++ G) := ⟨_, fun _ => Iff.rfl⟩
            refine cw_regb [0, 1, 2, 3, 4, 5, 6, 7, 8, 9, 10, 11, 12] C (by kernel_rfl) ?_
            intro w237 hx238
            replace hS := hS.ext hx238
            have hC := (hCd _).2 ⟨_, hS⟩
            refine al_p (v := v212) (by kernel_rfl) 0 rfl rfl (by decide) hC (by kernel_rfl) (by kernel_rfl) (sv_on rfl (fun w' hw' => by obtain ⟨_, hS⟩ := (hCd _).1 hw'; exact (pv_move he214))) ?_
            refine al_p (v := .int .i64 x120) (by kernel_rfl) 1 rfl rfl (by decide) hC (by kernel_rfl) (by kernel_rfl) (sv_on rfl (fun w' hw' => by obtain ⟨_, hS⟩ := (hCd _).1 hw'; exact (pv_move he215))) ?_
            refine al_p (v := v212) (by kernel_rfl) 2 rfl rfl (by decide) hC (by kernel_rfl) (by kernel_rfl) (sv_on rfl (fun w' hw' => by obtain ⟨_, hS⟩ := (hCd _).1 hw'; exact (pv_move he214))) ?_
            refine al_p (v := .int .i64 x120) (by kernel_rfl) 3 rfl rfl (by decide) hC (by kernel_rfl) (by kernel_rfl) (sv_on rfl (fun w' hw' => by obtain ⟨_, hS⟩ := (hCd _).1 hw'; exact (pv_move he215))) ?_
            replace hF := ob hF
            obtain ⟨x239, hx239, hF⟩ := hF
            obtain ⟨g240, cap241, hv242⟩ := (by obtain ⟨_, hS⟩ := (hCd _).1 hC; exact ownShape 0 hS rfl hx239 : ∃ g cap, (v212 : Value) = .slice (some ⟨g, 0, none⟩) (x211).length cap)
            refine al_p (v := .pointer (some ⟨g240, x120.toNat * 1, none⟩)) (by kernel_rfl) 4 rfl rfl (by decide) hC (by kernel_rfl) (by kernel_rfl) (sv_on rfl (fun w' hw' => by obtain ⟨_, hS⟩ := (hCd _).1 hw'; exact (pv_indexF (v := v212) rfl hv242 rfl hx239))) ?_
            refine al_p (v := .int .i64 x239) (by kernel_rfl) 5 rfl rfl (by decide) hC (by kernel_rfl) (by kernel_rfl) (sv_on rfl (fun w' hw' => by obtain ⟨_, hS⟩ := (hCd _).1 hw'; exact (pv_loadc rfl (hS.ownCell 0 rfl hv242 hx239)))) ?_
            refine al_p (v := v212) (by kernel_rfl) 6 rfl rfl (by decide) hC (by kernel_rfl) (by kernel_rfl) (sv_on rfl (fun w' hw' => by obtain ⟨_, hS⟩ := (hCd _).1 hw'; exact (pv_move he214))) ?_
            refine al_p (v := .int .i64 x231) (by kernel_rfl) 7 rfl rfl (by decide) hC (by kernel_rfl) (by kernel_rfl) (sv_on rfl (fun w' hw' => by obtain ⟨_, hS⟩ := (hCd _).1 hw'; exact (pv_move rfl))) ?_
            replace hF := ob hF
            obtain ⟨x243, hx243, hF⟩ := hF
            obtain ⟨g244, cap245, hv246⟩ := (by obtain ⟨_, hS⟩ := (hCd _).1 hC; exact ownShape 0 hS rfl hx243 : ∃ g cap, (v212 : Value) = .slice (some ⟨g, 0, none⟩) (x211).length cap)
            refine al_p (v := .pointer (some ⟨g244, x231.toNat * 1, none⟩)) (by kernel_rfl) 8 rfl rfl (by decide) hC (by kernel_rfl) (by kernel_rfl) (sv_on rfl (fun w' hw' => by obtain ⟨_, hS⟩ := (hCd _).1 hw'; exact (pv_indexF (v := v212) rfl hv246 rfl hx243))) ?_
            refine al_p (v := .int .i64 x243) (by kernel_rfl) 9 rfl rfl (by decide) hC (by kernel_rfl) (by kernel_rfl) (sv_on rfl (fun w' hw' => by obtain ⟨_, hS⟩ := (hCd _).1 hw'; exact (pv_loadc rfl (hS.ownCell 0 rfl hv246 hx243)))) ?_
            replace hF := ob hF
            obtain ⟨x247, hx247, hF⟩ := hF
            refine al_p (v := .int .i64 x247) (by kernel_rfl) 10 rfl rfl (by decide) hC (by kernel_rfl) (by kernel_rfl) (sv_on rfl (fun w' hw' => by obtain ⟨_, hS⟩ := (hCd _).1 hw'; exact (pv_add rfl rfl hx247))) ?_
            refine al_p (v := .int .i64 (imn 1000000000 x247)) (by kernel_rfl) 11 rfl rfl (by decide) hC (by kernel_rfl) (by kernel_rfl) (sv_on rfl (fun w' hw' => by obtain ⟨_, hS⟩ := (hCd _).1 hw'; exact (pv_min rfl rfl))) ?_
            replace hF := ob hF
            obtain ⟨x248, hx248, hF⟩ := hF
            obtain ⟨g249, cap250, hv251⟩ := (by obtain ⟨_, hS⟩ := (hCd _).1 hC; exact ownShape 0 hS rfl hx248 : ∃ g cap, (v212 : Value) = .slice (some ⟨g, 0, none⟩) (x211).length cap)
            refine al_p (v := .pointer (some ⟨g249, x120.toNat * 1, none⟩)) (by kernel_rfl) 12 rfl rfl (by decide) hC (by kernel_rfl) (by kernel_rfl) (sv_on rfl (fun w' hw' => by obtain ⟨_, hS⟩ := (hCd _).1 hw'; exact (pv_indexF (v := v212) rfl hv251 rfl hx248))) ?_
            refine al_one 13 (by kernel_rfl) rfl ?_
            replace hF := ob hF
            obtain ⟨x253, hx253, hF⟩ := hF
            replace hS := hS.int (imn 1000000000 x247)
            refine el_storeO rfl hv251 hS hx253 rfl rfl ?_
            intro w252 hS
            refine el_nil ?_
            refine ⟨fun h => (nomatch (show false = true from h)), ?_⟩
            refine al_nil (by kernel_rfl) ?_
            refine hQ229 _ _ _ ?_
            refine inb_n ?_
            refine hQ228 _ _ _ ?_
            refine thn_n ?_
            refine cw_reg ?_
            replace hF := ob hF
            obtain ⟨x254, hx254, hF⟩ := hF
            refine el_pv (v := .int .i64 x254) (pv_add he221 rfl hx254) (by decide) ?_
            refine el_pv (v := .int .i64 x254) (pv_move rfl) (by decide) ?_
            refine el_nil ?_
            refine hQ224 _ _ _ ?_
            refine thn_n ?_
            replace hS := hS.keep 1
            exact ⟨v212, x253, x254, he214, he215, he216, he217, he218, he219, he220, rfl, hS, hF⟩
          · refine cw_cond_f rfl hb227 ?_
            refine cw_exit ?_
            refine hQ226 _ _ _ ?_
            refine thn_x ?_
            refine hQ224 _ _ _ ?_
            refine thn_x ?_
            replace hF := exB hF hK210
            refine hQ208 _ _ _ ?_
            refine inb_s ?_
            refine hQ132 _ _ _ ?_
            refine inb_n ?_
            refine hQ131 _ _ _ ?_
            refine thn_n ?_
            refine cw_reg ?_
            replace hF := ob hF
            obtain ⟨x255, hx255, hF⟩ := hF
            refine el_pv (v := .int .i64 x255) (pv_add he218 rfl hx255) (by decide) ?_
            refine el_pv (v := .int .i64 x255) (pv_move rfl) (by decide) ?_
            refine el_nil ?_
            refine hQ127 _ _ _ ?_
            refine thn_n ?_
            replace hS := hS.keep 1
            exact ⟨v212, x211, x255, he214, he216, he217, rfl, hS, hF⟩
    · refine cw_cond_f rfl hb130 ?_
      refine cw_exit ?_
      refine hQ129 _ _ _ ?_
      refine thn_x ?_
      refine hQ127 _ _ _ ?_
      refine thn_x ?_
      replace hF := exB hF hK117
      refine hQ115 _ _ _ ?_
      refine inb_s ?_
      refine hQ113 _ _ _ ?_
      refine thn_n ?_
      refine cw_seq ?_
      refine cw_gen ?_
      intro Q256 hQ256
      refine cw_reg ?_
      refine el_pv (v := v119) (pv_move he121) (by decide) ?_
      refine el_pv (v := v119) (pv_assign rfl) (by decide) ?_
      refine el_nil ?_
      refine hQ256 _ _ _ ?_
      refine thn_n ?_
      refine cw_ret ?_
      refine fin1 rfl rfl ?_
      have hr := Option.some.inj hF
      exact ⟨v119, congrArg (fun (r : (List Int)) => Ending.returned (v119)) hr, Eq.mp (congrArg (fun (r : (List Int)) => Sat w0 w125 [Own (sliceR intR 3) [v119] r]) hr) (hS.keep 1)⟩
set_option maxHeartbeats 4000000 in
theorem impl_FactorizedRowCount_ok {w0 : World} {u0 : Value} {a0 : List Int} {u1 : Value} {a1 : List (List Int × List Int)} (ha0 : (sliceR intR 3).rd w0 [u0] a0) (ha1 : (sliceR (pairR (sliceR intR 3) (sliceR intR 3)) 57).rd w0 [u1] a1) {N : Nat} {r : Int} (hF : impl_FactorizedRowCount N a0 a1 = some r) :
    Calls Try.prog 12 #[.agg #[u0, u1]] w0 fun e w' => e = .returned (.int .i64 r) ∧ Ext w0 w' := by
  unfold impl_FactorizedRowCount at hF
  refine calls_E Try.func12 rfl rfl (of_decide_eq_true rfl) ?_
  have hS := Sat.start w0
  refine cw_seq ?_
  refine cw_gen ?_
  intro Q101 hQ101
  refine cw_reg ?_
  refine el_box [u0, u1] rfl hS (by decide) ?_
  intro w102 b103 hS hx104
  refine el_pv (v := .int .i64 0) (pv_assign rfl) (by decide) ?_
  refine el_nil ?_
  refine hQ101 _ _ _ ?_
  refine thn_n ?_
  refine cw_seq ?_
  refine cw_gen ?_
  intro Q106 hQ106
  refine cw_seq ?_
  refine cw_gen ?_
  intro Q107 hQ107
  refine cw_reg ?_
  refine el_pv (v := .agg #[u0, u1]) (pv_loada (cs := [u0, u1]) rfl rfl (boxc0 (hS.boxAt 0 rfl))) (by decide) ?_
  replace hF := ob hF
  obtain ⟨r108, hr108, hF⟩ := hF
  refine el_call goes37 (impl_IsValidFactorization_ok (hS.up ha0) (hS.up ha1) hr108) (congrArg List.toArray (mapc rfl rfl)) (by decide) ?_
  rintro _ w109 ⟨rfl, hx110⟩
  refine ⟨_, rfl, ?_⟩
  replace hS := hS.ext hx110
  refine el_pv (v := .bool (!r108)) (pv_not rfl) (by decide) ?_
  refine el_nil ?_
  refine hQ107 _ _ _ ?_
  refine thn_n ?_
  replace hF := oif hF
  rcases hF with ⟨hb111, hF⟩ | ⟨hb111, hF⟩
  · refine cw_cond_f rfl (bnot_t hb111) ?_
    refine cw_skip ?_
    refine hQ106 _ _ _ ?_
    refine thn_n ?_
    refine cw_seq ?_
    refine cw_gen ?_
    intro Q112 hQ112
    refine cw_reg ?_
    refine el_pv (v := .agg #[u0, u1]) (pv_loada (cs := [u0, u1]) rfl rfl (boxc0 (hS.boxAt 0 rfl))) (by decide) ?_
    replace hF := ob hF
    obtain ⟨r113, hr113, hF⟩ := hF
    refine el_call goes38 (impl_counts_ok (hS.up ha0) (hS.up ha1) hr113) (congrArg List.toArray (mapc rfl rfl)) (by decide) ?_
    rintro _ w116 ⟨v114, rfl, hS'⟩
    refine ⟨_, rfl, ?_⟩
    have hx117 := hS'.below
    replace hS := hS.call1 hS'
    refine el_pv (v := v114) (pv_assign rfl) (by decide) ?_
    refine el_nil ?_
    refine hQ112 _ _ _ ?_
    refine thn_n ?_
    refine cw_seq ?_
    refine cw_gen ?_
    intro Q118 hQ118
    refine cw_reg ?_
    refine el_pv (v := v114) (pv_move rfl) (by decide) ?_
    refine el_pv (v := v114) (pv_move rfl) (by decide) ?_
    refine el_pv (v := .int .i64 (r113.length : Int)) (pv_len rfl (hS.rdAt (R := (sliceR intR 3)) 0 rfl)) (by decide) ?_
    replace hF := ob hF
    obtain ⟨x119, hx119, hF⟩ := hF
    refine el_pv (v := .int .i64 x119) (pv_sub rfl rfl hx119) (by decide) ?_
    replace hF := ob hF
    obtain ⟨x120, hx120, hF⟩ := hF
    obtain ⟨g121, cap122, hv123⟩ := ownShape 0 hS rfl hx120
    refine el_pv (v := .pointer (some ⟨g121, x119.toNat * 1, none⟩)) (pv_indexF (v := v114) rfl hv123 rfl hx120) (by decide) ?_
    refine el_pv (v := .int .i64 x120) (pv_loadc rfl (hS.ownCell 0 rfl hv123 hx120)) (by decide) ?_
    refine el_pv (v := .int .i64 x120) (pv_assign rfl) (by decide) ?_
    refine el_nil ?_
    refine hQ118 _ _ _ ?_
    refine thn_n ?_
    refine cw_ret ?_
    refine fin1 rfl rfl ?_
    have hr := Option.some.inj hF
    exact ⟨congrArg (fun (r : Int) => Ending.returned (.int .i64 r)) hr, hS.below⟩
  · refine cw_cond_t rfl (bnot_f hb111) ?_
    refine cw_seq ?_
    refine cw_gen ?_
    intro Q124 hQ124
    refine cw_reg ?_
    refine el_pv (v := .int .i64 0) (pv_assign rfl) (by decide) ?_
    refine el_nil ?_
    refine hQ124 _ _ _ ?_
    refine thn_n ?_
    refine cw_ret ?_
    refine hQ106 _ _ _ ?_
    refine thn_r ?_
    refine fin1 rfl rfl ?_
    have hr := Option.some.inj hF
    exact ⟨congrArg (fun (r : Int) => Ending.returned (.int .i64 r)) hr, hS.below⟩
set_option maxHeartbeats 4000000 in
theorem laws_eqIntS_ok {w0 : World} {u0 : Value} {a0 : List Int} {u1 : Value} {a1 : List Int} (ha0 : (sliceR intR 3).rd w0 [u0] a0) (ha1 : (sliceR intR 3).rd w0 [u1] a1) {N : Nat} {r : Bool} (hF : laws_eqIntS N a0 a1 = some r) :
    Calls Try.prog 17 #[u0, u1] w0 fun e w' => e = .returned (.bool r) ∧ Ext w0 w' := by
  unfold laws_eqIntS at hF
  refine calls_E Try.func17 rfl rfl (of_decide_eq_true rfl) ?_
  have hS := Sat.start w0
  refine cw_seq ?_
  refine cw_gen ?_
  intro Q101 hQ101
  refine cw_reg ?_
  refine el_pv (v := .bool false) (pv_assign rfl) (by decide) ?_
  refine el_nil ?_
  refine hQ101 _ _ _ ?_
  refine thn_n ?_
  refine cw_seq ?_
  refine cw_gen ?_
  intro Q102 hQ102
  refine cw_seq ?_
  refine cw_gen ?_
  intro Q103 hQ103
  refine cw_reg ?_
  refine el_pv (v := u0) (pv_move rfl) (by decide) ?_
  refine el_pv (v := .int .i64 (a0.length : Int)) (pv_len rfl ha0) (by decide) ?_
  refine el_pv (v := u1) (pv_move rfl) (by decide) ?_
  refine el_pv (v := .int .i64 (a1.length : Int)) (pv_len rfl ha1) (by decide) ?_
  refine el_pv (v := .bool ((a0.length : Int) != (a1.length : Int))) (pv_neq rfl rfl) (by decide) ?_
  refine el_nil ?_
  refine hQ103 _ _ _ ?_
  refine thn_n ?_
  replace hF := oif hF
  rcases hF with ⟨hb104, hF⟩ | ⟨hb104, hF⟩
  · refine cw_cond_t rfl hb104 ?_
    refine cw_seq ?_
    refine cw_gen ?_
    intro Q105 hQ105
    refine cw_reg ?_
    refine el_pv (v := .bool false) (pv_assign rfl) (by decide) ?_
    refine el_nil ?_
    refine hQ105 _ _ _ ?_
    refine thn_n ?_
    refine cw_ret ?_
    refine hQ102 _ _ _ ?_
    refine thn_r ?_
    refine fin1 rfl rfl ?_
    have hr := Option.some.inj hF
    exact ⟨congrArg (fun (r : Bool) => Ending.returned (.bool r)) hr, hS.below⟩
  · refine cw_cond_f rfl hb104 ?_
    refine cw_skip ?_
    refine hQ102 _ _ _ ?_
    refine thn_n ?_
    refine cw_seq ?_
    refine cw_gen ?_
    intro Q106 hQ106
    refine cw_seq ?_
    refine cw_gen ?_
    intro Q107 hQ107
    refine cw_reg ?_
    refine el_pv (v := .int .i64 0) (pv_assign rfl) (by decide) ?_
    refine el_nil ?_
    refine hQ107 _ _ _ ?_
    refine thn_n ?_
    refine cw_block ?_
    refine cw_gen ?_
    intro Q108 hQ108
    obtain ⟨s109, hL, hK110⟩ := ob hF
    refine cw_loopS (fun k e w => ∃ (x111 : Int), e 0 = u0 ∧ e 1 = u1 ∧ e 5 = .int .i64 x111 ∧ Sat w0 w [] ∧ laws_eqIntS_L1 N k a0 a1 x111 = some s109) N ?_ ?_ ?_
    · exact ⟨0, rfl, rfl, rfl, hS, hL⟩
    · rintro e w ⟨_, _, _, _, _, hz⟩; exact nomatch (show none = some _ from hz)
    · rintro k e116 w115 ⟨x111, he112, he113, he114, hS, hF⟩
      refine cw_gen ?_
      intro Q117 hQ117
      refine cw_seq ?_
      refine cw_gen ?_
      intro Q118 hQ118
      refine cw_seq ?_
      refine cw_gen ?_
      intro Q119 hQ119
      refine cw_reg ?_
      refine el_pv (v := .int .i64 x111) (pv_move he114) (by decide) ?_
      refine el_pv (v := u0) (pv_move he112) (by decide) ?_
      refine el_pv (v := .int .i64 (a0.length : Int)) (pv_len rfl ha0) (by decide) ?_
      refine el_pv (v := .bool (decide (x111 < (a0.length : Int)))) (pv_lss rfl rfl) (by decide) ?_
      refine el_nil ?_
      refine hQ119 _ _ _ ?_
      refine thn_n ?_
      replace hF := oif hF
      rcases hF with ⟨hb120, hF⟩ | ⟨hb120, hF⟩
      · refine cw_cond_t rfl hb120 ?_
        refine cw_skip ?_
        refine hQ118 _ _ _ ?_
        refine thn_n ?_
        refine cw_seq ?_
        refine cw_gen ?_
        intro Q121 hQ121
        refine cw_block ?_
        refine cw_gen ?_
        intro Q122 hQ122
        refine cw_seq ?_
        refine cw_gen ?_
        intro Q123 hQ123
        refine cw_regq (by kernel_rfl) (by kernel_rfl) ?_
        refine ql_pv (v := u0) (pv_move he112) (by decide) ?_
        refine ql_pv (v := .int .i64 x111) (pv_move he114) (by decide) ?_
        replace hF := ob hF
        obtain ⟨x124, hx124, hF⟩ := hF
        refine ql_index (wA := w0) rfl ha0 rfl (by decide) rfl hx124 (by decide) ?_
        intro b125 of126 c127 hr128 hm129
        obtain rfl := hr128
        refine ql_pv (v := .int .i64 x124) (pv_loadc rfl ((cells_up hS.below hm129) 0 _ rfl)) (by decide) ?_
        refine ql_pv (v := u1) (pv_move he113) (by decide) ?_
        refine ql_pv (v := .int .i64 x111) (pv_move he114) (by decide) ?_
        replace hF := ob hF
        obtain ⟨x130, hx130, hF⟩ := hF
        refine ql_index (wA := w0) rfl ha1 rfl (by decide) rfl hx130 (by decide) ?_
        intro b131 of132 c133 hr134 hm135
        obtain rfl := hr134
        refine ql_pv (v := .int .i64 x130) (pv_loadc rfl ((cells_up hS.below hm135) 0 _ rfl)) (by decide) ?_
        refine ql_pv (v := .bool (x124 != x130)) (pv_neq rfl rfl) (by decide) ?_
        refine ql_nil ?_
        intro w136 hx137
        replace hS := hS.ext hx137
        refine hQ123 _ _ _ ?_
        refine thn_n ?_
        replace hF := oif hF
        rcases hF with ⟨hb138, hF⟩ | ⟨hb138, hF⟩
        · refine cw_cond_t rfl hb138 ?_
          refine cw_seq ?_
          refine cw_gen ?_
          intro Q139 hQ139
          refine cw_reg ?_
          refine el_pv (v := .bool false) (pv_assign rfl) (by decide) ?_
          refine el_nil ?_
          refine hQ139 _ _ _ ?_
          refine thn_n ?_
          refine cw_ret ?_
          refine hQ122 _ _ _ ?_
          refine inb_r ?_
          refine hQ121 _ _ _ ?_
          refine thn_r ?_
          refine hQ117 _ _ _ ?_
          refine thn_r ?_
          refine hQ108 _ _ _ ?_
          refine inb_r ?_
          refine hQ106 _ _ _ ?_
          refine thn_r ?_
          replace hF := exL hF hK110
          refine fin1 rfl rfl ?_
          have hr := Option.some.inj hF
          exact ⟨congrArg (fun (r : Bool) => Ending.returned (.bool r)) hr, hS.below⟩
        · refine cw_cond_f rfl hb138 ?_
          refine cw_skip ?_
          refine hQ122 _ _ _ ?_
          refine inb_n ?_
          refine hQ121 _ _ _ ?_
          refine thn_n ?_
          refine cw_reg ?_
          refine el_pv (v := .int .i64 x111) (pv_move he114) (by decide) ?_
          replace hF := ob hF
          obtain ⟨x140, hx140, hF⟩ := hF
          refine el_pv (v := .int .i64 x140) (pv_add rfl rfl hx140) (by decide) ?_
          refine el_pv (v := .int .i64 x140) (pv_assign rfl) (by decide) ?_
          refine el_nil ?_
          refine hQ117 _ _ _ ?_
          refine thn_n ?_
          replace hS := hS.keep 0
          exact ⟨x140, he112, he113, rfl, hS, hF⟩
      · refine cw_cond_f rfl hb120 ?_
        refine cw_exit ?_
        refine hQ118 _ _ _ ?_
        refine thn_x ?_
        refine hQ117 _ _ _ ?_
        refine thn_x ?_
        replace hF := exA hF hK110
        refine hQ108 _ _ _ ?_
        refine inb_s ?_
        refine hQ106 _ _ _ ?_
        refine thn_n ?_
        refine cw_seq ?_
        refine cw_gen ?_
        intro Q141 hQ141
        refine cw_reg ?_
        refine el_pv (v := .bool true) (pv_assign rfl) (by decide) ?_
        refine el_nil ?_
        refine hQ141 _ _ _ ?_
        refine thn_n ?_
        refine cw_ret ?_
        refine fin1 rfl rfl ?_
        have hr := Option.some.inj hF
        exact ⟨congrArg (fun (r : Bool) => Ending.returned (.bool r)) hr, hS.below⟩
set_option maxHeartbeats 4000000 in
theorem laws_eqFactorNode_ok {w0 : World} {u0 : Value} {a0 : List Int} {u1 : Value} {a1 : List Int} {u2 : Value} {a2 : List Int} {u3 : Value} {a3 : List Int} (ha0 : (sliceR intR 3).rd w0 [u0] a0) (ha1 : (sliceR intR 3).rd w0 [u1] a1) (ha2 : (sliceR intR 3).rd w0 [u2] a2) (ha3 : (sliceR intR 3).rd w0 [u3] a3) {N : Nat} {r : Bool} (hF : laws_eqFactorNode N a0 a1 a2 a3 = some r) :
    Calls Try.prog 54 #[.agg #[u0, u1], .agg #[u2, u3]] w0 fun e w' => e = .returned (.bool r) ∧ Ext w0 w' := by
  unfold laws_eqFactorNode at hF
  refine calls_E Try.func54 rfl rfl (of_decide_eq_true rfl) ?_
  have hS := Sat.start w0
  refine cw_seq ?_
  refine cw_gen ?_
  intro Q101 hQ101
  refine cw_reg ?_
  refine el_box [u0, u1] rfl hS (by decide) ?_
  intro w102 b103 hS hx104
  refine el_box [u2, u3] rfl hS (by decide) ?_
  intro w106 b107 hS hx108
  refine el_pv (v := .bool false) (pv_assign rfl) (by decide) ?_
  refine el_nil ?_
  refine hQ101 _ _ _ ?_
  refine thn_n ?_
  refine cw_seq ?_
  refine cw_gen ?_
  intro Q110 hQ110
  refine cw_seq ?_
  refine cw_gen ?_
  intro Q111 hQ111
  refine cw_reg ?_
  refine el_pv (v := .pointer (some ⟨b103, 0 + 0, none⟩)) (pv_fieldAddr rfl) (by decide) ?_
  refine el_pv (v := u0) (pv_loadc rfl ((hS.boxAt 1 rfl) 0 _ rfl)) (by decide) ?_
  refine el_pv (v := .pointer (some ⟨b107, 0 + 0, none⟩)) (pv_fieldAddr rfl) (by decide) ?_
  refine el_pv (v := u2) (pv_loadc rfl ((hS.boxAt 0 rfl) 0 _ rfl)) (by decide) ?_
  replace hF := ob hF
  obtain ⟨r112, hr112, hF⟩ := hF
  refine el_call goes17 (laws_eqIntS_ok (hS.up ha0) (hS.up ha2) hr112) (congrArg List.toArray (mapc rfl (mapc rfl rfl))) (by decide) ?_
  rintro _ w113 ⟨rfl, hx114⟩
  refine ⟨_, rfl, ?_⟩
  replace hS := hS.ext hx114
  refine el_pv (v := .bool (!r112)) (pv_not rfl) (by decide) ?_
  refine el_nil ?_
  refine hQ111 _ _ _ ?_
  refine thn_n ?_
  replace hF := oif hF
  rcases hF with ⟨hb115, hF⟩ | ⟨hb115, hF⟩
  · refine cw_cond_f rfl (bnot_t hb115) ?_
    refine cw_skip ?_
    refine hQ110 _ _ _ ?_
    refine thn_n ?_
    refine cw_seq ?_
    refine cw_gen ?_
    intro Q116 hQ116
    refine cw_seq ?_
    refine cw_gen ?_
    intro Q117 hQ117
    refine cw_reg ?_
    refine el_pv (v := .pointer (some ⟨b103, 0 + 1, none⟩)) (pv_fieldAddr rfl) (by decide) ?_
    refine el_pv (v := u1) (pv_loadc rfl ((hS.boxAt 1 rfl) 1 _ rfl)) (by decide) ?_
    refine el_pv (v := .pointer (some ⟨b107, 0 + 1, none⟩)) (pv_fieldAddr rfl) (by decide) ?_
    refine el_pv (v := u3) (pv_loadc rfl ((hS.boxAt 0 rfl) 1 _ rfl)) (by decide) ?_
    replace hF := ob hF
    obtain ⟨r118, hr118, hF⟩ := hF
    refine el_call goes17 (laws_eqIntS_ok (hS.up ha1) (hS.up ha3) hr118) (congrArg List.toArray (mapc rfl (mapc rfl rfl))) (by decide) ?_
    rintro _ w119 ⟨rfl, hx120⟩
    refine ⟨_, rfl, ?_⟩
    replace hS := hS.ext hx120
    refine el_pv (v := .bool (!r118)) (pv_not rfl) (by decide) ?_
    refine el_nil ?_
    refine hQ117 _ _ _ ?_
    refine thn_n ?_
    replace hF := oif hF
    rcases hF with ⟨hb121, hF⟩ | ⟨hb121, hF⟩
    · refine cw_cond_f rfl (bnot_t hb121) ?_
      refine cw_skip ?_
      refine hQ116 _ _ _ ?_
      refine thn_n ?_
      refine cw_seq ?_
      refine cw_gen ?_
      intro Q122 hQ122
      refine cw_reg ?_
      refine el_pv (v := .bool true) (pv_assign rfl) (by decide) ?_
      refine el_nil ?_
      refine hQ122 _ _ _ ?_
      refine thn_n ?_
      refine cw_ret ?_
      refine fin1 rfl rfl ?_
      have hr := Option.some.inj hF
      exact ⟨congrArg (fun (r : Bool) => Ending.returned (.bool r)) hr, hS.below⟩
    · refine cw_cond_t rfl (bnot_f hb121) ?_
      refine cw_seq ?_
      refine cw_gen ?_
      intro Q123 hQ123
      refine cw_reg ?_
      refine el_pv (v := .bool false) (pv_assign rfl) (by decide) ?_
      refine el_nil ?_
      refine hQ123 _ _ _ ?_
      refine thn_n ?_
      refine cw_ret ?_
      refine hQ116 _ _ _ ?_
      refine thn_r ?_
      refine fin1 rfl rfl ?_
      have hr := Option.some.inj hF
      exact ⟨congrArg (fun (r : Bool) => Ending.returned (.bool r)) hr, hS.below⟩
  · refine cw_cond_t rfl (bnot_f hb115) ?_
    refine cw_seq ?_
    refine cw_gen ?_
    intro Q124 hQ124
    refine cw_reg ?_
    refine el_pv (v := .bool false) (pv_assign rfl) (by decide) ?_
    refine el_nil ?_
    refine hQ124 _ _ _ ?_
    refine thn_n ?_
    refine cw_ret ?_
    refine hQ110 _ _ _ ?_
    refine thn_r ?_
    refine fin1 rfl rfl ?_
    have hr := Option.some.inj hF
    exact ⟨congrArg (fun (r : Bool) => Ending.returned (.bool r)) hr, hS.below⟩
set_option maxHeartbeats 4000000 in
theorem laws_eqFactorNodeS_ok {w0 : World} {u0 : Value} {a0 : List (List Int × List Int)} {u1 : Value} {a1 : List (List Int × List Int)} (ha0 : (sliceR (pairR (sliceR intR 3) (sliceR intR 3)) 57).rd w0 [u0] a0) (ha1 : (sliceR (pairR (sliceR intR 3) (sliceR intR 3)) 57).rd w0 [u1] a1) {N : Nat} {r : Bool} (hF : laws_eqFactorNodeS N a0 a1 = some r) :
    Calls Try.prog 39 #[u0, u1] w0 fun e w' => e = .returned (.bool r) ∧ Ext w0 w' := by
  unfold laws_eqFactorNodeS at hF
  refine calls_E Try.func39 rfl rfl (of_decide_eq_true rfl) ?_
  have hS := Sat.start w0
  refine cw_seq ?_
  refine cw_gen ?_
  intro Q101 hQ101
  refine cw_reg ?_
  refine el_pv (v := .bool false) (pv_assign rfl) (by decide) ?_
  refine el_nil ?_
  refine hQ101 _ _ _ ?_
  refine thn_n ?_
  refine cw_seq ?_
  refine cw_gen ?_
  intro Q102 hQ102
  refine cw_seq ?_
  refine cw_gen ?_
  intro Q103 hQ103
  refine cw_reg ?_
  refine el_pv (v := u0) (pv_move rfl) (by decide) ?_
  refine el_pv (v := .int .i64 (a0.length : Int)) (pv_len rfl ha0) (by decide) ?_
  refine el_pv (v := u1) (pv_move rfl) (by decide) ?_
  refine el_pv (v := .int .i64 (a1.length : Int)) (pv_len rfl ha1) (by decide) ?_
  refine el_pv (v := .bool ((a0.length : Int) != (a1.length : Int))) (pv_neq rfl rfl) (by decide) ?_
  refine el_nil ?_
  refine hQ103 _ _ _ ?_
  refine thn_n ?_
  replace hF := oif hF
  rcases hF with ⟨hb104, hF⟩ | ⟨hb104, hF⟩
  · refine cw_cond_t rfl hb104 ?_
    refine cw_seq ?_
    refine cw_gen ?_
    intro Q105 hQ105
    refine cw_reg ?_
    refine el_pv (v := .bool false) (pv_assign rfl) (by decide) ?_
    refine el_nil ?_
    refine hQ105 _ _ _ ?_
    refine thn_n ?_
    refine cw_ret ?_
    refine hQ102 _ _ _ ?_
    refine thn_r ?_
    refine fin1 rfl rfl ?_
    have hr := Option.some.inj hF
    exact ⟨congrArg (fun (r : Bool) => Ending.returned (.bool r)) hr, hS.below⟩
  · refine cw_cond_f rfl hb104 ?_
    refine cw_skip ?_
    refine hQ102 _ _ _ ?_
    refine thn_n ?_
    refine cw_seq ?_
    refine cw_gen ?_
    intro Q106 hQ106
    refine cw_seq ?_
    refine cw_gen ?_
    intro Q107 hQ107
    refine cw_reg ?_
    refine el_pv (v := .int .i64 0) (pv_assign rfl) (by decide) ?_
    refine el_nil ?_
    refine hQ107 _ _ _ ?_
    refine thn_n ?_
    refine cw_block ?_
    refine cw_gen ?_
    intro Q108 hQ108
    obtain ⟨s109, hL, hK110⟩ := ob hF
    refine cw_loopS (fun k e w => ∃ (x111 : Int), e 0 = u0 ∧ e 1 = u1 ∧ e 5 = .int .i64 x111 ∧ Sat w0 w [] ∧ laws_eqFactorNodeS_L1 N k a0 a1 x111 = some s109) N ?_ ?_ ?_
    · exact ⟨0, rfl, rfl, rfl, hS, hL⟩
    · rintro e w ⟨_, _, _, _, _, hz⟩; exact nomatch (show none = some _ from hz)
    · rintro k e116 w115 ⟨x111, he112, he113, he114, hS, hF⟩
      refine cw_gen ?_
      intro Q117 hQ117
      refine cw_seq ?_
      refine cw_gen ?_
      intro Q118 hQ118
      refine cw_seq ?_
      refine cw_gen ?_
      intro Q119 hQ119
      refine cw_reg ?_
      refine el_pv (v := .int .i64 x111) (pv_move he114) (by decide) ?_
      refine el_pv (v := u0) (pv_move he112) (by decide) ?_
      refine el_pv (v := .int .i64 (a0.length : Int)) (pv_len rfl ha0) (by decide) ?_
      refine el_pv (v := .bool (decide (x111 < (a0.length : Int)))) (pv_lss rfl rfl) (by decide) ?_
      refine el_nil ?_
      refine hQ119 _ _ _ ?_
      refine thn_n ?_
      replace hF := oif hF
      rcases hF with ⟨hb120, hF⟩ | ⟨hb120, hF⟩
      · refine cw_cond_t rfl hb120 ?_
        refine cw_skip ?_
        refine hQ118 _ _ _ ?_
        refine thn_n ?_
        refine cw_seq ?_
        refine cw_gen ?_
        intro Q121 hQ121
        refine cw_block ?_
        refine cw_gen ?_
        intro Q122 hQ122
        refine cw_seq ?_
        refine cw_gen ?_
        intro Q123 hQ123
        refine cw_regq (by kernel_rfl) (by kernel_rfl) ?_
        refine ql_pv (v := u0) (pv_move he112) (by decide) ?_
        refine ql_pv (v := .int .i64 x111) (pv_move he114) (by decide) ?_
        replace hF := ob hF
        obtain ⟨x124, hx124, hF⟩ := hF
        refine ql_index (wA := w0) rfl ha0 rfl (by decide) rfl hx124 (by decide) ?_
        intro b125 of126 c127 hr128 hm129
        obtain ⟨_, _, rfl, hr130, hr131⟩ := hr128
        obtain ⟨v132, rfl⟩ := slice_one hr130
        obtain ⟨v133, rfl⟩ := slice_one hr131
        refine ql_pv (v := .agg #[v132, v133]) (pv_loada (cs := [v132, v133]) rfl rfl (cells_up hS.below hm129)) (by decide) ?_
        refine ql_pv (v := u1) (pv_move he113) (by decide) ?_
        refine ql_pv (v := .int .i64 x111) (pv_move he114) (by decide) ?_
        replace hF := ob hF
        obtain ⟨x134, hx134, hF⟩ := hF
        refine ql_index (wA := w0) rfl ha1 rfl (by decide) rfl hx134 (by decide) ?_
        intro b135 of136 c137 hr138 hm139
        obtain ⟨_, _, rfl, hr140, hr141⟩ := hr138
        obtain ⟨v142, rfl⟩ := slice_one hr140
        obtain ⟨v143, rfl⟩ := slice_one hr141
        refine ql_pv (v := .agg #[v142, v143]) (pv_loada (cs := [v142, v143]) rfl rfl (cells_up hS.below hm139)) (by decide) ?_
        replace hF := ob hF
        obtain ⟨r144, hr144, hF⟩ := hF
        refine ql_call (.bool r144) goes54 (fun w' hw' => laws_eqFactorNode_ok (rd_up (hS.up hr130) hw') (rd_up (hS.up hr131) hw') (rd_up (hS.up hr140) hw') (rd_up (hS.up hr141) hw') hr144) (congrArg List.toArray (mapc rfl (mapc rfl rfl))) (by decide) ?_
        refine ql_pv (v := .bool (!r144)) (pv_not rfl) (by decide) ?_
        refine ql_nil ?_
        intro w145 hx146
        replace hS := hS.ext hx146
        refine hQ123 _ _ _ ?_
        refine thn_n ?_
        replace hF := oif hF
        rcases hF with ⟨hb147, hF⟩ | ⟨hb147, hF⟩
        · refine cw_cond_f rfl (bnot_t hb147) ?_
          refine cw_skip ?_
          refine hQ122 _ _ _ ?_
          refine inb_n ?_
          refine hQ121 _ _ _ ?_
          refine thn_n ?_
          refine cw_reg ?_
          refine el_pv (v := .int .i64 x111) (pv_move he114) (by decide) ?_
          replace hF := ob hF
          obtain ⟨x148, hx148, hF⟩ := hF
          refine el_pv (v := .int .i64 x148) (pv_add rfl rfl hx148) (by decide) ?_
          refine el_pv (v := .int .i64 x148) (pv_assign rfl) (by decide) ?_
          refine el_nil ?_
          refine hQ117 _ _ _ ?_
          refine thn_n ?_
          replace hS := hS.keep 0
          exact ⟨x148, he112, he113, rfl, hS, hF⟩
        · refine cw_cond_t rfl (bnot_f hb147) ?_
          refine cw_seq ?_
          refine cw_gen ?_
          intro Q149 hQ149
          refine cw_reg ?_
          refine el_pv (v := .bool false) (pv_assign rfl) (by decide) ?_
          refine el_nil ?_
          refine hQ149 _ _ _ ?_
          refine thn_n ?_
          refine cw_ret ?_
          refine hQ122 _ _ _ ?_
          refine inb_r ?_
          refine hQ121 _ _ _ ?_
          refine thn_r ?_
          refine hQ117 _ _ _ ?_
          refine thn_r ?_
          refine hQ108 _ _ _ ?_
          refine inb_r ?_
          refine hQ106 _ _ _ ?_
          refine thn_r ?_
          replace hF := exL hF hK110
          refine fin1 rfl rfl ?_
          have hr := Option.some.inj hF
          exact ⟨congrArg (fun (r : Bool) => Ending.returned (.bool r)) hr, hS.below⟩
      · refine cw_cond_f rfl hb120 ?_
        refine cw_exit ?_
        refine hQ118 _ _ _ ?_
        refine thn_x ?_
        refine hQ117 _ _ _ ?_
        refine thn_x ?_
        replace hF := exA hF hK110
        refine hQ108 _ _ _ ?_
        refine inb_s ?_
        refine hQ106 _ _ _ ?_
        refine thn_n ?_
        refine cw_seq ?_
        refine cw_gen ?_
        intro Q150 hQ150
        refine cw_reg ?_
        refine el_pv (v := .bool true) (pv_assign rfl) (by decide) ?_
        refine el_nil ?_
        refine hQ150 _ _ _ ?_
        refine thn_n ?_
        refine cw_ret ?_
        refine fin1 rfl rfl ?_
        have hr := Option.some.inj hF
        exact ⟨congrArg (fun (r : Bool) => Ending.returned (.bool r)) hr, hS.below⟩
set_option maxHeartbeats 4000000 in
theorem laws_eqFactorization_ok {w0 : World} {u0 : Value} {a0 : List Int} {u1 : Value} {a1 : List (List Int × List Int)} {u2 : Value} {a2 : List Int} {u3 : Value} {a3 : List (List Int × List Int)} (ha0 : (sliceR intR 3).rd w0 [u0] a0) (ha1 : (sliceR (pairR (sliceR intR 3) (sliceR intR 3)) 57).rd w0 [u1] a1) (ha2 : (sliceR intR 3).rd w0 [u2] a2) (ha3 : (sliceR (pairR (sliceR intR 3) (sliceR intR 3)) 57).rd w0 [u3] a3) {N : Nat} {r : Bool} (hF : laws_eqFactorization N a0 a1 a2 a3 = some r) :
    Calls Try.prog 13 #[.agg #[u0, u1], .agg #[u2, u3]] w0 fun e w' => e = .returned (.bool r) ∧ Ext w0 w' := by
  unfold laws_eqFactorization at hF
  refine calls_E Try.func13 rfl rfl (of_decide_eq_true rfl) ?_
  have hS := Sat.start w0
  refine cw_seq ?_
  refine cw_gen ?_
  intro Q101 hQ101
  refine cw_reg ?_
  refine el_box [u0, u1] rfl hS (by decide) ?_
  intro w102 b103 hS hx104
  refine el_box [u2, u3] rfl hS (by decide) ?_
  intro w106 b107 hS hx108
  refine el_pv (v := .bool false) (pv_assign rfl) (by decide) ?_
  refine el_nil ?_
  refine hQ101 _ _ _ ?_
  refine thn_n ?_
  refine cw_seq ?_
  refine cw_gen ?_
  intro Q110 hQ110
  refine cw_seq ?_
  refine cw_gen ?_
  intro Q111 hQ111
  refine cw_reg ?_
  refine el_pv (v := .pointer (some ⟨b103, 0 + 0, none⟩)) (pv_fieldAddr rfl) (by decide) ?_
  refine el_pv (v := u0) (pv_loadc rfl ((hS.boxAt 1 rfl) 0 _ rfl)) (by decide) ?_
  refine el_pv (v := .pointer (some ⟨b107, 0 + 0, none⟩)) (pv_fieldAddr rfl) (by decide) ?_
  refine el_pv (v := u2) (pv_loadc rfl ((hS.boxAt 0 rfl) 0 _ rfl)) (by decide) ?_
  replace hF := ob hF
  obtain ⟨r112, hr112, hF⟩ := hF
  refine el_call goes17 (laws_eqIntS_ok (hS.up ha0) (hS.up ha2) hr112) (congrArg List.toArray (mapc rfl (mapc rfl rfl))) (by decide) ?_
  rintro _ w113 ⟨rfl, hx114⟩
  refine ⟨_, rfl, ?_⟩
  replace hS := hS.ext hx114
  refine el_pv (v := .bool (!r112)) (pv_not rfl) (by decide) ?_
  refine el_nil ?_
  refine hQ111 _ _ _ ?_
  refine thn_n ?_
  replace hF := oif hF
  rcases hF with ⟨hb115, hF⟩ | ⟨hb115, hF⟩
  · refine cw_cond_f rfl (bnot_t hb115) ?_
    refine cw_skip ?_
    refine hQ110 _ _ _ ?_
    refine thn_n ?_
    refine cw_seq ?_
    refine cw_gen ?_
    intro Q116 hQ116
    refine cw_seq ?_
    refine cw_gen ?_
    intro Q117 hQ117
    refine cw_reg ?_
    refine el_pv (v := .pointer (some ⟨b103, 0 + 1, none⟩)) (pv_fieldAddr rfl) (by decide) ?_
    refine el_pv (v := u1) (pv_loadc rfl ((hS.boxAt 1 rfl) 1 _ rfl)) (by decide) ?_
    refine el_pv (v := .pointer (some ⟨b107, 0 + 1, none⟩)) (pv_fieldAddr rfl) (by decide) ?_
    refine el_pv (v := u3) (pv_loadc rfl ((hS.boxAt 0 rfl) 1 _ rfl)) (by decide) ?_
    replace hF := ob hF
    obtain ⟨r118, hr118, hF⟩ := hF
    refine el_call goes39 (laws_eqFactorNodeS_ok (hS.up ha1) (hS.up ha3) hr118) (congrArg List.toArray (mapc rfl (mapc rfl rfl))) (by decide) ?_
    rintro _ w119 ⟨rfl, hx120⟩
    refine ⟨_, rfl, ?_⟩
    replace hS := hS.ext hx120
    refine el_pv (v := .bool (!r118)) (pv_not rfl) (by decide) ?_
    refine el_nil ?_
    refine hQ117 _ _ _ ?_
    refine thn_n ?_
    replace hF := oif hF
    rcases hF with ⟨hb121, hF⟩ | ⟨hb121, hF⟩
    · refine cw_cond_f rfl (bnot_t hb121) ?_
      refine cw_skip ?_
      refine hQ116 _ _ _ ?_
      refine thn_n ?_
      refine cw_seq ?_
      refine cw_gen ?_
      intro Q122 hQ122
      refine cw_reg ?_
      refine el_pv (v := .bool true) (pv_assign rfl) (by decide) ?_
      refine el_nil ?_
      refine hQ122 _ _ _ ?_
      refine thn_n ?_
      refine cw_ret ?_
      refine fin1 rfl rfl ?_
      have hr := Option.some.inj hF
      exact ⟨congrArg (fun (r : Bool) => Ending.returned (.bool r)) hr, hS.below⟩
    · refine cw_cond_t rfl (bnot_f hb121) ?_
      refine cw_seq ?_
      refine cw_gen ?_
      intro Q123 hQ123
      refine cw_reg ?_
      refine el_pv (v := .bool false) (pv_assign rfl) (by decide) ?_
      refine el_nil ?_
      refine hQ123 _ _ _ ?_
      refine thn_n ?_
      refine cw_ret ?_
      refine hQ116 _ _ _ ?_
      refine thn_r ?_
      refine fin1 rfl rfl ?_
      have hr := Option.some.inj hF
      exact ⟨congrArg (fun (r : Bool) => Ending.returned (.bool r)) hr, hS.below⟩
  · refine cw_cond_t rfl (bnot_f hb115) ?_
    refine cw_seq ?_
    refine cw_gen ?_
    intro Q124 hQ124
    refine cw_reg ?_
    refine el_pv (v := .bool false) (pv_assign rfl) (by decide) ?_
    refine el_nil ?_
    refine hQ124 _ _ _ ?_
    refine thn_n ?_
    refine cw_ret ?_
    refine hQ110 _ _ _ ?_
    refine thn_r ?_
    refine fin1 rfl rfl ?_
    have hr := Option.some.inj hF
    exact ⟨congrArg (fun (r : Bool) => Ending.returned (.bool r)) hr, hS.below⟩
set_option maxHeartbeats 4000000 in
theorem laws_FnExactFactorizedRowCount_ok {w0 : World} {u0 : Value} {a0 : List Int} {u1 : Value} {a1 : List (List Int × List Int)} (ha0 : (sliceR intR 3).rd w0 [u0] a0) (ha1 : (sliceR (pairR (sliceR intR 3) (sliceR intR 3)) 62).rd w0 [u1] a1) {N : Nat} {r : Bool} (hF : laws_FnExactFactorizedRowCount N a0 a1 = some r) :
    Calls Try.prog 3 #[.agg #[u0, u1]] w0 fun e w' => e = .returned (.bool r) ∧ Ext w0 w' := by
  unfold laws_FnExactFactorizedRowCount at hF
  refine calls_E Try.func3 rfl rfl (of_decide_eq_true rfl) ?_
  have hS := Sat.start w0
  refine cw_seq ?_
  refine cw_gen ?_
  intro Q101 hQ101
  refine cw_reg ?_
  refine el_box [u0, u1] rfl hS (by decide) ?_
  intro w102 b103 hS hx104
  refine el_pv (v := .bool false) (pv_assign rfl) (by decide) ?_
  refine el_nil ?_
  refine hQ101 _ _ _ ?_
  refine thn_n ?_
  refine cw_seq ?_
  refine cw_gen ?_
  intro Q106 hQ106
  refine cw_reg ?_
  refine el_pv (v := .int .i64 1048576) (pv_assign rfl) (by decide) ?_
  refine el_nil ?_
  refine hQ106 _ _ _ ?_
  refine thn_n ?_
  refine cw_seq ?_
  refine cw_gen ?_
  intro Q107 hQ107
  refine cw_reg ?_
  refine el_pv (v := .agg #[u0, u1]) (pv_loada (cs := [u0, u1]) rfl rfl (boxc0 (hS.boxAt 0 rfl))) (by decide) ?_
  refine el_pv (v := .int .i64 1048576) (pv_move rfl) (by decide) ?_
  replace hF := ob hF
  obtain ⟨r108, hr108, hF⟩ := hF
  refine el_call goes9 (laws_szFactorization_ok (hS.up ha0) (hS.up ha1) hr108) (congrArg List.toArray (mapc rfl (mapc rfl rfl))) (by decide) ?_
  rintro _ w109 ⟨rfl, hx110⟩
  refine ⟨_, rfl, ?_⟩
  replace hS := hS.ext hx110
  refine el_pv (v := .int .i64 r108) (pv_assign rfl) (by decide) ?_
  refine el_nil ?_
  refine hQ107 _ _ _ ?_
  refine thn_n ?_
  refine cw_seq ?_
  refine cw_gen ?_
  intro Q111 hQ111
  refine cw_seq ?_
  refine cw_gen ?_
  intro Q112 hQ112
  refine cw_reg ?_
  refine el_pv (v := .int .i64 r108) (pv_move rfl) (by decide) ?_
  refine el_pv (v := .bool (decide (r108 < 0))) (pv_lss rfl rfl) (by decide) ?_
  refine el_nil ?_
  refine hQ112 _ _ _ ?_
  refine thn_n ?_
  replace hF := oif hF
  rcases hF with ⟨hb113, hF⟩ | ⟨hb113, hF⟩
  · refine cw_cond_t rfl hb113 ?_
    refine cw_seq ?_
    refine cw_gen ?_
    intro Q114 hQ114
    refine cw_reg ?_
    refine el_pv (v := .bool true) (pv_assign rfl) (by decide) ?_
    refine el_nil ?_
    refine hQ114 _ _ _ ?_
    refine thn_n ?_
    refine cw_ret ?_
    refine hQ111 _ _ _ ?_
    refine thn_r ?_
    refine fin1 rfl rfl ?_
    have hr := Option.some.inj hF
    exact ⟨congrArg (fun (r : Bool) => Ending.returned (.bool r)) hr, hS.below⟩
  · refine cw_cond_f rfl hb113 ?_
    refine cw_skip ?_
    refine hQ111 _ _ _ ?_
    refine thn_n ?_
    refine cw_seq ?_
    refine cw_gen ?_
    intro Q115 hQ115
    refine cw_reg ?_
    refine el_pv (v := .agg #[u0, u1]) (pv_loada (cs := [u0, u1]) rfl rfl (boxc0 (hS.boxAt 0 rfl))) (by decide) ?_
    replace hF := ob hF
    obtain ⟨r116, hr116, hF⟩ := hF
    refine el_call goes11 (laws_toFactorization_ok (hS.up ha0) (hS.up ha1) hr116) (congrArg List.toArray (mapc rfl rfl)) (by decide) ?_
    rintro _ w121 ⟨v117, v118, rfl, hS'⟩
    refine ⟨_, rfl, ?_⟩
    have hx122 := hS'.below
    replace hS := hS.call2 hS'
    replace hF := ob hF
    obtain ⟨r123, hr123, hF⟩ := hF
    refine el_call goes10 (spec_FactorizedRowCount_ok (hS.rdAt (R := (sliceR intR 3)) 0 rfl) (hS.rdAt (R := (sliceR (pairR (sliceR intR 3) (sliceR intR 3)) 57)) 1 rfl) hr123) (congrArg List.toArray (mapc rfl rfl)) (by decide) ?_
    rintro _ w124 ⟨rfl, hx125⟩
    refine ⟨_, rfl, ?_⟩
    replace hS := hS.ext hx125
    refine el_pv (v := .int .i64 r123) (pv_assign rfl) (by decide) ?_
    refine el_nil ?_
    refine hQ115 _ _ _ ?_
    refine thn_n ?_
    refine cw_seq ?_
    refine cw_gen ?_
    intro Q126 hQ126
    refine cw_reg ?_
    refine el_pv (v := .agg #[u0, u1]) (pv_loada (cs := [u0, u1]) rfl rfl (boxc0 (hS.boxAt 2 rfl))) (by decide) ?_
    replace hF := ob hF
    obtain ⟨r127, hr127, hF⟩ := hF
    refine el_call goes11 (laws_toFactorization_ok (hS.up ha0) (hS.up ha1) hr127) (congrArg List.toArray (mapc rfl rfl)) (by decide) ?_
    rintro _ w132 ⟨v128, v129, rfl, hS'⟩
    refine ⟨_, rfl, ?_⟩
    have hx133 := hS'.below
    replace hS := hS.call2 hS'
    refine el_alloc hS (by decide) ?_
    intro w134 b135 hS hx136
    refine el_storev (hS.top 0 rfl) rfl [v128, v129] rfl rfl (of_decide_eq_true rfl) (all_cons (oc (hS.rdAt (R := (sliceR intR 3)) 1 rfl)) (all_cons (oc (hS.rdAt (R := (sliceR (pairR (sliceR intR 3) (sliceR intR 3)) 57)) 2 rfl)) rfl)) ?_
    intro w138 hS
    replace hS : Sat w0 w138 [Box b135 30 [v128, v129], Own (sliceR intR 3) [v128] r127.1, Own (sliceR (pairR (sliceR intR 3) (sliceR intR 3)) 57) [v129] r127.2, Own (sliceR intR 3) [v117] r116.1, Own (sliceR (pairR (sliceR intR 3) (sliceR intR 3)) 57) [v118] r116.2, Box b103 25 [u0, u1]] := hS
    refine el_nil ?_
    refine hQ126 _ _ _ ?_
    refine thn_n ?_
    refine cw_seq ?_
    refine cw_gen ?_
    intro Q139 hQ139
    refine cw_reg ?_
    refine el_pv (v := .agg #[v128, v129]) (pv_loada (cs := [v128, v129]) rfl rfl (boxc0 (hS.boxAt 0 rfl))) (by decide) ?_
    replace hF := ob hF
    obtain ⟨r140, hr140, hF⟩ := hF
    refine el_call goes12 (impl_FactorizedRowCount_ok (hS.rdAt (R := (sliceR intR 3)) 1 rfl) (hS.rdAt (R := (sliceR (pairR (sliceR intR 3) (sliceR intR 3)) 57)) 2 rfl) hr140) (congrArg List.toArray (mapc rfl rfl)) (by decide) ?_
    rintro _ w141 ⟨rfl, hx142⟩
    refine ⟨_, rfl, ?_⟩
    replace hS := hS.ext hx142
    refine el_pv (v := .int .i64 r140) (pv_assign rfl) (by decide) ?_
    refine el_nil ?_
    refine hQ139 _ _ _ ?_
    refine thn_n ?_
    refine cw_seq ?_
    refine cw_gen ?_
    intro Q143 hQ143
    refine cw_seq ?_
    refine cw_gen ?_
    intro Q144 hQ144
    refine cw_reg ?_
    refine el_pv (v := .int .i64 r140) (pv_move rfl) (by decide) ?_
    refine el_pv (v := .int .i64 r123) (pv_move rfl) (by decide) ?_
    refine el_pv (v := .bool (r140 != r123)) (pv_neq rfl rfl) (by decide) ?_
    refine el_nil ?_
    refine hQ144 _ _ _ ?_
    refine thn_n ?_
    replace hF := oif hF
    rcases hF with ⟨hb145, hF⟩ | ⟨hb145, hF⟩
    · refine cw_cond_t rfl hb145 ?_
      refine cw_seq ?_
      refine cw_gen ?_
      intro Q146 hQ146
      refine cw_reg ?_
      refine el_pv (v := .bool false) (pv_assign rfl) (by decide) ?_
      refine el_nil ?_
      refine hQ146 _ _ _ ?_
      refine thn_n ?_
      refine cw_ret ?_
      refine hQ143 _ _ _ ?_
      refine thn_r ?_
      refine fin1 rfl rfl ?_
      have hr := Option.some.inj hF
      exact ⟨congrArg (fun (r : Bool) => Ending.returned (.bool r)) hr, hS.below⟩
    · refine cw_cond_f rfl hb145 ?_
      refine cw_skip ?_
      refine hQ143 _ _ _ ?_
      refine thn_n ?_
      refine cw_seq ?_
      refine cw_gen ?_
      intro Q147 hQ147
      refine cw_seq ?_
      refine cw_gen ?_
      intro Q148 hQ148
      obtain ⟨C, hCd⟩ : ∃ C : World → Prop, ∀ w, C w ↔ ∃ G, Sat w0 w ([Box b135 30 [v128, v129], Box b103 25 [u0, u1], Own (sliceR intR 3) [v128] r127.1, Own (sliceR (pairR (sliceR intR 3) (sliceR intR 3)) 57) [v129] r127.2, Own (sliceR intR 3) [v117] r116.1, Own (sliceR (pairR (sliceR intR 3) (sliceR intR 3)) 57) [v118] r116.2] ++ G) := ⟨_, fun _ => Iff.rfl⟩
      refine cw_regb [0, 1, 2, 3, 4] C (by kernel_rfl) ?_
      intro w149 hx150
      replace hS := hS.ext hx150
      replace hS : Sat w0 w149 [Own (sliceR (pairR (sliceR intR 3) (sliceR intR 3)) 57) [v118] r116.2, Box b135 30 [v128, v129], Own (sliceR intR 3) [v128] r127.1, Own (sliceR (pairR (sliceR intR 3) (sliceR intR 3)) 57) [v129] r127.2, Own (sliceR intR 3) [v117] r116.1, Box b103 25 [u0, u1]] := hS.top 4 rfl
      replace hS : Sat w0 w149 [Own (sliceR intR 3) [v117] r116.1, Own (sliceR (pairR (sliceR intR 3) (sliceR intR 3)) 57) [v118] r116.2, Box b135 30 [v128, v129], Own (sliceR intR 3) [v128] r127.1, Own (sliceR (pairR (sliceR intR 3) (sliceR intR 3)) 57) [v129] r127.2, Box b103 25 [u0, u1]] := hS.top 4 rfl
      replace hS : Sat w0 w149 [Own (sliceR (pairR (sliceR intR 3) (sliceR intR 3)) 57) [v129] r127.2, Own (sliceR intR 3) [v117] r116.1, Own (sliceR (pairR (sliceR intR 3) (sliceR intR 3)) 57) [v118] r116.2, Box b135 30 [v128, v129], Own (sliceR intR 3) [v128] r127.1, Box b103 25 [u0, u1]] := hS.top 4 rfl
      replace hS : Sat w0 w149 [Own (sliceR intR 3) [v128] r127.1, Own (sliceR (pairR (sliceR intR 3) (sliceR intR 3)) 57) [v129] r127.2, Own (sliceR intR 3) [v117] r116.1, Own (sliceR (pairR (sliceR intR 3) (sliceR intR 3)) 57) [v118] r116.2, Box b135 30 [v128, v129], Box b103 25 [u0, u1]] := hS.top 4 rfl
      replace hS : Sat w0 w149 [Box b103 25 [u0, u1], Own (sliceR intR 3) [v128] r127.1, Own (sliceR (pairR (sliceR intR 3) (sliceR intR 3)) 57) [v129] r127.2, Own (sliceR intR 3) [v117] r116.1, Own (sliceR (pairR (sliceR intR 3) (sliceR intR 3)) 57) [v118] r116.2, Box b135 30 [v128, v129]] := hS.top 5 rfl
      replace hS : Sat w0 w149 [Box b135 30 [v128, v129], Box b103 25 [u0, u1], Own (sliceR intR 3) [v128] r127.1, Own (sliceR (pairR (sliceR intR 3) (sliceR intR 3)) 57) [v129] r127.2, Own (sliceR intR 3) [v117] r116.1, Own (sliceR (pairR (sliceR intR 3) (sliceR intR 3)) 57) [v118] r116.2] := hS.top 5 rfl
      have hC := (hCd _).2 ⟨_, hS⟩
      refine al_p (v := .agg #[v128, v129]) (by kernel_rfl) 0 rfl rfl (by decide) hC (by kernel_rfl) (by kernel_rfl) (sv_on rfl (fun w' hw' => by obtain ⟨_, hS⟩ := (hCd _).1 hw'; exact (pv_loada (cs := [v128, v129]) rfl rfl (boxc0 (hS.boxAt 0 rfl))))) ?_
      refine al_p (v := .agg #[u0, u1]) (by kernel_rfl) 1 rfl rfl (by decide) hC (by kernel_rfl) (by kernel_rfl) (sv_on rfl (fun w' hw' => by obtain ⟨_, hS⟩ := (hCd _).1 hw'; exact (pv_loada (cs := [u0, u1]) rfl rfl (boxc0 (hS.boxAt 1 rfl))))) ?_
      refine al_one 2 (by kernel_rfl) rfl ?_
      replace hF := ob hF
      obtain ⟨r151, hr151, hF⟩ := hF
      refine el_call goes11 (laws_toFactorization_ok (hS.up ha0) (hS.up ha1) hr151) (congrArg List.toArray (mapc rfl rfl)) (by decide) ?_
      rintro _ w156 ⟨v152, v153, rfl, hS'⟩
      refine ⟨_, rfl, ?_⟩
      have hx157 := hS'.below
      replace hS := hS.call2 hS'
      refine el_nil ?_
      replace hS : Sat w0 w156 [Own (sliceR (pairR (sliceR intR 3) (sliceR intR 3)) 57) [v118] r116.2, Own (sliceR intR 3) [v152] r151.1, Own (sliceR (pairR (sliceR intR 3) (sliceR intR 3)) 57) [v153] r151.2, Box b135 30 [v128, v129], Box b103 25 [u0, u1], Own (sliceR intR 3) [v128] r127.1, Own (sliceR (pairR (sliceR intR 3) (sliceR intR 3)) 57) [v129] r127.2, Own (sliceR intR 3) [v117] r116.1] := hS.top 7 rfl
      replace hS : Sat w0 w156 [Own (sliceR intR 3) [v117] r116.1, Own (sliceR (pairR (sliceR intR 3) (sliceR intR 3)) 57) [v118] r116.2, Own (sliceR intR 3) [v152] r151.1, Own (sliceR (pairR (sliceR intR 3) (sliceR intR 3)) 57) [v153] r151.2, Box b135 30 [v128, v129], Box b103 25 [u0, u1], Own (sliceR intR 3) [v128] r127.1, Own (sliceR (pairR (sliceR intR 3) (sliceR intR 3)) 57) [v129] r127.2] := hS.top 7 rfl
      replace hS : Sat w0 w156 [Own (sliceR (pairR (sliceR intR 3) (sliceR intR 3)) 57) [v129] r127.2, Own (sliceR intR 3) [v117] r116.1, Own (sliceR (pairR (sliceR intR 3) (sliceR intR 3)) 57) [v118] r116.2, Own (sliceR intR 3) [v152] r151.1, Own (sliceR (pairR (sliceR intR 3) (sliceR intR 3)) 57) [v153] r151.2, Box b135 30 [v128, v129], Box b103 25 [u0, u1], Own (sliceR intR 3) [v128] r127.1] := hS.top 7 rfl
      replace hS : Sat w0 w156 [Own (sliceR intR 3) [v128] r127.1, Own (sliceR (pairR (sliceR intR 3) (sliceR intR 3)) 57) [v129] r127.2, Own (sliceR intR 3) [v117] r116.1, Own (sliceR (pairR (sliceR intR 3) (sliceR intR 3)) 57) [v118] r116.2, Own (sliceR intR 3) [v152] r151.1, Own (sliceR (pairR (sliceR intR 3) (sliceR intR 3)) 57) [v153] r151.2, Box b135 30 [v128, v129], Box b103 25 [u0, u1]] := hS.top 7 rfl
      replace hS : Sat w0 w156 [Box b103 25 [u0, u1], Own (sliceR intR 3) [v128] r127.1, Own (sliceR (pairR (sliceR intR 3) (sliceR intR 3)) 57) [v129] r127.2, Own (sliceR intR 3) [v117] r116.1, Own (sliceR (pairR (sliceR intR 3) (sliceR intR 3)) 57) [v118] r116.2, Own (sliceR intR 3) [v152] r151.1, Own (sliceR (pairR (sliceR intR 3) (sliceR intR 3)) 57) [v153] r151.2, Box b135 30 [v128, v129]] := hS.top 7 rfl
      replace hS : Sat w0 w156 [Box b135 30 [v128, v129], Box b103 25 [u0, u1], Own (sliceR intR 3) [v128] r127.1, Own (sliceR (pairR (sliceR intR 3) (sliceR intR 3)) 57) [v129] r127.2, Own (sliceR intR 3) [v117] r116.1, Own (sliceR (pairR (sliceR intR 3) (sliceR intR 3)) 57) [v118] r116.2, Own (sliceR intR 3) [v152] r151.1, Own (sliceR (pairR (sliceR intR 3) (sliceR intR 3)) 57) [v153] r151.2] := hS.top 7 rfl
      have hC := (hCd _).2 ⟨_, hS⟩
      have hoc128 := oc (hS.rdAt (R := (sliceR intR 3)) 2 rfl)
      have hoc129 := oc (hS.rdAt (R := (sliceR (pairR (sliceR intR 3) (sliceR intR 3)) 57)) 3 rfl)
      have hoc117 := oc (hS.rdAt (R := (sliceR intR 3)) 4 rfl)
      have hoc118 := oc (hS.rdAt (R := (sliceR (pairR (sliceR intR 3) (sliceR intR 3)) 57)) 5 rfl)
      have hoc152 := oc (hS.rdAt (R := (sliceR intR 3)) 6 rfl)
      have hoc153 := oc (hS.rdAt (R := (sliceR (pairR (sliceR intR 3) (sliceR intR 3)) 57)) 7 rfl)
      refine ⟨fun _ => hC, ?_⟩
      refine al_one 3 (by kernel_rfl) rfl ?_
      replace hF := ob hF
      obtain ⟨r158, hr158, hF⟩ := hF
      refine el_call goes13 (laws_eqFactorization_ok (hS.rdAt (R := (sliceR intR 3)) 2 rfl) (hS.rdAt (R := (sliceR (pairR (sliceR intR 3) (sliceR intR 3)) 57)) 3 rfl) (hS.rdAt (R := (sliceR intR 3)) 6 rfl) (hS.rdAt (R := (sliceR (pairR (sliceR intR 3) (sliceR intR 3)) 57)) 7 rfl) hr158) (congrArg List.toArray (mapc rfl (mapc rfl rfl))) (by decide) ?_
      rintro _ w159 ⟨rfl, hx160⟩
      refine ⟨_, rfl, ?_⟩
      replace hS := hS.ext hx160
      refine el_nil ?_
      replace hS : Sat w0 w159 [Own (sliceR (pairR (sliceR intR 3) (sliceR intR 3)) 57) [v118] r116.2, Box b135 30 [v128, v129], Box b103 25 [u0, u1], Own (sliceR intR 3) [v128] r127.1, Own (sliceR (pairR (sliceR intR 3) (sliceR intR 3)) 57) [v129] r127.2, Own (sliceR intR 3) [v117] r116.1, Own (sliceR intR 3) [v152] r151.1, Own (sliceR (pairR (sliceR intR 3) (sliceR intR 3)) 57) [v153] r151.2] := hS.top 5 rfl
      replace hS : Sat w0 w159 [Own (sliceR intR 3) [v117] r116.1, Own (sliceR (pairR (sliceR intR 3) (sliceR intR 3)) 57) [v118] r116.2, Box b135 30 [v128, v129], Box b103 25 [u0, u1], Own (sliceR intR 3) [v128] r127.1, Own (sliceR (pairR (sliceR intR 3) (sliceR intR 3)) 57) [v129] r127.2, Own (sliceR intR 3) [v152] r151.1, Own (sliceR (pairR (sliceR intR 3) (sliceR intR 3)) 57) [v153] r151.2] := hS.top 5 rfl
      replace hS : Sat w0 w159 [Own (sliceR (pairR (sliceR intR 3) (sliceR intR 3)) 57) [v129] r127.2, Own (sliceR intR 3) [v117] r116.1, Own (sliceR (pairR (sliceR intR 3) (sliceR intR 3)) 57) [v118] r116.2, Box b135 30 [v128, v129], Box b103 25 [u0, u1], Own (sliceR intR 3) [v128] r127.1, Own (sliceR intR 3) [v152] r151.1, Own (sliceR (pairR (sliceR intR 3) (sliceR intR 3)) 57) [v153] r151.2] := hS.top 5 rfl
      replace hS : Sat w0 w159 [Own (sliceR intR 3) [v128] r127.1, Own (sliceR (pairR (sliceR intR 3) (sliceR intR 3)) 57) [v129] r127.2, Own (sliceR intR 3) [v117] r116.1, Own (sliceR (pairR (sliceR intR 3) (sliceR intR 3)) 57) [v118] r116.2, Box b135 30 [v128, v129], Box b103 25 [u0, u1], Own (sliceR intR 3) [v152] r151.1, Own (sliceR (pairR (sliceR intR 3) (sliceR intR 3)) 57) [v153] r151.2] := hS.top 5 rfl
      replace hS : Sat w0 w159 [Box b103 25 [u0, u1], Own (sliceR intR 3) [v128] r127.1, Own (sliceR (pairR (sliceR intR 3) (sliceR intR 3)) 57) [v129] r127.2, Own (sliceR intR 3) [v117] r116.1, Own (sliceR (pairR (sliceR intR 3) (sliceR intR 3)) 57) [v118] r116.2, Box b135 30 [v128, v129], Own (sliceR intR 3) [v152] r151.1, Own (sliceR (pairR (sliceR intR 3) (sliceR intR 3)) 57) [v153] r151.2] := hS.top 5 rfl
      replace hS : Sat w0 w159 [Box b135 30 [v128, v129], Box b103 25 [u0, u1], Own (sliceR intR 3) [v128] r127.1, Own (sliceR (pairR (sliceR intR 3) (sliceR intR 3)) 57) [v129] r127.2, Own (sliceR intR 3) [v117] r116.1, Own (sliceR (pairR (sliceR intR 3) (sliceR intR 3)) 57) [v118] r116.2, Own (sliceR intR 3) [v152] r151.1, Own (sliceR (pairR (sliceR intR 3) (sliceR intR 3)) 57) [v153] r151.2] := hS.top 5 rfl
      have hC := (hCd _).2 ⟨_, hS⟩
      refine ⟨fun _ => hC, ?_⟩
      refine al_p (v := .bool (!r158)) (by kernel_rfl) 4 rfl rfl (by decide) hC (by kernel_rfl) (by kernel_rfl) (sv_on rfl (fun w' hw' => by obtain ⟨_, hS⟩ := (hCd _).1 hw'; exact (pv_not rfl))) ?_
      refine al_nil (by kernel_rfl) ?_
      refine hQ148 _ _ _ ?_
      refine thn_n ?_
      replace hF := oif hF
      rcases hF with ⟨hb161, hF⟩ | ⟨hb161, hF⟩
      · refine cw_cond_f rfl (bnot_t hb161) ?_
        refine cw_skip ?_
        refine hQ147 _ _ _ ?_
        refine thn_n ?_
        refine cw_seq ?_
        refine cw_gen ?_
        intro Q162 hQ162
        refine cw_reg ?_
        refine el_pv (v := .bool true) (pv_assign rfl) (by decide) ?_
        refine el_nil ?_
        refine hQ162 _ _ _ ?_
        refine thn_n ?_
        refine cw_ret ?_
        refine fin1 rfl rfl ?_
        have hr := Option.some.inj hF
        exact ⟨congrArg (fun (r : Bool) => Ending.returned (.bool r)) hr, hS.below⟩
      · refine cw_cond_t rfl (bnot_f hb161) ?_
        refine cw_seq ?_
        refine cw_gen ?_
        intro Q163 hQ163
        refine cw_reg ?_
        refine el_pv (v := .bool false) (pv_assign rfl) (by decide) ?_
        refine el_nil ?_
        refine hQ163 _ _ _ ?_
        refine thn_n ?_
        refine cw_ret ?_
        refine hQ147 _ _ _ ?_
        refine thn_r ?_
        refine fin1 rfl rfl ?_
        have hr := Option.some.inj hF
        exact ⟨congrArg (fun (r : Bool) => Ending.returned (.bool r)) hr, hS.below⟩
set_option maxHeartbeats 4000000 in
theorem spec_FactorizedPrefixCount_ok {w0 : World} {u0 : Value} {a0 : List Int} {u1 : Value} {a1 : List (List Int × List Int)} {u2 : Value} {a2 : List Int} (ha0 : (sliceR intR 3).rd w0 [u0] a0) (ha1 : (sliceR (pairR (sliceR intR 3) (sliceR intR 3)) 57).rd w0 [u1] a1) (ha2 : (sliceR intR 3).rd w0 [u2] a2) {N : Nat} {r : Int} (hF : spec_FactorizedPrefixCount N a0 a1 a2 = some r) :
    Calls Try.prog 14 #[.agg #[u0, u1], u2] w0 fun e w' => e = .returned (.int .i64 r) ∧ Ext w0 w' := by
  unfold spec_FactorizedPrefixCount at hF
  refine calls_E Try.func14 rfl rfl (of_decide_eq_true rfl) ?_
  have hS := Sat.start w0
  refine cw_seq ?_
  refine cw_gen ?_
  intro Q101 hQ101
  refine cw_reg ?_
  refine el_box [u0, u1] rfl hS (by decide) ?_
  intro w102 b103 hS hx104
  refine el_pv (v := .int .i64 0) (pv_assign rfl) (by decide) ?_
  refine el_nil ?_
  refine hQ101 _ _ _ ?_
  refine thn_n ?_
  refine cw_seq ?_
  refine cw_gen ?_
  intro Q106 hQ106
  refine cw_seq ?_
  refine cw_gen ?_
  intro Q107 hQ107
  refine cw_reg ?_
  refine el_pv (v := .agg #[u0, u1]) (pv_loada (cs := [u0, u1]) rfl rfl (boxc0 (hS.boxAt 0 rfl))) (by decide) ?_
  replace hF := ob hF
  obtain ⟨r108, hr108, hF⟩ := hF
  refine el_call goes34 (spec_IsValidFactorization_ok (hS.up ha0) (hS.up ha1) hr108) (congrArg List.toArray (mapc rfl rfl)) (by decide) ?_
  rintro _ w109 ⟨rfl, hx110⟩
  refine ⟨_, rfl, ?_⟩
  replace hS := hS.ext hx110
  refine el_pv (v := .bool (!r108)) (pv_not rfl) (by decide) ?_
  refine el_pv (v := .bool (!r108)) (pv_move rfl) (by decide) ?_
  replace hF := oif hF
  rcases hF with ⟨hb111, hF⟩ | ⟨hb111, hF⟩
  · refine el_on rfl (bnot_t hb111) ?_
    refine el_pv (v := u2) (pv_move rfl) (by decide) ?_
    refine el_on rfl (bnot_t hb111) ?_
    refine el_pv (v := .int .i64 (a2.length : Int)) (pv_len rfl ha2) (by decide) ?_
    refine el_on rfl (bnot_t hb111) ?_
    refine el_pv (v := .pointer (some ⟨b103, 0 + 0, none⟩)) (pv_fieldAddr rfl) (by decide) ?_
    refine el_on rfl (bnot_t hb111) ?_
    refine el_pv (v := u0) (pv_loadc rfl ((hS.boxAt 0 rfl) 0 _ rfl)) (by decide) ?_
    refine el_on rfl (bnot_t hb111) ?_
    refine el_pv (v := .int .i64 (a0.length : Int)) (pv_len rfl ha0) (by decide) ?_
    refine el_on rfl (bnot_t hb111) ?_
    refine el_pv (v := .bool (decide ((a0.length : Int) < (a2.length : Int)))) (pv_gtr rfl rfl) (by decide) ?_
    refine el_pv (v := .bool (decide ((a0.length : Int) < (a2.length : Int)))) (pv_pick_f rfl (bnot_t hb111) rfl) (by decide) ?_
    refine el_nil ?_
    refine hQ107 _ _ _ ?_
    refine thn_n ?_
    replace hF := oif hF
    rcases hF with ⟨hb112, hF⟩ | ⟨hb112, hF⟩
    · refine cw_cond_t rfl hb112 ?_
      refine cw_seq ?_
      refine cw_gen ?_
      intro Q113 hQ113
      refine cw_reg ?_
      refine el_pv (v := .int .i64 0) (pv_assign rfl) (by decide) ?_
      refine el_nil ?_
      refine hQ113 _ _ _ ?_
      refine thn_n ?_
      refine cw_ret ?_
      refine hQ106 _ _ _ ?_
      refine thn_r ?_
      refine fin1 rfl rfl ?_
      have hr := Option.some.inj hF
      exact ⟨congrArg (fun (r : Int) => Ending.returned (.int .i64 r)) hr, hS.below⟩
    · refine cw_cond_f rfl hb112 ?_
      refine cw_skip ?_
      refine hQ106 _ _ _ ?_
      refine thn_n ?_
      refine cw_seq ?_
      refine cw_gen ?_
      intro Q114 hQ114
      refine cw_reg ?_
      refine el_pv (v := .agg #[u0, u1]) (pv_loada (cs := [u0, u1]) rfl rfl (boxc0 (hS.boxAt 0 rfl))) (by decide) ?_
      replace hF := ob hF
      obtain ⟨r115, hr115, hF⟩ := hF
      refine el_call goes35 (spec_l23Counts_ok (hS.up ha0) (hS.up ha1) hr115) (congrArg List.toArray (mapc rfl rfl)) (by decide) ?_
      rintro _ w118 ⟨v116, rfl, hS'⟩
      refine ⟨_, rfl, ?_⟩
      have hx119 := hS'.below
      replace hS := hS.call1 hS'
      refine el_pv (v := v116) (pv_assign rfl) (by decide) ?_
      refine el_nil ?_
      refine hQ114 _ _ _ ?_
      refine thn_n ?_
      refine cw_seq ?_
      refine cw_gen ?_
      intro Q120 hQ120
      refine cw_reg ?_
      refine el_pv (v := .pointer (some ⟨b103, 0 + 1, none⟩)) (pv_fieldAddr rfl) (by decide) ?_
      refine el_pv (v := u1) (pv_loadc rfl ((hS.boxAt 1 rfl) 1 _ rfl)) (by decide) ?_
      refine el_pv (v := .int .i64 (a1.length : Int)) (pv_len rfl ha1) (by decide) ?_
      replace hF := ob hF
      obtain ⟨x121, hx121, hF⟩ := hF
      refine el_pv (v := .int .i64 x121) (pv_sub rfl rfl hx121) (by decide) ?_
      refine el_pv (v := .int .i64 x121) (pv_assign rfl) (by decide) ?_
      refine el_nil ?_
      refine hQ120 _ _ _ ?_
      refine thn_n ?_
      refine cw_seq ?_
      refine cw_gen ?_
      intro Q122 hQ122
      refine cw_seq ?_
      refine cw_gen ?_
      intro Q123 hQ123
      refine cw_reg ?_
      refine el_pv (v := .int .i64 0) (pv_assign rfl) (by decide) ?_
      refine el_nil ?_
      refine hQ123 _ _ _ ?_
      refine thn_n ?_
      refine cw_block ?_
      refine cw_gen ?_
      intro Q124 hQ124
      obtain ⟨s125, hL, hK126⟩ := ob hF
      refine cw_loopS (fun k e w => ∃ (x127 : Int), ∃ (x128 : Int), e 1 = u2 ∧ e 2 = .pointer (some ⟨b103, 0, none⟩) ∧ e 5 = v116 ∧ e 6 = .int .i64 x127 ∧ e 7 = .int .i64 x128 ∧ Sat w0 w [Own (sliceR intR 3) [v116] r115, Box b103 30 [u0, u1]] ∧ spec_FactorizedPrefixCount_L1 N k a2 a0 a1 r115 x127 x128 = some s125) N ?_ ?_ ?_
      · exact ⟨x121, 0, rfl, rfl, rfl, rfl, rfl, hS, hL⟩
      · rintro e w ⟨_, _, _, _, _, _, _, _, hz⟩; exact nomatch (show none = some _ from hz)
      · rintro k e135 w134 ⟨x127, x128, he129, he130, he131, he132, he133, hS, hF⟩
        refine cw_gen ?_
        intro Q136 hQ136
        refine cw_seq ?_
        refine cw_gen ?_
        intro Q137 hQ137
        refine cw_seq ?_
        refine cw_gen ?_
        intro Q138 hQ138
        refine cw_reg ?_
        refine el_pv (v := .int .i64 x128) (pv_move he133) (by decide) ?_
        refine el_pv (v := u2) (pv_move he129) (by decide) ?_
        refine el_pv (v := .int .i64 (a2.length : Int)) (pv_len rfl ha2) (by decide) ?_
        refine el_pv (v := .bool (decide (x128 < (a2.length : Int)))) (pv_lss rfl rfl) (by decide) ?_
        refine el_nil ?_
        refine hQ138 _ _ _ ?_
        refine thn_n ?_
        replace hF := oif hF
        rcases hF with ⟨hb139, hF⟩ | ⟨hb139, hF⟩
        · refine cw_cond_t rfl hb139 ?_
          refine cw_skip ?_
          refine hQ137 _ _ _ ?_
          refine thn_n ?_
          refine cw_seq ?_
          refine cw_gen ?_
          intro Q140 hQ140
          refine cw_block ?_
          refine cw_gen ?_
          intro Q141 hQ141
          refine cw_seq ?_
          refine cw_gen ?_
          intro Q142 hQ142
          refine cw_regq (by kernel_rfl) (by kernel_rfl) ?_
          refine ql_pv (v := .pointer (some ⟨b103, 0 + 1, none⟩)) (pv_fieldAddr he130) (by decide) ?_
          refine ql_pv (v := u1) (pv_loadc rfl ((hS.boxAt 1 rfl) 1 _ rfl)) (by decide) ?_
          refine ql_pv (v := .int .i64 x127) (pv_move he132) (by decide) ?_
          replace hF := ob hF
          obtain ⟨x143, hx143, hF⟩ := hF
          refine ql_index (wA := w0) rfl ha1 rfl (by decide) rfl hx143 (by decide) ?_
          intro b144 of145 c146 hr147 hm148
          obtain ⟨_, _, rfl, hr149, hr150⟩ := hr147
          obtain ⟨v151, rfl⟩ := slice_one hr149
          obtain ⟨v152, rfl⟩ := slice_one hr150
          refine ql_pv (v := .pointer (some ⟨b144, of145 + 0, none⟩)) (pv_fieldAddr rfl) (by decide) ?_
          refine ql_pv (v := v151) (pv_loadc rfl ((cells_up hS.below hm148) 0 _ rfl)) (by decide) ?_
          refine ql_pv (v := u2) (pv_move he129) (by decide) ?_
          refine ql_pv (v := .int .i64 x128) (pv_move he133) (by decide) ?_
          replace hF := ob hF
          obtain ⟨x153, hx153, hF⟩ := hF
          refine ql_index (wA := w0) rfl ha2 rfl (by decide) rfl hx153 (by decide) ?_
          intro b154 of155 c156 hr157 hm158
          obtain rfl := hr157
          refine ql_pv (v := .int .i64 x153) (pv_loadc rfl ((cells_up hS.below hm158) 0 _ rfl)) (by decide) ?_
          replace hF := ob hF
          obtain ⟨r159, hr159, hF⟩ := hF
          refine ql_call (.int .i64 r159) goes40 (fun w' hw' => spec_l7Find_ok (rd_up (hS.up hr149) hw') hr159) (congrArg List.toArray (mapc rfl (mapc rfl rfl))) (by decide) ?_
          refine ql_pv (v := .int .i64 r159) (pv_assign rfl) (by decide) ?_
          refine ql_nil ?_
          intro w160 hx161
          replace hS := hS.ext hx161
          refine hQ142 _ _ _ ?_
          refine thn_n ?_
          refine cw_seq ?_
          refine cw_gen ?_
          intro Q162 hQ162
          refine cw_seq ?_
          refine cw_gen ?_
          intro Q163 hQ163
          refine cw_reg ?_
          refine el_pv (v := .int .i64 r159) (pv_move rfl) (by decide) ?_
          refine el_pv (v := .bool (decide (r159 < 0))) (pv_lss rfl rfl) (by decide) ?_
          refine el_nil ?_
          refine hQ163 _ _ _ ?_
          refine thn_n ?_
          replace hF := oif hF
          rcases hF with ⟨hb164, hF⟩ | ⟨hb164, hF⟩
          · refine cw_cond_t rfl hb164 ?_
            refine cw_seq ?_
            refine cw_gen ?_
            intro Q165 hQ165
            refine cw_reg ?_
            refine el_pv (v := .int .i64 0) (pv_assign rfl) (by decide) ?_
            refine el_nil ?_
            refine hQ165 _ _ _ ?_
            refine thn_n ?_
            refine cw_ret ?_
            refine hQ162 _ _ _ ?_
            refine thn_r ?_
            refine hQ141 _ _ _ ?_
            refine inb_r ?_
            refine hQ140 _ _ _ ?_
            refine thn_r ?_
            refine hQ136 _ _ _ ?_
            refine thn_r ?_
            refine hQ124 _ _ _ ?_
            refine inb_r ?_
            refine hQ122 _ _ _ ?_
            refine thn_r ?_
            replace hF := exL hF hK126
            refine fin1 rfl rfl ?_
            have hr := Option.some.inj hF
            exact ⟨congrArg (fun (r : Int) => Ending.returned (.int .i64 r)) hr, hS.below⟩
          · refine cw_cond_f rfl hb164 ?_
            refine cw_skip ?_
            refine hQ162 _ _ _ ?_
            refine thn_n ?_
            refine cw_reg ?_
            refine el_pv (v := .pointer (some ⟨b103, 0 + 1, none⟩)) (pv_fieldAddr he130) (by decide) ?_
            refine el_pv (v := u1) (pv_loadc rfl ((hS.boxAt 1 rfl) 1 _ rfl)) (by decide) ?_
            refine el_pv (v := .int .i64 x127) (pv_move he132) (by decide) ?_
            replace hF := ob hF
            obtain ⟨x166, hx166, hF⟩ := hF
            refine el_index (wA := w0) rfl ha1 rfl (by decide) rfl hx166 (by decide) ?_
            intro b167 of168 c169 hr170 hm171
            obtain ⟨_, _, rfl, hr172, hr173⟩ := hr170
            obtain ⟨v174, rfl⟩ := slice_one hr172
            obtain ⟨v175, rfl⟩ := slice_one hr173
            refine el_pv (v := .pointer (some ⟨b167, of168 + 1, none⟩)) (pv_fieldAddr rfl) (by decide) ?_
            refine el_pv (v := v175) (pv_loadc rfl ((cells_up hS.below hm171) 1 _ rfl)) (by decide) ?_
            refine el_pv (v := .int .i64 r159) (pv_move rfl) (by decide) ?_
            replace hF := ob hF
            obtain ⟨x176, hx176, hF⟩ := hF
            refine el_index (wA := w0) rfl hr173 rfl (by decide) rfl hx176 (by decide) ?_
            intro b177 of178 c179 hr180 hm181
            obtain rfl := hr180
            refine el_pv (v := .int .i64 x176) (pv_loadc rfl ((cells_up hS.below hm181) 0 _ rfl)) (by decide) ?_
            refine el_pv (v := .int .i64 x176) (pv_assign rfl) (by decide) ?_
            refine el_nil ?_
            refine hQ141 _ _ _ ?_
            refine inb_n ?_
            refine hQ140 _ _ _ ?_
            refine thn_n ?_
            refine cw_reg ?_
            refine el_pv (v := .int .i64 x128) (pv_move he133) (by decide) ?_
            replace hF := ob hF
            obtain ⟨x182, hx182, hF⟩ := hF
            refine el_pv (v := .int .i64 x182) (pv_add rfl rfl hx182) (by decide) ?_
            refine el_pv (v := .int .i64 x182) (pv_assign rfl) (by decide) ?_
            refine el_nil ?_
            refine hQ136 _ _ _ ?_
            refine thn_n ?_
            replace hS : Sat w0 w160 [Box b103 30 [u0, u1], Own (sliceR intR 3) [v116] r115] := hS.top 1 rfl
            replace hS : Sat w0 w160 [Own (sliceR intR 3) [v116] r115, Box b103 30 [u0, u1]] := hS.top 1 rfl
            replace hS := hS.keep 2
            exact ⟨x176, x182, he129, he130, he131, rfl, rfl, hS, hF⟩
        · refine cw_cond_f rfl hb139 ?_
          refine cw_exit ?_
          refine hQ137 _ _ _ ?_
          refine thn_x ?_
          refine hQ136 _ _ _ ?_
          refine thn_x ?_
          replace hF := exA hF hK126
          refine hQ124 _ _ _ ?_
          refine inb_s ?_
          refine hQ122 _ _ _ ?_
          refine thn_n ?_
          refine cw_seq ?_
          refine cw_gen ?_
          intro Q183 hQ183
          refine cw_reg ?_
          refine el_pv (v := v116) (pv_move he131) (by decide) ?_
          refine el_pv (v := .int .i64 x127) (pv_move he132) (by decide) ?_
          replace hF := ob hF
          obtain ⟨x184, hx184, hF⟩ := hF
          obtain ⟨g185, cap186, hv187⟩ := ownShape 0 hS rfl hx184
          refine el_pv (v := .pointer (some ⟨g185, x127.toNat * 1, none⟩)) (pv_indexF (v := v116) rfl hv187 rfl hx184) (by decide) ?_
          refine el_pv (v := .int .i64 x184) (pv_loadc rfl (hS.ownCell 0 rfl hv187 hx184)) (by decide) ?_
          refine el_pv (v := .int .i64 x184) (pv_assign rfl) (by decide) ?_
          refine el_nil ?_
          refine hQ183 _ _ _ ?_
          refine thn_n ?_
          refine cw_ret ?_
          refine fin1 rfl rfl ?_
          have hr := Option.some.inj hF
          exact ⟨congrArg (fun (r : Int) => Ending.returned (.int .i64 r)) hr, hS.below⟩
  · refine el_off rfl (bnot_f hb111) rfl (by decide) ?_
    refine el_off rfl (bnot_f hb111) rfl (by decide) ?_
    refine el_off rfl (bnot_f hb111) rfl (by decide) ?_
    refine el_off rfl (bnot_f hb111) rfl (by decide) ?_
    refine el_off rfl (bnot_f hb111) rfl (by decide) ?_
    refine el_off rfl (bnot_f hb111) rfl (by decide) ?_
    refine el_pv (v := .bool true) (pv_pick_t rfl (bnot_f hb111) rfl) (by decide) ?_
    refine el_nil ?_
    refine hQ107 _ _ _ ?_
    refine thn_n ?_
    refine cw_cond_t rfl rfl ?_
    refine cw_seq ?_
    refine cw_gen ?_
    intro Q188 hQ188
    refine cw_reg ?_
    refine el_pv (v := .int .i64 0) (pv_assign rfl) (by decide) ?_
    refine el_nil ?_
    refine hQ188 _ _ _ ?_
    refine thn_n ?_
    refine cw_ret ?_
    refine hQ106 _ _ _ ?_
    refine thn_r ?_
    refine fin1 rfl rfl ?_
    have hr := Option.some.inj hF
    exact ⟨congrArg (fun (r : Int) => Ending.returned (.int .i64 r)) hr, hS.below⟩
end Go.Proofs.Ytbjfbfjacchjiaa
