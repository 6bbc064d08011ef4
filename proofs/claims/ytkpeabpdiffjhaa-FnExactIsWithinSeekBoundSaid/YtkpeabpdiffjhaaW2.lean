/- The walks through functions of the program: each hands back what it comes to. No condition but that it comes to something. -/
import Derived.Test.YtkpeabpdiffjhaaW1
import Derived.Test.YtkpeabpdiffjhaaW2D
namespace Go.Proofs.Ytkpeabpdiffjhaa
open Go.RowKit
set_option maxRecDepth 100000
set_option maxHeartbeats 4000000 in
theorem laws_eqAtomS_ok {w0 : World} {u0 : Value} {a0 : List (ByteArray × List Int)} {u1 : Value} {a1 : List (ByteArray × List Int)} (ha0 : (sliceR (pairR strR (sliceR intR 3)) 96).rd w0 [u0] a0) (ha1 : (sliceR (pairR strR (sliceR intR 3)) 96).rd w0 [u1] a1) {N : Nat} {r : Bool} (hF : laws_eqAtomS N a0 a1 = some r) :
    Calls Try.prog 42 #[u0, u1] w0 fun e w' => e = .returned (.bool r) ∧ Ext w0 w' := by
  unfold laws_eqAtomS at hF
  refine calls_E Try.func42 rfl rfl (of_decide_eq_true rfl) ?_
  have hS := Sat.start w0
  refine cw_seq ?_
  refine cw_gen ?_
  intro Q101 hQ101
  refine cw_reg ?_
  refine el_pv (v := .bool false) (pv_assign rfl) (by decide) ?_
  refine el_nil ?_
  refine hQ101 _ _ _ ?_
  refine thn_n ?_
  refine cw_seq ?_
  refine cw_gen ?_
  intro Q102 hQ102
  refine cw_seq ?_
  refine cw_gen ?_
  intro Q103 hQ103
  refine cw_reg ?_
  refine el_pv (v := u0) (pv_move rfl) (by decide) ?_
  refine el_pv (v := .int .i64 (a0.length : Int)) (pv_len rfl ha0) (by decide) ?_
  refine el_pv (v := u1) (pv_move rfl) (by decide) ?_
  refine el_pv (v := .int .i64 (a1.length : Int)) (pv_len rfl ha1) (by decide) ?_
  refine el_pv (v := .bool ((a0.length : Int) != (a1.length : Int))) (pv_neq rfl rfl) (by decide) ?_
  refine el_nil ?_
  refine hQ103 _ _ _ ?_
  refine thn_n ?_
  replace hF := oif hF
  rcases hF with ⟨hb104, hF⟩ | ⟨hb104, hF⟩
  · refine cw_cond_t rfl hb104 ?_
    refine cw_seq ?_
    refine cw_gen ?_
    intro Q105 hQ105
    refine cw_reg ?_
    refine el_pv (v := .bool false) (pv_assign rfl) (by decide) ?_
    refine el_nil ?_
    refine hQ105 _ _ _ ?_
    refine thn_n ?_
    refine cw_ret ?_
    refine hQ102 _ _ _ ?_
    refine thn_r ?_
    refine fin1 rfl rfl ?_
    have hr := Option.some.inj hF
    exact ⟨congrArg (fun (r : Bool) => Ending.returned (.bool r)) hr, hS.below⟩
  · refine cw_cond_f rfl hb104 ?_
    refine cw_skip ?_
    refine hQ102 _ _ _ ?_
    refine thn_n ?_
    refine cw_seq ?_
    refine cw_gen ?_
    intro Q106 hQ106
    refine cw_seq ?_
    refine cw_gen ?_
    intro Q107 hQ107
    refine cw_reg ?_
    refine el_pv (v := .int .i64 0) (pv_assign rfl) (by decide) ?_
    refine el_nil ?_
    refine hQ107 _ _ _ ?_
    refine thn_n ?_
    refine cw_block ?_
    refine cw_gen ?_
    intro Q108 hQ108
    obtain ⟨s109, hL, hK110⟩ := ob hF
    refine cw_loopS (fun k e w => ∃ (x111 : Int), e 0 = u0 ∧ e 1 = u1 ∧ e 5 = .int .i64 x111 ∧ Sat w0 w [] ∧ laws_eqAtomS_L1 N k a0 a1 x111 = some s109) N ?_ ?_ ?_
    · exact ⟨0, rfl, rfl, rfl, hS, hL⟩
    · rintro e w ⟨_, _, _, _, _, hz⟩; exact nomatch (show none = some _ from hz)
    · rintro k e116 w115 ⟨x111, he112, he113, he114, hS, hF⟩
      refine cw_gen ?_
      intro Q117 hQ117
      refine cw_seq ?_
      refine cw_gen ?_
      intro Q118 hQ118
      refine cw_seq ?_
      refine cw_gen ?_
      intro Q119 hQ119
      refine cw_reg ?_
      refine el_pv (v := .int .i64 x111) (pv_move he114) (by decide) ?_
      refine el_pv (v := u0) (pv_move he112) (by decide) ?_
      refine el_pv (v := .int .i64 (a0.length : Int)) (pv_len rfl ha0) (by decide) ?_
      refine el_pv (v := .bool (decide (x111 < (a0.length : Int)))) (pv_lss rfl rfl) (by decide) ?_
      refine el_nil ?_
      refine hQ119 _ _ _ ?_
      refine thn_n ?_
      replace hF := oif hF
      rcases hF with ⟨hb120, hF⟩ | ⟨hb120, hF⟩
      · refine cw_cond_t rfl hb120 ?_
        refine cw_skip ?_
        refine hQ118 _ _ _ ?_
        refine thn_n ?_
        refine cw_seq ?_
        refine cw_gen ?_
        intro Q121 hQ121
        refine cw_block ?_
        refine cw_gen ?_
        intro Q122 hQ122
        refine cw_seq ?_
        refine cw_gen ?_
        intro Q123 hQ123
        refine cw_regq (by kernel_rfl) (by kernel_rfl) ?_
        refine ql_pv (v := u0) (pv_move he112) (by decide) ?_
        refine ql_pv (v := .int .i64 x111) (pv_move he114) (by decide) ?_
        replace hF := ob hF
        obtain ⟨x124, hx124, hF⟩ := hF
        refine ql_index (wA := w0) rfl ha0 rfl (by decide) rfl hx124 (by decide) ?_
        intro b125 of126 c127 hr128 hm129
        obtain ⟨_, _, rfl, hr130, hr131⟩ := hr128
        obtain ⟨rfl, hz132⟩ := hr130
        obtain ⟨v133, rfl⟩ := slice_one hr131
        refine ql_pv (v := .agg #[.string x124.1, v133]) (pv_loada (cs := [.string x124.1, v133]) rfl rfl (cells_up hS.below hm129)) (by decide) ?_
        refine ql_pv (v := u1) (pv_move he113) (by decide) ?_
        refine ql_pv (v := .int .i64 x111) (pv_move he114) (by decide) ?_
        replace hF := ob hF
        obtain ⟨x134, hx134, hF⟩ := hF
        refine ql_index (wA := w0) rfl ha1 rfl (by decide) rfl hx134 (by decide) ?_
        intro b135 of136 c137 hr138 hm139
        obtain ⟨_, _, rfl, hr140, hr141⟩ := hr138
        obtain ⟨rfl, hz142⟩ := hr140
        obtain ⟨v143, rfl⟩ := slice_one hr141
        refine ql_pv (v := .agg #[.string x134.1, v143]) (pv_loada (cs := [.string x134.1, v143]) rfl rfl (cells_up hS.below hm139)) (by decide) ?_
        replace hF := ob hF
        obtain ⟨r144, hr144, hF⟩ := hF
        refine ql_call (.bool r144) goes83 (fun w' hw' => laws_eqAtom_ok hz132 (rd_up (hS.up hr131) hw') hz142 (rd_up (hS.up hr141) hw') hr144) (congrArg List.toArray (mapc rfl (mapc rfl rfl))) (by decide) ?_
        refine ql_pv (v := .bool (!r144)) (pv_not rfl) (by decide) ?_
        refine ql_nil ?_
        intro w145 hx146
        replace hS := hS.ext hx146
        refine hQ123 _ _ _ ?_
        refine thn_n ?_
        replace hF := oif hF
        rcases hF with ⟨hb147, hF⟩ | ⟨hb147, hF⟩
        · refine cw_cond_f rfl (bnot_t hb147) ?_
          refine cw_skip ?_
          refine hQ122 _ _ _ ?_
          refine inb_n ?_
          refine hQ121 _ _ _ ?_
          refine thn_n ?_
          refine cw_reg ?_
          refine el_pv (v := .int .i64 x111) (pv_move he114) (by decide) ?_
          replace hF := ob hF
          obtain ⟨x148, hx148, hF⟩ := hF
          refine el_pv (v := .int .i64 x148) (pv_add rfl rfl hx148) (by decide) ?_
          refine el_pv (v := .int .i64 x148) (pv_assign rfl) (by decide) ?_
          refine el_nil ?_
          refine hQ117 _ _ _ ?_
          refine thn_n ?_
          replace hS := hS.keep 0
          exact ⟨x148, he112, he113, rfl, hS, hF⟩
        · refine cw_cond_t rfl (bnot_f hb147) ?_
          refine cw_seq ?_
          refine cw_gen ?_
          intro Q149 hQ149
          refine cw_reg ?_
          refine el_pv (v := .bool false) (pv_assign rfl) (by decide) ?_
          refine el_nil ?_
          refine hQ149 _ _ _ ?_
          refine thn_n ?_
          refine cw_ret ?_
          refine hQ122 _ _ _ ?_
          refine inb_r ?_
          refine hQ121 _ _ _ ?_
          refine thn_r ?_
          refine hQ117 _ _ _ ?_
          refine thn_r ?_
          refine hQ108 _ _ _ ?_
          refine inb_r ?_
          refine hQ106 _ _ _ ?_
          refine thn_r ?_
          replace hF := exL hF hK110
          refine fin1 rfl rfl ?_
          have hr := Option.some.inj hF
          exact ⟨congrArg (fun (r : Bool) => Ending.returned (.bool r)) hr, hS.below⟩
      · refine cw_cond_f rfl hb120 ?_
        refine cw_exit ?_
        refine hQ118 _ _ _ ?_
        refine thn_x ?_
        refine hQ117 _ _ _ ?_
        refine thn_x ?_
        replace hF := exA hF hK110
        refine hQ108 _ _ _ ?_
        refine inb_s ?_
        refine hQ106 _ _ _ ?_
        refine thn_n ?_
        refine cw_seq ?_
        refine cw_gen ?_
        intro Q150 hQ150
        refine cw_reg ?_
        refine el_pv (v := .bool true) (pv_assign rfl) (by decide) ?_
        refine el_nil ?_
        refine hQ150 _ _ _ ?_
        refine thn_n ?_
        refine cw_ret ?_
        refine fin1 rfl rfl ?_
        have hr := Option.some.inj hF
        exact ⟨congrArg (fun (r : Bool) => Ending.returned (.bool r)) hr, hS.below⟩
set_option maxHeartbeats 4000000 in
theorem laws_eqQuery_ok {w0 : World} {a0 : Int} {u1 : Value} {a1 : List (ByteArray × List Int)} {u2 : Value} {a2 : List Int} {a3 : Int} {u4 : Value} {a4 : List (ByteArray × List Int)} {u5 : Value} {a5 : List Int} (ha1 : (sliceR (pairR strR (sliceR intR 3)) 96).rd w0 [u1] a1) (ha2 : (sliceR intR 3).rd w0 [u2] a2) (ha4 : (sliceR (pairR strR (sliceR intR 3)) 96).rd w0 [u4] a4) (ha5 : (sliceR intR 3).rd w0 [u5] a5) {N : Nat} {r : Bool} (hF : laws_eqQuery N a0 a1 a2 a3 a4 a5 = some r) :
    Calls Try.prog 11 #[.agg #[.int .i64 a0, u1, u2], .agg #[.int .i64 a3, u4, u5]] w0 fun e w' => e = .returned (.bool r) ∧ Ext w0 w' := by
  unfold laws_eqQuery at hF
  refine calls_E Try.func11 rfl rfl (of_decide_eq_true rfl) ?_
  have hS := Sat.start w0
  refine cw_seq ?_
  refine cw_gen ?_
  intro Q101 hQ101
  refine cw_reg ?_
  refine el_box [.int .i64 a0, u1, u2] rfl hS (by decide) ?_
  intro w102 b103 hS hx104
  refine el_box [.int .i64 a3, u4, u5] rfl hS (by decide) ?_
  intro w106 b107 hS hx108
  refine el_pv (v := .bool false) (pv_assign rfl) (by decide) ?_
  refine el_nil ?_
  refine hQ101 _ _ _ ?_
  refine thn_n ?_
  refine cw_seq ?_
  refine cw_gen ?_
  intro Q110 hQ110
  refine cw_seq ?_
  refine cw_gen ?_
  intro Q111 hQ111
  refine cw_reg ?_
  refine el_pv (v := .pointer (some ⟨b103, 0 + 0, none⟩)) (pv_fieldAddr rfl) (by decide) ?_
  refine el_pv (v := .int .i64 a0) (pv_loadc rfl ((hS.boxAt 1 rfl) 0 _ rfl)) (by decide) ?_
  refine el_pv (v := .pointer (some ⟨b107, 0 + 0, none⟩)) (pv_fieldAddr rfl) (by decide) ?_
  refine el_pv (v := .int .i64 a3) (pv_loadc rfl ((hS.boxAt 0 rfl) 0 _ rfl)) (by decide) ?_
  refine el_pv (v := .bool (a0 != a3)) (pv_neq rfl rfl) (by decide) ?_
  refine el_nil ?_
  refine hQ111 _ _ _ ?_
  refine thn_n ?_
  replace hF := oif hF
  rcases hF with ⟨hb112, hF⟩ | ⟨hb112, hF⟩
  · refine cw_cond_t rfl hb112 ?_
    refine cw_seq ?_
    refine cw_gen ?_
    intro Q113 hQ113
    replace hS : Sat w0 w106 [] := hS.rems 2 [0, 1] rfl
    refine cw_reg ?_
    refine el_pv (v := .bool false) (pv_assign rfl) (by decide) ?_
    refine el_nil ?_
    refine hQ113 _ _ _ ?_
    refine thn_n ?_
    refine cw_ret ?_
    refine hQ110 _ _ _ ?_
    refine thn_r ?_
    refine fin1 rfl rfl ?_
    have hr := Option.some.inj hF
    exact ⟨congrArg (fun (r : Bool) => Ending.returned (.bool r)) hr, hS.below⟩
  · refine cw_cond_f rfl hb112 ?_
    refine cw_skip ?_
    refine hQ110 _ _ _ ?_
    refine thn_n ?_
    refine cw_seq ?_
    refine cw_gen ?_
    intro Q114 hQ114
    refine cw_seq ?_
    refine cw_gen ?_
    intro Q115 hQ115
    refine cw_reg ?_
    refine el_pv (v := .pointer (some ⟨b103, 0 + 1, none⟩)) (pv_fieldAddr rfl) (by decide) ?_
    refine el_pv (v := u1) (pv_loadc rfl ((hS.boxAt 1 rfl) 1 _ rfl)) (by decide) ?_
    refine el_pv (v := .pointer (some ⟨b107, 0 + 1, none⟩)) (pv_fieldAddr rfl) (by decide) ?_
    refine el_pv (v := u4) (pv_loadc rfl ((hS.boxAt 0 rfl) 1 _ rfl)) (by decide) ?_
    replace hF := ob hF
    obtain ⟨r116, hr116, hF⟩ := hF
    refine el_call goes42 (laws_eqAtomS_ok (hS.up ha1) (hS.up ha4) hr116) (congrArg List.toArray (mapc rfl (mapc rfl rfl))) (by decide) ?_
    rintro _ w117 ⟨rfl, hx118⟩
    refine ⟨_, rfl, ?_⟩
    replace hS := hS.ext hx118
    refine el_pv (v := .bool (!r116)) (pv_not rfl) (by decide) ?_
    refine el_nil ?_
    refine hQ115 _ _ _ ?_
    refine thn_n ?_
    replace hF := oif hF
    rcases hF with ⟨hb119, hF⟩ | ⟨hb119, hF⟩
    · refine cw_cond_f rfl (bnot_t hb119) ?_
      refine cw_skip ?_
      refine hQ114 _ _ _ ?_
      refine thn_n ?_
      refine cw_seq ?_
      refine cw_gen ?_
      intro Q120 hQ120
      refine cw_seq ?_
      refine cw_gen ?_
      intro Q121 hQ121
      refine cw_reg ?_
      refine el_pv (v := .pointer (some ⟨b103, 0 + 2, none⟩)) (pv_fieldAddr rfl) (by decide) ?_
      refine el_pv (v := u2) (pv_loadc rfl ((hS.boxAt 1 rfl) 2 _ rfl)) (by decide) ?_
      refine el_pv (v := .pointer (some ⟨b107, 0 + 2, none⟩)) (pv_fieldAddr rfl) (by decide) ?_
      refine el_pv (v := u5) (pv_loadc rfl ((hS.boxAt 0 rfl) 2 _ rfl)) (by decide) ?_
      replace hF := ob hF
      obtain ⟨r122, hr122, hF⟩ := hF
      refine el_call goes17 (laws_eqIntS_ok (hS.up ha2) (hS.up ha5) hr122) (congrArg List.toArray (mapc rfl (mapc rfl rfl))) (by decide) ?_
      rintro _ w123 ⟨rfl, hx124⟩
      refine ⟨_, rfl, ?_⟩
      replace hS := hS.ext hx124
      refine el_pv (v := .bool (!r122)) (pv_not rfl) (by decide) ?_
      refine el_nil ?_
      refine hQ121 _ _ _ ?_
      refine thn_n ?_
      replace hF := oif hF
      rcases hF with ⟨hb125, hF⟩ | ⟨hb125, hF⟩
      · refine cw_cond_f rfl (bnot_t hb125) ?_
        refine cw_skip ?_
        refine hQ120 _ _ _ ?_
        refine thn_n ?_
        refine cw_seq ?_
        refine cw_gen ?_
        intro Q126 hQ126
        replace hS : Sat w0 w123 [] := hS.rems 2 [0, 1] rfl
        refine cw_reg ?_
        refine el_pv (v := .bool true) (pv_assign rfl) (by decide) ?_
        refine el_nil ?_
        refine hQ126 _ _ _ ?_
        refine thn_n ?_
        refine cw_ret ?_
        refine fin1 rfl rfl ?_
        have hr := Option.some.inj hF
        exact ⟨congrArg (fun (r : Bool) => Ending.returned (.bool r)) hr, hS.below⟩
      · refine cw_cond_t rfl (bnot_f hb125) ?_
        refine cw_seq ?_
        refine cw_gen ?_
        intro Q127 hQ127
        replace hS : Sat w0 w123 [] := hS.rems 2 [0, 1] rfl
        refine cw_reg ?_
        refine el_pv (v := .bool false) (pv_assign rfl) (by decide) ?_
        refine el_nil ?_
        refine hQ127 _ _ _ ?_
        refine thn_n ?_
        refine cw_ret ?_
        refine hQ120 _ _ _ ?_
        refine thn_r ?_
        refine fin1 rfl rfl ?_
        have hr := Option.some.inj hF
        exact ⟨congrArg (fun (r : Bool) => Ending.returned (.bool r)) hr, hS.below⟩
    · refine cw_cond_t rfl (bnot_f hb119) ?_
      refine cw_seq ?_
      refine cw_gen ?_
      intro Q128 hQ128
      replace hS : Sat w0 w117 [] := hS.rems 2 [0, 1] rfl
      refine cw_reg ?_
      refine el_pv (v := .bool false) (pv_assign rfl) (by decide) ?_
      refine el_nil ?_
      refine hQ128 _ _ _ ?_
      refine thn_n ?_
      refine cw_ret ?_
      refine hQ114 _ _ _ ?_
      refine thn_r ?_
      refine fin1 rfl rfl ?_
      have hr := Option.some.inj hF
      exact ⟨congrArg (fun (r : Bool) => Ending.returned (.bool r)) hr, hS.below⟩
set_option maxHeartbeats 4000000 in
theorem laws_FnExactSeekBound_ok {w0 : World} {a0 : Int} {u1 : Value} {a1 : List (ByteArray × List Int)} {u2 : Value} {a2 : List Int} {a3 : Int} (ha1 : (sliceR (pairR strR (sliceR intR 3)) 113).rd w0 [u1] a1) (ha2 : (sliceR intR 3).rd w0 [u2] a2) {N : Nat} {r : Bool} (hF : laws_FnExactSeekBound N a0 a1 a2 a3 = some r) :
    Calls Try.prog 3 #[.agg #[.int .i64 a0, u1, u2], .int .i64 a3] w0 fun e w' => e = .returned (.bool r) ∧ Ext w0 w' := by
  unfold laws_FnExactSeekBound at hF
  refine calls_E Try.func3 rfl rfl (of_decide_eq_true rfl) ?_
  have hS := Sat.start w0
  refine cw_seq ?_
  refine cw_gen ?_
  intro Q101 hQ101
  refine cw_reg ?_
  refine el_box [.int .i64 a0, u1, u2] rfl hS (by decide) ?_
  intro w102 b103 hS hx104
  refine el_pv (v := .bool false) (pv_assign rfl) (by decide) ?_
  refine el_nil ?_
  refine hQ101 _ _ _ ?_
  refine thn_n ?_
  refine cw_seq ?_
  refine cw_gen ?_
  intro Q106 hQ106
  refine cw_reg ?_
  refine el_pv (v := .int .i64 1048576) (pv_assign rfl) (by decide) ?_
  refine el_nil ?_
  refine hQ106 _ _ _ ?_
  refine thn_n ?_
  refine cw_seq ?_
  refine cw_gen ?_
  intro Q107 hQ107
  refine cw_reg ?_
  refine el_pv (v := .agg #[.int .i64 a0, u1, u2]) (pv_loada (cs := [.int .i64 a0, u1, u2]) rfl rfl (boxc0 (hS.boxAt 0 rfl))) (by decide) ?_
  refine el_pv (v := .int .i64 1048576) (pv_move rfl) (by decide) ?_
  replace hF := ob hF
  obtain ⟨r108, hr108, hF⟩ := hF
  refine el_call goes7 (laws_szQuery_ok (hS.up ha1) (hS.up ha2) hr108) (congrArg List.toArray (mapc rfl (mapc rfl rfl))) (by decide) ?_
  rintro _ w109 ⟨rfl, hx110⟩
  refine ⟨_, rfl, ?_⟩
  replace hS := hS.ext hx110
  refine el_pv (v := .int .i64 r108) (pv_assign rfl) (by decide) ?_
  refine el_nil ?_
  refine hQ107 _ _ _ ?_
  refine thn_n ?_
  refine cw_seq ?_
  refine cw_gen ?_
  intro Q111 hQ111
  refine cw_seq ?_
  refine cw_gen ?_
  intro Q112 hQ112
  refine cw_reg ?_
  refine el_pv (v := .int .i64 r108) (pv_move rfl) (by decide) ?_
  refine el_pv (v := .bool (decide (r108 < 0))) (pv_lss rfl rfl) (by decide) ?_
  refine el_nil ?_
  refine hQ112 _ _ _ ?_
  refine thn_n ?_
  replace hF := oif hF
  rcases hF with ⟨hb113, hF⟩ | ⟨hb113, hF⟩
  · refine cw_cond_t rfl hb113 ?_
    refine cw_seq ?_
    refine cw_gen ?_
    intro Q114 hQ114
    replace hS : Sat w0 w109 [] := hS.rems 1 [0] rfl
    refine cw_reg ?_
    refine el_pv (v := .bool true) (pv_assign rfl) (by decide) ?_
    refine el_nil ?_
    refine hQ114 _ _ _ ?_
    refine thn_n ?_
    refine cw_ret ?_
    refine hQ111 _ _ _ ?_
    refine thn_r ?_
    refine fin1 rfl rfl ?_
    have hr := Option.some.inj hF
    exact ⟨congrArg (fun (r : Bool) => Ending.returned (.bool r)) hr, hS.below⟩
  · refine cw_cond_f rfl hb113 ?_
    refine cw_skip ?_
    refine hQ111 _ _ _ ?_
    refine thn_n ?_
    refine cw_seq ?_
    refine cw_gen ?_
    intro Q115 hQ115
    refine cw_reg ?_
    refine el_pv (v := .agg #[.int .i64 a0, u1, u2]) (pv_loada (cs := [.int .i64 a0, u1, u2]) rfl rfl (boxc0 (hS.boxAt 0 rfl))) (by decide) ?_
    replace hF := ob hF
    obtain ⟨r116, hr116, hF⟩ := hF
    refine el_call goes9 (laws_toQuery_ok (hS.up ha1) (hS.up ha2) hr116) (congrArg List.toArray (mapc rfl rfl)) (by decide) ?_
    rintro _ w121 ⟨v117, v118, rfl, hS'⟩
    refine ⟨_, rfl, ?_⟩
    have hx122 := hS'.below
    replace hS := hS.call2 hS'
    refine el_pv (v := .int .i64 a3) (pv_move rfl) (by decide) ?_
    replace hF := ob hF
    obtain ⟨r123, hr123, hF⟩ := hF
    refine el_call goes8 (spec_SeekBound_ok (hS.rdAt (R := (sliceR (pairR strR (sliceR intR 3)) 96)) 0 rfl) (hS.rdAt (R := (sliceR intR 3)) 1 rfl) hr123) (congrArg List.toArray (mapc rfl (mapc rfl rfl))) (by decide) ?_
    rintro _ w124 ⟨rfl, hx125⟩
    refine ⟨_, rfl, ?_⟩
    replace hS := hS.ext hx125
    refine el_pv (v := .int .i64 r123) (pv_assign rfl) (by decide) ?_
    refine el_nil ?_
    refine hQ115 _ _ _ ?_
    refine thn_n ?_
    refine cw_seq ?_
    refine cw_gen ?_
    intro Q126 hQ126
    replace hS : Sat w0 w124 [Box b103 25 [.int .i64 a0, u1, u2]] := hS.rems 3 [0, 1] rfl
    refine cw_reg ?_
    refine el_pv (v := .agg #[.int .i64 a0, u1, u2]) (pv_loada (cs := [.int .i64 a0, u1, u2]) rfl rfl (boxc0 (hS.boxAt 0 rfl))) (by decide) ?_
    replace hF := ob hF
    obtain ⟨r127, hr127, hF⟩ := hF
    refine el_call goes9 (laws_toQuery_ok (hS.up ha1) (hS.up ha2) hr127) (congrArg List.toArray (mapc rfl rfl)) (by decide) ?_
    rintro _ w132 ⟨v128, v129, rfl, hS'⟩
    refine ⟨_, rfl, ?_⟩
    have hx133 := hS'.below
    replace hS := hS.call2 hS'
    refine el_alloc hS (by decide) ?_
    intro w134 b135 hS hx136
    refine el_storev (hS.top 0 rfl) rfl [.int .i64 r127.1, v128, v129] rfl rfl (of_decide_eq_true rfl) (all_cons rfl (all_cons (oc (hS.rdAt (R := (sliceR (pairR strR (sliceR intR 3)) 96)) 1 rfl)) (all_cons (oc (hS.rdAt (R := (sliceR intR 3)) 2 rfl)) rfl))) ?_
    intro w138 hS
    replace hS : Sat w0 w138 [Box b135 30 [.int .i64 r127.1, v128, v129], Own (sliceR (pairR strR (sliceR intR 3)) 96) [v128] r127.2.1, Own (sliceR intR 3) [v129] r127.2.2, Box b103 25 [.int .i64 a0, u1, u2]] := hS
    refine el_nil ?_
    refine hQ126 _ _ _ ?_
    refine thn_n ?_
    refine cw_seq ?_
    refine cw_gen ?_
    intro Q139 hQ139
    refine cw_reg ?_
    refine el_pv (v := .agg #[.int .i64 r127.1, v128, v129]) (pv_loada (cs := [.int .i64 r127.1, v128, v129]) rfl rfl (boxc0 (hS.boxAt 0 rfl))) (by decide) ?_
    refine el_pv (v := .int .i64 a3) (pv_move rfl) (by decide) ?_
    replace hF := ob hF
    obtain ⟨r140, hr140, hF⟩ := hF
    refine el_call goes10 (impl_SeekBound_ok (hS.rdAt (R := (sliceR (pairR strR (sliceR intR 3)) 96)) 1 rfl) (hS.rdAt (R := (sliceR intR 3)) 2 rfl) hr140) (congrArg List.toArray (mapc rfl (mapc rfl rfl))) (by decide) ?_
    rintro _ w141 ⟨rfl, hx142⟩
    refine ⟨_, rfl, ?_⟩
    replace hS := hS.ext hx142
    refine el_pv (v := .int .i64 r140) (pv_assign rfl) (by decide) ?_
    refine el_nil ?_
    refine hQ139 _ _ _ ?_
    refine thn_n ?_
    refine cw_seq ?_
    refine cw_gen ?_
    intro Q143 hQ143
    refine cw_seq ?_
    refine cw_gen ?_
    intro Q144 hQ144
    refine cw_reg ?_
    refine el_pv (v := .int .i64 r140) (pv_move rfl) (by decide) ?_
    refine el_pv (v := .int .i64 r123) (pv_move rfl) (by decide) ?_
    refine el_pv (v := .bool (r140 != r123)) (pv_neq rfl rfl) (by decide) ?_
    refine el_nil ?_
    refine hQ144 _ _ _ ?_
    refine thn_n ?_
    replace hF := oif hF
    rcases hF with ⟨hb145, hF⟩ | ⟨hb145, hF⟩
    · refine cw_cond_t rfl hb145 ?_
      refine cw_seq ?_
      refine cw_gen ?_
      intro Q146 hQ146
      replace hS : Sat w0 w141 [] := hS.rems 4 [0, 1, 2, 3] rfl
      refine cw_reg ?_
      refine el_pv (v := .bool false) (pv_assign rfl) (by decide) ?_
      refine el_nil ?_
      refine hQ146 _ _ _ ?_
      refine thn_n ?_
      refine cw_ret ?_
      refine hQ143 _ _ _ ?_
      refine thn_r ?_
      refine fin1 rfl rfl ?_
      have hr := Option.some.inj hF
      exact ⟨congrArg (fun (r : Bool) => Ending.returned (.bool r)) hr, hS.below⟩
    · refine cw_cond_f rfl hb145 ?_
      refine cw_skip ?_
      refine hQ143 _ _ _ ?_
      refine thn_n ?_
      refine cw_seq ?_
      refine cw_gen ?_
      intro Q147 hQ147
      refine cw_seq ?_
      refine cw_gen ?_
      intro Q148 hQ148
      obtain ⟨C, hCd⟩ : ∃ C : World → Prop, ∀ w, C w ↔ ∃ G, Sat w0 w ([Box b135 30 [.int .i64 r127.1, v128, v129], Box b103 25 [.int .i64 a0, u1, u2], Own (sliceR (pairR strR (sliceR intR 3)) 96) [v128] r127.2.1, Own (sliceR intR 3) [v129] r127.2.2] ++ G) := ⟨_, fun _ => Iff.rfl⟩
      refine cw_regb [0, 1, 2, 3, 4] C (by kernel_rfl) ?_
      intro w149 hx150
      replace hS := hS.ext hx150
      replace hS : Sat w0 w149 [Box b135 30 [.int .i64 r127.1, v128, v129], Box b103 25 [.int .i64 a0, u1, u2], Own (sliceR (pairR strR (sliceR intR 3)) 96) [v128] r127.2.1, Own (sliceR intR 3) [v129] r127.2.2] := hS.tops 4 [0, 3, 1, 2] rfl
      have hC := (hCd _).2 ⟨_, hS⟩
      refine al_p (v := .agg #[.int .i64 r127.1, v128, v129]) (by kernel_rfl) 0 rfl rfl (by decide) hC (by kernel_rfl) (by kernel_rfl) (sv_on rfl (fun w' hw' => by obtain ⟨_, hS⟩ := (hCd _).1 hw'; exact (pv_loada (cs := [.int .i64 r127.1, v128, v129]) rfl rfl (boxc0 (hS.boxAt 0 rfl))))) ?_
      refine al_one 1 (by kernel_rfl) rfl ?_
      refine el_pv (v := .agg #[.int .i64 a0, u1, u2]) (pv_loada (cs := [.int .i64 a0, u1, u2]) rfl rfl (boxc0 (hS.boxAt 1 rfl))) (by decide) ?_
      refine el_nil ?_
      refine ⟨fun _ => hC, ?_⟩
      refine al_one 2 (by kernel_rfl) rfl ?_
      replace hF := ob hF
      obtain ⟨r151, hr151, hF⟩ := hF
      refine el_call goes9 (laws_toQuery_ok (hS.up ha1) (hS.up ha2) hr151) (congrArg List.toArray (mapc rfl rfl)) (by decide) ?_
      rintro _ w156 ⟨v152, v153, rfl, hS'⟩
      refine ⟨_, rfl, ?_⟩
      have hx157 := hS'.below
      replace hS := hS.call2 hS'
      refine el_nil ?_
      replace hS : Sat w0 w156 [Box b135 30 [.int .i64 r127.1, v128, v129], Box b103 25 [.int .i64 a0, u1, u2], Own (sliceR (pairR strR (sliceR intR 3)) 96) [v128] r127.2.1, Own (sliceR intR 3) [v129] r127.2.2, Own (sliceR (pairR strR (sliceR intR 3)) 96) [v152] r151.2.1, Own (sliceR intR 3) [v153] r151.2.2] := hS.tops 6 [2, 3, 4, 5] rfl
      have hC := (hCd _).2 ⟨_, hS⟩
      refine ⟨fun _ => hC, ?_⟩
      refine al_one 3 (by kernel_rfl) rfl ?_
      replace hF := ob hF
      obtain ⟨r158, hr158, hF⟩ := hF
      refine el_call goes11 (laws_eqQuery_ok (hS.rdAt (R := (sliceR (pairR strR (sliceR intR 3)) 96)) 2 rfl) (hS.rdAt (R := (sliceR intR 3)) 3 rfl) (hS.rdAt (R := (sliceR (pairR strR (sliceR intR 3)) 96)) 4 rfl) (hS.rdAt (R := (sliceR intR 3)) 5 rfl) hr158) (congrArg List.toArray (mapc rfl (mapc rfl rfl))) (by decide) ?_
      rintro _ w159 ⟨rfl, hx160⟩
      refine ⟨_, rfl, ?_⟩
      replace hS := hS.ext hx160
      refine el_nil ?_
      have hC := (hCd _).2 ⟨_, hS⟩
      refine ⟨fun _ => hC, ?_⟩
      refine al_one 4 (by kernel_rfl) rfl ?_
      refine el_pv (v := .bool (!r158)) (pv_not rfl) (by decide) ?_
      refine el_nil ?_
      refine ⟨fun _ => hC, ?_⟩
      refine al_nil (by kernel_rfl) ?_
      refine hQ148 _ _ _ ?_
      refine thn_n ?_
      replace hF := oif hF
      rcases hF with ⟨hb161, hF⟩ | ⟨hb161, hF⟩
      · refine cw_cond_f rfl (bnot_t hb161) ?_
        refine cw_skip ?_
        refine hQ147 _ _ _ ?_
        refine thn_n ?_
        refine cw_seq ?_
        refine cw_gen ?_
        intro Q162 hQ162
        replace hS : Sat w0 w159 [] := hS.rems 6 [0, 1, 2, 3, 4, 5] rfl
        refine cw_reg ?_
        refine el_pv (v := .bool true) (pv_assign rfl) (by decide) ?_
        refine el_nil ?_
        refine hQ162 _ _ _ ?_
        refine thn_n ?_
        refine cw_ret ?_
        refine fin1 rfl rfl ?_
        have hr := Option.some.inj hF
        exact ⟨congrArg (fun (r : Bool) => Ending.returned (.bool r)) hr, hS.below⟩
      · refine cw_cond_t rfl (bnot_f hb161) ?_
        refine cw_seq ?_
        refine cw_gen ?_
        intro Q163 hQ163
        replace hS : Sat w0 w159 [] := hS.rems 6 [0, 1, 2, 3, 4, 5] rfl
        refine cw_reg ?_
        refine el_pv (v := .bool false) (pv_assign rfl) (by decide) ?_
        refine el_nil ?_
        refine hQ163 _ _ _ ?_
        refine thn_n ?_
        refine cw_ret ?_
        refine hQ147 _ _ _ ?_
        refine thn_r ?_
        refine fin1 rfl rfl ?_
        have hr := Option.some.inj hF
        exact ⟨congrArg (fun (r : Bool) => Ending.returned (.bool r)) hr, hS.below⟩
set_option maxHeartbeats 4000000 in
theorem laws_szRationalS_ok {w0 : World} {u0 : Value} {a0 : List (Int × Int)} {a1 : Int} (ha0 : (sliceR (pairR intR intR) 85).rd w0 [u0] a0) {N : Nat} {r : Int} (hF : laws_szRationalS N a0 a1 = some r) :
    Calls Try.prog 12 #[u0, .int .i64 a1] w0 fun e w' => e = .returned (.int .i64 r) ∧ Ext w0 w' := by
  unfold laws_szRationalS at hF
  refine calls_E Try.func12 rfl rfl (of_decide_eq_true rfl) ?_
  have hS := Sat.start w0
  refine cw_seq ?_
  refine cw_gen ?_
  intro Q101 hQ101
  refine cw_reg ?_
  refine el_pv (v := .int .i64 0) (pv_assign rfl) (by decide) ?_
  refine el_nil ?_
  refine hQ101 _ _ _ ?_
  refine thn_n ?_
  refine cw_seq ?_
  refine cw_gen ?_
  intro Q102 hQ102
  refine cw_reg ?_
  refine el_pv (v := .int .i64 a1) (pv_move rfl) (by decide) ?_
  refine el_pv (v := u0) (pv_move rfl) (by decide) ?_
  refine el_pv (v := .int .i64 (a0.length : Int)) (pv_len rfl ha0) (by decide) ?_
  replace hF := ob hF
  obtain ⟨x103, hx103, hF⟩ := hF
  refine el_pv (v := .int .i64 x103) (pv_sub rfl rfl hx103) (by decide) ?_
  refine el_pv (v := .int .i64 x103) (pv_assign rfl) (by decide) ?_
  refine el_nil ?_
  refine hQ102 _ _ _ ?_
  refine thn_n ?_
  refine cw_seq ?_
  refine cw_gen ?_
  intro Q104 hQ104
  refine cw_seq ?_
  refine cw_gen ?_
  intro Q105 hQ105
  refine cw_reg ?_
  refine el_pv (v := .int .i64 x103) (pv_move rfl) (by decide) ?_
  refine el_pv (v := .bool (decide (x103 < 0))) (pv_lss rfl rfl) (by decide) ?_
  refine el_nil ?_
  refine hQ105 _ _ _ ?_
  refine thn_n ?_
  replace hF := oif hF
  rcases hF with ⟨hb106, hF⟩ | ⟨hb106, hF⟩
  · refine cw_cond_t rfl hb106 ?_
    refine cw_seq ?_
    refine cw_gen ?_
    intro Q107 hQ107
    refine cw_reg ?_
    refine el_pv (v := .int .i64 (-1)) (pv_assign rfl) (by decide) ?_
    refine el_nil ?_
    refine hQ107 _ _ _ ?_
    refine thn_n ?_
    refine cw_ret ?_
    refine hQ104 _ _ _ ?_
    refine thn_r ?_
    refine fin1 rfl rfl ?_
    have hr := Option.some.inj hF
    exact ⟨congrArg (fun (r : Int) => Ending.returned (.int .i64 r)) hr, hS.below⟩
  · refine cw_cond_f rfl hb106 ?_
    refine cw_skip ?_
    refine hQ104 _ _ _ ?_
    refine thn_n ?_
    refine cw_seq ?_
    refine cw_gen ?_
    intro Q108 hQ108
    refine cw_reg ?_
    refine el_pv (v := .int .i64 x103) (pv_move rfl) (by decide) ?_
    refine el_pv (v := .int .i64 x103) (pv_assign rfl) (by decide) ?_
    refine el_nil ?_
    refine hQ108 _ _ _ ?_
    refine thn_n ?_
    refine cw_ret ?_
    refine fin1 rfl rfl ?_
    have hr := Option.some.inj hF
    exact ⟨congrArg (fun (r : Int) => Ending.returned (.int .i64 r)) hr, hS.below⟩
set_option maxHeartbeats 4000000 in
theorem spec_l2Gcd_ok {w0 : World} {a0 : Int} {a1 : Int}  {N : Nat} {r : Int} (hF : spec_l2Gcd N a0 a1 = some r) :
    Calls Try.prog 85 #[.int .i64 a0, .int .i64 a1] w0 fun e w' => e = .returned (.int .i64 r) ∧ Ext w0 w' := by
  unfold spec_l2Gcd at hF
  refine calls_E Try.func85 rfl rfl (of_decide_eq_true rfl) ?_
  have hS := Sat.start w0
  refine cw_seq ?_
  refine cw_gen ?_
  intro Q101 hQ101
  refine cw_reg ?_
  refine el_pv (v := .int .i64 0) (pv_assign rfl) (by decide) ?_
  refine el_nil ?_
  refine hQ101 _ _ _ ?_
  refine thn_n ?_
  refine cw_seq ?_
  refine cw_gen ?_
  intro Q102 hQ102
  refine cw_block ?_
  refine cw_gen ?_
  intro Q103 hQ103
  obtain ⟨s104, hL, hK105⟩ := ob hF
  refine cw_loopS (fun k e w => ∃ (x106 : Int), ∃ (x107 : Int), e 0 = .int .i64 x106 ∧ e 1 = .int .i64 x107 ∧ Sat w0 w [] ∧ spec_l2Gcd_L1 N k x106 x107 = some s104) N ?_ ?_ ?_
  · exact ⟨a0, a1, rfl, rfl, hS, hL⟩
  · rintro e w ⟨_, _, _, _, _, hz⟩; exact nomatch (show none = some _ from hz)
  · rintro k e111 w110 ⟨x106, x107, he108, he109, hS, hF⟩
    refine cw_gen ?_
    intro Q112 hQ112
    refine cw_seq ?_
    refine cw_gen ?_
    intro Q113 hQ113
    refine cw_seq ?_
    refine cw_gen ?_
    intro Q114 hQ114
    refine cw_reg ?_
    refine el_pv (v := .int .i64 x107) (pv_move he109) (by decide) ?_
    refine el_pv (v := .bool (x107 != 0)) (pv_neq rfl rfl) (by decide) ?_
    refine el_nil ?_
    refine hQ114 _ _ _ ?_
    refine thn_n ?_
    replace hF := oif hF
    rcases hF with ⟨hb115, hF⟩ | ⟨hb115, hF⟩
    · refine cw_cond_t rfl hb115 ?_
      refine cw_skip ?_
      refine hQ113 _ _ _ ?_
      refine thn_n ?_
      refine cw_block ?_
      refine cw_gen ?_
      intro Q116 hQ116
      refine cw_seq ?_
      refine cw_gen ?_
      intro Q117 hQ117
      refine cw_reg ?_
      refine el_pv (v := .int .i64 x106) (pv_move he108) (by decide) ?_
      refine el_pv (v := .int .i64 x107) (pv_move he109) (by decide) ?_
      replace hF := ob hF
      obtain ⟨x118, hx118, hF⟩ := hF
      refine el_pv (v := .int .i64 x118) (pv_rem rfl rfl hx118) (by decide) ?_
      refine el_pv (v := .int .i64 x118) (pv_assign rfl) (by decide) ?_
      refine el_nil ?_
      refine hQ117 _ _ _ ?_
      refine thn_n ?_
      refine cw_seq ?_
      refine cw_gen ?_
      intro Q119 hQ119
      refine cw_reg ?_
      refine el_pv (v := .int .i64 x107) (pv_move he109) (by decide) ?_
      refine el_pv (v := .int .i64 x107) (pv_assign rfl) (by decide) ?_
      refine el_nil ?_
      refine hQ119 _ _ _ ?_
      refine thn_n ?_
      refine cw_reg ?_
      refine el_pv (v := .int .i64 x118) (pv_move rfl) (by decide) ?_
      refine el_pv (v := .int .i64 x118) (pv_assign rfl) (by decide) ?_
      refine el_nil ?_
      refine hQ116 _ _ _ ?_
      refine inb_n ?_
      refine hQ112 _ _ _ ?_
      refine thn_n ?_
      replace hS := hS.keep 0
      exact ⟨x107, x118, rfl, rfl, hS, hF⟩
    · refine cw_cond_f rfl hb115 ?_
      refine cw_exit ?_
      refine hQ113 _ _ _ ?_
      refine thn_x ?_
      refine hQ112 _ _ _ ?_
      refine thn_x ?_
      replace hF := exB hF hK105
      refine hQ103 _ _ _ ?_
      refine inb_s ?_
      refine hQ102 _ _ _ ?_
      refine thn_n ?_
      refine cw_seq ?_
      refine cw_gen ?_
      intro Q120 hQ120
      refine cw_reg ?_
      refine el_pv (v := .int .i64 x106) (pv_move he108) (by decide) ?_
      refine el_pv (v := .int .i64 x106) (pv_assign rfl) (by decide) ?_
      refine el_nil ?_
      refine hQ120 _ _ _ ?_
      refine thn_n ?_
      refine cw_ret ?_
      refine fin1 rfl rfl ?_
      have hr := Option.some.inj hF
      exact ⟨congrArg (fun (r : Int) => Ending.returned (.int .i64 r)) hr, hS.below⟩
set_option maxHeartbeats 4000000 in
theorem spec_IsValidRational_ok {w0 : World} {a0 : Int} {a1 : Int}  {N : Nat} {r : Bool} (hF : spec_IsValidRational N a0 a1 = some r) :
    Calls Try.prog 84 #[.agg #[.int .i64 a0, .int .i64 a1]] w0 fun e w' => e = .returned (.bool r) ∧ Ext w0 w' := by
  unfold spec_IsValidRational at hF
  refine calls_E Try.func84 rfl rfl (of_decide_eq_true rfl) ?_
  have hS := Sat.start w0
  refine cw_seq ?_
  refine cw_gen ?_
  intro Q101 hQ101
  refine cw_reg ?_
  refine el_box [.int .i64 a0, .int .i64 a1] rfl hS (by decide) ?_
  intro w102 b103 hS hx104
  refine el_pv (v := .bool false) (pv_assign rfl) (by decide) ?_
  refine el_nil ?_
  refine hQ101 _ _ _ ?_
  refine thn_n ?_
  refine cw_seq ?_
  refine cw_gen ?_
  intro Q106 hQ106
  refine cw_reg ?_
  refine el_pv (v := .pointer (some ⟨b103, 0 + 1, none⟩)) (pv_fieldAddr rfl) (by decide) ?_
  refine el_pv (v := .int .i64 a1) (pv_loadc rfl ((hS.boxAt 0 rfl) 1 _ rfl)) (by decide) ?_
  replace hF := ob hF
  obtain ⟨r107, hr107, hF⟩ := hF
  refine el_call goes38 (spec_l1In_ok hr107) (congrArg List.toArray (mapc rfl (mapc rfl (mapc rfl rfl)))) (by decide) ?_
  rintro _ w108 ⟨rfl, hx109⟩
  refine ⟨_, rfl, ?_⟩
  replace hS := hS.ext hx109
  refine el_pv (v := .bool r107) (pv_move rfl) (by decide) ?_
  replace hF := oif hF
  rcases hF with ⟨hb110, hF⟩ | ⟨hb110, hF⟩
  · refine el_on rfl hb110 ?_
    refine el_pv (v := .pointer (some ⟨b103, 0 + 0, none⟩)) (pv_fieldAddr rfl) (by decide) ?_
    refine el_on rfl hb110 ?_
    refine el_pv (v := .int .i64 a0) (pv_loadc rfl ((hS.boxAt 0 rfl) 0 _ rfl)) (by decide) ?_
    refine el_on rfl hb110 ?_
    replace hF := ob hF
    obtain ⟨r111, hr111, hF⟩ := hF
    refine el_call goes38 (spec_l1In_ok hr111) (congrArg List.toArray (mapc rfl (mapc rfl (mapc rfl rfl)))) (by decide) ?_
    rintro _ w112 ⟨rfl, hx113⟩
    refine ⟨_, rfl, ?_⟩
    replace hS := hS.ext hx113
    refine el_pv (v := .bool r111) (pv_pick_t rfl hb110 rfl) (by decide) ?_
    refine el_pv (v := .bool r111) (pv_move rfl) (by decide) ?_
    replace hF := oif hF
    rcases hF with ⟨hb114, hF⟩ | ⟨hb114, hF⟩
    · refine el_on rfl hb114 ?_
      refine el_pv (v := .pointer (some ⟨b103, 0 + 0, none⟩)) (pv_fieldAddr rfl) (by decide) ?_
      refine el_on rfl hb114 ?_
      refine el_pv (v := .int .i64 a0) (pv_loadc rfl ((hS.boxAt 0 rfl) 0 _ rfl)) (by decide) ?_
      refine el_on rfl hb114 ?_
      refine el_pv (v := .pointer (some ⟨b103, 0 + 0, none⟩)) (pv_fieldAddr rfl) (by decide) ?_
      refine el_on rfl hb114 ?_
      refine el_pv (v := .int .i64 a0) (pv_loadc rfl ((hS.boxAt 0 rfl) 0 _ rfl)) (by decide) ?_
      refine el_on rfl hb114 ?_
      replace hF := ob hF
      obtain ⟨x115, hx115, hF⟩ := hF
      refine el_pv (v := .int .i64 x115) (pv_neg rfl hx115) (by decide) ?_
      refine el_on rfl hb114 ?_
      refine el_pv (v := .int .i64 (imx a0 x115)) (pv_max rfl rfl) (by decide) ?_
      refine el_on rfl hb114 ?_
      refine el_pv (v := .pointer (some ⟨b103, 0 + 1, none⟩)) (pv_fieldAddr rfl) (by decide) ?_
      refine el_on rfl hb114 ?_
      refine el_pv (v := .int .i64 a1) (pv_loadc rfl ((hS.boxAt 0 rfl) 1 _ rfl)) (by decide) ?_
      refine el_on rfl hb114 ?_
      replace hF := ob hF
      obtain ⟨r116, hr116, hF⟩ := hF
      refine el_call goes85 (spec_l2Gcd_ok hr116) (congrArg List.toArray (mapc rfl (mapc rfl rfl))) (by decide) ?_
      rintro _ w117 ⟨rfl, hx118⟩
      refine ⟨_, rfl, ?_⟩
      replace hS := hS.ext hx118
      refine el_on rfl hb114 ?_
      refine el_pv (v := .bool (r116 == 1)) (pv_eql rfl rfl) (by decide) ?_
      refine el_pv (v := .bool (r116 == 1)) (pv_pick_t rfl hb114 rfl) (by decide) ?_
      refine el_pv (v := .bool (r116 == 1)) (pv_assign rfl) (by decide) ?_
      refine el_nil ?_
      refine hQ106 _ _ _ ?_
      refine thn_n ?_
      refine cw_ret ?_
      refine fin1 rfl rfl ?_
      have hr := Option.some.inj hF
      exact ⟨congrArg (fun (r : Bool) => Ending.returned (.bool r)) hr, hS.below⟩
    · refine el_off rfl hb114 rfl (by decide) ?_
      refine el_off rfl hb114 rfl (by decide) ?_
      refine el_off rfl hb114 rfl (by decide) ?_
      refine el_off rfl hb114 rfl (by decide) ?_
      refine el_off rfl hb114 rfl (by decide) ?_
      refine el_off rfl hb114 rfl (by decide) ?_
      refine el_off rfl hb114 rfl (by decide) ?_
      refine el_off rfl hb114 rfl (by decide) ?_
      refine el_off rfl hb114 rfl (by decide) ?_
      refine el_off rfl hb114 rfl (by decide) ?_
      refine el_pv (v := .bool false) (pv_pick_f rfl hb114 rfl) (by decide) ?_
      refine el_pv (v := .bool false) (pv_assign rfl) (by decide) ?_
      refine el_nil ?_
      refine hQ106 _ _ _ ?_
      refine thn_n ?_
      refine cw_ret ?_
      refine fin1 rfl rfl ?_
      have hr := Option.some.inj hF
      exact ⟨congrArg (fun (r : Bool) => Ending.returned (.bool r)) hr, hS.below⟩
  · refine el_off rfl hb110 rfl (by decide) ?_
    refine el_off rfl hb110 rfl (by decide) ?_
    refine el_off rfl hb110 rfl (by decide) ?_
    refine el_pv (v := .bool false) (pv_pick_f rfl hb110 rfl) (by decide) ?_
    refine el_pv (v := .bool false) (pv_move rfl) (by decide) ?_
    refine el_off rfl rfl rfl (by decide) ?_
    refine el_off rfl rfl rfl (by decide) ?_
    refine el_off rfl rfl rfl (by decide) ?_
    refine el_off rfl rfl rfl (by decide) ?_
    refine el_off rfl rfl rfl (by decide) ?_
    refine el_off rfl rfl rfl (by decide) ?_
    refine el_off rfl rfl rfl (by decide) ?_
    refine el_off rfl rfl rfl (by decide) ?_
    refine el_off rfl rfl rfl (by decide) ?_
    refine el_off rfl rfl rfl (by decide) ?_
    refine el_pv (v := .bool false) (pv_pick_f rfl rfl rfl) (by decide) ?_
    refine el_pv (v := .bool false) (pv_assign rfl) (by decide) ?_
    refine el_nil ?_
    refine hQ106 _ _ _ ?_
    refine thn_n ?_
    refine cw_ret ?_
    refine fin1 rfl rfl ?_
    have hr := Option.some.inj hF
    exact ⟨congrArg (fun (r : Bool) => Ending.returned (.bool r)) hr, hS.below⟩
set_option maxHeartbeats 4000000 in
theorem spec_ScaleToIntegers_ok {w0 : World} {u0 : Value} {a0 : List (Int × Int)} (ha0 : (sliceR (pairR intR intR) 83).rd w0 [u0] a0) {N : Nat} {r : (List Int) × Int} (hF : spec_ScaleToIntegers N a0 = some r) :
    Calls Try.prog 43 #[u0] w0 fun e w' => ∃ (q0 : Value), e = .returned (.tuple #[q0, .int .i64 r.2]) ∧ Sat w0 w' [Own (sliceR intR 3) [q0] r.1] := by
  unfold spec_ScaleToIntegers at hF
  refine calls_E Try.func43 rfl rfl (of_decide_eq_true rfl) ?_
  have hS := Sat.start w0
  refine cw_seq ?_
  refine cw_gen ?_
  intro Q101 hQ101
  refine cw_reg ?_
  refine el_pv (v := (.slice none 0 0)) (pv_assign rfl) (by decide) ?_
  refine el_pv (v := .int .i64 0) (pv_assign rfl) (by decide) ?_
  refine el_nil ?_
  refine hQ101 _ _ _ ?_
  refine thn_n ?_
  refine cw_seq ?_
  refine cw_gen ?_
  intro Q102 hQ102
  refine cw_reg ?_
  refine el_pv (v := .int .i64 1) (pv_assign rfl) (by decide) ?_
  refine el_nil ?_
  refine hQ102 _ _ _ ?_
  refine thn_n ?_
  refine cw_seq ?_
  refine cw_gen ?_
  intro Q103 hQ103
  refine cw_seq ?_
  refine cw_gen ?_
  intro Q104 hQ104
  refine cw_reg ?_
  refine el_pv (v := .int .i64 0) (pv_assign rfl) (by decide) ?_
  refine el_nil ?_
  refine hQ104 _ _ _ ?_
  refine thn_n ?_
  refine cw_block ?_
  refine cw_gen ?_
  intro Q105 hQ105
  obtain ⟨s106, hL, hK107⟩ := ob hF
  refine cw_loopS (fun k e w => ∃ (x108 : Int), ∃ (x109 : Int), e 0 = u0 ∧ e 4 = .int .i64 x108 ∧ e 5 = .int .i64 x109 ∧ Sat w0 w [] ∧ spec_ScaleToIntegers_L1 N k a0 x108 x109 = some s106) N ?_ ?_ ?_
  · exact ⟨1, 0, rfl, rfl, rfl, hS, hL⟩
  · rintro e w ⟨_, _, _, _, _, _, hz⟩; exact nomatch (show none = some _ from hz)
  · rintro k e114 w113 ⟨x108, x109, he110, he111, he112, hS, hF⟩
    refine cw_gen ?_
    intro Q115 hQ115
    refine cw_seq ?_
    refine cw_gen ?_
    intro Q116 hQ116
    refine cw_seq ?_
    refine cw_gen ?_
    intro Q117 hQ117
    refine cw_reg ?_
    refine el_pv (v := .int .i64 x109) (pv_move he112) (by decide) ?_
    refine el_pv (v := u0) (pv_move he110) (by decide) ?_
    refine el_pv (v := .int .i64 (a0.length : Int)) (pv_len rfl ha0) (by decide) ?_
    refine el_pv (v := .bool (decide (x109 < (a0.length : Int)))) (pv_lss rfl rfl) (by decide) ?_
    refine el_nil ?_
    refine hQ117 _ _ _ ?_
    refine thn_n ?_
    replace hF := oif hF
    rcases hF with ⟨hb118, hF⟩ | ⟨hb118, hF⟩
    · refine cw_cond_t rfl hb118 ?_
      refine cw_skip ?_
      refine hQ116 _ _ _ ?_
      refine thn_n ?_
      refine cw_seq ?_
      refine cw_gen ?_
      intro Q119 hQ119
      refine cw_block ?_
      refine cw_gen ?_
      intro Q120 hQ120
      refine cw_seq ?_
      refine cw_gen ?_
      intro Q121 hQ121
      refine cw_seq ?_
      refine cw_gen ?_
      intro Q122 hQ122
      refine cw_reg ?_
      refine el_pv (v := u0) (pv_move he110) (by decide) ?_
      refine el_pv (v := .int .i64 x109) (pv_move he112) (by decide) ?_
      replace hF := ob hF
      obtain ⟨x123, hx123, hF⟩ := hF
      refine el_index (wA := w0) rfl ha0 rfl (by decide) rfl hx123 (by decide) ?_
      intro b124 of125 c126 hr127 hm128
      obtain ⟨_, _, rfl, hr129, hr130⟩ := hr127
      obtain rfl := hr129
      obtain rfl := hr130
      refine el_pv (v := .agg #[.int .i64 x123.1, .int .i64 x123.2]) (pv_loada (cs := [.int .i64 x123.1, .int .i64 x123.2]) rfl rfl (cells_up hS.below hm128)) (by decide) ?_
      replace hF := ob hF
      obtain ⟨r131, hr131, hF⟩ := hF
      refine el_call goes84 (spec_IsValidRational_ok hr131) (congrArg List.toArray (mapc rfl rfl)) (by decide) ?_
      rintro _ w132 ⟨rfl, hx133⟩
      refine ⟨_, rfl, ?_⟩
      replace hS := hS.ext hx133
      refine el_pv (v := .bool (!r131)) (pv_not rfl) (by decide) ?_
      refine el_pv (v := .bool (!r131)) (pv_move rfl) (by decide) ?_
      replace hF := oif hF
      rcases hF with ⟨hb134, hF⟩ | ⟨hb134, hF⟩
      · refine el_on rfl (bnot_t hb134) ?_
        refine el_pv (v := u0) (pv_move he110) (by decide) ?_
        refine el_on rfl (bnot_t hb134) ?_
        refine el_pv (v := .int .i64 x109) (pv_move he112) (by decide) ?_
        refine el_on rfl (bnot_t hb134) ?_
        replace hF := ob hF
        obtain ⟨x135, hx135, hF⟩ := hF
        refine el_index (wA := w0) rfl ha0 rfl (by decide) rfl hx135 (by decide) ?_
        intro b136 of137 c138 hr139 hm140
        obtain ⟨_, _, rfl, hr141, hr142⟩ := hr139
        obtain rfl := hr141
        obtain rfl := hr142
        refine el_on rfl (bnot_t hb134) ?_
        refine el_pv (v := .pointer (some ⟨b136, of137 + 0, none⟩)) (pv_fieldAddr rfl) (by decide) ?_
        refine el_on rfl (bnot_t hb134) ?_
        refine el_pv (v := .int .i64 x135.1) (pv_loadc rfl ((cells_up hS.below hm140) 0 _ rfl)) (by decide) ?_
        refine el_on rfl (bnot_t hb134) ?_
        refine el_pv (v := .bool (decide (x135.1 < 0))) (pv_lss rfl rfl) (by decide) ?_
        refine el_pv (v := .bool (decide (x135.1 < 0))) (pv_pick_f rfl (bnot_t hb134) rfl) (by decide) ?_
        refine el_nil ?_
        refine hQ122 _ _ _ ?_
        refine thn_n ?_
        replace hF := oif hF
        rcases hF with ⟨hb143, hF⟩ | ⟨hb143, hF⟩
        · refine cw_cond_t rfl hb143 ?_
          refine cw_seq ?_
          refine cw_gen ?_
          intro Q144 hQ144
          refine cw_reg ?_
          refine el_buildSlice0 intR hS (by decide) ?_
          intro w145 v147 hS hx146
          refine el_pv (v := v147) (pv_assign rfl) (by decide) ?_
          refine el_pv (v := .int .i64 0) (pv_assign rfl) (by decide) ?_
          refine el_nil ?_
          refine hQ144 _ _ _ ?_
          refine thn_n ?_
          refine cw_ret ?_
          refine hQ121 _ _ _ ?_
          refine thn_r ?_
          refine hQ120 _ _ _ ?_
          refine inb_r ?_
          refine hQ119 _ _ _ ?_
          refine thn_r ?_
          refine hQ115 _ _ _ ?_
          refine thn_r ?_
          refine hQ105 _ _ _ ?_
          refine inb_r ?_
          refine hQ103 _ _ _ ?_
          refine thn_r ?_
          replace hF := exL hF hK107
          refine fin2 rfl rfl rfl ?_
          have hr := Option.some.inj hF
          exact ⟨v147, congrArg (fun (r : (List Int) × Int) => Ending.returned (.tuple #[v147, .int .i64 r.2])) hr, Eq.mp (congrArg (fun (r : (List Int) × Int) => Sat w0 w145 [Own (sliceR intR 3) [v147] r.1]) hr) (hS.keep 1)⟩
        · refine cw_cond_f rfl hb143 ?_
          refine cw_skip ?_
          refine hQ121 _ _ _ ?_
          refine thn_n ?_
          refine cw_seq ?_
          refine cw_gen ?_
          intro Q149 hQ149
          refine cw_regq (by kernel_rfl) (by kernel_rfl) ?_
          refine ql_pv (v := .int .i64 x108) (pv_move he111) (by decide) ?_
          refine ql_pv (v := .int .i64 x108) (pv_move he111) (by decide) ?_
          refine ql_pv (v := u0) (pv_move he110) (by decide) ?_
          refine ql_pv (v := .int .i64 x109) (pv_move he112) (by decide) ?_
          replace hF := ob hF
          obtain ⟨x150, hx150, hF⟩ := hF
          refine ql_index (wA := w0) rfl ha0 rfl (by decide) rfl hx150 (by decide) ?_
          intro b151 of152 c153 hr154 hm155
          obtain ⟨_, _, rfl, hr156, hr157⟩ := hr154
          obtain rfl := hr156
          obtain rfl := hr157
          refine ql_pv (v := .pointer (some ⟨b151, of152 + 1, none⟩)) (pv_fieldAddr rfl) (by decide) ?_
          refine ql_pv (v := .int .i64 x150.2) (pv_loadc rfl ((cells_up hS.below hm155) 1 _ rfl)) (by decide) ?_
          replace hF := ob hF
          obtain ⟨r158, hr158, hF⟩ := hF
          refine ql_call (.int .i64 r158) goes85 (fun w' hw' => spec_l2Gcd_ok hr158) (congrArg List.toArray (mapc rfl (mapc rfl rfl))) (by decide) ?_
          replace hF := ob hF
          obtain ⟨x159, hx159, hF⟩ := hF
          refine ql_pv (v := .int .i64 x159) (pv_quo rfl rfl hx159) (by decide) ?_
          refine ql_pv (v := u0) (pv_move he110) (by decide) ?_
          refine ql_pv (v := .int .i64 x109) (pv_move he112) (by decide) ?_
          replace hF := ob hF
          obtain ⟨x160, hx160, hF⟩ := hF
          refine ql_index (wA := w0) rfl ha0 rfl (by decide) rfl hx160 (by decide) ?_
          intro b161 of162 c163 hr164 hm165
          obtain ⟨_, _, rfl, hr166, hr167⟩ := hr164
          obtain rfl := hr166
          obtain rfl := hr167
          refine ql_pv (v := .pointer (some ⟨b161, of162 + 1, none⟩)) (pv_fieldAddr rfl) (by decide) ?_
          refine ql_pv (v := .int .i64 x160.2) (pv_loadc rfl ((cells_up hS.below hm165) 1 _ rfl)) (by decide) ?_
          replace hF := ob hF
          obtain ⟨x168, hx168, hF⟩ := hF
          refine ql_pv (v := .int .i64 x168) (pv_mul rfl rfl hx168) (by decide) ?_
          refine ql_pv (v := .int .i64 x168) (pv_assign rfl) (by decide) ?_
          refine ql_nil ?_
          intro w169 hx170
          replace hS := hS.ext hx170
          refine hQ149 _ _ _ ?_
          refine thn_n ?_
          refine cw_seq ?_
          refine cw_gen ?_
          intro Q171 hQ171
          refine cw_reg ?_
          refine el_pv (v := .int .i64 x168) (pv_move rfl) (by decide) ?_
          refine el_pv (v := .bool (decide (1000 < x168))) (pv_gtr rfl rfl) (by decide) ?_
          refine el_nil ?_
          refine hQ171 _ _ _ ?_
          refine thn_n ?_
          replace hF := oif hF
          rcases hF with ⟨hb172, hF⟩ | ⟨hb172, hF⟩
          · refine cw_cond_t rfl hb172 ?_
            refine cw_seq ?_
            refine cw_gen ?_
            intro Q173 hQ173
            refine cw_reg ?_
            refine el_buildSlice0 intR hS (by decide) ?_
            intro w174 v176 hS hx175
            refine el_pv (v := v176) (pv_assign rfl) (by decide) ?_
            refine el_pv (v := .int .i64 0) (pv_assign rfl) (by decide) ?_
            refine el_nil ?_
            refine hQ173 _ _ _ ?_
            refine thn_n ?_
            refine cw_ret ?_
            refine hQ120 _ _ _ ?_
            refine inb_r ?_
            refine hQ119 _ _ _ ?_
            refine thn_r ?_
            refine hQ115 _ _ _ ?_
            refine thn_r ?_
            refine hQ105 _ _ _ ?_
            refine inb_r ?_
            refine hQ103 _ _ _ ?_
            refine thn_r ?_
            replace hF := exL hF hK107
            refine fin2 rfl rfl rfl ?_
            have hr := Option.some.inj hF
            exact ⟨v176, congrArg (fun (r : (List Int) × Int) => Ending.returned (.tuple #[v176, .int .i64 r.2])) hr, Eq.mp (congrArg (fun (r : (List Int) × Int) => Sat w0 w174 [Own (sliceR intR 3) [v176] r.1]) hr) (hS.keep 1)⟩
          · refine cw_cond_f rfl hb172 ?_
            refine cw_skip ?_
            refine hQ120 _ _ _ ?_
            refine inb_n ?_
            refine hQ119 _ _ _ ?_
            refine thn_n ?_
            refine cw_reg ?_
            refine el_pv (v := .int .i64 x109) (pv_move he112) (by decide) ?_
            replace hF := ob hF
            obtain ⟨x178, hx178, hF⟩ := hF
            refine el_pv (v := .int .i64 x178) (pv_add rfl rfl hx178) (by decide) ?_
            refine el_pv (v := .int .i64 x178) (pv_assign rfl) (by decide) ?_
            refine el_nil ?_
            refine hQ115 _ _ _ ?_
            refine thn_n ?_
            replace hS := hS.keep 0
            exact ⟨x168, x178, he110, rfl, rfl, hS, hF⟩
      · refine el_off rfl (bnot_f hb134) rfl (by decide) ?_
        refine el_off rfl (bnot_f hb134) rfl (by decide) ?_
        refine el_off rfl (bnot_f hb134) rfl (by decide) ?_
        refine el_off rfl (bnot_f hb134) rfl (by decide) ?_
        refine el_off rfl (bnot_f hb134) rfl (by decide) ?_
        refine el_off rfl (bnot_f hb134) rfl (by decide) ?_
        refine el_pv (v := .bool true) (pv_pick_t rfl (bnot_f hb134) rfl) (by decide) ?_
        refine el_nil ?_
        refine hQ122 _ _ _ ?_
        refine thn_n ?_
        refine cw_cond_t rfl rfl ?_
        refine cw_seq ?_
        refine cw_gen ?_
        intro Q179 hQ179
        refine cw_reg ?_
        refine el_buildSlice0 intR hS (by decide) ?_
        intro w180 v182 hS hx181
        refine el_pv (v := v182) (pv_assign rfl) (by decide) ?_
        refine el_pv (v := .int .i64 0) (pv_assign rfl) (by decide) ?_
        refine el_nil ?_
        refine hQ179 _ _ _ ?_
        refine thn_n ?_
        refine cw_ret ?_
        refine hQ121 _ _ _ ?_
        refine thn_r ?_
        refine hQ120 _ _ _ ?_
        refine inb_r ?_
        refine hQ119 _ _ _ ?_
        refine thn_r ?_
        refine hQ115 _ _ _ ?_
        refine thn_r ?_
        refine hQ105 _ _ _ ?_
        refine inb_r ?_
        refine hQ103 _ _ _ ?_
        refine thn_r ?_
        replace hF := exL hF hK107
        refine fin2 rfl rfl rfl ?_
        have hr := Option.some.inj hF
        exact ⟨v182, congrArg (fun (r : (List Int) × Int) => Ending.returned (.tuple #[v182, .int .i64 r.2])) hr, Eq.mp (congrArg (fun (r : (List Int) × Int) => Sat w0 w180 [Own (sliceR intR 3) [v182] r.1]) hr) (hS.keep 1)⟩
    · refine cw_cond_f rfl hb118 ?_
      refine cw_exit ?_
      refine hQ116 _ _ _ ?_
      refine thn_x ?_
      refine hQ115 _ _ _ ?_
      refine thn_x ?_
      replace hF := exA hF hK107
      refine hQ105 _ _ _ ?_
      refine inb_s ?_
      refine hQ103 _ _ _ ?_
      refine thn_n ?_
      refine cw_seq ?_
      refine cw_gen ?_
      intro Q184 hQ184
      refine cw_reg ?_
      refine el_buildSlice0 intR hS (by decide) ?_
      intro w185 v187 hS hx186
      refine el_pv (v := v187) (pv_assign rfl) (by decide) ?_
      refine el_nil ?_
      refine hQ184 _ _ _ ?_
      refine thn_n ?_
      refine cw_seq ?_
      refine cw_gen ?_
      intro Q189 hQ189
      refine cw_seq ?_
      refine cw_gen ?_
      intro Q190 hQ190
      refine cw_reg ?_
      refine el_pv (v := .int .i64 0) (pv_assign rfl) (by decide) ?_
      refine el_nil ?_
      refine hQ190 _ _ _ ?_
      refine thn_n ?_
      refine cw_block ?_
      refine cw_gen ?_
      intro Q191 hQ191
      obtain ⟨s192, hL, hK193⟩ := ob hF
      refine cw_loopS (fun k e w => ∃ (v195 : Value), ∃ (x194 : List Int), ∃ (x196 : Int), e 0 = u0 ∧ e 4 = .int .i64 x108 ∧ e 6 = v195 ∧ e 7 = .int .i64 x196 ∧ Sat w0 w [Own (sliceR intR 3) [v195] x194] ∧ spec_ScaleToIntegers_L2 N k a0 x108 x194 x196 = some s192) N ?_ ?_ ?_
      · exact ⟨v187, [], 0, he110, he111, rfl, rfl, hS, hL⟩
      · rintro e w ⟨_, _, _, _, _, _, _, _, hz⟩; exact nomatch (show none = some _ from hz)
      · rintro k e202 w201 ⟨v195, x194, x196, he197, he198, he199, he200, hS, hF⟩
        refine cw_gen ?_
        intro Q203 hQ203
        refine cw_seq ?_
        refine cw_gen ?_
        intro Q204 hQ204
        refine cw_seq ?_
        refine cw_gen ?_
        intro Q205 hQ205
        refine cw_reg ?_
        refine el_pv (v := .int .i64 x196) (pv_move he200) (by decide) ?_
        refine el_pv (v := u0) (pv_move he197) (by decide) ?_
        refine el_pv (v := .int .i64 (a0.length : Int)) (pv_len rfl ha0) (by decide) ?_
        refine el_pv (v := .bool (decide (x196 < (a0.length : Int)))) (pv_lss rfl rfl) (by decide) ?_
        refine el_nil ?_
        refine hQ205 _ _ _ ?_
        refine thn_n ?_
        replace hF := oif hF
        rcases hF with ⟨hb206, hF⟩ | ⟨hb206, hF⟩
        · refine cw_cond_t rfl hb206 ?_
          refine cw_skip ?_
          refine hQ204 _ _ _ ?_
          refine thn_n ?_
          refine cw_seq ?_
          refine cw_gen ?_
          intro Q207 hQ207
          refine cw_block ?_
          refine cw_gen ?_
          intro Q208 hQ208
          obtain ⟨C, hCd⟩ : ∃ C : World → Prop, ∀ w, C w ↔ ∃ G, Sat w0 w ([] ++ G) := ⟨_, fun _ => Iff.rfl⟩
          refine cw_regb [0, 1, 2, 3, 4, 5, 6, 7, 8, 9, 10, 11, 12, 13, 14, 15, 16] C (by kernel_rfl) ?_
          intro w209 hx210
          replace hS := hS.ext hx210
          have hC := (hCd _).2 ⟨_, hS⟩
          refine al_p (v := v195) (by kernel_rfl) 0 rfl rfl (by decide) hC (by kernel_rfl) (by kernel_rfl) (sv_on rfl (fun w' hw' => by obtain ⟨_, hS⟩ := (hCd _).1 hw'; exact (pv_move he199))) ?_
          refine al_p (v := u0) (by kernel_rfl) 1 rfl rfl (by decide) hC (by kernel_rfl) (by kernel_rfl) (sv_on rfl (fun w' hw' => by obtain ⟨_, hS⟩ := (hCd _).1 hw'; exact (pv_move he197))) ?_
          refine al_p (v := .int .i64 x196) (by kernel_rfl) 2 rfl rfl (by decide) hC (by kernel_rfl) (by kernel_rfl) (sv_on rfl (fun w' hw' => by obtain ⟨_, hS⟩ := (hCd _).1 hw'; exact (pv_move he200))) ?_
          replace hF := ob hF
          obtain ⟨x211, hx211, hF⟩ := hF
          refine al_index (wA := w0) (by kernel_rfl) 3 rfl hC (by kernel_rfl) (by kernel_rfl) rfl ha0 rfl (by decide) rfl hx211 (by decide) ?_
          intro b212 of213 c214 hr215 hm216
          obtain ⟨_, _, rfl, hr217, hr218⟩ := hr215
          obtain rfl := hr217
          obtain rfl := hr218
          refine al_p (v := .pointer (some ⟨b212, of213 + 0, none⟩)) (by kernel_rfl) 4 rfl rfl (by decide) hC (by kernel_rfl) (by kernel_rfl) (sv_on rfl (fun w' hw' => by obtain ⟨_, hS⟩ := (hCd _).1 hw'; exact (pv_fieldAddr rfl))) ?_
          refine al_p (v := .int .i64 x211.1) (by kernel_rfl) 5 rfl rfl (by decide) hC (by kernel_rfl) (by kernel_rfl) (sv_on rfl (fun w' hw' => by obtain ⟨_, hS⟩ := (hCd _).1 hw'; exact (pv_loadc rfl ((cells_up hS.below hm216) 0 _ rfl)))) ?_
          refine al_p (v := .int .i64 x108) (by kernel_rfl) 6 rfl rfl (by decide) hC (by kernel_rfl) (by kernel_rfl) (sv_on rfl (fun w' hw' => by obtain ⟨_, hS⟩ := (hCd _).1 hw'; exact (pv_move he198))) ?_
          refine al_p (v := u0) (by kernel_rfl) 7 rfl rfl (by decide) hC (by kernel_rfl) (by kernel_rfl) (sv_on rfl (fun w' hw' => by obtain ⟨_, hS⟩ := (hCd _).1 hw'; exact (pv_move he197))) ?_
          refine al_one 8 (by kernel_rfl) rfl ?_
          refine el_pv (v := .int .i64 x196) (pv_move he200) (by decide) ?_
          refine el_nil ?_
          refine ⟨fun _ => hC, ?_⟩
          refine al_one 9 (by kernel_rfl) rfl ?_
          replace hF := ob hF
          obtain ⟨x219, hx219, hF⟩ := hF
          refine el_index (wA := w0) rfl ha0 rfl (by decide) rfl hx219 (by decide) ?_
          intro b220 of221 c222 hr223 hm224
          obtain ⟨_, _, rfl, hr225, hr226⟩ := hr223
          obtain rfl := hr225
          obtain rfl := hr226
          refine el_nil ?_
          refine ⟨fun _ => hC, ?_⟩
          refine al_one 10 (by kernel_rfl) rfl ?_
          refine el_pv (v := .pointer (some ⟨b220, of221 + 1, none⟩)) (pv_fieldAddr rfl) (by decide) ?_
          refine el_nil ?_
          refine ⟨fun _ => hC, ?_⟩
          refine al_one 11 (by kernel_rfl) rfl ?_
          refine el_pv (v := .int .i64 x219.2) (pv_loadc rfl ((cells_up hS.below hm224) 1 _ rfl)) (by decide) ?_
          refine el_nil ?_
          refine ⟨fun _ => hC, ?_⟩
          refine al_one 12 (by kernel_rfl) rfl ?_
          replace hF := ob hF
          obtain ⟨x227, hx227, hF⟩ := hF
          refine el_pv (v := .int .i64 x227) (pv_quo rfl rfl hx227) (by decide) ?_
          refine el_nil ?_
          refine ⟨fun _ => hC, ?_⟩
          refine al_one 13 (by kernel_rfl) rfl ?_
          replace hF := ob hF
          obtain ⟨x228, hx228, hF⟩ := hF
          refine el_pv (v := .int .i64 x228) (pv_mul rfl rfl hx228) (by decide) ?_
          refine el_nil ?_
          refine ⟨fun _ => hC, ?_⟩
          refine al_one 14 (by kernel_rfl) rfl ?_
          refine el_buildSlice1 [.int .i64 x228] rfl (by rfl) (by decide) rfl (by decide) hS (by decide) ?_
          intro w229 b231 hS hx230
          refine el_nil ?_
          have hC := (hCd _).2 ⟨_, hS⟩
          refine ⟨fun _ => hC, ?_⟩
          refine al_one 15 (by kernel_rfl) rfl ?_
          replace hF := ob hF
          obtain ⟨x235, hx235, hF⟩ := hF
          have hrow236 := hS.boxRow 0 rfl
          replace hS : Sat w0 w229 [Own (sliceR intR 3) [v195] x194, Box b231 3 [.int .i64 x228]] := hS.top 1 rfl
          replace hS := hS.int x228
          replace hS := hS.one
          refine el_append rfl (by decide) rfl (by decide) hS rfl rfl rfl (by simp) hrow236 hx235 (by decide) ?_
          intro w233 v234 hS
          refine el_nil ?_
          have hC := (hCd _).2 ⟨_, hS⟩
          refine ⟨fun _ => hC, ?_⟩
          refine al_one 16 (by kernel_rfl) rfl ?_
          refine el_pv (v := v234) (pv_assign rfl) (by decide) ?_
          refine el_nil ?_
          refine ⟨fun _ => hC, ?_⟩
          refine al_nil (by kernel_rfl) ?_
          refine hQ208 _ _ _ ?_
          refine inb_n ?_
          refine hQ207 _ _ _ ?_
          refine thn_n ?_
          replace hS : Sat w0 w233 [Own (sliceR intR 3) [v234] x235] := hS.rems 2 [1] rfl
          refine cw_reg ?_
          refine el_pv (v := .int .i64 x196) (pv_move he200) (by decide) ?_
          replace hF := ob hF
          obtain ⟨x238, hx238, hF⟩ := hF
          refine el_pv (v := .int .i64 x238) (pv_add rfl rfl hx238) (by decide) ?_
          refine el_pv (v := .int .i64 x238) (pv_assign rfl) (by decide) ?_
          refine el_nil ?_
          refine hQ203 _ _ _ ?_
          refine thn_n ?_
          replace hS := hS.keep 1
          exact ⟨v234, x235, x238, he197, he198, rfl, rfl, hS, hF⟩
        · refine cw_cond_f rfl hb206 ?_
          refine cw_exit ?_
          refine hQ204 _ _ _ ?_
          refine thn_x ?_
          refine hQ203 _ _ _ ?_
          refine thn_x ?_
          replace hF := exB hF hK193
          refine hQ191 _ _ _ ?_
          refine inb_s ?_
          refine hQ189 _ _ _ ?_
          refine thn_n ?_
          refine cw_seq ?_
          refine cw_gen ?_
          intro Q239 hQ239
          refine cw_reg ?_
          refine el_pv (v := v195) (pv_move he199) (by decide) ?_
          refine el_pv (v := .int .i64 x108) (pv_move he198) (by decide) ?_
          refine el_pv (v := v195) (pv_assign rfl) (by decide) ?_
          refine el_pv (v := .int .i64 x108) (pv_assign rfl) (by decide) ?_
          refine el_nil ?_
          refine hQ239 _ _ _ ?_
          refine thn_n ?_
          refine cw_ret ?_
          refine fin2 rfl rfl rfl ?_
          have hr := Option.some.inj hF
          exact ⟨v195, congrArg (fun (r : (List Int) × Int) => Ending.returned (.tuple #[v195, .int .i64 r.2])) hr, Eq.mp (congrArg (fun (r : (List Int) × Int) => Sat w0 w201 [Own (sliceR intR 3) [v195] r.1]) hr) (hS.keep 1)⟩
set_option maxHeartbeats 4000000 in
theorem spec_IsValidBigInt_ok {w0 : World} {u0 : Value} {a0 : List Int} (ha0 : (sliceR intR 3).rd w0 [u0] a0) {N : Nat} {r : Bool} (hF : spec_IsValidBigInt N a0 = some r) :
    Calls Try.prog 87 #[.agg #[u0]] w0 fun e w' => e = .returned (.bool r) ∧ Ext w0 w' := by
  unfold spec_IsValidBigInt at hF
  refine calls_E Try.func87 rfl rfl (of_decide_eq_true rfl) ?_
  have hS := Sat.start w0
  refine cw_seq ?_
  refine cw_gen ?_
  intro Q101 hQ101
  refine cw_reg ?_
  refine el_box [u0] rfl hS (by decide) ?_
  intro w102 b103 hS hx104
  refine el_pv (v := .bool false) (pv_assign rfl) (by decide) ?_
  refine el_nil ?_
  refine hQ101 _ _ _ ?_
  refine thn_n ?_
  refine cw_seq ?_
  refine cw_gen ?_
  intro Q106 hQ106
  refine cw_seq ?_
  refine cw_gen ?_
  intro Q107 hQ107
  refine cw_reg ?_
  refine el_pv (v := .int .i64 0) (pv_assign rfl) (by decide) ?_
  refine el_nil ?_
  refine hQ107 _ _ _ ?_
  refine thn_n ?_
  refine cw_block ?_
  refine cw_gen ?_
  intro Q108 hQ108
  obtain ⟨s109, hL, hK110⟩ := ob hF
  refine cw_loopS (fun k e w => ∃ (x111 : Int), e 1 = .pointer (some ⟨b103, 0, none⟩) ∧ e 3 = .int .i64 x111 ∧ Sat w0 w [Box b103 76 [u0]] ∧ spec_IsValidBigInt_L1 N k a0 x111 = some s109) N ?_ ?_ ?_
  · exact ⟨0, rfl, rfl, hS, hL⟩
  · rintro e w ⟨_, _, _, _, hz⟩; exact nomatch (show none = some _ from hz)
  · rintro k e115 w114 ⟨x111, he112, he113, hS, hF⟩
    refine cw_gen ?_
    intro Q116 hQ116
    refine cw_seq ?_
    refine cw_gen ?_
    intro Q117 hQ117
    refine cw_seq ?_
    refine cw_gen ?_
    intro Q118 hQ118
    refine cw_reg ?_
    refine el_pv (v := .int .i64 x111) (pv_move he113) (by decide) ?_
    refine el_pv (v := .pointer (some ⟨b103, 0 + 0, none⟩)) (pv_fieldAddr he112) (by decide) ?_
    refine el_pv (v := u0) (pv_loadc rfl ((hS.boxAt 0 rfl) 0 _ rfl)) (by decide) ?_
    refine el_pv (v := .int .i64 (a0.length : Int)) (pv_len rfl ha0) (by decide) ?_
    refine el_pv (v := .bool (decide (x111 < (a0.length : Int)))) (pv_lss rfl rfl) (by decide) ?_
    refine el_nil ?_
    refine hQ118 _ _ _ ?_
    refine thn_n ?_
    replace hF := oif hF
    rcases hF with ⟨hb119, hF⟩ | ⟨hb119, hF⟩
    · refine cw_cond_t rfl hb119 ?_
      refine cw_skip ?_
      refine hQ117 _ _ _ ?_
      refine thn_n ?_
      refine cw_seq ?_
      refine cw_gen ?_
      intro Q120 hQ120
      refine cw_block ?_
      refine cw_gen ?_
      intro Q121 hQ121
      refine cw_seq ?_
      refine cw_gen ?_
      intro Q122 hQ122
      refine cw_reg ?_
      refine el_pv (v := .pointer (some ⟨b103, 0 + 0, none⟩)) (pv_fieldAddr he112) (by decide) ?_
      refine el_pv (v := u0) (pv_loadc rfl ((hS.boxAt 0 rfl) 0 _ rfl)) (by decide) ?_
      refine el_pv (v := .int .i64 x111) (pv_move he113) (by decide) ?_
      replace hF := ob hF
      obtain ⟨x123, hx123, hF⟩ := hF
      refine el_index (wA := w0) rfl ha0 rfl (by decide) rfl hx123 (by decide) ?_
      intro b124 of125 c126 hr127 hm128
      obtain rfl := hr127
      refine el_pv (v := .int .i64 x123) (pv_loadc rfl ((cells_up hS.below hm128) 0 _ rfl)) (by decide) ?_
      replace hF := ob hF
      obtain ⟨r129, hr129, hF⟩ := hF
      refine el_call goes38 (spec_l1In_ok hr129) (congrArg List.toArray (mapc rfl (mapc rfl (mapc rfl rfl)))) (by decide) ?_
      rintro _ w130 ⟨rfl, hx131⟩
      refine ⟨_, rfl, ?_⟩
      replace hS := hS.ext hx131
      refine el_pv (v := .bool (!r129)) (pv_not rfl) (by decide) ?_
      refine el_nil ?_
      refine hQ122 _ _ _ ?_
      refine thn_n ?_
      replace hF := oif hF
      rcases hF with ⟨hb132, hF⟩ | ⟨hb132, hF⟩
      · refine cw_cond_f rfl (bnot_t hb132) ?_
        refine cw_skip ?_
        refine hQ121 _ _ _ ?_
        refine inb_n ?_
        refine hQ120 _ _ _ ?_
        refine thn_n ?_
        refine cw_reg ?_
        refine el_pv (v := .int .i64 x111) (pv_move he113) (by decide) ?_
        replace hF := ob hF
        obtain ⟨x133, hx133, hF⟩ := hF
        refine el_pv (v := .int .i64 x133) (pv_add rfl rfl hx133) (by decide) ?_
        refine el_pv (v := .int .i64 x133) (pv_assign rfl) (by decide) ?_
        refine el_nil ?_
        refine hQ116 _ _ _ ?_
        refine thn_n ?_
        replace hS := hS.keep 1
        exact ⟨x133, he112, rfl, hS, hF⟩
      · refine cw_cond_t rfl (bnot_f hb132) ?_
        refine cw_seq ?_
        refine cw_gen ?_
        intro Q134 hQ134
        replace hS : Sat w0 w130 [] := hS.rems 1 [0] rfl
        refine cw_reg ?_
        refine el_pv (v := .bool false) (pv_assign rfl) (by decide) ?_
        refine el_nil ?_
        refine hQ134 _ _ _ ?_
        refine thn_n ?_
        refine cw_ret ?_
        refine hQ121 _ _ _ ?_
        refine inb_r ?_
        refine hQ120 _ _ _ ?_
        refine thn_r ?_
        refine hQ116 _ _ _ ?_
        refine thn_r ?_
        refine hQ108 _ _ _ ?_
        refine inb_r ?_
        refine hQ106 _ _ _ ?_
        refine thn_r ?_
        replace hF := exL hF hK110
        refine fin1 rfl rfl ?_
        have hr := Option.some.inj hF
        exact ⟨congrArg (fun (r : Bool) => Ending.returned (.bool r)) hr, hS.below⟩
    · refine cw_cond_f rfl hb119 ?_
      refine cw_exit ?_
      refine hQ117 _ _ _ ?_
      refine thn_x ?_
      refine hQ116 _ _ _ ?_
      refine thn_x ?_
      replace hF := exA hF hK110
      refine hQ108 _ _ _ ?_
      refine inb_s ?_
      refine hQ106 _ _ _ ?_
      refine thn_n ?_
      refine cw_seq ?_
      refine cw_gen ?_
      intro Q135 hQ135
      refine cw_reg ?_
      refine el_pv (v := .pointer (some ⟨b103, 0 + 0, none⟩)) (pv_fieldAddr he112) (by decide) ?_
      refine el_pv (v := u0) (pv_loadc rfl ((hS.boxAt 0 rfl) 0 _ rfl)) (by decide) ?_
      refine el_pv (v := .int .i64 (a0.length : Int)) (pv_len rfl ha0) (by decide) ?_
      refine el_pv (v := .bool (decide ((a0.length : Int) ≤ 60))) (pv_leq rfl rfl) (by decide) ?_
      refine el_pv (v := .bool (decide ((a0.length : Int) ≤ 60))) (pv_move rfl) (by decide) ?_
      replace hF := oif hF
      rcases hF with ⟨hb136, hF⟩ | ⟨hb136, hF⟩
      · refine el_on rfl hb136 ?_
        refine el_pv (v := .pointer (some ⟨b103, 0 + 0, none⟩)) (pv_fieldAddr he112) (by decide) ?_
        refine el_on rfl hb136 ?_
        refine el_pv (v := u0) (pv_loadc rfl ((hS.boxAt 0 rfl) 0 _ rfl)) (by decide) ?_
        refine el_on rfl hb136 ?_
        refine el_pv (v := .int .i64 (a0.length : Int)) (pv_len rfl ha0) (by decide) ?_
        refine el_on rfl hb136 ?_
        refine el_pv (v := .bool ((a0.length : Int) == 0)) (pv_eql rfl rfl) (by decide) ?_
        refine el_on rfl hb136 ?_
        refine el_pv (v := .bool ((a0.length : Int) == 0)) (pv_move rfl) (by decide) ?_
        replace hF := oif hF
        rcases hF with ⟨hb137, hF⟩ | ⟨hb137, hF⟩
        · refine el_off rfl hb137 rfl (by decide) ?_
          refine el_off rfl hb137 rfl (by decide) ?_
          refine el_off rfl hb137 rfl (by decide) ?_
          refine el_off rfl hb137 rfl (by decide) ?_
          refine el_off rfl hb137 rfl (by decide) ?_
          refine el_off rfl hb137 rfl (by decide) ?_
          refine el_off rfl hb137 rfl (by decide) ?_
          refine el_off rfl hb137 rfl (by decide) ?_
          refine el_off rfl hb137 rfl (by decide) ?_
          refine el_on rfl hb136 ?_
          refine el_pv (v := .bool true) (pv_pick_t rfl hb137 rfl) (by decide) ?_
          refine el_pv (v := .bool true) (pv_pick_t rfl hb136 rfl) (by decide) ?_
          refine el_pv (v := .bool true) (pv_assign rfl) (by decide) ?_
          refine el_nil ?_
          refine hQ135 _ _ _ ?_
          refine thn_n ?_
          refine cw_ret ?_
          refine fin1 rfl rfl ?_
          have hr := Option.some.inj hF
          exact ⟨congrArg (fun (r : Bool) => Ending.returned (.bool r)) hr, hS.below⟩
        · refine el_on rfl hb137 ?_
          refine el_pv (v := .pointer (some ⟨b103, 0 + 0, none⟩)) (pv_fieldAddr he112) (by decide) ?_
          refine el_on rfl hb137 ?_
          refine el_pv (v := u0) (pv_loadc rfl ((hS.boxAt 0 rfl) 0 _ rfl)) (by decide) ?_
          refine el_on rfl hb137 ?_
          refine el_pv (v := .pointer (some ⟨b103, 0 + 0, none⟩)) (pv_fieldAddr he112) (by decide) ?_
          refine el_on rfl hb137 ?_
          refine el_pv (v := u0) (pv_loadc rfl ((hS.boxAt 0 rfl) 0 _ rfl)) (by decide) ?_
          refine el_on rfl hb137 ?_
          refine el_pv (v := .int .i64 (a0.length : Int)) (pv_len rfl ha0) (by decide) ?_
          refine el_on rfl hb137 ?_
          replace hF := ob hF
          obtain ⟨x138, hx138, hF⟩ := hF
          refine el_pv (v := .int .i64 x138) (pv_sub rfl rfl hx138) (by decide) ?_
          refine el_on rfl hb137 ?_
          replace hF := ob hF
          obtain ⟨x139, hx139, hF⟩ := hF
          refine el_index (wA := w0) rfl ha0 rfl (by decide) rfl hx139 (by decide) ?_
          intro b140 of141 c142 hr143 hm144
          obtain rfl := hr143
          refine el_on rfl hb137 ?_
          refine el_pv (v := .int .i64 x139) (pv_loadc rfl ((cells_up hS.below hm144) 0 _ rfl)) (by decide) ?_
          refine el_on rfl hb137 ?_
          refine el_pv (v := .bool (x139 != 0)) (pv_neq rfl rfl) (by decide) ?_
          refine el_on rfl hb136 ?_
          refine el_pv (v := .bool (x139 != 0)) (pv_pick_f rfl hb137 rfl) (by decide) ?_
          refine el_pv (v := .bool (x139 != 0)) (pv_pick_t rfl hb136 rfl) (by decide) ?_
          refine el_pv (v := .bool (x139 != 0)) (pv_assign rfl) (by decide) ?_
          refine el_nil ?_
          refine hQ135 _ _ _ ?_
          refine thn_n ?_
          refine cw_ret ?_
          refine fin1 rfl rfl ?_
          have hr := Option.some.inj hF
          exact ⟨congrArg (fun (r : Bool) => Ending.returned (.bool r)) hr, hS.below⟩
      · refine el_off rfl hb136 rfl (by decide) ?_
        refine el_off rfl hb136 rfl (by decide) ?_
        refine el_off rfl hb136 rfl (by decide) ?_
        refine el_off rfl hb136 rfl (by decide) ?_
        refine el_off rfl hb136 rfl (by decide) ?_
        refine el_offu rfl (by decide) ?_
        refine el_offu rfl (by decide) ?_
        refine el_offu rfl (by decide) ?_
        refine el_offu rfl (by decide) ?_
        refine el_offu rfl (by decide) ?_
        refine el_offu rfl (by decide) ?_
        refine el_offu rfl (by decide) ?_
        refine el_offu rfl (by decide) ?_
        refine el_offu rfl (by decide) ?_
        refine el_off rfl hb136 rfl (by decide) ?_
        refine el_pv (v := .bool false) (pv_pick_f rfl hb136 rfl) (by decide) ?_
        refine el_pv (v := .bool false) (pv_assign rfl) (by decide) ?_
        refine el_nil ?_
        refine hQ135 _ _ _ ?_
        refine thn_n ?_
        refine cw_ret ?_
        refine fin1 rfl rfl ?_
        have hr := Option.some.inj hF
        exact ⟨congrArg (fun (r : Bool) => Ending.returned (.bool r)) hr, hS.below⟩
set_option maxHeartbeats 4000000 in
theorem spec_l3Carry_ok {w0 : World} {u0 : Value} {a0 : List Int} (ha0 : (sliceR intR 3).rd w0 [u0] a0) {N : Nat} {r : (List Int) × Bool} (hF : spec_l3Carry N a0 = some r) :
    Calls Try.prog 88 #[u0] w0 fun e w' => ∃ (q0 : Value), e = .returned (.tuple #[.agg #[q0], .bool r.2]) ∧ Sat w0 w' [Own (sliceR intR 3) [q0] r.1] := by
  unfold spec_l3Carry at hF
  refine calls_E Try.func88 rfl rfl (of_decide_eq_true rfl) ?_
  have hS := Sat.start w0
  refine cw_seq ?_
  refine cw_gen ?_
  intro Q101 hQ101
  refine cw_reg ?_
  refine el_alloc hS (by decide) ?_
  intro w102 b103 hS hx104
  refine el_pv (v := .bool false) (pv_assign rfl) (by decide) ?_
  refine el_nil ?_
  refine hQ101 _ _ _ ?_
  refine thn_n ?_
  refine cw_seq ?_
  refine cw_gen ?_
  intro Q106 hQ106
  refine cw_reg ?_
  refine el_pv (v := .agg #[(.slice none 0 0)]) (pv_build [] [(.slice none 0 0)] rfl rfl) (by decide) ?_
  refine el_alloc hS (by decide) ?_
  intro w107 b108 hS hx109
  refine el_storev (hS.top 0 rfl) rfl [(.slice none 0 0)] rfl rfl (of_decide_eq_true rfl) (all_cons rfl rfl) ?_
  intro w111 hS
  replace hS : Sat w0 w111 [Box b108 76 [(.slice none 0 0)], Box b103 76 [(.slice none 0 0)]] := hS
  refine el_nil ?_
  refine hQ106 _ _ _ ?_
  refine thn_n ?_
  refine cw_seq ?_
  refine cw_gen ?_
  intro Q112 hQ112
  refine cw_reg ?_
  refine el_pv (v := .int .i64 0) (pv_assign rfl) (by decide) ?_
  refine el_nil ?_
  refine hQ112 _ _ _ ?_
  refine thn_n ?_
  refine cw_seq ?_
  refine cw_gen ?_
  intro Q113 hQ113
  refine cw_seq ?_
  refine cw_gen ?_
  intro Q114 hQ114
  refine cw_reg ?_
  refine el_pv (v := .int .i64 0) (pv_assign rfl) (by decide) ?_
  refine el_nil ?_
  refine hQ114 _ _ _ ?_
  refine thn_n ?_
  refine cw_block ?_
  refine cw_gen ?_
  intro Q115 hQ115
  replace hS := hS.nil intR 3
  obtain ⟨s117, hL, hK118⟩ := ob hF
  refine cw_loopS (fun k e w => ∃ (v120 : Value), ∃ (x119 : List Int), ∃ (x121 : Int), ∃ (x122 : Int), e 0 = u0 ∧ e 2 = .pointer (some ⟨b103, 0, none⟩) ∧ e 4 = .pointer (some ⟨b108, 0, none⟩) ∧ e 5 = .int .i64 x121 ∧ e 6 = .int .i64 x122 ∧ Sat w0 w [Own (sliceR intR 3) [v120] x119, Box b108 76 [v120], Box b103 76 [(.slice none 0 0)]] ∧ spec_l3Carry_L1 N k a0 [] x119 x121 x122 = some s117) N ?_ ?_ ?_
  · exact ⟨(.slice none 0 0), [], 0, 0, rfl, rfl, rfl, rfl, rfl, hS, hL⟩
  · rintro e w ⟨_, _, _, _, _, _, _, _, _, _, hz⟩; exact nomatch (show none = some _ from hz)
  · rintro k e129 w128 ⟨v120, x119, x121, x122, he123, he124, he125, he126, he127, hS, hF⟩
    refine cw_gen ?_
    intro Q130 hQ130
    refine cw_seq ?_
    refine cw_gen ?_
    intro Q131 hQ131
    refine cw_seq ?_
    refine cw_gen ?_
    intro Q132 hQ132
    refine cw_reg ?_
    refine el_pv (v := .int .i64 x122) (pv_move he127) (by decide) ?_
    refine el_pv (v := u0) (pv_move he123) (by decide) ?_
    refine el_pv (v := .int .i64 (a0.length : Int)) (pv_len rfl ha0) (by decide) ?_
    refine el_pv (v := .bool (decide (x122 < (a0.length : Int)))) (pv_lss rfl rfl) (by decide) ?_
    refine el_pv (v := .bool (decide (x122 < (a0.length : Int)))) (pv_move rfl) (by decide) ?_
    replace hF := oif hF
    rcases hF with ⟨hb133, hF⟩ | ⟨hb133, hF⟩
    · refine el_off rfl hb133 rfl (by decide) ?_
      refine el_off rfl hb133 rfl (by decide) ?_
      refine el_pv (v := .bool true) (pv_pick_t rfl hb133 rfl) (by decide) ?_
      refine el_nil ?_
      refine hQ132 _ _ _ ?_
      refine thn_n ?_
      refine cw_cond_t rfl rfl ?_
      refine cw_skip ?_
      refine hQ131 _ _ _ ?_
      refine thn_n ?_
      refine cw_seq ?_
      refine cw_gen ?_
      intro Q134 hQ134
      refine cw_block ?_
      refine cw_gen ?_
      intro Q135 hQ135
      refine cw_seq ?_
      refine cw_gen ?_
      intro Q136 hQ136
      refine cw_seq ?_
      refine cw_gen ?_
      intro Q137 hQ137
      refine cw_reg ?_
      refine el_pv (v := .int .i64 x122) (pv_move he127) (by decide) ?_
      refine el_pv (v := u0) (pv_move he123) (by decide) ?_
      refine el_pv (v := .int .i64 (a0.length : Int)) (pv_len rfl ha0) (by decide) ?_
      refine el_pv (v := .bool (decide (x122 < (a0.length : Int)))) (pv_lss rfl rfl) (by decide) ?_
      refine el_nil ?_
      refine hQ137 _ _ _ ?_
      refine thn_n ?_
      refine cw_cond_t rfl hb133 ?_
      refine cw_reg ?_
      refine el_pv (v := .int .i64 x121) (pv_move he126) (by decide) ?_
      refine el_pv (v := u0) (pv_move he123) (by decide) ?_
      refine el_pv (v := .int .i64 x122) (pv_move he127) (by decide) ?_
      replace hF := ob hF
      obtain ⟨x138, hx138, hF⟩ := hF
      refine el_index (wA := w0) rfl ha0 rfl (by decide) rfl hx138 (by decide) ?_
      intro b139 of140 c141 hr142 hm143
      obtain rfl := hr142
      refine el_pv (v := .int .i64 x138) (pv_loadc rfl ((cells_up hS.below hm143) 0 _ rfl)) (by decide) ?_
      replace hF := ob hF
      obtain ⟨x144, hx144, hF⟩ := hF
      refine el_pv (v := .int .i64 x144) (pv_add rfl rfl hx144) (by decide) ?_
      refine el_pv (v := .int .i64 x144) (pv_assign rfl) (by decide) ?_
      refine el_nil ?_
      refine hQ136 _ _ _ ?_
      refine thn_n ?_
      refine cw_seq ?_
      refine cw_gen ?_
      intro Q145 hQ145
      refine cw_reg ?_
      refine el_pv (v := .pointer (some ⟨b108, 0 + 0, none⟩)) (pv_fieldAddr he125) (by decide) ?_
      refine el_pv (v := v120) (pv_loadc rfl ((hS.boxAt 1 rfl) 0 _ rfl)) (by decide) ?_
      refine el_pv (v := .int .i64 x144) (pv_move rfl) (by decide) ?_
      replace hF := ob hF
      obtain ⟨x146, hx146, hF⟩ := hF
      refine el_pv (v := .int .i64 x146) (pv_rem rfl rfl hx146) (by decide) ?_
      refine el_buildSlice1 [.int .i64 x146] rfl (by rfl) (by decide) rfl (by decide) hS (by decide) ?_
      intro w147 b149 hS hx148
      replace hF := ob hF
      obtain ⟨x153, hx153, hF⟩ := hF
      have hrow154 := hS.boxRow 0 rfl
      replace hS : Sat w0 w147 [Own (sliceR intR 3) [v120] x119, Box b149 3 [.int .i64 x146], Box b108 76 [v120], Box b103 76 [(.slice none 0 0)]] := hS.top 1 rfl
      replace hS := hS.int x146
      replace hS := hS.one
      refine el_append rfl (by decide) rfl (by decide) hS rfl rfl rfl (by simp) hrow154 hx153 (by decide) ?_
      intro w151 v152 hS
      refine el_pv (v := .pointer (some ⟨b108, 0 + 0, none⟩)) (pv_fieldAddr he125) (by decide) ?_
      refine el_storev (hS.top 2 rfl) rfl [v152] (cells_of rfl (oc (hS.rdAt (R := (sliceR intR 3)) 0 rfl))) rfl (of_decide_eq_true rfl) (all_cons (oc (hS.rdAt (R := (sliceR intR 3)) 0 rfl)) rfl) ?_
      intro w156 hS
      replace hS : Sat w0 w156 [Box b108 76 [v152], Own (sliceR intR 3) [v152] x153, Box b149 3 [.int .i64 x146], Box b103 76 [(.slice none 0 0)]] := hS
      refine el_nil ?_
      refine hQ145 _ _ _ ?_
      refine thn_n ?_
      replace hS : Sat w0 w156 [Box b108 76 [v152], Own (sliceR intR 3) [v152] x153, Box b103 76 [(.slice none 0 0)]] := hS.rems 4 [2] rfl
      refine cw_reg ?_
      refine el_pv (v := .int .i64 x144) (pv_move rfl) (by decide) ?_
      replace hF := ob hF
      obtain ⟨x157, hx157, hF⟩ := hF
      refine el_pv (v := .int .i64 x157) (pv_quo rfl rfl hx157) (by decide) ?_
      refine el_pv (v := .int .i64 x157) (pv_assign rfl) (by decide) ?_
      refine el_nil ?_
      refine hQ135 _ _ _ ?_
      refine inb_n ?_
      refine hQ134 _ _ _ ?_
      refine thn_n ?_
      refine cw_reg ?_
      refine el_pv (v := .int .i64 x122) (pv_move he127) (by decide) ?_
      replace hF := ob hF
      obtain ⟨x158, hx158, hF⟩ := hF
      refine el_pv (v := .int .i64 x158) (pv_add rfl rfl hx158) (by decide) ?_
      refine el_pv (v := .int .i64 x158) (pv_assign rfl) (by decide) ?_
      refine el_nil ?_
      refine hQ130 _ _ _ ?_
      refine thn_n ?_
      replace hS : Sat w0 w156 [Own (sliceR intR 3) [v152] x153, Box b108 76 [v152], Box b103 76 [(.slice none 0 0)]] := hS.tops 3 [1, 0, 2] rfl
      replace hS := hS.keep 3
      exact ⟨v152, x153, x157, x158, he123, he124, he125, rfl, rfl, hS, hF⟩
    · refine el_on rfl hb133 ?_
      refine el_pv (v := .int .i64 x121) (pv_move he126) (by decide) ?_
      refine el_on rfl hb133 ?_
      refine el_pv (v := .bool (decide (0 < x121))) (pv_gtr rfl rfl) (by decide) ?_
      refine el_pv (v := .bool (decide (0 < x121))) (pv_pick_f rfl hb133 rfl) (by decide) ?_
      refine el_nil ?_
      refine hQ132 _ _ _ ?_
      refine thn_n ?_
      replace hF := oif hF
      rcases hF with ⟨hb159, hF⟩ | ⟨hb159, hF⟩
      · refine cw_cond_t rfl hb159 ?_
        refine cw_skip ?_
        refine hQ131 _ _ _ ?_
        refine thn_n ?_
        refine cw_seq ?_
        refine cw_gen ?_
        intro Q160 hQ160
        refine cw_block ?_
        refine cw_gen ?_
        intro Q161 hQ161
        refine cw_seq ?_
        refine cw_gen ?_
        intro Q162 hQ162
        refine cw_seq ?_
        refine cw_gen ?_
        intro Q163 hQ163
        refine cw_reg ?_
        refine el_pv (v := .int .i64 x122) (pv_move he127) (by decide) ?_
        refine el_pv (v := u0) (pv_move he123) (by decide) ?_
        refine el_pv (v := .int .i64 (a0.length : Int)) (pv_len rfl ha0) (by decide) ?_
        refine el_pv (v := .bool (decide (x122 < (a0.length : Int)))) (pv_lss rfl rfl) (by decide) ?_
        refine el_nil ?_
        refine hQ163 _ _ _ ?_
        refine thn_n ?_
        refine cw_cond_f rfl hb133 ?_
        refine cw_skip ?_
        refine hQ162 _ _ _ ?_
        refine thn_n ?_
        refine cw_seq ?_
        refine cw_gen ?_
        intro Q164 hQ164
        refine cw_reg ?_
        refine el_pv (v := .pointer (some ⟨b108, 0 + 0, none⟩)) (pv_fieldAddr he125) (by decide) ?_
        refine el_pv (v := v120) (pv_loadc rfl ((hS.boxAt 1 rfl) 0 _ rfl)) (by decide) ?_
        refine el_pv (v := .int .i64 x121) (pv_move he126) (by decide) ?_
        replace hF := ob hF
        obtain ⟨x165, hx165, hF⟩ := hF
        refine el_pv (v := .int .i64 x165) (pv_rem rfl rfl hx165) (by decide) ?_
        refine el_buildSlice1 [.int .i64 x165] rfl (by rfl) (by decide) rfl (by decide) hS (by decide) ?_
        intro w166 b168 hS hx167
        replace hF := ob hF
        obtain ⟨x172, hx172, hF⟩ := hF
        have hrow173 := hS.boxRow 0 rfl
        replace hS : Sat w0 w166 [Own (sliceR intR 3) [v120] x119, Box b168 3 [.int .i64 x165], Box b108 76 [v120], Box b103 76 [(.slice none 0 0)]] := hS.top 1 rfl
        replace hS := hS.int x165
        replace hS := hS.one
        refine el_append rfl (by decide) rfl (by decide) hS rfl rfl rfl (by simp) hrow173 hx172 (by decide) ?_
        intro w170 v171 hS
        refine el_pv (v := .pointer (some ⟨b108, 0 + 0, none⟩)) (pv_fieldAddr he125) (by decide) ?_
        refine el_storev (hS.top 2 rfl) rfl [v171] (cells_of rfl (oc (hS.rdAt (R := (sliceR intR 3)) 0 rfl))) rfl (of_decide_eq_true rfl) (all_cons (oc (hS.rdAt (R := (sliceR intR 3)) 0 rfl)) rfl) ?_
        intro w175 hS
        replace hS : Sat w0 w175 [Box b108 76 [v171], Own (sliceR intR 3) [v171] x172, Box b168 3 [.int .i64 x165], Box b103 76 [(.slice none 0 0)]] := hS
        refine el_nil ?_
        refine hQ164 _ _ _ ?_
        refine thn_n ?_
        replace hS : Sat w0 w175 [Box b108 76 [v171], Own (sliceR intR 3) [v171] x172, Box b103 76 [(.slice none 0 0)]] := hS.rems 4 [2] rfl
        refine cw_reg ?_
        refine el_pv (v := .int .i64 x121) (pv_move he126) (by decide) ?_
        replace hF := ob hF
        obtain ⟨x176, hx176, hF⟩ := hF
        refine el_pv (v := .int .i64 x176) (pv_quo rfl rfl hx176) (by decide) ?_
        refine el_pv (v := .int .i64 x176) (pv_assign rfl) (by decide) ?_
        refine el_nil ?_
        refine hQ161 _ _ _ ?_
        refine inb_n ?_
        refine hQ160 _ _ _ ?_
        refine thn_n ?_
        refine cw_reg ?_
        refine el_pv (v := .int .i64 x122) (pv_move he127) (by decide) ?_
        replace hF := ob hF
        obtain ⟨x177, hx177, hF⟩ := hF
        refine el_pv (v := .int .i64 x177) (pv_add rfl rfl hx177) (by decide) ?_
        refine el_pv (v := .int .i64 x177) (pv_assign rfl) (by decide) ?_
        refine el_nil ?_
        refine hQ130 _ _ _ ?_
        refine thn_n ?_
        replace hS : Sat w0 w175 [Own (sliceR intR 3) [v171] x172, Box b108 76 [v171], Box b103 76 [(.slice none 0 0)]] := hS.tops 3 [1, 0, 2] rfl
        replace hS := hS.keep 3
        exact ⟨v171, x172, x176, x177, he123, he124, he125, rfl, rfl, hS, hF⟩
      · refine cw_cond_f rfl hb159 ?_
        refine cw_exit ?_
        refine hQ131 _ _ _ ?_
        refine thn_x ?_
        refine hQ130 _ _ _ ?_
        refine thn_x ?_
        replace hF := exB hF hK118
        refine hQ115 _ _ _ ?_
        refine inb_s ?_
        refine hQ113 _ _ _ ?_
        refine thn_n ?_
        refine cw_seq ?_
        refine cw_gen ?_
        intro Q178 hQ178
        refine cw_block ?_
        refine cw_gen ?_
        intro Q179 hQ179
        obtain ⟨s180, hL, hK181⟩ := ob hF
        refine cw_loopS (fun k e w => ∃ (v183 : Value), ∃ (x182 : List Int), e 2 = .pointer (some ⟨b103, 0, none⟩) ∧ e 4 = .pointer (some ⟨b108, 0, none⟩) ∧ Sat w0 w [Own (sliceR intR 3) [v183] x182, Box b108 76 [v183], Box b103 76 [(.slice none 0 0)]] ∧ spec_l3Carry_L2 N k [] x182 = some s180) N ?_ ?_ ?_
        · exact ⟨v120, x119, he124, he125, hS, hL⟩
        · rintro e w ⟨_, _, _, _, _, hz⟩; exact nomatch (show none = some _ from hz)
        · rintro k e187 w186 ⟨v183, x182, he184, he185, hS, hF⟩
          refine cw_gen ?_
          intro Q188 hQ188
          refine cw_seq ?_
          refine cw_gen ?_
          intro Q189 hQ189
          refine cw_seq ?_
          refine cw_gen ?_
          intro Q190 hQ190
          refine cw_reg ?_
          refine el_pv (v := .pointer (some ⟨b108, 0 + 0, none⟩)) (pv_fieldAddr he185) (by decide) ?_
          refine el_pv (v := v183) (pv_loadc rfl ((hS.boxAt 1 rfl) 0 _ rfl)) (by decide) ?_
          refine el_pv (v := .int .i64 (x182.length : Int)) (pv_len rfl (hS.rdAt (R := (sliceR intR 3)) 0 rfl)) (by decide) ?_
          refine el_pv (v := .bool (decide (0 < (x182.length : Int)))) (pv_gtr rfl rfl) (by decide) ?_
          refine el_pv (v := .bool (decide (0 < (x182.length : Int)))) (pv_move rfl) (by decide) ?_
          replace hF := oif hF
          rcases hF with ⟨hb191, hF⟩ | ⟨hb191, hF⟩
          · refine el_on rfl hb191 ?_
            refine el_pv (v := .pointer (some ⟨b108, 0 + 0, none⟩)) (pv_fieldAddr he185) (by decide) ?_
            refine el_on rfl hb191 ?_
            refine el_pv (v := v183) (pv_loadc rfl ((hS.boxAt 1 rfl) 0 _ rfl)) (by decide) ?_
            refine el_on rfl hb191 ?_
            refine el_pv (v := .pointer (some ⟨b108, 0 + 0, none⟩)) (pv_fieldAddr he185) (by decide) ?_
            refine el_on rfl hb191 ?_
            refine el_pv (v := v183) (pv_loadc rfl ((hS.boxAt 1 rfl) 0 _ rfl)) (by decide) ?_
            refine el_on rfl hb191 ?_
            refine el_pv (v := .int .i64 (x182.length : Int)) (pv_len rfl (hS.rdAt (R := (sliceR intR 3)) 0 rfl)) (by decide) ?_
            refine el_on rfl hb191 ?_
            replace hF := ob hF
            obtain ⟨x192, hx192, hF⟩ := hF
            refine el_pv (v := .int .i64 x192) (pv_sub rfl rfl hx192) (by decide) ?_
            refine el_on rfl hb191 ?_
            replace hF := ob hF
            obtain ⟨x193, hx193, hF⟩ := hF
            obtain ⟨g194, cap195, hv196⟩ := ownShape 0 hS rfl hx193
            refine el_pv (v := .pointer (some ⟨g194, x192.toNat * 1, none⟩)) (pv_indexF (v := v183) rfl hv196 rfl hx193) (by decide) ?_
            refine el_on rfl hb191 ?_
            refine el_pv (v := .int .i64 x193) (pv_loadc rfl (hS.ownCell 0 rfl hv196 hx193)) (by decide) ?_
            refine el_on rfl hb191 ?_
            refine el_pv (v := .bool (x193 == 0)) (pv_eql rfl rfl) (by decide) ?_
            refine el_pv (v := .bool (x193 == 0)) (pv_pick_t rfl hb191 rfl) (by decide) ?_
            refine el_nil ?_
            refine hQ190 _ _ _ ?_
            refine thn_n ?_
            replace hF := oif hF
            rcases hF with ⟨hb197, hF⟩ | ⟨hb197, hF⟩
            · refine cw_cond_t rfl hb197 ?_
              refine cw_skip ?_
              refine hQ189 _ _ _ ?_
              refine thn_n ?_
              refine cw_block ?_
              refine cw_gen ?_
              intro Q198 hQ198
              refine cw_reg ?_
              refine el_pv (v := .pointer (some ⟨b108, 0 + 0, none⟩)) (pv_fieldAddr he185) (by decide) ?_
              refine el_pv (v := v183) (pv_loadc rfl ((hS.boxAt 1 rfl) 0 _ rfl)) (by decide) ?_
              refine el_pv (v := .pointer (some ⟨b108, 0 + 0, none⟩)) (pv_fieldAddr he185) (by decide) ?_
              refine el_pv (v := v183) (pv_loadc rfl ((hS.boxAt 1 rfl) 0 _ rfl)) (by decide) ?_
              refine el_pv (v := .int .i64 (x182.length : Int)) (pv_len rfl (hS.rdAt (R := (sliceR intR 3)) 0 rfl)) (by decide) ?_
              replace hF := ob hF
              obtain ⟨x199, hx199, hF⟩ := hF
              refine el_pv (v := .int .i64 x199) (pv_sub rfl rfl hx199) (by decide) ?_
              replace hF := ob hF
              obtain ⟨x200, hx200, hF⟩ := hF
              refine el_pv (v := (slcV 1 v183 (0 : Int) x199)) (pv_slcV (l := (0 : Int)) (h := x199) rfl (hS.rdAt (R := (sliceR intR 3)) 0 rfl) (.inr ⟨rfl, rfl⟩) (.inl (congrArg some rfl)) hx200) (by decide) ?_
              refine el_pv (v := .pointer (some ⟨b108, 0 + 0, none⟩)) (pv_fieldAddr he185) (by decide) ?_
              replace hS := hS.prefix (m := 1) rfl hx200
              replace hS : Sat w0 w186 [Own (sliceR intR 3) [(slcV 1 v183 (0 : Int) x199)] x200, Box b108 76 [v183], Box b103 76 [(.slice none 0 0)]] := hS
              refine el_storev (hS.top 1 rfl) rfl [(slcV 1 v183 (0 : Int) x199)] (cells_of rfl (oc (hS.rdAt (R := (sliceR intR 3)) 0 rfl))) rfl (of_decide_eq_true rfl) (all_cons (oc (hS.rdAt (R := (sliceR intR 3)) 0 rfl)) rfl) ?_
              intro w203 hS
              replace hS : Sat w0 w203 [Box b108 76 [(slcV 1 v183 (0 : Int) x199)], Own (sliceR intR 3) [(slcV 1 v183 (0 : Int) x199)] x200, Box b103 76 [(.slice none 0 0)]] := hS
              refine el_nil ?_
              refine hQ198 _ _ _ ?_
              refine inb_n ?_
              refine hQ188 _ _ _ ?_
              refine thn_n ?_
              replace hS : Sat w0 w203 [Own (sliceR intR 3) [(slcV 1 v183 (0 : Int) x199)] x200, Box b108 76 [(slcV 1 v183 (0 : Int) x199)], Box b103 76 [(.slice none 0 0)]] := hS.tops 3 [1, 0, 2] rfl
              replace hS := hS.keep 3
              exact ⟨(slcV 1 v183 (0 : Int) x199), x200, he184, he185, hS, hF⟩
            · refine cw_cond_f rfl hb197 ?_
              refine cw_exit ?_
              refine hQ189 _ _ _ ?_
              refine thn_x ?_
              refine hQ188 _ _ _ ?_
              refine thn_x ?_
              replace hF := exB hF hK181
              refine hQ179 _ _ _ ?_
              refine inb_s ?_
              refine hQ178 _ _ _ ?_
              refine thn_n ?_
              refine cw_seq ?_
              refine cw_gen ?_
              intro Q204 hQ204
              refine cw_seq ?_
              refine cw_gen ?_
              intro Q205 hQ205
              refine cw_reg ?_
              refine el_pv (v := .pointer (some ⟨b108, 0 + 0, none⟩)) (pv_fieldAddr he185) (by decide) ?_
              refine el_pv (v := v183) (pv_loadc rfl ((hS.boxAt 1 rfl) 0 _ rfl)) (by decide) ?_
              refine el_pv (v := .int .i64 (x182.length : Int)) (pv_len rfl (hS.rdAt (R := (sliceR intR 3)) 0 rfl)) (by decide) ?_
              refine el_pv (v := .bool (decide (60 < (x182.length : Int)))) (pv_gtr rfl rfl) (by decide) ?_
              refine el_nil ?_
              refine hQ205 _ _ _ ?_
              refine thn_n ?_
              replace hF := oif hF
              rcases hF with ⟨hb206, hF⟩ | ⟨hb206, hF⟩
              · refine cw_cond_t rfl hb206 ?_
                refine cw_seq ?_
                refine cw_gen ?_
                intro Q207 hQ207
                replace hS : Sat w0 w186 [Box b103 76 [(.slice none 0 0)]] := hS.rems 3 [0, 1] rfl
                refine cw_reg ?_
                refine el_pv (v := .agg #[(.slice none 0 0)]) (pv_build [] [(.slice none 0 0)] rfl rfl) (by decide) ?_
                refine el_storev (hS.top 0 rfl) he184 [(.slice none 0 0)] rfl rfl (of_decide_eq_true rfl) (all_cons rfl rfl) ?_
                intro w208 hS
                replace hS : Sat w0 w208 [Box b103 76 [(.slice none 0 0)]] := hS
                refine el_pv (v := .bool false) (pv_assign rfl) (by decide) ?_
                refine el_nil ?_
                refine hQ207 _ _ _ ?_
                refine thn_n ?_
                refine cw_ret ?_
                refine hQ204 _ _ _ ?_
                refine thn_r ?_
                replace hS := hS.nil intR 3
                refine finCT (cs := [(.slice none 0 0)]) rfl he184 rfl (boxc0 (hS.boxAt 1 rfl)) rfl ?_
                have hr := Option.some.inj hF
                exact ⟨(.slice none 0 0), congrArg (fun (r : (List Int) × Bool) => Ending.returned (.tuple #[.agg #[(.slice none 0 0)], .bool r.2])) hr, Eq.mp (congrArg (fun (r : (List Int) × Bool) => Sat w0 w208 [Own (sliceR intR 3) [(.slice none 0 0)] r.1]) hr) (hS.keep 1)⟩
              · refine cw_cond_f rfl hb206 ?_
                refine cw_skip ?_
                refine hQ204 _ _ _ ?_
                refine thn_n ?_
                refine cw_seq ?_
                refine cw_gen ?_
                intro Q210 hQ210
                refine cw_reg ?_
                refine el_pv (v := .agg #[v183]) (pv_loada (cs := [v183]) he185 rfl (boxc0 (hS.boxAt 1 rfl))) (by decide) ?_
                refine el_storev (hS.top 2 rfl) he184 [v183] rfl rfl (of_decide_eq_true rfl) (all_cons (oc (hS.rdAt (R := (sliceR intR 3)) 0 rfl)) rfl) ?_
                intro w211 hS
                replace hS : Sat w0 w211 [Box b103 76 [v183], Own (sliceR intR 3) [v183] x182, Box b108 76 [v183]] := hS
                refine el_pv (v := .bool true) (pv_assign rfl) (by decide) ?_
                refine el_nil ?_
                refine hQ210 _ _ _ ?_
                refine thn_n ?_
                refine cw_ret ?_
                refine finCT (cs := [v183]) rfl he184 rfl (boxc0 (hS.boxAt 0 rfl)) rfl ?_
                replace hS : Sat w0 w211 [Own (sliceR intR 3) [v183] x182, Box b103 76 [v183], Box b108 76 [v183]] := hS.tops 3 [1] rfl
                have hr := Option.some.inj hF
                exact ⟨v183, congrArg (fun (r : (List Int) × Bool) => Ending.returned (.tuple #[.agg #[v183], .bool r.2])) hr, Eq.mp (congrArg (fun (r : (List Int) × Bool) => Sat w0 w211 [Own (sliceR intR 3) [v183] r.1]) hr) (hS.keep 1)⟩
          · refine el_off rfl hb191 rfl (by decide) ?_
            refine el_off rfl hb191 rfl (by decide) ?_
            refine el_off rfl hb191 rfl (by decide) ?_
            refine el_off rfl hb191 rfl (by decide) ?_
            refine el_off rfl hb191 rfl (by decide) ?_
            refine el_off rfl hb191 rfl (by decide) ?_
            refine el_off rfl hb191 rfl (by decide) ?_
            refine el_off rfl hb191 rfl (by decide) ?_
            refine el_off rfl hb191 rfl (by decide) ?_
            refine el_pv (v := .bool false) (pv_pick_f rfl hb191 rfl) (by decide) ?_
            refine el_nil ?_
            refine hQ190 _ _ _ ?_
            refine thn_n ?_
            refine cw_cond_f rfl rfl ?_
            refine cw_exit ?_
            refine hQ189 _ _ _ ?_
            refine thn_x ?_
            refine hQ188 _ _ _ ?_
            refine thn_x ?_
            replace hF := exB hF hK181
            refine hQ179 _ _ _ ?_
            refine inb_s ?_
            refine hQ178 _ _ _ ?_
            refine thn_n ?_
            refine cw_seq ?_
            refine cw_gen ?_
            intro Q212 hQ212
            refine cw_seq ?_
            refine cw_gen ?_
            intro Q213 hQ213
            refine cw_reg ?_
            refine el_pv (v := .pointer (some ⟨b108, 0 + 0, none⟩)) (pv_fieldAddr he185) (by decide) ?_
            refine el_pv (v := v183) (pv_loadc rfl ((hS.boxAt 1 rfl) 0 _ rfl)) (by decide) ?_
            refine el_pv (v := .int .i64 (x182.length : Int)) (pv_len rfl (hS.rdAt (R := (sliceR intR 3)) 0 rfl)) (by decide) ?_
            refine el_pv (v := .bool (decide (60 < (x182.length : Int)))) (pv_gtr rfl rfl) (by decide) ?_
            refine el_nil ?_
            refine hQ213 _ _ _ ?_
            refine thn_n ?_
            replace hF := oif hF
            rcases hF with ⟨hb214, hF⟩ | ⟨hb214, hF⟩
            · refine cw_cond_t rfl hb214 ?_
              refine cw_seq ?_
              refine cw_gen ?_
              intro Q215 hQ215
              replace hS : Sat w0 w186 [Box b103 76 [(.slice none 0 0)]] := hS.rems 3 [0, 1] rfl
              refine cw_reg ?_
              refine el_pv (v := .agg #[(.slice none 0 0)]) (pv_build [] [(.slice none 0 0)] rfl rfl) (by decide) ?_
              refine el_storev (hS.top 0 rfl) he184 [(.slice none 0 0)] rfl rfl (of_decide_eq_true rfl) (all_cons rfl rfl) ?_
              intro w216 hS
              replace hS : Sat w0 w216 [Box b103 76 [(.slice none 0 0)]] := hS
              refine el_pv (v := .bool false) (pv_assign rfl) (by decide) ?_
              refine el_nil ?_
              refine hQ215 _ _ _ ?_
              refine thn_n ?_
              refine cw_ret ?_
              refine hQ212 _ _ _ ?_
              refine thn_r ?_
              replace hS := hS.nil intR 3
              refine finCT (cs := [(.slice none 0 0)]) rfl he184 rfl (boxc0 (hS.boxAt 1 rfl)) rfl ?_
              have hr := Option.some.inj hF
              exact ⟨(.slice none 0 0), congrArg (fun (r : (List Int) × Bool) => Ending.returned (.tuple #[.agg #[(.slice none 0 0)], .bool r.2])) hr, Eq.mp (congrArg (fun (r : (List Int) × Bool) => Sat w0 w216 [Own (sliceR intR 3) [(.slice none 0 0)] r.1]) hr) (hS.keep 1)⟩
            · refine cw_cond_f rfl hb214 ?_
              refine cw_skip ?_
              refine hQ212 _ _ _ ?_
              refine thn_n ?_
              refine cw_seq ?_
              refine cw_gen ?_
              intro Q218 hQ218
              refine cw_reg ?_
              refine el_pv (v := .agg #[v183]) (pv_loada (cs := [v183]) he185 rfl (boxc0 (hS.boxAt 1 rfl))) (by decide) ?_
              refine el_storev (hS.top 2 rfl) he184 [v183] rfl rfl (of_decide_eq_true rfl) (all_cons (oc (hS.rdAt (R := (sliceR intR 3)) 0 rfl)) rfl) ?_
              intro w219 hS
              replace hS : Sat w0 w219 [Box b103 76 [v183], Own (sliceR intR 3) [v183] x182, Box b108 76 [v183]] := hS
              refine el_pv (v := .bool true) (pv_assign rfl) (by decide) ?_
              refine el_nil ?_
              refine hQ218 _ _ _ ?_
              refine thn_n ?_
              refine cw_ret ?_
              refine finCT (cs := [v183]) rfl he184 rfl (boxc0 (hS.boxAt 0 rfl)) rfl ?_
              replace hS : Sat w0 w219 [Own (sliceR intR 3) [v183] x182, Box b103 76 [v183], Box b108 76 [v183]] := hS.tops 3 [1] rfl
              have hr := Option.some.inj hF
              exact ⟨v183, congrArg (fun (r : (List Int) × Bool) => Ending.returned (.tuple #[.agg #[v183], .bool r.2])) hr, Eq.mp (congrArg (fun (r : (List Int) × Bool) => Sat w0 w219 [Own (sliceR intR 3) [v183] r.1]) hr) (hS.keep 1)⟩
set_option maxHeartbeats 4000000 in
theorem spec_MulBigInt_ok {w0 : World} {u0 : Value} {a0 : List Int} {u1 : Value} {a1 : List Int} (ha0 : (sliceR intR 3).rd w0 [u0] a0) (ha1 : (sliceR intR 3).rd w0 [u1] a1) {N : Nat} {r : (List Int) × Bool} (hF : spec_MulBigInt N a0 a1 = some r) :
    Calls Try.prog 46 #[.agg #[u0], .agg #[u1]] w0 fun e w' => ∃ (q0 : Value), e = .returned (.tuple #[.agg #[q0], .bool r.2]) ∧ Sat w0 w' [Own (sliceR intR 3) [q0] r.1] := by
  unfold spec_MulBigInt at hF
  refine calls_E Try.func46 rfl rfl (of_decide_eq_true rfl) ?_
  have hS := Sat.start w0
  refine cw_seq ?_
  refine cw_gen ?_
  intro Q101 hQ101
  refine cw_reg ?_
  refine el_box [u0] rfl hS (by decide) ?_
  intro w102 b103 hS hx104
  refine el_box [u1] rfl hS (by decide) ?_
  intro w106 b107 hS hx108
  refine el_alloc hS (by decide) ?_
  intro w110 b111 hS hx112
  refine el_pv (v := .bool false) (pv_assign rfl) (by decide) ?_
  refine el_nil ?_
  refine hQ101 _ _ _ ?_
  refine thn_n ?_
  refine cw_seq ?_
  refine cw_gen ?_
  intro Q114 hQ114
  refine cw_seq ?_
  refine cw_gen ?_
  intro Q115 hQ115
  refine cw_reg ?_
  refine el_pv (v := .agg #[u0]) (pv_loada (cs := [u0]) rfl rfl (boxc0 (hS.boxAt 2 rfl))) (by decide) ?_
  replace hF := ob hF
  obtain ⟨r116, hr116, hF⟩ := hF
  refine el_call goes87 (spec_IsValidBigInt_ok (hS.up ha0) hr116) (congrArg List.toArray (mapc rfl rfl)) (by decide) ?_
  rintro _ w117 ⟨rfl, hx118⟩
  refine ⟨_, rfl, ?_⟩
  replace hS := hS.ext hx118
  refine el_pv (v := .bool (!r116)) (pv_not rfl) (by decide) ?_
  refine el_pv (v := .bool (!r116)) (pv_move rfl) (by decide) ?_
  replace hF := oif hF
  rcases hF with ⟨hb119, hF⟩ | ⟨hb119, hF⟩
  · refine el_on rfl (bnot_t hb119) ?_
    refine el_pv (v := .agg #[u1]) (pv_loada (cs := [u1]) rfl rfl (boxc0 (hS.boxAt 1 rfl))) (by decide) ?_
    refine el_on rfl (bnot_t hb119) ?_
    replace hF := ob hF
    obtain ⟨r120, hr120, hF⟩ := hF
    refine el_call goes87 (spec_IsValidBigInt_ok (hS.up ha1) hr120) (congrArg List.toArray (mapc rfl rfl)) (by decide) ?_
    rintro _ w121 ⟨rfl, hx122⟩
    refine ⟨_, rfl, ?_⟩
    replace hS := hS.ext hx122
    refine el_on rfl (bnot_t hb119) ?_
    refine el_pv (v := .bool (!r120)) (pv_not rfl) (by decide) ?_
    refine el_pv (v := .bool (!r120)) (pv_pick_f rfl (bnot_t hb119) rfl) (by decide) ?_
    refine el_nil ?_
    refine hQ115 _ _ _ ?_
    refine thn_n ?_
    replace hF := oif hF
    rcases hF with ⟨hb123, hF⟩ | ⟨hb123, hF⟩
    · refine cw_cond_f rfl (bnot_t hb123) ?_
      refine cw_skip ?_
      refine hQ114 _ _ _ ?_
      refine thn_n ?_
      refine cw_seq ?_
      refine cw_gen ?_
      intro Q124 hQ124
      refine cw_reg ?_
      refine el_pv (v := .pointer (some ⟨b103, 0 + 0, none⟩)) (pv_fieldAddr rfl) (by decide) ?_
      refine el_pv (v := u0) (pv_loadc rfl ((hS.boxAt 2 rfl) 0 _ rfl)) (by decide) ?_
      refine el_pv (v := .int .i64 (a0.length : Int)) (pv_len rfl ha0) (by decide) ?_
      refine el_pv (v := .pointer (some ⟨b107, 0 + 0, none⟩)) (pv_fieldAddr rfl) (by decide) ?_
      refine el_pv (v := u1) (pv_loadc rfl ((hS.boxAt 1 rfl) 0 _ rfl)) (by decide) ?_
      refine el_pv (v := .int .i64 (a1.length : Int)) (pv_len rfl ha1) (by decide) ?_
      replace hF := ob hF
      obtain ⟨x125, hx125, hF⟩ := hF
      refine el_pv (v := .int .i64 x125) (pv_add rfl rfl hx125) (by decide) ?_
      replace hF := ob hF
      obtain ⟨x129, hx129, hF⟩ := hF
      refine el_make (R := intR) (x0 := 0) rfl (by decide) rfl (fun _ => ⟨rfl, rfl⟩) rfl rfl hx129 hS (by decide) ?_
      intro w126 g127 k128 hS hx130 hlx129
      refine el_pv (v := (.slice (some ⟨g127, 0, none⟩) k128 k128)) (pv_assign rfl) (by decide) ?_
      refine el_nil ?_
      refine hQ124 _ _ _ ?_
      refine thn_n ?_
      refine cw_seq ?_
      refine cw_gen ?_
      intro Q132 hQ132
      refine cw_seq ?_
      refine cw_gen ?_
      intro Q133 hQ133
      refine cw_reg ?_
      refine el_pv (v := .int .i64 0) (pv_assign rfl) (by decide) ?_
      refine el_nil ?_
      refine hQ133 _ _ _ ?_
      refine thn_n ?_
      refine cw_block ?_
      refine cw_gen ?_
      intro Q134 hQ134
      obtain ⟨s135, hL, hK136⟩ := ob hF
      refine cw_loopS (fun k e w => ∃ (v138 : Value), ∃ (x137 : List Int), ∃ (x139 : Int), e 2 = .pointer (some ⟨b103, 0, none⟩) ∧ e 3 = .pointer (some ⟨b107, 0, none⟩) ∧ e 4 = .pointer (some ⟨b111, 0, none⟩) ∧ e 6 = v138 ∧ e 7 = .int .i64 x139 ∧ Sat w0 w [Own (sliceR intR 3) [v138] x137, Box b111 76 [(.slice none 0 0)], Box b107 76 [u1], Box b103 76 [u0]] ∧ spec_MulBigInt_L1 N k a0 a1 [] x137 x139 = some s135) N ?_ ?_ ?_
      · exact ⟨(.slice (some ⟨g127, 0, none⟩) k128 k128), x129, 0, rfl, rfl, rfl, rfl, rfl, hS, hL⟩
      · rintro e w ⟨_, _, _, _, _, _, _, _, _, hz⟩; exact nomatch (show none = some _ from hz)
      · rintro k e146 w145 ⟨v138, x137, x139, he140, he141, he142, he143, he144, hS, hF⟩
        refine cw_gen ?_
        intro Q147 hQ147
        refine cw_seq ?_
        refine cw_gen ?_
        intro Q148 hQ148
        refine cw_seq ?_
        refine cw_gen ?_
        intro Q149 hQ149
        refine cw_reg ?_
        refine el_pv (v := .int .i64 x139) (pv_move he144) (by decide) ?_
        refine el_pv (v := .pointer (some ⟨b103, 0 + 0, none⟩)) (pv_fieldAddr he140) (by decide) ?_
        refine el_pv (v := u0) (pv_loadc rfl ((hS.boxAt 3 rfl) 0 _ rfl)) (by decide) ?_
        refine el_pv (v := .int .i64 (a0.length : Int)) (pv_len rfl ha0) (by decide) ?_
        refine el_pv (v := .bool (decide (x139 < (a0.length : Int)))) (pv_lss rfl rfl) (by decide) ?_
        refine el_nil ?_
        refine hQ149 _ _ _ ?_
        refine thn_n ?_
        replace hF := oif hF
        rcases hF with ⟨hb150, hF⟩ | ⟨hb150, hF⟩
        · refine cw_cond_t rfl hb150 ?_
          refine cw_skip ?_
          refine hQ148 _ _ _ ?_
          refine thn_n ?_
          refine cw_seq ?_
          refine cw_gen ?_
          intro Q151 hQ151
          refine cw_block ?_
          refine cw_gen ?_
          intro Q152 hQ152
          refine cw_seq ?_
          refine cw_gen ?_
          intro Q153 hQ153
          refine cw_reg ?_
          refine el_pv (v := .int .i64 0) (pv_assign rfl) (by decide) ?_
          refine el_nil ?_
          refine hQ153 _ _ _ ?_
          refine thn_n ?_
          refine cw_block ?_
          refine cw_gen ?_
          intro Q154 hQ154
          obtain ⟨s155, hL, hK156⟩ := ob hF
          refine cw_loopS (fun k e w => ∃ (v158 : Value), ∃ (x157 : List Int), ∃ (x159 : Int), e 2 = .pointer (some ⟨b103, 0, none⟩) ∧ e 3 = .pointer (some ⟨b107, 0, none⟩) ∧ e 4 = .pointer (some ⟨b111, 0, none⟩) ∧ e 6 = v158 ∧ e 7 = .int .i64 x139 ∧ e 8 = .int .i64 x159 ∧ Sat w0 w [Own (sliceR intR 3) [v158] x157, Box b111 76 [(.slice none 0 0)], Box b107 76 [u1], Box b103 76 [u0]] ∧ spec_MulBigInt_L2 N k a0 a1 [] x157 x139 x159 = some s155) N ?_ ?_ ?_
          · exact ⟨v138, x137, 0, he140, he141, he142, he143, he144, rfl, hS, hL⟩
          · rintro e w ⟨_, _, _, _, _, _, _, _, _, _, hz⟩; exact nomatch (show none = some _ from hz)
          · rintro k e167 w166 ⟨v158, x157, x159, he160, he161, he162, he163, he164, he165, hS, hF⟩
            refine cw_gen ?_
            intro Q168 hQ168
            refine cw_seq ?_
            refine cw_gen ?_
            intro Q169 hQ169
            refine cw_seq ?_
            refine cw_gen ?_
            intro Q170 hQ170
            refine cw_reg ?_
            refine el_pv (v := .int .i64 x159) (pv_move he165) (by decide) ?_
            refine el_pv (v := .pointer (some ⟨b107, 0 + 0, none⟩)) (pv_fieldAddr he161) (by decide) ?_
            refine el_pv (v := u1) (pv_loadc rfl ((hS.boxAt 2 rfl) 0 _ rfl)) (by decide) ?_
            refine el_pv (v := .int .i64 (a1.length : Int)) (pv_len rfl ha1) (by decide) ?_
            refine el_pv (v := .bool (decide (x159 < (a1.length : Int)))) (pv_lss rfl rfl) (by decide) ?_
            refine el_nil ?_
            refine hQ170 _ _ _ ?_
            refine thn_n ?_
            replace hF := oif hF
            rcases hF with ⟨hb171, hF⟩ | ⟨hb171, hF⟩
            · refine cw_cond_t rfl hb171 ?_
              refine cw_skip ?_
              refine hQ169 _ _ _ ?_
              refine thn_n ?_
              refine cw_seq ?_
              refine cw_gen ?_
              intro Q172 hQ172
              refine cw_block ?_
              refine cw_gen ?_
              intro Q173 hQ173
              obtain ⟨C, hCd⟩ : ∃ C : World → Prop, ∀ w, C w ↔ ∃ G, Sat w0 w ([Box b107 76 [u1], Box b103 76 [u0], Own (sliceR intR 3) [v158] x157] ++ G) := ⟨_, fun _ => Iff.rfl⟩
              refine cw_regb [0, 1, 2, 3, 4, 5, 6, 7, 8, 9, 10, 11, 12, 13, 14, 15, 16, 17, 18, 19, 20, 21, 22] C (by kernel_rfl) ?_
              intro w174 hx175
              replace hS := hS.ext hx175
              replace hS : Sat w0 w174 [Box b107 76 [u1], Box b103 76 [u0], Own (sliceR intR 3) [v158] x157, Box b111 76 [(.slice none 0 0)]] := hS.tops 4 [2, 3, 0] rfl
              have hC := (hCd _).2 ⟨_, hS⟩
              refine al_p (v := v158) (by kernel_rfl) 0 rfl rfl (by decide) hC (by kernel_rfl) (by kernel_rfl) (sv_on rfl (fun w' hw' => by obtain ⟨_, hS⟩ := (hCd _).1 hw'; exact (pv_move he163))) ?_
              refine al_p (v := .int .i64 x139) (by kernel_rfl) 1 rfl rfl (by decide) hC (by kernel_rfl) (by kernel_rfl) (sv_on rfl (fun w' hw' => by obtain ⟨_, hS⟩ := (hCd _).1 hw'; exact (pv_move he164))) ?_
              refine al_p (v := .int .i64 x159) (by kernel_rfl) 2 rfl rfl (by decide) hC (by kernel_rfl) (by kernel_rfl) (sv_on rfl (fun w' hw' => by obtain ⟨_, hS⟩ := (hCd _).1 hw'; exact (pv_move he165))) ?_
              replace hF := ob hF
              obtain ⟨x176, hx176, hF⟩ := hF
              refine al_p (v := .int .i64 x176) (by kernel_rfl) 3 rfl rfl (by decide) hC (by kernel_rfl) (by kernel_rfl) (sv_on rfl (fun w' hw' => by obtain ⟨_, hS⟩ := (hCd _).1 hw'; exact (pv_add rfl rfl hx176))) ?_
              refine al_p (v := v158) (by kernel_rfl) 4 rfl rfl (by decide) hC (by kernel_rfl) (by kernel_rfl) (sv_on rfl (fun w' hw' => by obtain ⟨_, hS⟩ := (hCd _).1 hw'; exact (pv_move he163))) ?_
              refine al_p (v := .int .i64 x139) (by kernel_rfl) 5 rfl rfl (by decide) hC (by kernel_rfl) (by kernel_rfl) (sv_on rfl (fun w' hw' => by obtain ⟨_, hS⟩ := (hCd _).1 hw'; exact (pv_move he164))) ?_
              refine al_p (v := .int .i64 x159) (by kernel_rfl) 6 rfl rfl (by decide) hC (by kernel_rfl) (by kernel_rfl) (sv_on rfl (fun w' hw' => by obtain ⟨_, hS⟩ := (hCd _).1 hw'; exact (pv_move he165))) ?_
              replace hF := ob hF
              obtain ⟨x177, hx177, hF⟩ := hF
              refine al_p (v := .int .i64 x177) (by kernel_rfl) 7 rfl rfl (by decide) hC (by kernel_rfl) (by kernel_rfl) (sv_on rfl (fun w' hw' => by obtain ⟨_, hS⟩ := (hCd _).1 hw'; exact (pv_add rfl rfl hx177))) ?_
              replace hF := ob hF
              obtain ⟨x178, hx178, hF⟩ := hF
              obtain ⟨g179, cap180, hv181⟩ := (by obtain ⟨_, hS⟩ := (hCd _).1 hC; exact ownShape 2 hS rfl hx178 : ∃ g cap, (v158 : Value) = .slice (some ⟨g, 0, none⟩) (x157).length cap)
              refine al_p (v := .pointer (some ⟨g179, x177.toNat * 1, none⟩)) (by kernel_rfl) 8 rfl rfl (by decide) hC (by kernel_rfl) (by kernel_rfl) (sv_on rfl (fun w' hw' => by obtain ⟨_, hS⟩ := (hCd _).1 hw'; exact (pv_indexF (v := v158) rfl hv181 rfl hx178))) ?_
              refine al_p (v := .int .i64 x178) (by kernel_rfl) 9 rfl rfl (by decide) hC (by kernel_rfl) (by kernel_rfl) (sv_on rfl (fun w' hw' => by obtain ⟨_, hS⟩ := (hCd _).1 hw'; exact (pv_loadc rfl (hS.ownCell 2 rfl hv181 hx178)))) ?_
              refine al_p (v := .pointer (some ⟨b103, 0 + 0, none⟩)) (by kernel_rfl) 10 rfl rfl (by decide) hC (by kernel_rfl) (by kernel_rfl) (sv_on rfl (fun w' hw' => by obtain ⟨_, hS⟩ := (hCd _).1 hw'; exact (pv_fieldAddr he160))) ?_
              refine al_p (v := u0) (by kernel_rfl) 11 rfl rfl (by decide) hC (by kernel_rfl) (by kernel_rfl) (sv_on rfl (fun w' hw' => by obtain ⟨_, hS⟩ := (hCd _).1 hw'; exact (pv_loadc rfl ((hS.boxAt 1 rfl) 0 _ rfl)))) ?_
              refine al_p (v := .int .i64 x139) (by kernel_rfl) 12 rfl rfl (by decide) hC (by kernel_rfl) (by kernel_rfl) (sv_on rfl (fun w' hw' => by obtain ⟨_, hS⟩ := (hCd _).1 hw'; exact (pv_move he164))) ?_
              replace hF := ob hF
              obtain ⟨x182, hx182, hF⟩ := hF
              refine al_index (wA := w0) (by kernel_rfl) 13 rfl hC (by kernel_rfl) (by kernel_rfl) rfl ha0 rfl (by decide) rfl hx182 (by decide) ?_
              intro b183 of184 c185 hr186 hm187
              obtain rfl := hr186
              refine al_p (v := .int .i64 x182) (by kernel_rfl) 14 rfl rfl (by decide) hC (by kernel_rfl) (by kernel_rfl) (sv_on rfl (fun w' hw' => by obtain ⟨_, hS⟩ := (hCd _).1 hw'; exact (pv_loadc rfl ((cells_up hS.below hm187) 0 _ rfl)))) ?_
              refine al_p (v := .pointer (some ⟨b107, 0 + 0, none⟩)) (by kernel_rfl) 15 rfl rfl (by decide) hC (by kernel_rfl) (by kernel_rfl) (sv_on rfl (fun w' hw' => by obtain ⟨_, hS⟩ := (hCd _).1 hw'; exact (pv_fieldAddr he161))) ?_
              refine al_p (v := u1) (by kernel_rfl) 16 rfl rfl (by decide) hC (by kernel_rfl) (by kernel_rfl) (sv_on rfl (fun w' hw' => by obtain ⟨_, hS⟩ := (hCd _).1 hw'; exact (pv_loadc rfl ((hS.boxAt 0 rfl) 0 _ rfl)))) ?_
              refine al_one 17 (by kernel_rfl) rfl ?_
              refine el_pv (v := .int .i64 x159) (pv_move he165) (by decide) ?_
              refine el_nil ?_
              refine ⟨fun _ => hC, ?_⟩
              refine al_one 18 (by kernel_rfl) rfl ?_
              replace hF := ob hF
              obtain ⟨x188, hx188, hF⟩ := hF
              refine el_index (wA := w0) rfl ha1 rfl (by decide) rfl hx188 (by decide) ?_
              intro b189 of190 c191 hr192 hm193
              obtain rfl := hr192
              refine el_nil ?_
              refine ⟨fun _ => hC, ?_⟩
              refine al_one 19 (by kernel_rfl) rfl ?_
              refine el_pv (v := .int .i64 x188) (pv_loadc rfl ((cells_up hS.below hm193) 0 _ rfl)) (by decide) ?_
              refine el_nil ?_
              refine ⟨fun _ => hC, ?_⟩
              refine al_one 20 (by kernel_rfl) rfl ?_
              replace hF := ob hF
              obtain ⟨x194, hx194, hF⟩ := hF
              refine el_pv (v := .int .i64 x194) (pv_mul rfl rfl hx194) (by decide) ?_
              refine el_nil ?_
              refine ⟨fun _ => hC, ?_⟩
              refine al_one 21 (by kernel_rfl) rfl ?_
              replace hF := ob hF
              obtain ⟨x195, hx195, hF⟩ := hF
              refine el_pv (v := .int .i64 x195) (pv_add rfl rfl hx195) (by decide) ?_
              refine el_nil ?_
              refine ⟨fun _ => hC, ?_⟩
              refine al_one 22 (by kernel_rfl) rfl ?_
              replace hF := ob hF
              obtain ⟨x196, hx196, hF⟩ := hF
              obtain ⟨g197, cap198, hv199⟩ := ownShape 2 hS rfl hx196
              refine el_pv (v := .pointer (some ⟨g197, x176.toNat * 1, none⟩)) (pv_indexF (v := v158) rfl hv199 rfl hx196) (by decide) ?_
              refine el_nil ?_
              refine ⟨fun _ => hC, ?_⟩
              refine al_one 23 (by kernel_rfl) rfl ?_
              replace hF := ob hF
              obtain ⟨x201, hx201, hF⟩ := hF
              replace hS : Sat w0 w174 [Own (sliceR intR 3) [v158] x157, Box b107 76 [u1], Box b103 76 [u0], Box b111 76 [(.slice none 0 0)]] := hS.top 2 rfl
              replace hS := hS.int x195
              refine el_storeO rfl hv199 hS hx201 rfl rfl ?_
              intro w200 hS
              refine el_nil ?_
              refine ⟨fun h => (nomatch (show false = true from h)), ?_⟩
              refine al_nil (by kernel_rfl) ?_
              refine hQ173 _ _ _ ?_
              refine inb_n ?_
              refine hQ172 _ _ _ ?_
              refine thn_n ?_
              refine cw_reg ?_
              refine el_pv (v := .int .i64 x159) (pv_move he165) (by decide) ?_
              replace hF := ob hF
              obtain ⟨x202, hx202, hF⟩ := hF
              refine el_pv (v := .int .i64 x202) (pv_add rfl rfl hx202) (by decide) ?_
              refine el_pv (v := .int .i64 x202) (pv_assign rfl) (by decide) ?_
              refine el_nil ?_
              refine hQ168 _ _ _ ?_
              refine thn_n ?_
              replace hS : Sat w0 w200 [Own (sliceR intR 3) [v158] x201, Box b111 76 [(.slice none 0 0)], Box b107 76 [u1], Box b103 76 [u0]] := hS.tops 4 [0, 3, 1, 2] rfl
              replace hS := hS.keep 4
              exact ⟨v158, x201, x202, he160, he161, he162, he163, he164, rfl, hS, hF⟩
            · refine cw_cond_f rfl hb171 ?_
              refine cw_exit ?_
              refine hQ169 _ _ _ ?_
              refine thn_x ?_
              refine hQ168 _ _ _ ?_
              refine thn_x ?_
              replace hF := exB hF hK156
              refine hQ154 _ _ _ ?_
              refine inb_s ?_
              refine hQ152 _ _ _ ?_
              refine inb_n ?_
              refine hQ151 _ _ _ ?_
              refine thn_n ?_
              refine cw_reg ?_
              refine el_pv (v := .int .i64 x139) (pv_move he164) (by decide) ?_
              replace hF := ob hF
              obtain ⟨x203, hx203, hF⟩ := hF
              refine el_pv (v := .int .i64 x203) (pv_add rfl rfl hx203) (by decide) ?_
              refine el_pv (v := .int .i64 x203) (pv_assign rfl) (by decide) ?_
              refine el_nil ?_
              refine hQ147 _ _ _ ?_
              refine thn_n ?_
              replace hS := hS.keep 4
              exact ⟨v158, x157, x203, he160, he161, he162, he163, rfl, hS, hF⟩
        · refine cw_cond_f rfl hb150 ?_
          refine cw_exit ?_
          refine hQ148 _ _ _ ?_
          refine thn_x ?_
          refine hQ147 _ _ _ ?_
          refine thn_x ?_
          replace hF := exB hF hK136
          refine hQ134 _ _ _ ?_
          refine inb_s ?_
          refine hQ132 _ _ _ ?_
          refine thn_n ?_
          refine cw_seq ?_
          refine cw_gen ?_
          intro Q204 hQ204
          replace hS : Sat w0 w145 [Own (sliceR intR 3) [v138] x137, Box b111 76 [(.slice none 0 0)]] := hS.rems 4 [2, 3] rfl
          refine cw_reg ?_
          refine el_pv (v := v138) (pv_move he143) (by decide) ?_
          replace hF := ob hF
          obtain ⟨r205, hr205, hF⟩ := hF
          refine el_call goes88 (spec_l3Carry_ok (hS.rdAt (R := (sliceR intR 3)) 0 rfl) hr205) (congrArg List.toArray (mapc rfl rfl)) (by decide) ?_
          rintro _ w208 ⟨v206, rfl, hS'⟩
          refine ⟨_, rfl, ?_⟩
          have hx209 := hS'.below
          replace hS := hS.call1 hS'
          refine el_pv (v := .tuple #[.agg #[v206], .bool r205.2]) (pv_move rfl) (by decide) ?_
          refine el_pv (v := .agg #[v206]) (pv_extract rfl rfl) (by decide) ?_
          refine el_pv (v := .bool r205.2) (pv_extract rfl rfl) (by decide) ?_
          refine el_alloc hS (by decide) ?_
          intro w210 b211 hS hx212
          refine el_storev (hS.top 0 rfl) rfl [v206] rfl rfl (of_decide_eq_true rfl) (all_cons (oc (hS.rdAt (R := (sliceR intR 3)) 1 rfl)) rfl) ?_
          intro w214 hS
          replace hS : Sat w0 w214 [Box b211 76 [v206], Own (sliceR intR 3) [v206] r205.1, Own (sliceR intR 3) [v138] x137, Box b111 76 [(.slice none 0 0)]] := hS
          refine el_pv (v := .bool r205.2) (pv_assign rfl) (by decide) ?_
          refine el_nil ?_
          refine hQ204 _ _ _ ?_
          refine thn_n ?_
          refine cw_seq ?_
          refine cw_gen ?_
          intro Q215 hQ215
          replace hS : Sat w0 w214 [Box b211 76 [v206], Own (sliceR intR 3) [v206] r205.1, Box b111 76 [(.slice none 0 0)]] := hS.rems 4 [2] rfl
          refine cw_reg ?_
          refine el_pv (v := .agg #[v206]) (pv_loada (cs := [v206]) rfl rfl (boxc0 (hS.boxAt 0 rfl))) (by decide) ?_
          refine el_pv (v := .bool r205.2) (pv_move rfl) (by decide) ?_
          refine el_storev (hS.top 2 rfl) he142 [v206] rfl rfl (of_decide_eq_true rfl) (all_cons (oc (hS.rdAt (R := (sliceR intR 3)) 1 rfl)) rfl) ?_
          intro w216 hS
          replace hS : Sat w0 w216 [Box b111 76 [v206], Box b211 76 [v206], Own (sliceR intR 3) [v206] r205.1] := hS
          refine el_pv (v := .bool r205.2) (pv_assign rfl) (by decide) ?_
          refine el_nil ?_
          refine hQ215 _ _ _ ?_
          refine thn_n ?_
          refine cw_ret ?_
          refine finCT (cs := [v206]) rfl he142 rfl (boxc0 (hS.boxAt 0 rfl)) rfl ?_
          replace hS : Sat w0 w216 [Own (sliceR intR 3) [v206] r205.1, Box b111 76 [v206], Box b211 76 [v206]] := hS.tops 3 [2] rfl
          have hr := Option.some.inj hF
          exact ⟨v206, congrArg (fun (r : (List Int) × Bool) => Ending.returned (.tuple #[.agg #[v206], .bool r.2])) hr, Eq.mp (congrArg (fun (r : (List Int) × Bool) => Sat w0 w216 [Own (sliceR intR 3) [v206] r.1]) hr) (hS.keep 1)⟩
    · refine cw_cond_t rfl (bnot_f hb123) ?_
      refine cw_seq ?_
      refine cw_gen ?_
      intro Q217 hQ217
      replace hS : Sat w0 w121 [Box b111 76 [(.slice none 0 0)]] := hS.rems 3 [1, 2] rfl
      refine cw_reg ?_
      refine el_pv (v := .agg #[(.slice none 0 0)]) (pv_build [] [(.slice none 0 0)] rfl rfl) (by decide) ?_
      refine el_storev (hS.top 0 rfl) rfl [(.slice none 0 0)] rfl rfl (of_decide_eq_true rfl) (all_cons rfl rfl) ?_
      intro w218 hS
      replace hS : Sat w0 w218 [Box b111 76 [(.slice none 0 0)]] := hS
      refine el_pv (v := .bool false) (pv_assign rfl) (by decide) ?_
      refine el_nil ?_
      refine hQ217 _ _ _ ?_
      refine thn_n ?_
      refine cw_ret ?_
      refine hQ114 _ _ _ ?_
      refine thn_r ?_
      replace hS := hS.nil intR 3
      refine finCT (cs := [(.slice none 0 0)]) rfl rfl rfl (boxc0 (hS.boxAt 1 rfl)) rfl ?_
      have hr := Option.some.inj hF
      exact ⟨(.slice none 0 0), congrArg (fun (r : (List Int) × Bool) => Ending.returned (.tuple #[.agg #[(.slice none 0 0)], .bool r.2])) hr, Eq.mp (congrArg (fun (r : (List Int) × Bool) => Sat w0 w218 [Own (sliceR intR 3) [(.slice none 0 0)] r.1]) hr) (hS.keep 1)⟩
  · refine el_off rfl (bnot_f hb119) rfl (by decide) ?_
    refine el_off rfl (bnot_f hb119) rfl (by decide) ?_
    refine el_off rfl (bnot_f hb119) rfl (by decide) ?_
    refine el_pv (v := .bool true) (pv_pick_t rfl (bnot_f hb119) rfl) (by decide) ?_
    refine el_nil ?_
    refine hQ115 _ _ _ ?_
    refine thn_n ?_
    refine cw_cond_t rfl rfl ?_
    refine cw_seq ?_
    refine cw_gen ?_
    intro Q220 hQ220
    replace hS : Sat w0 w117 [Box b111 76 [(.slice none 0 0)]] := hS.rems 3 [1, 2] rfl
    refine cw_reg ?_
    refine el_pv (v := .agg #[(.slice none 0 0)]) (pv_build [] [(.slice none 0 0)] rfl rfl) (by decide) ?_
    refine el_storev (hS.top 0 rfl) rfl [(.slice none 0 0)] rfl rfl (of_decide_eq_true rfl) (all_cons rfl rfl) ?_
    intro w221 hS
    replace hS : Sat w0 w221 [Box b111 76 [(.slice none 0 0)]] := hS
    refine el_pv (v := .bool false) (pv_assign rfl) (by decide) ?_
    refine el_nil ?_
    refine hQ220 _ _ _ ?_
    refine thn_n ?_
    refine cw_ret ?_
    refine hQ114 _ _ _ ?_
    refine thn_r ?_
    replace hS := hS.nil intR 3
    refine finCT (cs := [(.slice none 0 0)]) rfl rfl rfl (boxc0 (hS.boxAt 1 rfl)) rfl ?_
    have hr := Option.some.inj hF
    exact ⟨(.slice none 0 0), congrArg (fun (r : (List Int) × Bool) => Ending.returned (.tuple #[.agg #[(.slice none 0 0)], .bool r.2])) hr, Eq.mp (congrArg (fun (r : (List Int) × Bool) => Sat w0 w221 [Own (sliceR intR 3) [(.slice none 0 0)] r.1]) hr) (hS.keep 1)⟩
set_option maxHeartbeats 4000000 in
theorem spec_BigIntFromInt_ok {w0 : World} {a0 : Int}  {N : Nat} {r : (List Int)} (hF : spec_BigIntFromInt N a0 = some r) :
    Calls Try.prog 86 #[.int .i64 a0] w0 fun e w' => ∃ (q0 : Value), e = .returned (.agg #[q0]) ∧ Sat w0 w' [Own (sliceR intR 3) [q0] r] := by
  unfold spec_BigIntFromInt at hF
  refine calls_E Try.func86 rfl rfl (of_decide_eq_true rfl) ?_
  have hS := Sat.start w0
  refine cw_seq ?_
  refine cw_gen ?_
  intro Q101 hQ101
  refine cw_reg ?_
  refine el_alloc hS (by decide) ?_
  intro w102 b103 hS hx104
  refine el_nil ?_
  refine hQ101 _ _ _ ?_
  refine thn_n ?_
  refine cw_seq ?_
  refine cw_gen ?_
  intro Q106 hQ106
  refine cw_reg ?_
  refine el_pv (v := .agg #[(.slice none 0 0)]) (pv_build [] [(.slice none 0 0)] rfl rfl) (by decide) ?_
  refine el_alloc hS (by decide) ?_
  intro w107 b108 hS hx109
  refine el_storev (hS.top 0 rfl) rfl [(.slice none 0 0)] rfl rfl (of_decide_eq_true rfl) (all_cons rfl rfl) ?_
  intro w111 hS
  replace hS : Sat w0 w111 [Box b108 76 [(.slice none 0 0)], Box b103 76 [(.slice none 0 0)]] := hS
  refine el_nil ?_
  refine hQ106 _ _ _ ?_
  refine thn_n ?_
  refine cw_seq ?_
  refine cw_gen ?_
  intro Q112 hQ112
  refine cw_block ?_
  refine cw_gen ?_
  intro Q113 hQ113
  replace hS := hS.nil intR 3
  obtain ⟨s115, hL, hK116⟩ := ob hF
  refine cw_loopS (fun k e w => ∃ (x117 : Int), ∃ (v119 : Value), ∃ (x118 : List Int), e 0 = .int .i64 x117 ∧ e 2 = .pointer (some ⟨b103, 0, none⟩) ∧ e 3 = .pointer (some ⟨b108, 0, none⟩) ∧ Sat w0 w [Own (sliceR intR 3) [v119] x118, Box b108 76 [v119], Box b103 76 [(.slice none 0 0)]] ∧ spec_BigIntFromInt_L1 N k x117 [] x118 = some s115) N ?_ ?_ ?_
  · exact ⟨a0, (.slice none 0 0), [], rfl, rfl, rfl, hS, hL⟩
  · rintro e w ⟨_, _, _, _, _, _, _, hz⟩; exact nomatch (show none = some _ from hz)
  · rintro k e124 w123 ⟨x117, v119, x118, he120, he121, he122, hS, hF⟩
    refine cw_gen ?_
    intro Q125 hQ125
    refine cw_seq ?_
    refine cw_gen ?_
    intro Q126 hQ126
    refine cw_seq ?_
    refine cw_gen ?_
    intro Q127 hQ127
    refine cw_reg ?_
    refine el_pv (v := .int .i64 x117) (pv_move he120) (by decide) ?_
    refine el_pv (v := .bool (decide (0 < x117))) (pv_gtr rfl rfl) (by decide) ?_
    refine el_nil ?_
    refine hQ127 _ _ _ ?_
    refine thn_n ?_
    replace hF := oif hF
    rcases hF with ⟨hb128, hF⟩ | ⟨hb128, hF⟩
    · refine cw_cond_t rfl hb128 ?_
      refine cw_skip ?_
      refine hQ126 _ _ _ ?_
      refine thn_n ?_
      refine cw_block ?_
      refine cw_gen ?_
      intro Q129 hQ129
      refine cw_seq ?_
      refine cw_gen ?_
      intro Q130 hQ130
      refine cw_reg ?_
      refine el_pv (v := .pointer (some ⟨b108, 0 + 0, none⟩)) (pv_fieldAddr he122) (by decide) ?_
      refine el_pv (v := v119) (pv_loadc rfl ((hS.boxAt 1 rfl) 0 _ rfl)) (by decide) ?_
      refine el_pv (v := .int .i64 x117) (pv_move he120) (by decide) ?_
      replace hF := ob hF
      obtain ⟨x131, hx131, hF⟩ := hF
      refine el_pv (v := .int .i64 x131) (pv_rem rfl rfl hx131) (by decide) ?_
      refine el_buildSlice1 [.int .i64 x131] rfl (by rfl) (by decide) rfl (by decide) hS (by decide) ?_
      intro w132 b134 hS hx133
      replace hF := ob hF
      obtain ⟨x138, hx138, hF⟩ := hF
      have hrow139 := hS.boxRow 0 rfl
      replace hS : Sat w0 w132 [Own (sliceR intR 3) [v119] x118, Box b134 3 [.int .i64 x131], Box b108 76 [v119], Box b103 76 [(.slice none 0 0)]] := hS.top 1 rfl
      replace hS := hS.int x131
      replace hS := hS.one
      refine el_append rfl (by decide) rfl (by decide) hS rfl rfl rfl (by simp) hrow139 hx138 (by decide) ?_
      intro w136 v137 hS
      refine el_pv (v := .pointer (some ⟨b108, 0 + 0, none⟩)) (pv_fieldAddr he122) (by decide) ?_
      refine el_storev (hS.top 2 rfl) rfl [v137] (cells_of rfl (oc (hS.rdAt (R := (sliceR intR 3)) 0 rfl))) rfl (of_decide_eq_true rfl) (all_cons (oc (hS.rdAt (R := (sliceR intR 3)) 0 rfl)) rfl) ?_
      intro w141 hS
      replace hS : Sat w0 w141 [Box b108 76 [v137], Own (sliceR intR 3) [v137] x138, Box b134 3 [.int .i64 x131], Box b103 76 [(.slice none 0 0)]] := hS
      refine el_nil ?_
      refine hQ130 _ _ _ ?_
      refine thn_n ?_
      replace hS : Sat w0 w141 [Box b108 76 [v137], Own (sliceR intR 3) [v137] x138, Box b103 76 [(.slice none 0 0)]] := hS.rems 4 [2] rfl
      refine cw_reg ?_
      refine el_pv (v := .int .i64 x117) (pv_move he120) (by decide) ?_
      replace hF := ob hF
      obtain ⟨x142, hx142, hF⟩ := hF
      refine el_pv (v := .int .i64 x142) (pv_quo rfl rfl hx142) (by decide) ?_
      refine el_pv (v := .int .i64 x142) (pv_assign rfl) (by decide) ?_
      refine el_nil ?_
      refine hQ129 _ _ _ ?_
      refine inb_n ?_
      refine hQ125 _ _ _ ?_
      refine thn_n ?_
      replace hS : Sat w0 w141 [Own (sliceR intR 3) [v137] x138, Box b108 76 [v137], Box b103 76 [(.slice none 0 0)]] := hS.tops 3 [1, 0, 2] rfl
      replace hS := hS.keep 3
      exact ⟨x142, v137, x138, rfl, he121, he122, hS, hF⟩
    · refine cw_cond_f rfl hb128 ?_
      refine cw_exit ?_
      refine hQ126 _ _ _ ?_
      refine thn_x ?_
      refine hQ125 _ _ _ ?_
      refine thn_x ?_
      replace hF := exB hF hK116
      refine hQ113 _ _ _ ?_
      refine inb_s ?_
      refine hQ112 _ _ _ ?_
      refine thn_n ?_
      refine cw_seq ?_
      refine cw_gen ?_
      intro Q143 hQ143
      refine cw_reg ?_
      refine el_pv (v := .agg #[v119]) (pv_loada (cs := [v119]) he122 rfl (boxc0 (hS.boxAt 1 rfl))) (by decide) ?_
      refine el_storev (hS.top 2 rfl) he121 [v119] rfl rfl (of_decide_eq_true rfl) (all_cons (oc (hS.rdAt (R := (sliceR intR 3)) 0 rfl)) rfl) ?_
      intro w144 hS
      replace hS : Sat w0 w144 [Box b103 76 [v119], Own (sliceR intR 3) [v119] x118, Box b108 76 [v119]] := hS
      refine el_nil ?_
      refine hQ143 _ _ _ ?_
      refine thn_n ?_
      refine cw_ret ?_
      refine finC (cs := [v119]) rfl he121 rfl (boxc0 (hS.boxAt 0 rfl))  ?_
      replace hS : Sat w0 w144 [Own (sliceR intR 3) [v119] x118, Box b103 76 [v119], Box b108 76 [v119]] := hS.tops 3 [1] rfl
      have hr := Option.some.inj hF
      exact ⟨v119, congrArg (fun (r : (List Int)) => Ending.returned (.agg #[v119])) hr, Eq.mp (congrArg (fun (r : (List Int)) => Sat w0 w144 [Own (sliceR intR 3) [v119] r]) hr) (hS.keep 1)⟩
set_option maxHeartbeats 4000000 in
theorem spec_PowBigInt_ok {w0 : World} {a0 : Int} {a1 : Int}  {N : Nat} {r : (List Int) × Bool} (hF : spec_PowBigInt N a0 a1 = some r) :
    Calls Try.prog 45 #[.int .i64 a0, .int .i64 a1] w0 fun e w' => ∃ (q0 : Value), e = .returned (.tuple #[.agg #[q0], .bool r.2]) ∧ Sat w0 w' [Own (sliceR intR 3) [q0] r.1] := by
  unfold spec_PowBigInt at hF
  refine calls_E Try.func45 rfl rfl (of_decide_eq_true rfl) ?_
  have hS := Sat.start w0
  refine cw_seq ?_
  refine cw_gen ?_
  intro Q101 hQ101
  refine cw_reg ?_
  refine el_alloc hS (by decide) ?_
  intro w102 b103 hS hx104
  refine el_pv (v := .bool false) (pv_assign rfl) (by decide) ?_
  refine el_nil ?_
  refine hQ101 _ _ _ ?_
  refine thn_n ?_
  refine cw_seq ?_
  refine cw_gen ?_
  intro Q106 hQ106
  refine cw_seq ?_
  refine cw_gen ?_
  intro Q107 hQ107
  refine cw_reg ?_
  refine el_pv (v := .int .i64 a0) (pv_move rfl) (by decide) ?_
  refine el_pv (v := .bool (decide (a0 < 0))) (pv_lss rfl rfl) (by decide) ?_
  refine el_pv (v := .bool (decide (a0 < 0))) (pv_move rfl) (by decide) ?_
  replace hF := oif hF
  rcases hF with ⟨hb108, hF⟩ | ⟨hb108, hF⟩
  · refine el_off rfl hb108 rfl (by decide) ?_
    refine el_off rfl hb108 rfl (by decide) ?_
    refine el_off rfl hb108 rfl (by decide) ?_
    refine el_pv (v := .bool true) (pv_pick_t rfl hb108 rfl) (by decide) ?_
    refine el_nil ?_
    refine hQ107 _ _ _ ?_
    refine thn_n ?_
    refine cw_cond_t rfl rfl ?_
    refine cw_seq ?_
    refine cw_gen ?_
    intro Q109 hQ109
    refine cw_reg ?_
    refine el_pv (v := .agg #[(.slice none 0 0)]) (pv_build [] [(.slice none 0 0)] rfl rfl) (by decide) ?_
    refine el_storev (hS.top 0 rfl) rfl [(.slice none 0 0)] rfl rfl (of_decide_eq_true rfl) (all_cons rfl rfl) ?_
    intro w110 hS
    replace hS : Sat w0 w110 [Box b103 76 [(.slice none 0 0)]] := hS
    refine el_pv (v := .bool false) (pv_assign rfl) (by decide) ?_
    refine el_nil ?_
    refine hQ109 _ _ _ ?_
    refine thn_n ?_
    refine cw_ret ?_
    refine hQ106 _ _ _ ?_
    refine thn_r ?_
    replace hS := hS.nil intR 3
    refine finCT (cs := [(.slice none 0 0)]) rfl rfl rfl (boxc0 (hS.boxAt 1 rfl)) rfl ?_
    have hr := Option.some.inj hF
    exact ⟨(.slice none 0 0), congrArg (fun (r : (List Int) × Bool) => Ending.returned (.tuple #[.agg #[(.slice none 0 0)], .bool r.2])) hr, Eq.mp (congrArg (fun (r : (List Int) × Bool) => Sat w0 w110 [Own (sliceR intR 3) [(.slice none 0 0)] r.1]) hr) (hS.keep 1)⟩
  · refine el_on rfl hb108 ?_
    refine el_pv (v := .int .i64 a1) (pv_move rfl) (by decide) ?_
    refine el_on rfl hb108 ?_
    replace hF := ob hF
    obtain ⟨r112, hr112, hF⟩ := hF
    refine el_call goes38 (spec_l1In_ok hr112) (congrArg List.toArray (mapc rfl (mapc rfl (mapc rfl rfl)))) (by decide) ?_
    rintro _ w113 ⟨rfl, hx114⟩
    refine ⟨_, rfl, ?_⟩
    replace hS := hS.ext hx114
    refine el_on rfl hb108 ?_
    refine el_pv (v := .bool (!r112)) (pv_not rfl) (by decide) ?_
    refine el_pv (v := .bool (!r112)) (pv_pick_f rfl hb108 rfl) (by decide) ?_
    refine el_nil ?_
    refine hQ107 _ _ _ ?_
    refine thn_n ?_
    replace hF := oif hF
    rcases hF with ⟨hb115, hF⟩ | ⟨hb115, hF⟩
    · refine cw_cond_f rfl (bnot_t hb115) ?_
      refine cw_skip ?_
      refine hQ106 _ _ _ ?_
      refine thn_n ?_
      refine cw_seq ?_
      refine cw_gen ?_
      intro Q116 hQ116
      refine cw_reg ?_
      replace hF := ob hF
      obtain ⟨r117, hr117, hF⟩ := hF
      refine el_call goes86 (spec_BigIntFromInt_ok hr117) (congrArg List.toArray (mapc rfl rfl)) (by decide) ?_
      rintro _ w120 ⟨v118, rfl, hS'⟩
      refine ⟨_, rfl, ?_⟩
      have hx121 := hS'.below
      replace hS := hS.call1 hS'
      refine el_alloc hS (by decide) ?_
      intro w122 b123 hS hx124
      refine el_storev (hS.top 0 rfl) rfl [v118] rfl rfl (of_decide_eq_true rfl) (all_cons (oc (hS.rdAt (R := (sliceR intR 3)) 1 rfl)) rfl) ?_
      intro w126 hS
      replace hS : Sat w0 w126 [Box b123 76 [v118], Own (sliceR intR 3) [v118] r117, Box b103 76 [(.slice none 0 0)]] := hS
      refine el_nil ?_
      refine hQ116 _ _ _ ?_
      refine thn_n ?_
      refine cw_seq ?_
      refine cw_gen ?_
      intro Q127 hQ127
      refine cw_seq ?_
      refine cw_gen ?_
      intro Q128 hQ128
      refine cw_reg ?_
      refine el_pv (v := .int .i64 0) (pv_assign rfl) (by decide) ?_
      refine el_nil ?_
      refine hQ128 _ _ _ ?_
      refine thn_n ?_
      refine cw_block ?_
      refine cw_gen ?_
      intro Q129 hQ129
      obtain ⟨s130, hL, hK131⟩ := ob hF
      refine cw_loopS (fun k e w => ∃ (v133 : Value), ∃ (x132 : List Int), ∃ (x134 : Int), e 0 = .int .i64 a0 ∧ e 1 = .int .i64 a1 ∧ e 4 = .pointer (some ⟨b103, 0, none⟩) ∧ e 6 = .pointer (some ⟨b123, 0, none⟩) ∧ e 7 = .int .i64 x134 ∧ Sat w0 w [Box b123 76 [v133], Own (sliceR intR 3) [v133] x132, Box b103 76 [(.slice none 0 0)]] ∧ spec_PowBigInt_L1 N k a0 a1 [] x132 x134 = some s130) N ?_ ?_ ?_
      · exact ⟨v118, r117, 0, rfl, rfl, rfl, rfl, rfl, hS, hL⟩
      · rintro e w ⟨_, _, _, _, _, _, _, _, _, hz⟩; exact nomatch (show none = some _ from hz)
      · rintro k e141 w140 ⟨v133, x132, x134, he135, he136, he137, he138, he139, hS, hF⟩
        refine cw_gen ?_
        intro Q142 hQ142
        refine cw_seq ?_
        refine cw_gen ?_
        intro Q143 hQ143
        refine cw_seq ?_
        refine cw_gen ?_
        intro Q144 hQ144
        refine cw_reg ?_
        refine el_pv (v := .int .i64 x134) (pv_move he139) (by decide) ?_
        refine el_pv (v := .int .i64 a1) (pv_move he136) (by decide) ?_
        refine el_pv (v := .bool (decide (x134 < a1))) (pv_lss rfl rfl) (by decide) ?_
        refine el_nil ?_
        refine hQ144 _ _ _ ?_
        refine thn_n ?_
        replace hF := oif hF
        rcases hF with ⟨hb145, hF⟩ | ⟨hb145, hF⟩
        · refine cw_cond_t rfl hb145 ?_
          refine cw_skip ?_
          refine hQ143 _ _ _ ?_
          refine thn_n ?_
          refine cw_seq ?_
          refine cw_gen ?_
          intro Q146 hQ146
          refine cw_block ?_
          refine cw_gen ?_
          intro Q147 hQ147
          refine cw_seq ?_
          refine cw_gen ?_
          intro Q148 hQ148
          replace hF := ob hF
          obtain ⟨r151, hr151, hF⟩ := hF
          replace hF := ob hF
          obtain ⟨r156, hr156, hF⟩ := hF
          refine cw_mid (fun e w => ∃ (b162 : Nat), ∃ (v157 : Value), e 0 = .int .i64 a0 ∧ e 1 = .int .i64 a1 ∧ e 4 = .pointer (some ⟨b103, 0, none⟩) ∧ e 6 = .pointer (some ⟨b123, 0, none⟩) ∧ e 7 = .int .i64 x134 ∧ e 8 = .pointer (some ⟨b162, 0, none⟩) ∧ e 9 = .bool r156.2 ∧ Sat w0 w [Box b123 76 [v133], Box b103 76 [(.slice none 0 0)], Own (sliceR intR 3) [v133] x132, Box b162 76 [v157], Own (sliceR intR 3) [v157] r156.1]) ?_ ?_
          · obtain ⟨C, hCd⟩ : ∃ C : World → Prop, ∀ w, C w ↔ ∃ G, Sat w0 w ([Box b123 76 [v133], Own (sliceR intR 3) [v133] x132] ++ G) := ⟨_, fun _ => Iff.rfl⟩
            refine cw_regb [0, 1, 2, 3, 4, 5, 6, 7, 8, 9] C (by kernel_rfl) ?_
            intro w166 hx167
            replace hS := hS.ext hx167
            have hC := (hCd _).2 ⟨_, hS⟩
            refine al_p (v := .agg #[v133]) (by kernel_rfl) 0 rfl rfl (by decide) hC (by kernel_rfl) (by kernel_rfl) (sv_on rfl (fun w' hw' => by obtain ⟨_, hS⟩ := (hCd _).1 hw'; exact (pv_loada (cs := [v133]) he138 rfl (boxc0 (hS.boxAt 0 rfl))))) ?_
            refine al_p (v := .int .i64 a0) (by kernel_rfl) 1 rfl rfl (by decide) hC (by kernel_rfl) (by kernel_rfl) (sv_on rfl (fun w' hw' => by obtain ⟨_, hS⟩ := (hCd _).1 hw'; exact (pv_move he135))) ?_
            refine al_two 2 7 (by kernel_rfl) rfl rfl ?_ ?_
            · refine el_call goes86 (spec_BigIntFromInt_ok hr151) (congrArg List.toArray (mapc rfl rfl)) (by decide) ?_
              rintro _ w154 ⟨v152, rfl, hS'⟩
              refine ⟨_, rfl, ?_⟩
              have hx155 := hS'.below
              replace hS := hS.call1 hS'
              refine el_nil ?_
              replace hS : Sat w0 w154 [Box b123 76 [v133], Own (sliceR intR 3) [v133] x132, Own (sliceR intR 3) [v152] r151, Box b103 76 [(.slice none 0 0)]] := hS.tops 4 [1, 2] rfl
              have hC := (hCd _).2 ⟨_, hS⟩
              refine ⟨fun _ => hC, ?_⟩
              refine al_two 3 7 (by kernel_rfl) rfl rfl ?_ ?_
              · refine el_call goes46 (spec_MulBigInt_ok (hS.rdAt (R := (sliceR intR 3)) 1 rfl) (hS.rdAt (R := (sliceR intR 3)) 2 rfl) hr156) (congrArg List.toArray (mapc rfl (mapc rfl rfl))) (by decide) ?_
                rintro _ w159 ⟨v157, rfl, hS'⟩
                refine ⟨_, rfl, ?_⟩
                have hx160 := hS'.below
                replace hS := hS.call1 hS'
                refine el_nil ?_
                replace hS : Sat w0 w159 [Box b123 76 [v133], Own (sliceR intR 3) [v133] x132, Own (sliceR intR 3) [v157] r156.1, Own (sliceR intR 3) [v152] r151, Box b103 76 [(.slice none 0 0)]] := hS.tops 5 [1, 2] rfl
                have hC := (hCd _).2 ⟨_, hS⟩
                refine ⟨fun _ => hC, ?_⟩
                refine al_p (v := .tuple #[.agg #[v157], .bool r156.2]) (by kernel_rfl) 4 rfl rfl (by decide) hC (by kernel_rfl) (by kernel_rfl) (sv_on rfl (fun w' hw' => by obtain ⟨_, hS⟩ := (hCd _).1 hw'; exact (pv_move rfl))) ?_
                refine al_p (v := .agg #[v157]) (by kernel_rfl) 5 rfl rfl (by decide) hC (by kernel_rfl) (by kernel_rfl) (sv_on rfl (fun w' hw' => by obtain ⟨_, hS⟩ := (hCd _).1 hw'; exact (pv_extract rfl rfl))) ?_
                refine al_p (v := .bool r156.2) (by kernel_rfl) 6 rfl rfl (by decide) hC (by kernel_rfl) (by kernel_rfl) (sv_on rfl (fun w' hw' => by obtain ⟨_, hS⟩ := (hCd _).1 hw'; exact (pv_extract rfl rfl))) ?_
                refine al_one 7 (by kernel_rfl) rfl ?_
                refine el_alloc hS (by decide) ?_
                intro w161 b162 hS hx163
                refine el_nil ?_
                replace hS : Sat w0 w161 [Box b123 76 [v133], Own (sliceR intR 3) [v133] x132, Box b162 76 [(.slice none 0 0)], Own (sliceR intR 3) [v157] r156.1, Own (sliceR intR 3) [v152] r151, Box b103 76 [(.slice none 0 0)]] := hS.tops 6 [1, 2] rfl
                have hC := (hCd _).2 ⟨_, hS⟩
                refine ⟨fun _ => hC, ?_⟩
                refine al_one 8 (by kernel_rfl) rfl ?_
                refine el_storev (hS.top 2 rfl) rfl [v157] rfl rfl (of_decide_eq_true rfl) (all_cons (oc (hS.rdAt (R := (sliceR intR 3)) 3 rfl)) rfl) ?_
                intro w165 hS
                replace hS : Sat w0 w165 [Box b162 76 [v157], Box b123 76 [v133], Own (sliceR intR 3) [v133] x132, Own (sliceR intR 3) [v157] r156.1, Own (sliceR intR 3) [v152] r151, Box b103 76 [(.slice none 0 0)]] := hS
                refine el_nil ?_
                replace hS : Sat w0 w165 [Box b123 76 [v133], Own (sliceR intR 3) [v133] x132, Box b162 76 [v157], Own (sliceR intR 3) [v157] r156.1, Own (sliceR intR 3) [v152] r151, Box b103 76 [(.slice none 0 0)]] := hS.tops 6 [1, 2] rfl
                have hC := (hCd _).2 ⟨_, hS⟩
                refine ⟨fun _ => hC, ?_⟩
                refine al_one 9 (by kernel_rfl) rfl ?_
                refine el_pv (v := .bool r156.2) (pv_assign rfl) (by decide) ?_
                refine el_nil ?_
                refine ⟨fun _ => hC, ?_⟩
                refine al_nil (by kernel_rfl) ?_
                replace hS : Sat w0 w165 [Box b123 76 [v133], Box b103 76 [(.slice none 0 0)], Own (sliceR intR 3) [v133] x132, Box b162 76 [v157], Own (sliceR intR 3) [v157] r156.1, Own (sliceR intR 3) [v152] r151] := hS.tops 6 [0, 5, 1, 2, 3] rfl
                replace hS : Sat w0 w165 [Box b123 76 [v133], Box b103 76 [(.slice none 0 0)], Own (sliceR intR 3) [v133] x132, Box b162 76 [v157], Own (sliceR intR 3) [v157] r156.1] := hS.rems 6 [5] rfl
                exact ⟨rfl, b162, v157, he135, he136, he137, he138, he139, rfl, rfl, hS⟩
              · refine el_alloc hS (by decide) ?_
                intro w161 b162 hS hx163
                refine el_nil ?_
                replace hS : Sat w0 w161 [Box b123 76 [v133], Own (sliceR intR 3) [v133] x132, Box b162 76 [(.slice none 0 0)], Own (sliceR intR 3) [v152] r151, Box b103 76 [(.slice none 0 0)]] := hS.tops 5 [1, 2] rfl
                have hC := (hCd _).2 ⟨_, hS⟩
                refine ⟨fun _ => hC, ?_⟩
                refine al_one 3 (by kernel_rfl) rfl ?_
                refine el_call goes46 (spec_MulBigInt_ok (hS.rdAt (R := (sliceR intR 3)) 1 rfl) (hS.rdAt (R := (sliceR intR 3)) 3 rfl) hr156) (congrArg List.toArray (mapc rfl (mapc rfl rfl))) (by decide) ?_
                rintro _ w159 ⟨v157, rfl, hS'⟩
                refine ⟨_, rfl, ?_⟩
                have hx160 := hS'.below
                replace hS := hS.call1 hS'
                refine el_nil ?_
                replace hS : Sat w0 w159 [Box b123 76 [v133], Own (sliceR intR 3) [v133] x132, Own (sliceR intR 3) [v157] r156.1, Box b162 76 [(.slice none 0 0)], Own (sliceR intR 3) [v152] r151, Box b103 76 [(.slice none 0 0)]] := hS.tops 6 [1, 2] rfl
                have hC := (hCd _).2 ⟨_, hS⟩
                refine ⟨fun _ => hC, ?_⟩
                refine al_one 4 (by kernel_rfl) rfl ?_
                refine el_pv (v := .tuple #[.agg #[v157], .bool r156.2]) (pv_move rfl) (by decide) ?_
                refine el_nil ?_
                refine ⟨fun _ => hC, ?_⟩
                refine al_p (v := .agg #[v157]) (by kernel_rfl) 5 rfl rfl (by decide) hC (by kernel_rfl) (by kernel_rfl) (sv_on rfl (fun w' hw' => by obtain ⟨_, hS⟩ := (hCd _).1 hw'; exact (pv_extract rfl rfl))) ?_
                refine al_p (v := .bool r156.2) (by kernel_rfl) 6 rfl rfl (by decide) hC (by kernel_rfl) (by kernel_rfl) (sv_on rfl (fun w' hw' => by obtain ⟨_, hS⟩ := (hCd _).1 hw'; exact (pv_extract rfl rfl))) ?_
                refine al_one 8 (by kernel_rfl) rfl ?_
                refine el_storev (hS.top 3 rfl) rfl [v157] rfl rfl (of_decide_eq_true rfl) (all_cons (oc (hS.rdAt (R := (sliceR intR 3)) 2 rfl)) rfl) ?_
                intro w165 hS
                replace hS : Sat w0 w165 [Box b162 76 [v157], Box b123 76 [v133], Own (sliceR intR 3) [v133] x132, Own (sliceR intR 3) [v157] r156.1, Own (sliceR intR 3) [v152] r151, Box b103 76 [(.slice none 0 0)]] := hS
                refine el_nil ?_
                replace hS : Sat w0 w165 [Box b123 76 [v133], Own (sliceR intR 3) [v133] x132, Box b162 76 [v157], Own (sliceR intR 3) [v157] r156.1, Own (sliceR intR 3) [v152] r151, Box b103 76 [(.slice none 0 0)]] := hS.tops 6 [1, 2] rfl
                have hC := (hCd _).2 ⟨_, hS⟩
                refine ⟨fun _ => hC, ?_⟩
                refine al_one 9 (by kernel_rfl) rfl ?_
                refine el_pv (v := .bool r156.2) (pv_assign rfl) (by decide) ?_
                refine el_nil ?_
                refine ⟨fun _ => hC, ?_⟩
                refine al_nil (by kernel_rfl) ?_
                replace hS : Sat w0 w165 [Box b123 76 [v133], Box b103 76 [(.slice none 0 0)], Own (sliceR intR 3) [v133] x132, Box b162 76 [v157], Own (sliceR intR 3) [v157] r156.1, Own (sliceR intR 3) [v152] r151] := hS.tops 6 [0, 5, 1, 2, 3] rfl
                replace hS : Sat w0 w165 [Box b123 76 [v133], Box b103 76 [(.slice none 0 0)], Own (sliceR intR 3) [v133] x132, Box b162 76 [v157], Own (sliceR intR 3) [v157] r156.1] := hS.rems 6 [5] rfl
                exact ⟨rfl, b162, v157, he135, he136, he137, he138, he139, rfl, rfl, hS⟩
            · refine el_alloc hS (by decide) ?_
              intro w161 b162 hS hx163
              refine el_nil ?_
              replace hS : Sat w0 w161 [Box b123 76 [v133], Own (sliceR intR 3) [v133] x132, Box b162 76 [(.slice none 0 0)], Box b103 76 [(.slice none 0 0)]] := hS.tops 4 [1, 2] rfl
              have hC := (hCd _).2 ⟨_, hS⟩
              refine ⟨fun _ => hC, ?_⟩
              refine al_one 2 (by kernel_rfl) rfl ?_
              refine el_call goes86 (spec_BigIntFromInt_ok hr151) (congrArg List.toArray (mapc rfl rfl)) (by decide) ?_
              rintro _ w154 ⟨v152, rfl, hS'⟩
              refine ⟨_, rfl, ?_⟩
              have hx155 := hS'.below
              replace hS := hS.call1 hS'
              refine el_nil ?_
              replace hS : Sat w0 w154 [Box b123 76 [v133], Own (sliceR intR 3) [v133] x132, Own (sliceR intR 3) [v152] r151, Box b162 76 [(.slice none 0 0)], Box b103 76 [(.slice none 0 0)]] := hS.tops 5 [1, 2] rfl
              have hC := (hCd _).2 ⟨_, hS⟩
              refine ⟨fun _ => hC, ?_⟩
              refine al_one 3 (by kernel_rfl) rfl ?_
              refine el_call goes46 (spec_MulBigInt_ok (hS.rdAt (R := (sliceR intR 3)) 1 rfl) (hS.rdAt (R := (sliceR intR 3)) 2 rfl) hr156) (congrArg List.toArray (mapc rfl (mapc rfl rfl))) (by decide) ?_
              rintro _ w159 ⟨v157, rfl, hS'⟩
              refine ⟨_, rfl, ?_⟩
              have hx160 := hS'.below
              replace hS := hS.call1 hS'
              refine el_nil ?_
              replace hS : Sat w0 w159 [Box b123 76 [v133], Own (sliceR intR 3) [v133] x132, Own (sliceR intR 3) [v157] r156.1, Own (sliceR intR 3) [v152] r151, Box b162 76 [(.slice none 0 0)], Box b103 76 [(.slice none 0 0)]] := hS.tops 6 [1, 2] rfl
              have hC := (hCd _).2 ⟨_, hS⟩
              refine ⟨fun _ => hC, ?_⟩
              refine al_one 4 (by kernel_rfl) rfl ?_
              refine el_pv (v := .tuple #[.agg #[v157], .bool r156.2]) (pv_move rfl) (by decide) ?_
              refine el_nil ?_
              refine ⟨fun _ => hC, ?_⟩
              refine al_p (v := .agg #[v157]) (by kernel_rfl) 5 rfl rfl (by decide) hC (by kernel_rfl) (by kernel_rfl) (sv_on rfl (fun w' hw' => by obtain ⟨_, hS⟩ := (hCd _).1 hw'; exact (pv_extract rfl rfl))) ?_
              refine al_p (v := .bool r156.2) (by kernel_rfl) 6 rfl rfl (by decide) hC (by kernel_rfl) (by kernel_rfl) (sv_on rfl (fun w' hw' => by obtain ⟨_, hS⟩ := (hCd _).1 hw'; exact (pv_extract rfl rfl))) ?_
              refine al_one 8 (by kernel_rfl) rfl ?_
              refine el_storev (hS.top 4 rfl) rfl [v157] rfl rfl (of_decide_eq_true rfl) (all_cons (oc (hS.rdAt (R := (sliceR intR 3)) 2 rfl)) rfl) ?_
              intro w165 hS
              replace hS : Sat w0 w165 [Box b162 76 [v157], Box b123 76 [v133], Own (sliceR intR 3) [v133] x132, Own (sliceR intR 3) [v157] r156.1, Own (sliceR intR 3) [v152] r151, Box b103 76 [(.slice none 0 0)]] := hS
              refine el_nil ?_
              replace hS : Sat w0 w165 [Box b123 76 [v133], Own (sliceR intR 3) [v133] x132, Box b162 76 [v157], Own (sliceR intR 3) [v157] r156.1, Own (sliceR intR 3) [v152] r151, Box b103 76 [(.slice none 0 0)]] := hS.tops 6 [1, 2] rfl
              have hC := (hCd _).2 ⟨_, hS⟩
              refine ⟨fun _ => hC, ?_⟩
              refine al_one 9 (by kernel_rfl) rfl ?_
              refine el_pv (v := .bool r156.2) (pv_assign rfl) (by decide) ?_
              refine el_nil ?_
              refine ⟨fun _ => hC, ?_⟩
              refine al_nil (by kernel_rfl) ?_
              replace hS : Sat w0 w165 [Box b123 76 [v133], Box b103 76 [(.slice none 0 0)], Own (sliceR intR 3) [v133] x132, Box b162 76 [v157], Own (sliceR intR 3) [v157] r156.1, Own (sliceR intR 3) [v152] r151] := hS.tops 6 [0, 5, 1, 2, 3] rfl
              replace hS : Sat w0 w165 [Box b123 76 [v133], Box b103 76 [(.slice none 0 0)], Own (sliceR intR 3) [v133] x132, Box b162 76 [v157], Own (sliceR intR 3) [v157] r156.1] := hS.rems 6 [5] rfl
              exact ⟨rfl, b162, v157, he135, he136, he137, he138, he139, rfl, rfl, hS⟩
          · rintro e168 w169 ⟨b162, v157, he170, he171, he172, he173, he174, he175, he176, hS⟩
            refine hQ148 _ _ _ ?_
            refine thn_n ?_
            refine cw_seq ?_
            refine cw_gen ?_
            intro Q177 hQ177
            refine cw_seq ?_
            refine cw_gen ?_
            intro Q178 hQ178
            refine cw_reg ?_
            refine el_pv (v := .bool r156.2) (pv_move he176) (by decide) ?_
            refine el_pv (v := .bool (!r156.2)) (pv_not rfl) (by decide) ?_
            refine el_nil ?_
            refine hQ178 _ _ _ ?_
            refine thn_n ?_
            replace hF := oif hF
            rcases hF with ⟨hb179, hF⟩ | ⟨hb179, hF⟩
            · refine cw_cond_f rfl (bnot_t hb179) ?_
              refine cw_skip ?_
              refine hQ177 _ _ _ ?_
              refine thn_n ?_
              refine cw_reg ?_
              refine el_pv (v := .agg #[v157]) (pv_loada (cs := [v157]) he175 rfl (boxc0 (hS.boxAt 3 rfl))) (by decide) ?_
              refine el_storev (hS.top 0 rfl) he173 [v157] rfl rfl (of_decide_eq_true rfl) (all_cons (oc (hS.rdAt (R := (sliceR intR 3)) 4 rfl)) rfl) ?_
              intro w180 hS
              replace hS : Sat w0 w180 [Box b123 76 [v157], Box b103 76 [(.slice none 0 0)], Own (sliceR intR 3) [v133] x132, Box b162 76 [v157], Own (sliceR intR 3) [v157] r156.1] := hS
              refine el_nil ?_
              refine hQ147 _ _ _ ?_
              refine inb_n ?_
              refine hQ146 _ _ _ ?_
              refine thn_n ?_
              replace hS : Sat w0 w180 [Box b123 76 [v157], Box b103 76 [(.slice none 0 0)], Own (sliceR intR 3) [v157] r156.1] := hS.rems 5 [2, 3] rfl
              refine cw_reg ?_
              refine el_pv (v := .int .i64 x134) (pv_move he174) (by decide) ?_
              replace hF := ob hF
              obtain ⟨x181, hx181, hF⟩ := hF
              refine el_pv (v := .int .i64 x181) (pv_add rfl rfl hx181) (by decide) ?_
              refine el_pv (v := .int .i64 x181) (pv_assign rfl) (by decide) ?_
              refine el_nil ?_
              refine hQ142 _ _ _ ?_
              refine thn_n ?_
              replace hS : Sat w0 w180 [Box b123 76 [v157], Own (sliceR intR 3) [v157] r156.1, Box b103 76 [(.slice none 0 0)]] := hS.tops 3 [0, 2, 1] rfl
              replace hS := hS.keep 3
              exact ⟨v157, r156.1, x181, he170, he171, he172, he173, rfl, hS, hF⟩
            · refine cw_cond_t rfl (bnot_f hb179) ?_
              refine cw_seq ?_
              refine cw_gen ?_
              intro Q182 hQ182
              replace hS : Sat w0 w169 [Box b103 76 [(.slice none 0 0)]] := hS.rems 5 [0, 2, 3, 4] rfl
              refine cw_reg ?_
              refine el_pv (v := .agg #[(.slice none 0 0)]) (pv_build [] [(.slice none 0 0)] rfl rfl) (by decide) ?_
              refine el_storev (hS.top 0 rfl) he172 [(.slice none 0 0)] rfl rfl (of_decide_eq_true rfl) (all_cons rfl rfl) ?_
              intro w183 hS
              replace hS : Sat w0 w183 [Box b103 76 [(.slice none 0 0)]] := hS
              refine el_pv (v := .bool false) (pv_assign rfl) (by decide) ?_
              refine el_nil ?_
              refine hQ182 _ _ _ ?_
              refine thn_n ?_
              refine cw_ret ?_
              refine hQ177 _ _ _ ?_
              refine thn_r ?_
              refine hQ147 _ _ _ ?_
              refine inb_r ?_
              refine hQ146 _ _ _ ?_
              refine thn_r ?_
              refine hQ142 _ _ _ ?_
              refine thn_r ?_
              refine hQ129 _ _ _ ?_
              refine inb_r ?_
              refine hQ127 _ _ _ ?_
              refine thn_r ?_
              replace hF := exL hF hK131
              replace hS := hS.nil intR 3
              refine finCT (cs := [(.slice none 0 0)]) rfl he172 rfl (boxc0 (hS.boxAt 1 rfl)) rfl ?_
              have hr := Option.some.inj hF
              exact ⟨(.slice none 0 0), congrArg (fun (r : (List Int) × Bool) => Ending.returned (.tuple #[.agg #[(.slice none 0 0)], .bool r.2])) hr, Eq.mp (congrArg (fun (r : (List Int) × Bool) => Sat w0 w183 [Own (sliceR intR 3) [(.slice none 0 0)] r.1]) hr) (hS.keep 1)⟩
        · refine cw_cond_f rfl hb145 ?_
          refine cw_exit ?_
          refine hQ143 _ _ _ ?_
          refine thn_x ?_
          refine hQ142 _ _ _ ?_
          refine thn_x ?_
          replace hF := exA hF hK131
          refine hQ129 _ _ _ ?_
          refine inb_s ?_
          refine hQ127 _ _ _ ?_
          refine thn_n ?_
          refine cw_seq ?_
          refine cw_gen ?_
          intro Q185 hQ185
          refine cw_reg ?_
          refine el_pv (v := .agg #[v133]) (pv_loada (cs := [v133]) he138 rfl (boxc0 (hS.boxAt 0 rfl))) (by decide) ?_
          refine el_storev (hS.top 2 rfl) he137 [v133] rfl rfl (of_decide_eq_true rfl) (all_cons (oc (hS.rdAt (R := (sliceR intR 3)) 1 rfl)) rfl) ?_
          intro w186 hS
          replace hS : Sat w0 w186 [Box b103 76 [v133], Box b123 76 [v133], Own (sliceR intR 3) [v133] x132] := hS
          refine el_pv (v := .bool true) (pv_assign rfl) (by decide) ?_
          refine el_nil ?_
          refine hQ185 _ _ _ ?_
          refine thn_n ?_
          refine cw_ret ?_
          refine finCT (cs := [v133]) rfl he137 rfl (boxc0 (hS.boxAt 0 rfl)) rfl ?_
          replace hS : Sat w0 w186 [Own (sliceR intR 3) [v133] x132, Box b103 76 [v133], Box b123 76 [v133]] := hS.tops 3 [2] rfl
          have hr := Option.some.inj hF
          exact ⟨v133, congrArg (fun (r : (List Int) × Bool) => Ending.returned (.tuple #[.agg #[v133], .bool r.2])) hr, Eq.mp (congrArg (fun (r : (List Int) × Bool) => Sat w0 w186 [Own (sliceR intR 3) [v133] r.1]) hr) (hS.keep 1)⟩
    · refine cw_cond_t rfl (bnot_f hb115) ?_
      refine cw_seq ?_
      refine cw_gen ?_
      intro Q187 hQ187
      refine cw_reg ?_
      refine el_pv (v := .agg #[(.slice none 0 0)]) (pv_build [] [(.slice none 0 0)] rfl rfl) (by decide) ?_
      refine el_storev (hS.top 0 rfl) rfl [(.slice none 0 0)] rfl rfl (of_decide_eq_true rfl) (all_cons rfl rfl) ?_
      intro w188 hS
      replace hS : Sat w0 w188 [Box b103 76 [(.slice none 0 0)]] := hS
      refine el_pv (v := .bool false) (pv_assign rfl) (by decide) ?_
      refine el_nil ?_
      refine hQ187 _ _ _ ?_
      refine thn_n ?_
      refine cw_ret ?_
      refine hQ106 _ _ _ ?_
      refine thn_r ?_
      replace hS := hS.nil intR 3
      refine finCT (cs := [(.slice none 0 0)]) rfl rfl rfl (boxc0 (hS.boxAt 1 rfl)) rfl ?_
      have hr := Option.some.inj hF
      exact ⟨(.slice none 0 0), congrArg (fun (r : (List Int) × Bool) => Ending.returned (.tuple #[.agg #[(.slice none 0 0)], .bool r.2])) hr, Eq.mp (congrArg (fun (r : (List Int) × Bool) => Sat w0 w188 [Own (sliceR intR 3) [(.slice none 0 0)] r.1]) hr) (hS.keep 1)⟩
end Go.Proofs.Ytkpeabpdiffjhaa
