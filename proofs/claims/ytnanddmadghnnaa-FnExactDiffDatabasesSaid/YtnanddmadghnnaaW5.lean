/- The walks through functions of the program: each hands back what it comes to. No condition but that it comes to something. -/
import Derived.Test.YtnanddmadghnnaaW4
import Derived.Test.YtnanddmadghnnaaW5D
namespace Go.Proofs.Ytnanddmadghnnaa
open Go.RowKit
set_option maxRecDepth 100000
set_option maxHeartbeats 4000000 in
theorem laws_eqTableS_ok {w0 : World} {u0 : Value} {a0 : List (ByteArray × (Int × List (List Int)))} {u1 : Value} {a1 : List (ByteArray × (Int × List (List Int)))} (ha0 : (sliceR (pairR strR (pairR intR (sliceR (sliceR intR 3) 24))) 80).rd w0 [u0] a0) (ha1 : (sliceR (pairR strR (pairR intR (sliceR (sliceR intR 3) 24))) 80).rd w0 [u1] a1) {N : Nat} {r : Bool} (hF : laws_eqTableS N a0 a1 = some r) :
    Calls Try.prog 43 #[u0, u1] w0 fun e w' => e = .returned (.bool r) ∧ Ext w0 w' := by
  unfold laws_eqTableS at hF
  refine calls_E Try.func43 rfl rfl (of_decide_eq_true rfl) ?_
  have hS := Sat.start w0
  refine cw_seq ?_
  refine cw_gen ?_
  intro Q101 hQ101
  refine cw_reg ?_
  refine el_pv (v := .bool false) (pv_assign rfl) (by decide) ?_
  refine el_nil ?_
  refine hQ101 _ _ _ ?_
  refine thn_n ?_
  refine cw_seq ?_
  refine cw_gen ?_
  intro Q102 hQ102
  refine cw_seq ?_
  refine cw_gen ?_
  intro Q103 hQ103
  refine cw_reg ?_
  refine el_pv (v := u0) (pv_move rfl) (by decide) ?_
  refine el_pv (v := .int .i64 (a0.length : Int)) (pv_len rfl ha0) (by decide) ?_
  refine el_pv (v := u1) (pv_move rfl) (by decide) ?_
  refine el_pv (v := .int .i64 (a1.length : Int)) (pv_len rfl ha1) (by decide) ?_
  refine el_pv (v := .bool ((a0.length : Int) != (a1.length : Int))) (pv_neq rfl rfl) (by decide) ?_
  refine el_nil ?_
  refine hQ103 _ _ _ ?_
  refine thn_n ?_
  replace hF := oif hF
  rcases hF with ⟨hb104, hF⟩ | ⟨hb104, hF⟩
  · refine cw_cond_t rfl hb104 ?_
    refine cw_seq ?_
    refine cw_gen ?_
    intro Q105 hQ105
    refine cw_reg ?_
    refine el_pv (v := .bool false) (pv_assign rfl) (by decide) ?_
    refine el_nil ?_
    refine hQ105 _ _ _ ?_
    refine thn_n ?_
    refine cw_ret ?_
    refine hQ102 _ _ _ ?_
    refine thn_r ?_
    refine fin1 rfl rfl ?_
    have hr := Option.some.inj hF
    exact ⟨congrArg (fun (r : Bool) => Ending.returned (.bool r)) hr, hS.below⟩
  · refine cw_cond_f rfl hb104 ?_
    refine cw_skip ?_
    refine hQ102 _ _ _ ?_
    refine thn_n ?_
    refine cw_seq ?_
    refine cw_gen ?_
    intro Q106 hQ106
    refine cw_seq ?_
    refine cw_gen ?_
    intro Q107 hQ107
    refine cw_reg ?_
    refine el_pv (v := .int .i64 0) (pv_assign rfl) (by decide) ?_
    refine el_nil ?_
    refine hQ107 _ _ _ ?_
    refine thn_n ?_
    refine cw_block ?_
    refine cw_gen ?_
    intro Q108 hQ108
    obtain ⟨s109, hL, hK110⟩ := ob hF
    refine cw_loopS (fun k e w => ∃ (x111 : Int), e 0 = u0 ∧ e 1 = u1 ∧ e 5 = .int .i64 x111 ∧ Sat w0 w [] ∧ laws_eqTableS_L1 N k a0 a1 x111 = some s109) N ?_ ?_ ?_
    · exact ⟨0, rfl, rfl, rfl, hS, hL⟩
    · rintro e w ⟨_, _, _, _, _, hz⟩; exact nomatch (show none = some _ from hz)
    · rintro k e116 w115 ⟨x111, he112, he113, he114, hS, hF⟩
      refine cw_gen ?_
      intro Q117 hQ117
      refine cw_seq ?_
      refine cw_gen ?_
      intro Q118 hQ118
      refine cw_seq ?_
      refine cw_gen ?_
      intro Q119 hQ119
      refine cw_reg ?_
      refine el_pv (v := .int .i64 x111) (pv_move he114) (by decide) ?_
      refine el_pv (v := u0) (pv_move he112) (by decide) ?_
      refine el_pv (v := .int .i64 (a0.length : Int)) (pv_len rfl ha0) (by decide) ?_
      refine el_pv (v := .bool (decide (x111 < (a0.length : Int)))) (pv_lss rfl rfl) (by decide) ?_
      refine el_nil ?_
      refine hQ119 _ _ _ ?_
      refine thn_n ?_
      replace hF := oif hF
      rcases hF with ⟨hb120, hF⟩ | ⟨hb120, hF⟩
      · refine cw_cond_t rfl hb120 ?_
        refine cw_skip ?_
        refine hQ118 _ _ _ ?_
        refine thn_n ?_
        refine cw_seq ?_
        refine cw_gen ?_
        intro Q121 hQ121
        refine cw_block ?_
        refine cw_gen ?_
        intro Q122 hQ122
        refine cw_seq ?_
        refine cw_gen ?_
        intro Q123 hQ123
        refine cw_regq (by kernel_rfl) (by kernel_rfl) ?_
        refine ql_pv (v := u0) (pv_move he112) (by decide) ?_
        refine ql_pv (v := .int .i64 x111) (pv_move he114) (by decide) ?_
        replace hF := ob hF
        obtain ⟨x124, hx124, hF⟩ := hF
        refine ql_index (wA := w0) rfl ha0 rfl (by decide) rfl hx124 (by decide) ?_
        intro b125 of126 c127 hr128 hm129
        obtain ⟨_, _, rfl, hr130, hr131⟩ := hr128
        obtain ⟨rfl, hz132⟩ := hr130
        obtain ⟨_, _, rfl, hr133, hr134⟩ := hr131
        obtain rfl := hr133
        obtain ⟨v135, rfl⟩ := slice_one hr134
        refine ql_pv (v := .agg #[.string x124.1, .int .i64 x124.2.1, v135]) (pv_loada (cs := [.string x124.1, .int .i64 x124.2.1, v135]) rfl rfl (cells_up hS.below hm129)) (by decide) ?_
        refine ql_pv (v := u1) (pv_move he113) (by decide) ?_
        refine ql_pv (v := .int .i64 x111) (pv_move he114) (by decide) ?_
        replace hF := ob hF
        obtain ⟨x136, hx136, hF⟩ := hF
        refine ql_index (wA := w0) rfl ha1 rfl (by decide) rfl hx136 (by decide) ?_
        intro b137 of138 c139 hr140 hm141
        obtain ⟨_, _, rfl, hr142, hr143⟩ := hr140
        obtain ⟨rfl, hz144⟩ := hr142
        obtain ⟨_, _, rfl, hr145, hr146⟩ := hr143
        obtain rfl := hr145
        obtain ⟨v147, rfl⟩ := slice_one hr146
        refine ql_pv (v := .agg #[.string x136.1, .int .i64 x136.2.1, v147]) (pv_loada (cs := [.string x136.1, .int .i64 x136.2.1, v147]) rfl rfl (cells_up hS.below hm141)) (by decide) ?_
        replace hF := ob hF
        obtain ⟨r148, hr148, hF⟩ := hF
        refine ql_call (.bool r148) goes62 (fun w' hw' => laws_eqTable_ok hz132 (rd_up (hS.up hr134) hw') hz144 (rd_up (hS.up hr146) hw') hr148) (congrArg List.toArray (mapc rfl (mapc rfl rfl))) (by decide) ?_
        refine ql_pv (v := .bool (!r148)) (pv_not rfl) (by decide) ?_
        refine ql_nil ?_
        intro w149 hx150
        replace hS := hS.ext hx150
        refine hQ123 _ _ _ ?_
        refine thn_n ?_
        replace hF := oif hF
        rcases hF with ⟨hb151, hF⟩ | ⟨hb151, hF⟩
        · refine cw_cond_f rfl (bnot_t hb151) ?_
          refine cw_skip ?_
          refine hQ122 _ _ _ ?_
          refine inb_n ?_
          refine hQ121 _ _ _ ?_
          refine thn_n ?_
          refine cw_reg ?_
          refine el_pv (v := .int .i64 x111) (pv_move he114) (by decide) ?_
          replace hF := ob hF
          obtain ⟨x152, hx152, hF⟩ := hF
          refine el_pv (v := .int .i64 x152) (pv_add rfl rfl hx152) (by decide) ?_
          refine el_pv (v := .int .i64 x152) (pv_assign rfl) (by decide) ?_
          refine el_nil ?_
          refine hQ117 _ _ _ ?_
          refine thn_n ?_
          replace hS := hS.keep 0
          exact ⟨x152, he112, he113, rfl, hS, hF⟩
        · refine cw_cond_t rfl (bnot_f hb151) ?_
          refine cw_seq ?_
          refine cw_gen ?_
          intro Q153 hQ153
          refine cw_reg ?_
          refine el_pv (v := .bool false) (pv_assign rfl) (by decide) ?_
          refine el_nil ?_
          refine hQ153 _ _ _ ?_
          refine thn_n ?_
          refine cw_ret ?_
          refine hQ122 _ _ _ ?_
          refine inb_r ?_
          refine hQ121 _ _ _ ?_
          refine thn_r ?_
          refine hQ117 _ _ _ ?_
          refine thn_r ?_
          refine hQ108 _ _ _ ?_
          refine inb_r ?_
          refine hQ106 _ _ _ ?_
          refine thn_r ?_
          replace hF := exL hF hK110
          refine fin1 rfl rfl ?_
          have hr := Option.some.inj hF
          exact ⟨congrArg (fun (r : Bool) => Ending.returned (.bool r)) hr, hS.below⟩
      · refine cw_cond_f rfl hb120 ?_
        refine cw_exit ?_
        refine hQ118 _ _ _ ?_
        refine thn_x ?_
        refine hQ117 _ _ _ ?_
        refine thn_x ?_
        replace hF := exA hF hK110
        refine hQ108 _ _ _ ?_
        refine inb_s ?_
        refine hQ106 _ _ _ ?_
        refine thn_n ?_
        refine cw_seq ?_
        refine cw_gen ?_
        intro Q154 hQ154
        refine cw_reg ?_
        refine el_pv (v := .bool true) (pv_assign rfl) (by decide) ?_
        refine el_nil ?_
        refine hQ154 _ _ _ ?_
        refine thn_n ?_
        refine cw_ret ?_
        refine fin1 rfl rfl ?_
        have hr := Option.some.inj hF
        exact ⟨congrArg (fun (r : Bool) => Ending.returned (.bool r)) hr, hS.below⟩
set_option maxHeartbeats 4000000 in
theorem laws_eqDatabase_ok {w0 : World} {u0 : Value} {a0 : List (ByteArray × (Int × List (List Int)))} {u1 : Value} {a1 : List (ByteArray × (Int × List (List Int)))} (ha0 : (sliceR (pairR strR (pairR intR (sliceR (sliceR intR 3) 24))) 80).rd w0 [u0] a0) (ha1 : (sliceR (pairR strR (pairR intR (sliceR (sliceR intR 3) 24))) 80).rd w0 [u1] a1) {N : Nat} {r : Bool} (hF : laws_eqDatabase N a0 a1 = some r) :
    Calls Try.prog 21 #[.agg #[u0], .agg #[u1]] w0 fun e w' => e = .returned (.bool r) ∧ Ext w0 w' := by
  unfold laws_eqDatabase at hF
  refine calls_E Try.func21 rfl rfl (of_decide_eq_true rfl) ?_
  have hS := Sat.start w0
  refine cw_seq ?_
  refine cw_gen ?_
  intro Q101 hQ101
  refine cw_reg ?_
  refine el_box [u0] rfl hS (by decide) ?_
  intro w102 b103 hS hx104
  refine el_box [u1] rfl hS (by decide) ?_
  intro w106 b107 hS hx108
  refine el_pv (v := .bool false) (pv_assign rfl) (by decide) ?_
  refine el_nil ?_
  refine hQ101 _ _ _ ?_
  refine thn_n ?_
  refine cw_seq ?_
  refine cw_gen ?_
  intro Q110 hQ110
  refine cw_seq ?_
  refine cw_gen ?_
  intro Q111 hQ111
  refine cw_reg ?_
  refine el_pv (v := .pointer (some ⟨b103, 0 + 0, none⟩)) (pv_fieldAddr rfl) (by decide) ?_
  refine el_pv (v := u0) (pv_loadc rfl ((hS.boxAt 1 rfl) 0 _ rfl)) (by decide) ?_
  refine el_pv (v := .pointer (some ⟨b107, 0 + 0, none⟩)) (pv_fieldAddr rfl) (by decide) ?_
  refine el_pv (v := u1) (pv_loadc rfl ((hS.boxAt 0 rfl) 0 _ rfl)) (by decide) ?_
  replace hF := ob hF
  obtain ⟨r112, hr112, hF⟩ := hF
  refine el_call goes43 (laws_eqTableS_ok (hS.up ha0) (hS.up ha1) hr112) (congrArg List.toArray (mapc rfl (mapc rfl rfl))) (by decide) ?_
  rintro _ w113 ⟨rfl, hx114⟩
  refine ⟨_, rfl, ?_⟩
  replace hS := hS.ext hx114
  refine el_pv (v := .bool (!r112)) (pv_not rfl) (by decide) ?_
  refine el_nil ?_
  refine hQ111 _ _ _ ?_
  refine thn_n ?_
  replace hF := oif hF
  rcases hF with ⟨hb115, hF⟩ | ⟨hb115, hF⟩
  · refine cw_cond_f rfl (bnot_t hb115) ?_
    refine cw_skip ?_
    refine hQ110 _ _ _ ?_
    refine thn_n ?_
    refine cw_seq ?_
    refine cw_gen ?_
    intro Q116 hQ116
    replace hS : Sat w0 w113 [] := hS.rems 2 [0, 1] rfl
    refine cw_reg ?_
    refine el_pv (v := .bool true) (pv_assign rfl) (by decide) ?_
    refine el_nil ?_
    refine hQ116 _ _ _ ?_
    refine thn_n ?_
    refine cw_ret ?_
    refine fin1 rfl rfl ?_
    have hr := Option.some.inj hF
    exact ⟨congrArg (fun (r : Bool) => Ending.returned (.bool r)) hr, hS.below⟩
  · refine cw_cond_t rfl (bnot_f hb115) ?_
    refine cw_seq ?_
    refine cw_gen ?_
    intro Q117 hQ117
    replace hS : Sat w0 w113 [] := hS.rems 2 [0, 1] rfl
    refine cw_reg ?_
    refine el_pv (v := .bool false) (pv_assign rfl) (by decide) ?_
    refine el_nil ?_
    refine hQ117 _ _ _ ?_
    refine thn_n ?_
    refine cw_ret ?_
    refine hQ110 _ _ _ ?_
    refine thn_r ?_
    refine fin1 rfl rfl ?_
    have hr := Option.some.inj hF
    exact ⟨congrArg (fun (r : Bool) => Ending.returned (.bool r)) hr, hS.below⟩
set_option maxHeartbeats 4000000 in
theorem laws_eqDelta_ok {w0 : World} {a0 : ByteArray} {a1 : Int} {u2 : Value} {a2 : List (List Int)} {a3 : Int} {u4 : Value} {a4 : List (List Int)} {a5 : ByteArray} {a6 : Int} {u7 : Value} {a7 : List (List Int)} {a8 : Int} {u9 : Value} {a9 : List (List Int)} (_ : a0.size ≤ 9223372036854775807) (ha2 : (sliceR (sliceR intR 3) 24).rd w0 [u2] a2) (ha4 : (sliceR (sliceR intR 3) 24).rd w0 [u4] a4) (_ : a5.size ≤ 9223372036854775807) (ha7 : (sliceR (sliceR intR 3) 24).rd w0 [u7] a7) (ha9 : (sliceR (sliceR intR 3) 24).rd w0 [u9] a9) {N : Nat} {r : Bool} (hF : laws_eqDelta N a0 a1 a2 a3 a4 a5 a6 a7 a8 a9 = some r) :
    Calls Try.prog 22 #[.agg #[.string a0, .int .i64 a1, u2, .int .i64 a3, u4], .agg #[.string a5, .int .i64 a6, u7, .int .i64 a8, u9]] w0 fun e w' => e = .returned (.bool r) ∧ Ext w0 w' := by
  unfold laws_eqDelta at hF
  refine calls_E Try.func22 rfl rfl (of_decide_eq_true rfl) ?_
  have hS := Sat.start w0
  refine cw_seq ?_
  refine cw_gen ?_
  intro Q101 hQ101
  refine cw_reg ?_
  refine el_box [.string a0, .int .i64 a1, u2, .int .i64 a3, u4] rfl hS (by decide) ?_
  intro w102 b103 hS hx104
  refine el_box [.string a5, .int .i64 a6, u7, .int .i64 a8, u9] rfl hS (by decide) ?_
  intro w106 b107 hS hx108
  refine el_pv (v := .bool false) (pv_assign rfl) (by decide) ?_
  refine el_nil ?_
  refine hQ101 _ _ _ ?_
  refine thn_n ?_
  refine cw_seq ?_
  refine cw_gen ?_
  intro Q110 hQ110
  refine cw_seq ?_
  refine cw_gen ?_
  intro Q111 hQ111
  refine cw_reg ?_
  refine el_pv (v := .pointer (some ⟨b103, 0 + 0, none⟩)) (pv_fieldAddr rfl) (by decide) ?_
  refine el_pv (v := .string a0) (pv_loadc rfl ((hS.boxAt 1 rfl) 0 _ rfl)) (by decide) ?_
  refine el_pv (v := .pointer (some ⟨b107, 0 + 0, none⟩)) (pv_fieldAddr rfl) (by decide) ?_
  refine el_pv (v := .string a5) (pv_loadc rfl ((hS.boxAt 0 rfl) 0 _ rfl)) (by decide) ?_
  refine el_pv (v := .bool (!(eqS a0 a5))) (pv_neqS rfl rfl) (by decide) ?_
  refine el_nil ?_
  refine hQ111 _ _ _ ?_
  refine thn_n ?_
  replace hF := oif hF
  rcases hF with ⟨hb112, hF⟩ | ⟨hb112, hF⟩
  · refine cw_cond_f rfl (bnot_t hb112) ?_
    refine cw_skip ?_
    refine hQ110 _ _ _ ?_
    refine thn_n ?_
    refine cw_seq ?_
    refine cw_gen ?_
    intro Q113 hQ113
    refine cw_seq ?_
    refine cw_gen ?_
    intro Q114 hQ114
    refine cw_reg ?_
    refine el_pv (v := .pointer (some ⟨b103, 0 + 1, none⟩)) (pv_fieldAddr rfl) (by decide) ?_
    refine el_pv (v := .agg #[.int .i64 a1, u2]) (pv_loada (cs := [.int .i64 a1, u2]) rfl rfl (boxc (hS.boxAt 1 rfl) 1 2)) (by decide) ?_
    refine el_pv (v := .pointer (some ⟨b107, 0 + 1, none⟩)) (pv_fieldAddr rfl) (by decide) ?_
    refine el_pv (v := .agg #[.int .i64 a6, u7]) (pv_loada (cs := [.int .i64 a6, u7]) rfl rfl (boxc (hS.boxAt 0 rfl) 1 2)) (by decide) ?_
    replace hF := ob hF
    obtain ⟨r115, hr115, hF⟩ := hF
    refine el_call goes44 (laws_eqRelation_ok (hS.up ha2) (hS.up ha7) hr115) (congrArg List.toArray (mapc rfl (mapc rfl rfl))) (by decide) ?_
    rintro _ w116 ⟨rfl, hx117⟩
    refine ⟨_, rfl, ?_⟩
    replace hS := hS.ext hx117
    refine el_pv (v := .bool (!r115)) (pv_not rfl) (by decide) ?_
    refine el_nil ?_
    refine hQ114 _ _ _ ?_
    refine thn_n ?_
    replace hF := oif hF
    rcases hF with ⟨hb118, hF⟩ | ⟨hb118, hF⟩
    · refine cw_cond_f rfl (bnot_t hb118) ?_
      refine cw_skip ?_
      refine hQ113 _ _ _ ?_
      refine thn_n ?_
      refine cw_seq ?_
      refine cw_gen ?_
      intro Q119 hQ119
      refine cw_seq ?_
      refine cw_gen ?_
      intro Q120 hQ120
      refine cw_reg ?_
      refine el_pv (v := .pointer (some ⟨b103, 0 + 3, none⟩)) (pv_fieldAddr rfl) (by decide) ?_
      refine el_pv (v := .agg #[.int .i64 a3, u4]) (pv_loada (cs := [.int .i64 a3, u4]) rfl rfl (boxc (hS.boxAt 1 rfl) 3 2)) (by decide) ?_
      refine el_pv (v := .pointer (some ⟨b107, 0 + 3, none⟩)) (pv_fieldAddr rfl) (by decide) ?_
      refine el_pv (v := .agg #[.int .i64 a8, u9]) (pv_loada (cs := [.int .i64 a8, u9]) rfl rfl (boxc (hS.boxAt 0 rfl) 3 2)) (by decide) ?_
      replace hF := ob hF
      obtain ⟨r121, hr121, hF⟩ := hF
      refine el_call goes44 (laws_eqRelation_ok (hS.up ha4) (hS.up ha9) hr121) (congrArg List.toArray (mapc rfl (mapc rfl rfl))) (by decide) ?_
      rintro _ w122 ⟨rfl, hx123⟩
      refine ⟨_, rfl, ?_⟩
      replace hS := hS.ext hx123
      refine el_pv (v := .bool (!r121)) (pv_not rfl) (by decide) ?_
      refine el_nil ?_
      refine hQ120 _ _ _ ?_
      refine thn_n ?_
      replace hF := oif hF
      rcases hF with ⟨hb124, hF⟩ | ⟨hb124, hF⟩
      · refine cw_cond_f rfl (bnot_t hb124) ?_
        refine cw_skip ?_
        refine hQ119 _ _ _ ?_
        refine thn_n ?_
        refine cw_seq ?_
        refine cw_gen ?_
        intro Q125 hQ125
        replace hS : Sat w0 w122 [] := hS.rems 2 [0, 1] rfl
        refine cw_reg ?_
        refine el_pv (v := .bool true) (pv_assign rfl) (by decide) ?_
        refine el_nil ?_
        refine hQ125 _ _ _ ?_
        refine thn_n ?_
        refine cw_ret ?_
        refine fin1 rfl rfl ?_
        have hr := Option.some.inj hF
        exact ⟨congrArg (fun (r : Bool) => Ending.returned (.bool r)) hr, hS.below⟩
      · refine cw_cond_t rfl (bnot_f hb124) ?_
        refine cw_seq ?_
        refine cw_gen ?_
        intro Q126 hQ126
        replace hS : Sat w0 w122 [] := hS.rems 2 [0, 1] rfl
        refine cw_reg ?_
        refine el_pv (v := .bool false) (pv_assign rfl) (by decide) ?_
        refine el_nil ?_
        refine hQ126 _ _ _ ?_
        refine thn_n ?_
        refine cw_ret ?_
        refine hQ119 _ _ _ ?_
        refine thn_r ?_
        refine fin1 rfl rfl ?_
        have hr := Option.some.inj hF
        exact ⟨congrArg (fun (r : Bool) => Ending.returned (.bool r)) hr, hS.below⟩
    · refine cw_cond_t rfl (bnot_f hb118) ?_
      refine cw_seq ?_
      refine cw_gen ?_
      intro Q127 hQ127
      replace hS : Sat w0 w116 [] := hS.rems 2 [0, 1] rfl
      refine cw_reg ?_
      refine el_pv (v := .bool false) (pv_assign rfl) (by decide) ?_
      refine el_nil ?_
      refine hQ127 _ _ _ ?_
      refine thn_n ?_
      refine cw_ret ?_
      refine hQ113 _ _ _ ?_
      refine thn_r ?_
      refine fin1 rfl rfl ?_
      have hr := Option.some.inj hF
      exact ⟨congrArg (fun (r : Bool) => Ending.returned (.bool r)) hr, hS.below⟩
  · refine cw_cond_t rfl (bnot_f hb112) ?_
    refine cw_seq ?_
    refine cw_gen ?_
    intro Q128 hQ128
    replace hS : Sat w0 w106 [] := hS.rems 2 [0, 1] rfl
    refine cw_reg ?_
    refine el_pv (v := .bool false) (pv_assign rfl) (by decide) ?_
    refine el_nil ?_
    refine hQ128 _ _ _ ?_
    refine thn_n ?_
    refine cw_ret ?_
    refine hQ110 _ _ _ ?_
    refine thn_r ?_
    refine fin1 rfl rfl ?_
    have hr := Option.some.inj hF
    exact ⟨congrArg (fun (r : Bool) => Ending.returned (.bool r)) hr, hS.below⟩
set_option maxHeartbeats 4000000 in
theorem laws_FnExactIsValidDelta_ok {w0 : World} {u0 : Value} {a0 : List (ByteArray × (Int × List (List Int)))} {a1 : ByteArray} {a2 : Int} {u3 : Value} {a3 : List (List Int)} {a4 : Int} {u5 : Value} {a5 : List (List Int)} (ha0 : (sliceR (pairR strR (pairR intR (sliceR (sliceR intR 3) 24))) 76).rd w0 [u0] a0) (ha1 : a1.size ≤ 9223372036854775807) (ha3 : (sliceR (sliceR intR 3) 24).rd w0 [u3] a3) (ha5 : (sliceR (sliceR intR 3) 24).rd w0 [u5] a5) {N : Nat} {r : Bool} (hF : laws_FnExactIsValidDelta N a0 a1 a2 a3 a4 a5 = some r) :
    Calls Try.prog 4 #[.agg #[u0], .agg #[.string a1, .int .i64 a2, u3, .int .i64 a4, u5]] w0 fun e w' => e = .returned (.bool r) ∧ Ext w0 w' := by
  unfold laws_FnExactIsValidDelta at hF
  refine calls_E Try.func4 rfl rfl (of_decide_eq_true rfl) ?_
  have hS := Sat.start w0
  refine cw_seq ?_
  refine cw_gen ?_
  intro Q101 hQ101
  refine cw_reg ?_
  refine el_box [u0] rfl hS (by decide) ?_
  intro w102 b103 hS hx104
  refine el_box [.string a1, .int .i64 a2, u3, .int .i64 a4, u5] rfl hS (by decide) ?_
  intro w106 b107 hS hx108
  refine el_pv (v := .bool false) (pv_assign rfl) (by decide) ?_
  refine el_nil ?_
  refine hQ101 _ _ _ ?_
  refine thn_n ?_
  refine cw_seq ?_
  refine cw_gen ?_
  intro Q110 hQ110
  refine cw_reg ?_
  refine el_pv (v := .int .i64 1048576) (pv_assign rfl) (by decide) ?_
  refine el_nil ?_
  refine hQ110 _ _ _ ?_
  refine thn_n ?_
  refine cw_seq ?_
  refine cw_gen ?_
  intro Q111 hQ111
  refine cw_reg ?_
  refine el_pv (v := .agg #[u0]) (pv_loada (cs := [u0]) rfl rfl (boxc0 (hS.boxAt 1 rfl))) (by decide) ?_
  refine el_pv (v := .int .i64 1048576) (pv_move rfl) (by decide) ?_
  replace hF := ob hF
  obtain ⟨r112, hr112, hF⟩ := hF
  refine el_call goes15 (laws_szDatabase_ok (hS.up ha0) hr112) (congrArg List.toArray (mapc rfl (mapc rfl rfl))) (by decide) ?_
  rintro _ w113 ⟨rfl, hx114⟩
  refine ⟨_, rfl, ?_⟩
  replace hS := hS.ext hx114
  refine el_pv (v := .int .i64 r112) (pv_assign rfl) (by decide) ?_
  refine el_nil ?_
  refine hQ111 _ _ _ ?_
  refine thn_n ?_
  refine cw_seq ?_
  refine cw_gen ?_
  intro Q115 hQ115
  refine cw_seq ?_
  refine cw_gen ?_
  intro Q116 hQ116
  refine cw_reg ?_
  refine el_pv (v := .int .i64 r112) (pv_move rfl) (by decide) ?_
  refine el_pv (v := .bool (decide (r112 < 0))) (pv_lss rfl rfl) (by decide) ?_
  refine el_nil ?_
  refine hQ116 _ _ _ ?_
  refine thn_n ?_
  replace hF := oif hF
  rcases hF with ⟨hb117, hF⟩ | ⟨hb117, hF⟩
  · refine cw_cond_t rfl hb117 ?_
    refine cw_seq ?_
    refine cw_gen ?_
    intro Q118 hQ118
    replace hS : Sat w0 w113 [] := hS.rems 2 [0, 1] rfl
    refine cw_reg ?_
    refine el_pv (v := .bool true) (pv_assign rfl) (by decide) ?_
    refine el_nil ?_
    refine hQ118 _ _ _ ?_
    refine thn_n ?_
    refine cw_ret ?_
    refine hQ115 _ _ _ ?_
    refine thn_r ?_
    refine fin1 rfl rfl ?_
    have hr := Option.some.inj hF
    exact ⟨congrArg (fun (r : Bool) => Ending.returned (.bool r)) hr, hS.below⟩
  · refine cw_cond_f rfl hb117 ?_
    refine cw_skip ?_
    refine hQ115 _ _ _ ?_
    refine thn_n ?_
    refine cw_seq ?_
    refine cw_gen ?_
    intro Q119 hQ119
    refine cw_reg ?_
    refine el_pv (v := .agg #[.string a1, .int .i64 a2, u3, .int .i64 a4, u5]) (pv_loada (cs := [.string a1, .int .i64 a2, u3, .int .i64 a4, u5]) rfl rfl (boxc0 (hS.boxAt 0 rfl))) (by decide) ?_
    refine el_pv (v := .int .i64 r112) (pv_move rfl) (by decide) ?_
    replace hF := ob hF
    obtain ⟨r120, hr120, hF⟩ := hF
    refine el_call goes16 (laws_szDelta_ok ha1 (hS.up ha3) (hS.up ha5) hr120) (congrArg List.toArray (mapc rfl (mapc rfl rfl))) (by decide) ?_
    rintro _ w121 ⟨rfl, hx122⟩
    refine ⟨_, rfl, ?_⟩
    replace hS := hS.ext hx122
    refine el_pv (v := .int .i64 r120) (pv_assign rfl) (by decide) ?_
    refine el_nil ?_
    refine hQ119 _ _ _ ?_
    refine thn_n ?_
    refine cw_seq ?_
    refine cw_gen ?_
    intro Q123 hQ123
    refine cw_seq ?_
    refine cw_gen ?_
    intro Q124 hQ124
    refine cw_reg ?_
    refine el_pv (v := .int .i64 r120) (pv_move rfl) (by decide) ?_
    refine el_pv (v := .bool (decide (r120 < 0))) (pv_lss rfl rfl) (by decide) ?_
    refine el_nil ?_
    refine hQ124 _ _ _ ?_
    refine thn_n ?_
    replace hF := oif hF
    rcases hF with ⟨hb125, hF⟩ | ⟨hb125, hF⟩
    · refine cw_cond_t rfl hb125 ?_
      refine cw_seq ?_
      refine cw_gen ?_
      intro Q126 hQ126
      replace hS : Sat w0 w121 [] := hS.rems 2 [0, 1] rfl
      refine cw_reg ?_
      refine el_pv (v := .bool true) (pv_assign rfl) (by decide) ?_
      refine el_nil ?_
      refine hQ126 _ _ _ ?_
      refine thn_n ?_
      refine cw_ret ?_
      refine hQ123 _ _ _ ?_
      refine thn_r ?_
      refine fin1 rfl rfl ?_
      have hr := Option.some.inj hF
      exact ⟨congrArg (fun (r : Bool) => Ending.returned (.bool r)) hr, hS.below⟩
    · refine cw_cond_f rfl hb125 ?_
      refine cw_skip ?_
      refine hQ123 _ _ _ ?_
      refine thn_n ?_
      refine cw_seq ?_
      refine cw_gen ?_
      intro Q127 hQ127
      obtain ⟨C, hCd⟩ : ∃ C : World → Prop, ∀ w, C w ↔ ∃ G, Sat w0 w ([Box b107 38 [.string a1, .int .i64 a2, u3, .int .i64 a4, u5], Box b103 34 [u0]] ++ G) := ⟨_, fun _ => Iff.rfl⟩
      refine cw_regb [0, 1, 2, 3, 4, 5] C (by kernel_rfl) ?_
      intro w128 hx129
      replace hS := hS.ext hx129
      have hC := (hCd _).2 ⟨_, hS⟩
      refine al_p (v := .agg #[u0]) (by kernel_rfl) 0 rfl rfl (by decide) hC (by kernel_rfl) (by kernel_rfl) (sv_on rfl (fun w' hw' => by obtain ⟨_, hS⟩ := (hCd _).1 hw'; exact (pv_loada (cs := [u0]) rfl rfl (boxc0 (hS.boxAt 1 rfl))))) ?_
      refine al_p (v := .agg #[.string a1, .int .i64 a2, u3, .int .i64 a4, u5]) (by kernel_rfl) 2 rfl rfl (by decide) hC (by kernel_rfl) (by kernel_rfl) (sv_on rfl (fun w' hw' => by obtain ⟨_, hS⟩ := (hCd _).1 hw'; exact (pv_loada (cs := [.string a1, .int .i64 a2, u3, .int .i64 a4, u5]) rfl rfl (boxc0 (hS.boxAt 0 rfl))))) ?_
      refine al_one 1 (by kernel_rfl) rfl ?_
      replace hF := ob hF
      obtain ⟨r130, hr130, hF⟩ := hF
      refine el_call goes18 (laws_toDatabase_ok (hS.up ha0) hr130) (congrArg List.toArray (mapc rfl rfl)) (by decide) ?_
      rintro _ w133 ⟨v131, rfl, hS'⟩
      refine ⟨_, rfl, ?_⟩
      have hx134 := hS'.below
      replace hS := hS.call1 hS'
      refine el_nil ?_
      replace hS : Sat w0 w133 [Box b107 38 [.string a1, .int .i64 a2, u3, .int .i64 a4, u5], Box b103 34 [u0], Own (sliceR (pairR strR (pairR intR (sliceR (sliceR intR 3) 24))) 80) [v131] r130] := hS.tops 3 [1, 2] rfl
      have hC := (hCd _).2 ⟨_, hS⟩
      refine ⟨fun _ => hC, ?_⟩
      refine al_one 3 (by kernel_rfl) rfl ?_
      replace hF := ob hF
      obtain ⟨r135, hr135, hF⟩ := hF
      refine el_call goes19 (laws_toDelta_ok ha1 (hS.up ha3) (hS.up ha5) hr135) (congrArg List.toArray (mapc rfl rfl)) (by decide) ?_
      rintro _ w141 ⟨v136, v137, rfl, hS', hz138⟩
      refine ⟨_, rfl, ?_⟩
      have hx142 := hS'.below
      replace hS := hS.call2 hS'
      refine el_nil ?_
      replace hS : Sat w0 w141 [Box b107 38 [.string a1, .int .i64 a2, u3, .int .i64 a4, u5], Box b103 34 [u0], Own (sliceR (sliceR intR 3) 24) [v136] r135.2.1.2, Own (sliceR (sliceR intR 3) 24) [v137] r135.2.2.2, Own (sliceR (pairR strR (pairR intR (sliceR (sliceR intR 3) 24))) 80) [v131] r130] := hS.tops 5 [2, 3] rfl
      have hC := (hCd _).2 ⟨_, hS⟩
      refine ⟨fun _ => hC, ?_⟩
      refine al_one 4 (by kernel_rfl) rfl ?_
      replace hF := ob hF
      obtain ⟨r143, hr143, hF⟩ := hF
      refine el_call goes17 (spec_IsValidDelta_ok (hS.rdAt (R := (sliceR (pairR strR (pairR intR (sliceR (sliceR intR 3) 24))) 80)) 4 rfl) hz138 (hS.rdAt (R := (sliceR (sliceR intR 3) 24)) 2 rfl) (hS.rdAt (R := (sliceR (sliceR intR 3) 24)) 3 rfl) hr143) (congrArg List.toArray (mapc rfl (mapc rfl rfl))) (by decide) ?_
      rintro _ w144 ⟨rfl, hx145⟩
      refine ⟨_, rfl, ?_⟩
      replace hS := hS.ext hx145
      refine el_nil ?_
      have hC := (hCd _).2 ⟨_, hS⟩
      refine ⟨fun _ => hC, ?_⟩
      refine al_p (v := .bool r143) (by kernel_rfl) 5 rfl rfl (by decide) hC (by kernel_rfl) (by kernel_rfl) (sv_on rfl (fun w' hw' => by obtain ⟨_, hS⟩ := (hCd _).1 hw'; exact (pv_assign rfl))) ?_
      refine al_nil (by kernel_rfl) ?_
      refine hQ127 _ _ _ ?_
      refine thn_n ?_
      refine cw_seq ?_
      refine cw_gen ?_
      intro Q146 hQ146
      replace hS : Sat w0 w144 [Box b107 38 [.string a1, .int .i64 a2, u3, .int .i64 a4, u5], Box b103 34 [u0]] := hS.rems 5 [2, 3, 4] rfl
      refine cw_reg ?_
      refine el_pv (v := .agg #[u0]) (pv_loada (cs := [u0]) rfl rfl (boxc0 (hS.boxAt 1 rfl))) (by decide) ?_
      replace hF := ob hF
      obtain ⟨r147, hr147, hF⟩ := hF
      refine el_call goes18 (laws_toDatabase_ok (hS.up ha0) hr147) (congrArg List.toArray (mapc rfl rfl)) (by decide) ?_
      rintro _ w150 ⟨v148, rfl, hS'⟩
      refine ⟨_, rfl, ?_⟩
      have hx151 := hS'.below
      replace hS := hS.call1 hS'
      refine el_alloc hS (by decide) ?_
      intro w152 b153 hS hx154
      refine el_storev (hS.top 0 rfl) rfl [v148] rfl rfl (of_decide_eq_true rfl) (all_cons (oc (hS.rdAt (R := (sliceR (pairR strR (pairR intR (sliceR (sliceR intR 3) 24))) 80)) 1 rfl)) rfl) ?_
      intro w156 hS
      replace hS : Sat w0 w156 [Box b153 44 [v148], Own (sliceR (pairR strR (pairR intR (sliceR (sliceR intR 3) 24))) 80) [v148] r147, Box b107 38 [.string a1, .int .i64 a2, u3, .int .i64 a4, u5], Box b103 34 [u0]] := hS
      refine el_nil ?_
      refine hQ146 _ _ _ ?_
      refine thn_n ?_
      refine cw_seq ?_
      refine cw_gen ?_
      intro Q157 hQ157
      refine cw_reg ?_
      refine el_pv (v := .agg #[.string a1, .int .i64 a2, u3, .int .i64 a4, u5]) (pv_loada (cs := [.string a1, .int .i64 a2, u3, .int .i64 a4, u5]) rfl rfl (boxc0 (hS.boxAt 2 rfl))) (by decide) ?_
      replace hF := ob hF
      obtain ⟨r158, hr158, hF⟩ := hF
      refine el_call goes19 (laws_toDelta_ok ha1 (hS.up ha3) (hS.up ha5) hr158) (congrArg List.toArray (mapc rfl rfl)) (by decide) ?_
      rintro _ w164 ⟨v159, v160, rfl, hS', hz161⟩
      refine ⟨_, rfl, ?_⟩
      have hx165 := hS'.below
      replace hS := hS.call2 hS'
      refine el_alloc hS (by decide) ?_
      intro w166 b167 hS hx168
      refine el_storev (hS.top 0 rfl) rfl [.string r158.1, .int .i64 r158.2.1.1, v159, .int .i64 r158.2.2.1, v160] rfl rfl (of_decide_eq_true rfl) (all_cons rfl (all_cons rfl (all_cons (oc (hS.rdAt (R := (sliceR (sliceR intR 3) 24)) 1 rfl)) (all_cons rfl (all_cons (oc (hS.rdAt (R := (sliceR (sliceR intR 3) 24)) 2 rfl)) rfl))))) ?_
      intro w170 hS
      replace hS : Sat w0 w170 [Box b167 48 [.string r158.1, .int .i64 r158.2.1.1, v159, .int .i64 r158.2.2.1, v160], Own (sliceR (sliceR intR 3) 24) [v159] r158.2.1.2, Own (sliceR (sliceR intR 3) 24) [v160] r158.2.2.2, Box b153 44 [v148], Own (sliceR (pairR strR (pairR intR (sliceR (sliceR intR 3) 24))) 80) [v148] r147, Box b107 38 [.string a1, .int .i64 a2, u3, .int .i64 a4, u5], Box b103 34 [u0]] := hS
      refine el_nil ?_
      refine hQ157 _ _ _ ?_
      refine thn_n ?_
      refine cw_seq ?_
      refine cw_gen ?_
      intro Q171 hQ171
      refine cw_reg ?_
      refine el_pv (v := .agg #[v148]) (pv_loada (cs := [v148]) rfl rfl (boxc0 (hS.boxAt 3 rfl))) (by decide) ?_
      refine el_pv (v := .agg #[.string r158.1, .int .i64 r158.2.1.1, v159, .int .i64 r158.2.2.1, v160]) (pv_loada (cs := [.string r158.1, .int .i64 r158.2.1.1, v159, .int .i64 r158.2.2.1, v160]) rfl rfl (boxc0 (hS.boxAt 0 rfl))) (by decide) ?_
      replace hF := ob hF
      obtain ⟨r172, hr172, hF⟩ := hF
      refine el_call goes20 (impl_IsValidDelta_ok (hS.rdAt (R := (sliceR (pairR strR (pairR intR (sliceR (sliceR intR 3) 24))) 80)) 4 rfl) hz161 (hS.rdAt (R := (sliceR (sliceR intR 3) 24)) 1 rfl) (hS.rdAt (R := (sliceR (sliceR intR 3) 24)) 2 rfl) hr172) (congrArg List.toArray (mapc rfl (mapc rfl rfl))) (by decide) ?_
      rintro _ w173 ⟨rfl, hx174⟩
      refine ⟨_, rfl, ?_⟩
      replace hS := hS.ext hx174
      refine el_pv (v := .bool r172) (pv_assign rfl) (by decide) ?_
      refine el_nil ?_
      refine hQ171 _ _ _ ?_
      refine thn_n ?_
      refine cw_seq ?_
      refine cw_gen ?_
      intro Q175 hQ175
      refine cw_seq ?_
      refine cw_gen ?_
      intro Q176 hQ176
      refine cw_reg ?_
      refine el_pv (v := .bool r172) (pv_move rfl) (by decide) ?_
      refine el_pv (v := .bool r143) (pv_move rfl) (by decide) ?_
      refine el_pv (v := .bool (r172 != r143)) (pv_neqB Try.underlying4 rfl rfl) (by decide) ?_
      refine el_nil ?_
      refine hQ176 _ _ _ ?_
      refine thn_n ?_
      replace hF := oif hF
      rcases hF with ⟨hb177, hF⟩ | ⟨hb177, hF⟩
      · refine cw_cond_t rfl hb177 ?_
        refine cw_seq ?_
        refine cw_gen ?_
        intro Q178 hQ178
        replace hS : Sat w0 w173 [] := hS.rems 7 [0, 1, 2, 3, 4, 5, 6] rfl
        refine cw_reg ?_
        refine el_pv (v := .bool false) (pv_assign rfl) (by decide) ?_
        refine el_nil ?_
        refine hQ178 _ _ _ ?_
        refine thn_n ?_
        refine cw_ret ?_
        refine hQ175 _ _ _ ?_
        refine thn_r ?_
        refine fin1 rfl rfl ?_
        have hr := Option.some.inj hF
        exact ⟨congrArg (fun (r : Bool) => Ending.returned (.bool r)) hr, hS.below⟩
      · refine cw_cond_f rfl hb177 ?_
        refine cw_skip ?_
        refine hQ175 _ _ _ ?_
        refine thn_n ?_
        refine cw_seq ?_
        refine cw_gen ?_
        intro Q179 hQ179
        refine cw_seq ?_
        refine cw_gen ?_
        intro Q180 hQ180
        obtain ⟨C, hCd⟩ : ∃ C : World → Prop, ∀ w, C w ↔ ∃ G, Sat w0 w ([Box b153 44 [v148], Box b103 34 [u0], Own (sliceR (pairR strR (pairR intR (sliceR (sliceR intR 3) 24))) 80) [v148] r147] ++ G) := ⟨_, fun _ => Iff.rfl⟩
        refine cw_regb [0, 1, 2, 3, 4] C (by kernel_rfl) ?_
        intro w181 hx182
        replace hS := hS.ext hx182
        replace hS : Sat w0 w181 [Box b153 44 [v148], Box b103 34 [u0], Own (sliceR (pairR strR (pairR intR (sliceR (sliceR intR 3) 24))) 80) [v148] r147, Box b167 48 [.string r158.1, .int .i64 r158.2.1.1, v159, .int .i64 r158.2.2.1, v160], Own (sliceR (sliceR intR 3) 24) [v159] r158.2.1.2, Own (sliceR (sliceR intR 3) 24) [v160] r158.2.2.2, Box b107 38 [.string a1, .int .i64 a2, u3, .int .i64 a4, u5]] := hS.tops 7 [3, 6, 4] rfl
        have hC := (hCd _).2 ⟨_, hS⟩
        refine al_p (v := .agg #[v148]) (by kernel_rfl) 0 rfl rfl (by decide) hC (by kernel_rfl) (by kernel_rfl) (sv_on rfl (fun w' hw' => by obtain ⟨_, hS⟩ := (hCd _).1 hw'; exact (pv_loada (cs := [v148]) rfl rfl (boxc0 (hS.boxAt 0 rfl))))) ?_
        refine al_p (v := .agg #[u0]) (by kernel_rfl) 1 rfl rfl (by decide) hC (by kernel_rfl) (by kernel_rfl) (sv_on rfl (fun w' hw' => by obtain ⟨_, hS⟩ := (hCd _).1 hw'; exact (pv_loada (cs := [u0]) rfl rfl (boxc0 (hS.boxAt 1 rfl))))) ?_
        refine al_one 2 (by kernel_rfl) rfl ?_
        replace hF := ob hF
        obtain ⟨r183, hr183, hF⟩ := hF
        refine el_call goes18 (laws_toDatabase_ok (hS.up ha0) hr183) (congrArg List.toArray (mapc rfl rfl)) (by decide) ?_
        rintro _ w186 ⟨v184, rfl, hS'⟩
        refine ⟨_, rfl, ?_⟩
        have hx187 := hS'.below
        replace hS := hS.call1 hS'
        refine el_nil ?_
        replace hS : Sat w0 w186 [Box b153 44 [v148], Box b103 34 [u0], Own (sliceR (pairR strR (pairR intR (sliceR (sliceR intR 3) 24))) 80) [v148] r147, Own (sliceR (pairR strR (pairR intR (sliceR (sliceR intR 3) 24))) 80) [v184] r183, Box b167 48 [.string r158.1, .int .i64 r158.2.1.1, v159, .int .i64 r158.2.2.1, v160], Own (sliceR (sliceR intR 3) 24) [v159] r158.2.1.2, Own (sliceR (sliceR intR 3) 24) [v160] r158.2.2.2, Box b107 38 [.string a1, .int .i64 a2, u3, .int .i64 a4, u5]] := hS.tops 8 [1, 2, 3] rfl
        have hC := (hCd _).2 ⟨_, hS⟩
        refine ⟨fun _ => hC, ?_⟩
        refine al_one 3 (by kernel_rfl) rfl ?_
        replace hF := ob hF
        obtain ⟨r188, hr188, hF⟩ := hF
        refine el_call goes21 (laws_eqDatabase_ok (hS.rdAt (R := (sliceR (pairR strR (pairR intR (sliceR (sliceR intR 3) 24))) 80)) 2 rfl) (hS.rdAt (R := (sliceR (pairR strR (pairR intR (sliceR (sliceR intR 3) 24))) 80)) 3 rfl) hr188) (congrArg List.toArray (mapc rfl (mapc rfl rfl))) (by decide) ?_
        rintro _ w189 ⟨rfl, hx190⟩
        refine ⟨_, rfl, ?_⟩
        replace hS := hS.ext hx190
        refine el_nil ?_
        have hC := (hCd _).2 ⟨_, hS⟩
        refine ⟨fun _ => hC, ?_⟩
        refine al_p (v := .bool (!r188)) (by kernel_rfl) 4 rfl rfl (by decide) hC (by kernel_rfl) (by kernel_rfl) (sv_on rfl (fun w' hw' => by obtain ⟨_, hS⟩ := (hCd _).1 hw'; exact (pv_not rfl))) ?_
        refine al_nil (by kernel_rfl) ?_
        refine hQ180 _ _ _ ?_
        refine thn_n ?_
        replace hF := oif hF
        rcases hF with ⟨hb191, hF⟩ | ⟨hb191, hF⟩
        · refine cw_cond_f rfl (bnot_t hb191) ?_
          refine cw_skip ?_
          refine hQ179 _ _ _ ?_
          refine thn_n ?_
          refine cw_seq ?_
          refine cw_gen ?_
          intro Q192 hQ192
          refine cw_seq ?_
          refine cw_gen ?_
          intro Q193 hQ193
          replace hS : Sat w0 w189 [Box b167 48 [.string r158.1, .int .i64 r158.2.1.1, v159, .int .i64 r158.2.2.1, v160], Own (sliceR (sliceR intR 3) 24) [v159] r158.2.1.2, Own (sliceR (sliceR intR 3) 24) [v160] r158.2.2.2, Box b107 38 [.string a1, .int .i64 a2, u3, .int .i64 a4, u5]] := hS.rems 8 [0, 1, 2, 3] rfl
          obtain ⟨C, hCd⟩ : ∃ C : World → Prop, ∀ w, C w ↔ ∃ G, Sat w0 w ([Box b167 48 [.string r158.1, .int .i64 r158.2.1.1, v159, .int .i64 r158.2.2.1, v160], Box b107 38 [.string a1, .int .i64 a2, u3, .int .i64 a4, u5], Own (sliceR (sliceR intR 3) 24) [v159] r158.2.1.2, Own (sliceR (sliceR intR 3) 24) [v160] r158.2.2.2] ++ G) := ⟨_, fun _ => Iff.rfl⟩
          refine cw_regb [0, 1, 2, 3, 4] C (by kernel_rfl) ?_
          intro w194 hx195
          replace hS := hS.ext hx195
          replace hS : Sat w0 w194 [Box b167 48 [.string r158.1, .int .i64 r158.2.1.1, v159, .int .i64 r158.2.2.1, v160], Box b107 38 [.string a1, .int .i64 a2, u3, .int .i64 a4, u5], Own (sliceR (sliceR intR 3) 24) [v159] r158.2.1.2, Own (sliceR (sliceR intR 3) 24) [v160] r158.2.2.2] := hS.tops 4 [0, 3, 1, 2] rfl
          have hC := (hCd _).2 ⟨_, hS⟩
          refine al_p (v := .agg #[.string r158.1, .int .i64 r158.2.1.1, v159, .int .i64 r158.2.2.1, v160]) (by kernel_rfl) 0 rfl rfl (by decide) hC (by kernel_rfl) (by kernel_rfl) (sv_on rfl (fun w' hw' => by obtain ⟨_, hS⟩ := (hCd _).1 hw'; exact (pv_loada (cs := [.string r158.1, .int .i64 r158.2.1.1, v159, .int .i64 r158.2.2.1, v160]) rfl rfl (boxc0 (hS.boxAt 0 rfl))))) ?_
          refine al_p (v := .agg #[.string a1, .int .i64 a2, u3, .int .i64 a4, u5]) (by kernel_rfl) 1 rfl rfl (by decide) hC (by kernel_rfl) (by kernel_rfl) (sv_on rfl (fun w' hw' => by obtain ⟨_, hS⟩ := (hCd _).1 hw'; exact (pv_loada (cs := [.string a1, .int .i64 a2, u3, .int .i64 a4, u5]) rfl rfl (boxc0 (hS.boxAt 1 rfl))))) ?_
          refine al_one 2 (by kernel_rfl) rfl ?_
          replace hF := ob hF
          obtain ⟨r196, hr196, hF⟩ := hF
          refine el_call goes19 (laws_toDelta_ok ha1 (hS.up ha3) (hS.up ha5) hr196) (congrArg List.toArray (mapc rfl rfl)) (by decide) ?_
          rintro _ w202 ⟨v197, v198, rfl, hS', hz199⟩
          refine ⟨_, rfl, ?_⟩
          have hx203 := hS'.below
          replace hS := hS.call2 hS'
          refine el_nil ?_
          replace hS : Sat w0 w202 [Box b167 48 [.string r158.1, .int .i64 r158.2.1.1, v159, .int .i64 r158.2.2.1, v160], Box b107 38 [.string a1, .int .i64 a2, u3, .int .i64 a4, u5], Own (sliceR (sliceR intR 3) 24) [v159] r158.2.1.2, Own (sliceR (sliceR intR 3) 24) [v160] r158.2.2.2, Own (sliceR (sliceR intR 3) 24) [v197] r196.2.1.2, Own (sliceR (sliceR intR 3) 24) [v198] r196.2.2.2] := hS.tops 6 [2, 3, 4, 5] rfl
          have hC := (hCd _).2 ⟨_, hS⟩
          refine ⟨fun _ => hC, ?_⟩
          refine al_one 3 (by kernel_rfl) rfl ?_
          replace hF := ob hF
          obtain ⟨r204, hr204, hF⟩ := hF
          refine el_call goes22 (laws_eqDelta_ok hz161 (hS.rdAt (R := (sliceR (sliceR intR 3) 24)) 2 rfl) (hS.rdAt (R := (sliceR (sliceR intR 3) 24)) 3 rfl) hz199 (hS.rdAt (R := (sliceR (sliceR intR 3) 24)) 4 rfl) (hS.rdAt (R := (sliceR (sliceR intR 3) 24)) 5 rfl) hr204) (congrArg List.toArray (mapc rfl (mapc rfl rfl))) (by decide) ?_
          rintro _ w205 ⟨rfl, hx206⟩
          refine ⟨_, rfl, ?_⟩
          replace hS := hS.ext hx206
          refine el_nil ?_
          have hC := (hCd _).2 ⟨_, hS⟩
          refine ⟨fun _ => hC, ?_⟩
          refine al_p (v := .bool (!r204)) (by kernel_rfl) 4 rfl rfl (by decide) hC (by kernel_rfl) (by kernel_rfl) (sv_on rfl (fun w' hw' => by obtain ⟨_, hS⟩ := (hCd _).1 hw'; exact (pv_not rfl))) ?_
          refine al_nil (by kernel_rfl) ?_
          refine hQ193 _ _ _ ?_
          refine thn_n ?_
          replace hF := oif hF
          rcases hF with ⟨hb207, hF⟩ | ⟨hb207, hF⟩
          · refine cw_cond_f rfl (bnot_t hb207) ?_
            refine cw_skip ?_
            refine hQ192 _ _ _ ?_
            refine thn_n ?_
            refine cw_seq ?_
            refine cw_gen ?_
            intro Q208 hQ208
            replace hS : Sat w0 w205 [] := hS.rems 6 [0, 1, 2, 3, 4, 5] rfl
            refine cw_reg ?_
            refine el_pv (v := .bool true) (pv_assign rfl) (by decide) ?_
            refine el_nil ?_
            refine hQ208 _ _ _ ?_
            refine thn_n ?_
            refine cw_ret ?_
            refine fin1 rfl rfl ?_
            have hr := Option.some.inj hF
            exact ⟨congrArg (fun (r : Bool) => Ending.returned (.bool r)) hr, hS.below⟩
          · refine cw_cond_t rfl (bnot_f hb207) ?_
            refine cw_seq ?_
            refine cw_gen ?_
            intro Q209 hQ209
            replace hS : Sat w0 w205 [] := hS.rems 6 [0, 1, 2, 3, 4, 5] rfl
            refine cw_reg ?_
            refine el_pv (v := .bool false) (pv_assign rfl) (by decide) ?_
            refine el_nil ?_
            refine hQ209 _ _ _ ?_
            refine thn_n ?_
            refine cw_ret ?_
            refine hQ192 _ _ _ ?_
            refine thn_r ?_
            refine fin1 rfl rfl ?_
            have hr := Option.some.inj hF
            exact ⟨congrArg (fun (r : Bool) => Ending.returned (.bool r)) hr, hS.below⟩
        · refine cw_cond_t rfl (bnot_f hb191) ?_
          refine cw_seq ?_
          refine cw_gen ?_
          intro Q210 hQ210
          replace hS : Sat w0 w189 [] := hS.rems 8 [0, 1, 2, 3, 4, 5, 6, 7] rfl
          refine cw_reg ?_
          refine el_pv (v := .bool false) (pv_assign rfl) (by decide) ?_
          refine el_nil ?_
          refine hQ210 _ _ _ ?_
          refine thn_n ?_
          refine cw_ret ?_
          refine hQ179 _ _ _ ?_
          refine thn_r ?_
          refine fin1 rfl rfl ?_
          have hr := Option.some.inj hF
          exact ⟨congrArg (fun (r : Bool) => Ending.returned (.bool r)) hr, hS.below⟩
set_option maxHeartbeats 4000000 in
theorem spec_Difference_ok {w0 : World} {a0 : Int} {u1 : Value} {a1 : List (List Int)} {a2 : Int} {u3 : Value} {a3 : List (List Int)} (ha1 : (sliceR (sliceR intR 3) 24).rd w0 [u1] a1) (ha3 : (sliceR (sliceR intR 3) 24).rd w0 [u3] a3) {N : Nat} {r : (Int × List (List Int)) × Bool} (hF : spec_Difference N a0 a1 a2 a3 = some r) :
    Calls Try.prog 45 #[.agg #[.int .i64 a0, u1], .agg #[.int .i64 a2, u3]] w0 fun e w' => ∃ (q0 : Value), e = .returned (.tuple #[.agg #[.int .i64 r.1.1, q0], .bool r.2]) ∧ Sat w0 w' [Own (sliceR (sliceR intR 3) 24) [q0] r.1.2] := by
  unfold spec_Difference at hF
  refine calls_E Try.func45 rfl rfl (of_decide_eq_true rfl) ?_
  have hS := Sat.start w0
  refine cw_seq ?_
  refine cw_gen ?_
  intro Q101 hQ101
  refine cw_reg ?_
  refine el_box [.int .i64 a0, u1] rfl hS (by decide) ?_
  intro w102 b103 hS hx104
  refine el_box [.int .i64 a2, u3] rfl hS (by decide) ?_
  intro w106 b107 hS hx108
  refine el_alloc hS (by decide) ?_
  intro w110 b111 hS hx112
  refine el_pv (v := .bool false) (pv_assign rfl) (by decide) ?_
  refine el_nil ?_
  refine hQ101 _ _ _ ?_
  refine thn_n ?_
  refine cw_seq ?_
  refine cw_gen ?_
  intro Q114 hQ114
  refine cw_seq ?_
  refine cw_gen ?_
  intro Q115 hQ115
  refine cw_reg ?_
  refine el_pv (v := .agg #[.int .i64 a0, u1]) (pv_loada (cs := [.int .i64 a0, u1]) rfl rfl (boxc0 (hS.boxAt 2 rfl))) (by decide) ?_
  replace hF := ob hF
  obtain ⟨r116, hr116, hF⟩ := hF
  refine el_call goes55 (spec_IsValidRelation_ok (hS.up ha1) hr116) (congrArg List.toArray (mapc rfl rfl)) (by decide) ?_
  rintro _ w117 ⟨rfl, hx118⟩
  refine ⟨_, rfl, ?_⟩
  replace hS := hS.ext hx118
  refine el_pv (v := .bool (!r116)) (pv_not rfl) (by decide) ?_
  refine el_pv (v := .bool (!r116)) (pv_move rfl) (by decide) ?_
  replace hF := oif hF
  rcases hF with ⟨hb119, hF⟩ | ⟨hb119, hF⟩
  · refine el_on rfl (bnot_t hb119) ?_
    refine el_pv (v := .agg #[.int .i64 a2, u3]) (pv_loada (cs := [.int .i64 a2, u3]) rfl rfl (boxc0 (hS.boxAt 1 rfl))) (by decide) ?_
    refine el_on rfl (bnot_t hb119) ?_
    replace hF := ob hF
    obtain ⟨r120, hr120, hF⟩ := hF
    refine el_call goes55 (spec_IsValidRelation_ok (hS.up ha3) hr120) (congrArg List.toArray (mapc rfl rfl)) (by decide) ?_
    rintro _ w121 ⟨rfl, hx122⟩
    refine ⟨_, rfl, ?_⟩
    replace hS := hS.ext hx122
    refine el_on rfl (bnot_t hb119) ?_
    refine el_pv (v := .bool (!r120)) (pv_not rfl) (by decide) ?_
    refine el_pv (v := .bool (!r120)) (pv_pick_f rfl (bnot_t hb119) rfl) (by decide) ?_
    refine el_pv (v := .bool (!r120)) (pv_move rfl) (by decide) ?_
    replace hF := oif hF
    rcases hF with ⟨hb123, hF⟩ | ⟨hb123, hF⟩
    · refine el_on rfl (bnot_t hb123) ?_
      refine el_pv (v := .pointer (some ⟨b103, 0 + 0, none⟩)) (pv_fieldAddr rfl) (by decide) ?_
      refine el_on rfl (bnot_t hb123) ?_
      refine el_pv (v := .int .i64 a0) (pv_loadc rfl ((hS.boxAt 2 rfl) 0 _ rfl)) (by decide) ?_
      refine el_on rfl (bnot_t hb123) ?_
      refine el_pv (v := .pointer (some ⟨b107, 0 + 0, none⟩)) (pv_fieldAddr rfl) (by decide) ?_
      refine el_on rfl (bnot_t hb123) ?_
      refine el_pv (v := .int .i64 a2) (pv_loadc rfl ((hS.boxAt 1 rfl) 0 _ rfl)) (by decide) ?_
      refine el_on rfl (bnot_t hb123) ?_
      refine el_pv (v := .bool (a0 != a2)) (pv_neq rfl rfl) (by decide) ?_
      refine el_pv (v := .bool (a0 != a2)) (pv_pick_f rfl (bnot_t hb123) rfl) (by decide) ?_
      refine el_nil ?_
      refine hQ115 _ _ _ ?_
      refine thn_n ?_
      replace hF := oif hF
      rcases hF with ⟨hb124, hF⟩ | ⟨hb124, hF⟩
      · refine cw_cond_t rfl hb124 ?_
        refine cw_seq ?_
        refine cw_gen ?_
        intro Q125 hQ125
        replace hS : Sat w0 w121 [Box b111 46 [.int .i64 0, (.slice none 0 0)]] := hS.rems 3 [1, 2] rfl
        refine cw_reg ?_
        refine el_pv (v := .agg #[.int .i64 0, (.slice none 0 0)]) (pv_build [] [.int .i64 0, (.slice none 0 0)] rfl rfl) (by decide) ?_
        refine el_storev (hS.top 0 rfl) rfl [.int .i64 0, (.slice none 0 0)] rfl rfl (of_decide_eq_true rfl) (all_cons rfl (all_cons rfl rfl)) ?_
        intro w126 hS
        replace hS : Sat w0 w126 [Box b111 46 [.int .i64 0, (.slice none 0 0)]] := hS
        refine el_pv (v := .bool false) (pv_assign rfl) (by decide) ?_
        refine el_nil ?_
        refine hQ125 _ _ _ ?_
        refine thn_n ?_
        refine cw_ret ?_
        refine hQ114 _ _ _ ?_
        refine thn_r ?_
        replace hS := hS.nil (sliceR intR 3) 24
        refine finCT (cs := [.int .i64 0, (.slice none 0 0)]) rfl rfl rfl (boxc0 (hS.boxAt 1 rfl)) rfl ?_
        have hr := Option.some.inj hF
        exact ⟨(.slice none 0 0), congrArg (fun (r : (Int × List (List Int)) × Bool) => Ending.returned (.tuple #[.agg #[.int .i64 r.1.1, (.slice none 0 0)], .bool r.2])) hr, Eq.mp (congrArg (fun (r : (Int × List (List Int)) × Bool) => Sat w0 w126 [Own (sliceR (sliceR intR 3) 24) [(.slice none 0 0)] r.1.2]) hr) (hS.keep 1)⟩
      · refine cw_cond_f rfl hb124 ?_
        refine cw_skip ?_
        refine hQ114 _ _ _ ?_
        refine thn_n ?_
        refine cw_seq ?_
        refine cw_gen ?_
        intro Q128 hQ128
        refine cw_reg ?_
        refine el_pv (v := .pointer (some ⟨b103, 0 + 0, none⟩)) (pv_fieldAddr rfl) (by decide) ?_
        refine el_pv (v := .int .i64 a0) (pv_loadc rfl ((hS.boxAt 2 rfl) 0 _ rfl)) (by decide) ?_
        refine el_pv (v := .agg #[.int .i64 a0, (.slice none 0 0)]) (pv_build [(0, [.int .i64 a0])] [.int .i64 a0, (.slice none 0 0)] (partc rfl rfl) rfl) (by decide) ?_
        refine el_alloc hS (by decide) ?_
        intro w129 b130 hS hx131
        refine el_storev (hS.top 0 rfl) rfl [.int .i64 a0, (.slice none 0 0)] rfl rfl (of_decide_eq_true rfl) (all_cons rfl (all_cons rfl rfl)) ?_
        intro w133 hS
        replace hS : Sat w0 w133 [Box b130 46 [.int .i64 a0, (.slice none 0 0)], Box b111 46 [.int .i64 0, (.slice none 0 0)], Box b107 46 [.int .i64 a2, u3], Box b103 46 [.int .i64 a0, u1]] := hS
        refine el_nil ?_
        refine hQ128 _ _ _ ?_
        refine thn_n ?_
        refine cw_seq ?_
        refine cw_gen ?_
        intro Q134 hQ134
        refine cw_seq ?_
        refine cw_gen ?_
        intro Q135 hQ135
        refine cw_reg ?_
        refine el_pv (v := .int .i64 0) (pv_assign rfl) (by decide) ?_
        refine el_nil ?_
        refine hQ135 _ _ _ ?_
        refine thn_n ?_
        refine cw_block ?_
        refine cw_gen ?_
        intro Q136 hQ136
        replace hS := hS.nil (sliceR intR 3) 24
        obtain ⟨s138, hL, hK139⟩ := ob hF
        refine cw_loopS (fun k e w => ∃ (v141 : Value), ∃ (x140 : List (List Int)), ∃ (x142 : Int), e 2 = .pointer (some ⟨b103, 0, none⟩) ∧ e 3 = .pointer (some ⟨b107, 0, none⟩) ∧ e 4 = .pointer (some ⟨b111, 0, none⟩) ∧ e 6 = .pointer (some ⟨b130, 0, none⟩) ∧ e 7 = .int .i64 x142 ∧ Sat w0 w [Own (sliceR (sliceR intR 3) 24) [v141] x140, Box b130 46 [.int .i64 a0, v141], Box b111 46 [.int .i64 0, (.slice none 0 0)], Box b107 46 [.int .i64 a2, u3], Box b103 46 [.int .i64 a0, u1]] ∧ spec_Difference_L1 N k a0 a1 a2 a3 0 [] a0 x140 x142 = some s138) N ?_ ?_ ?_
        · exact ⟨(.slice none 0 0), [], 0, rfl, rfl, rfl, rfl, rfl, hS, hL⟩
        · rintro e w ⟨_, _, _, _, _, _, _, _, _, hz⟩; exact nomatch (show none = some _ from hz)
        · rintro k e149 w148 ⟨v141, x140, x142, he143, he144, he145, he146, he147, hS, hF⟩
          refine cw_gen ?_
          intro Q150 hQ150
          refine cw_seq ?_
          refine cw_gen ?_
          intro Q151 hQ151
          refine cw_seq ?_
          refine cw_gen ?_
          intro Q152 hQ152
          refine cw_reg ?_
          refine el_pv (v := .int .i64 x142) (pv_move he147) (by decide) ?_
          refine el_pv (v := .pointer (some ⟨b103, 0 + 1, none⟩)) (pv_fieldAddr he143) (by decide) ?_
          refine el_pv (v := u1) (pv_loadc rfl ((hS.boxAt 4 rfl) 1 _ rfl)) (by decide) ?_
          refine el_pv (v := .int .i64 (a1.length : Int)) (pv_len rfl ha1) (by decide) ?_
          refine el_pv (v := .bool (decide (x142 < (a1.length : Int)))) (pv_lss rfl rfl) (by decide) ?_
          refine el_nil ?_
          refine hQ152 _ _ _ ?_
          refine thn_n ?_
          replace hF := oif hF
          rcases hF with ⟨hb153, hF⟩ | ⟨hb153, hF⟩
          · refine cw_cond_t rfl hb153 ?_
            refine cw_skip ?_
            refine hQ151 _ _ _ ?_
            refine thn_n ?_
            refine cw_seq ?_
            refine cw_gen ?_
            intro Q154 hQ154
            refine cw_block ?_
            refine cw_gen ?_
            intro Q155 hQ155
            refine cw_seq ?_
            refine cw_gen ?_
            intro Q156 hQ156
            refine cw_regq (by kernel_rfl) (by kernel_rfl) ?_
            refine ql_pv (v := .agg #[.int .i64 a2, u3]) (pv_loada (cs := [.int .i64 a2, u3]) he144 rfl (boxc0 (hS.boxAt 3 rfl))) (by decide) ?_
            refine ql_pv (v := .pointer (some ⟨b103, 0 + 1, none⟩)) (pv_fieldAddr he143) (by decide) ?_
            refine ql_pv (v := u1) (pv_loadc rfl ((hS.boxAt 4 rfl) 1 _ rfl)) (by decide) ?_
            refine ql_pv (v := .int .i64 x142) (pv_move he147) (by decide) ?_
            replace hF := ob hF
            obtain ⟨x157, hx157, hF⟩ := hF
            refine ql_index (wA := w0) rfl ha1 rfl (by decide) rfl hx157 (by decide) ?_
            intro b158 of159 c160 hr161 hm162
            obtain ⟨v163, rfl⟩ := slice_one hr161
            refine ql_pv (v := v163) (pv_loadc rfl ((cells_up hS.below hm162) 0 _ rfl)) (by decide) ?_
            replace hF := ob hF
            obtain ⟨r164, hr164, hF⟩ := hF
            refine ql_call (.tuple #[.int .i64 r164.1, .bool r164.2]) goes58 (fun w' hw' => spec_l5Place_ok (rd_up (hS.up ha3) hw') (rd_up (hS.up hr161) hw') hr164) (congrArg List.toArray (mapc rfl (mapc rfl rfl))) (by decide) ?_
            refine ql_pv (v := .tuple #[.int .i64 r164.1, .bool r164.2]) (pv_move rfl) (by decide) ?_
            refine ql_pv (v := .int .i64 r164.1) (pv_extract rfl rfl) (by decide) ?_
            refine ql_pv (v := .bool r164.2) (pv_extract rfl rfl) (by decide) ?_
            refine ql_pv (v := .int .i64 r164.1) (pv_assign rfl) (by decide) ?_
            refine ql_pv (v := .bool r164.2) (pv_assign rfl) (by decide) ?_
            refine ql_nil ?_
            intro w165 hx166
            replace hS := hS.ext hx166
            refine hQ156 _ _ _ ?_
            refine thn_n ?_
            refine cw_seq ?_
            refine cw_gen ?_
            intro Q167 hQ167
            refine cw_reg ?_
            refine el_pv (v := .bool r164.2) (pv_move rfl) (by decide) ?_
            refine el_pv (v := .bool (!r164.2)) (pv_not rfl) (by decide) ?_
            refine el_nil ?_
            refine hQ167 _ _ _ ?_
            refine thn_n ?_
            replace hF := oif hF
            rcases hF with ⟨hb168, hF⟩ | ⟨hb168, hF⟩
            · refine cw_cond_f rfl (bnot_t hb168) ?_
              refine cw_skip ?_
              refine hQ155 _ _ _ ?_
              refine inb_n ?_
              refine hQ154 _ _ _ ?_
              refine thn_n ?_
              refine cw_reg ?_
              refine el_pv (v := .int .i64 x142) (pv_move he147) (by decide) ?_
              replace hF := ob hF
              obtain ⟨x169, hx169, hF⟩ := hF
              refine el_pv (v := .int .i64 x169) (pv_add rfl rfl hx169) (by decide) ?_
              refine el_pv (v := .int .i64 x169) (pv_assign rfl) (by decide) ?_
              refine el_nil ?_
              refine hQ150 _ _ _ ?_
              refine thn_n ?_
              replace hS := hS.keep 5
              exact ⟨v141, x140, x169, he143, he144, he145, he146, rfl, hS, hF⟩
            · refine cw_cond_t rfl (bnot_f hb168) ?_
              obtain ⟨C, hCd⟩ : ∃ C : World → Prop, ∀ w, C w ↔ ∃ G, Sat w0 w ([Box b130 46 [.int .i64 a0, v141], Box b103 46 [.int .i64 a0, u1]] ++ G) := ⟨_, fun _ => Iff.rfl⟩
              refine cw_regb [0, 1, 2, 3, 4, 5, 6, 7, 8, 9, 10, 11] C (by kernel_rfl) ?_
              intro w170 hx171
              replace hS := hS.ext hx171
              replace hS : Sat w0 w170 [Box b130 46 [.int .i64 a0, v141], Box b103 46 [.int .i64 a0, u1], Own (sliceR (sliceR intR 3) 24) [v141] x140, Box b111 46 [.int .i64 0, (.slice none 0 0)], Box b107 46 [.int .i64 a2, u3]] := hS.tops 5 [1, 4] rfl
              have hC := (hCd _).2 ⟨_, hS⟩
              refine al_p (v := .pointer (some ⟨b130, 0 + 1, none⟩)) (by kernel_rfl) 0 rfl rfl (by decide) hC (by kernel_rfl) (by kernel_rfl) (sv_on rfl (fun w' hw' => by obtain ⟨_, hS⟩ := (hCd _).1 hw'; exact (pv_fieldAddr he146))) ?_
              refine al_p (v := v141) (by kernel_rfl) 1 rfl rfl (by decide) hC (by kernel_rfl) (by kernel_rfl) (sv_on rfl (fun w' hw' => by obtain ⟨_, hS⟩ := (hCd _).1 hw'; exact (pv_loadc rfl ((hS.boxAt 0 rfl) 1 _ rfl)))) ?_
              refine al_p (v := .pointer (some ⟨b103, 0 + 1, none⟩)) (by kernel_rfl) 3 rfl rfl (by decide) hC (by kernel_rfl) (by kernel_rfl) (sv_on rfl (fun w' hw' => by obtain ⟨_, hS⟩ := (hCd _).1 hw'; exact (pv_fieldAddr he143))) ?_
              refine al_p (v := u1) (by kernel_rfl) 4 rfl rfl (by decide) hC (by kernel_rfl) (by kernel_rfl) (sv_on rfl (fun w' hw' => by obtain ⟨_, hS⟩ := (hCd _).1 hw'; exact (pv_loadc rfl ((hS.boxAt 1 rfl) 1 _ rfl)))) ?_
              refine al_p (v := .int .i64 x142) (by kernel_rfl) 5 rfl rfl (by decide) hC (by kernel_rfl) (by kernel_rfl) (sv_on rfl (fun w' hw' => by obtain ⟨_, hS⟩ := (hCd _).1 hw'; exact (pv_move he147))) ?_
              replace hF := ob hF
              obtain ⟨x172, hx172, hF⟩ := hF
              refine al_index (wA := w0) (by kernel_rfl) 6 rfl hC (by kernel_rfl) (by kernel_rfl) rfl ha1 rfl (by decide) rfl hx172 (by decide) ?_
              intro b173 of174 c175 hr176 hm177
              obtain ⟨v178, rfl⟩ := slice_one hr176
              refine al_p (v := v178) (by kernel_rfl) 7 rfl rfl (by decide) hC (by kernel_rfl) (by kernel_rfl) (sv_on rfl (fun w' hw' => by obtain ⟨_, hS⟩ := (hCd _).1 hw'; exact (pv_loadc rfl ((cells_up hS.below hm177) 0 _ rfl)))) ?_
              refine al_one 2 (by kernel_rfl) rfl ?_
              refine el_buildSlice0 intR hS (by decide) ?_
              intro w179 v181 hS hx180
              refine el_nil ?_
              replace hS : Sat w0 w179 [Box b130 46 [.int .i64 a0, v141], Box b103 46 [.int .i64 a0, u1], Own (sliceR intR 3) [v181] [], Own (sliceR (sliceR intR 3) 24) [v141] x140, Box b111 46 [.int .i64 0, (.slice none 0 0)], Box b107 46 [.int .i64 a2, u3]] := hS.tops 6 [1, 2] rfl
              have hC := (hCd _).2 ⟨_, hS⟩
              refine ⟨fun _ => hC, ?_⟩
              refine al_one 8 (by kernel_rfl) rfl ?_
              replace hF := ob hF
              obtain ⟨x185, hx185, hF⟩ := hF
              obtain ⟨ao186, c187, hv188, hn189, hrow190⟩ := row_ints (hS.up hr176)
              replace hS : Sat w0 w179 [Own (sliceR intR 3) [v181] [], Box b130 46 [.int .i64 a0, v141], Box b103 46 [.int .i64 a0, u1], Own (sliceR (sliceR intR 3) 24) [v141] x140, Box b111 46 [.int .i64 0, (.slice none 0 0)], Box b107 46 [.int .i64 a2, u3]] := hS.top 2 rfl
              replace hS := hS.ints (xs := x172)
              refine el_append rfl (by decide) rfl (by decide) hS rfl (rfl.trans hv188) rfl hn189 hrow190 hx185 (by decide) ?_
              intro w183 v184 hS
              refine el_nil ?_
              replace hS : Sat w0 w183 [Box b130 46 [.int .i64 a0, v141], Box b103 46 [.int .i64 a0, u1], Own (sliceR intR 3) [v184] x185, Own (sliceR (sliceR intR 3) 24) [v141] x140, Box b111 46 [.int .i64 0, (.slice none 0 0)], Box b107 46 [.int .i64 a2, u3]] := hS.tops 6 [1, 2] rfl
              have hC := (hCd _).2 ⟨_, hS⟩
              refine ⟨fun _ => hC, ?_⟩
              refine al_one 9 (by kernel_rfl) rfl ?_
              refine el_buildSlice1 [v184] (cells_of rfl (oc (hS.rdAt (R := (sliceR intR 3)) 2 rfl))) (by rfl) (by decide) rfl (by decide) hS (by decide) ?_
              intro w192 b194 hS hx193
              refine el_nil ?_
              replace hS : Sat w0 w192 [Box b130 46 [.int .i64 a0, v141], Box b103 46 [.int .i64 a0, u1], Box b194 24 [v184], Own (sliceR intR 3) [v184] x185, Own (sliceR (sliceR intR 3) 24) [v141] x140, Box b111 46 [.int .i64 0, (.slice none 0 0)], Box b107 46 [.int .i64 a2, u3]] := hS.tops 7 [1, 2] rfl
              have hC := (hCd _).2 ⟨_, hS⟩
              refine ⟨fun _ => hC, ?_⟩
              refine al_one 10 (by kernel_rfl) rfl ?_
              replace hF := ob hF
              obtain ⟨x198, hx198, hF⟩ := hF
              have hrow199 := hS.boxRow 2 rfl
              replace hS : Sat w0 w192 [Own (sliceR (sliceR intR 3) 24) [v141] x140, Box b130 46 [.int .i64 a0, v141], Box b103 46 [.int .i64 a0, u1], Box b194 24 [v184], Own (sliceR intR 3) [v184] x185, Box b111 46 [.int .i64 0, (.slice none 0 0)], Box b107 46 [.int .i64 a2, u3]] := hS.top 4 rfl
              replace hS : Sat w0 w192 [Own (sliceR intR 3) [v184] x185, Own (sliceR (sliceR intR 3) 24) [v141] x140, Box b130 46 [.int .i64 a0, v141], Box b103 46 [.int .i64 a0, u1], Box b194 24 [v184], Box b111 46 [.int .i64 0, (.slice none 0 0)], Box b107 46 [.int .i64 a2, u3]] := hS.top 4 rfl
              replace hS := hS.one
              refine el_append rfl (by decide) rfl (by decide) hS rfl rfl rfl (by simp) hrow199 hx198 (by decide) ?_
              intro w196 v197 hS
              refine el_nil ?_
              replace hS : Sat w0 w196 [Box b130 46 [.int .i64 a0, v141], Box b103 46 [.int .i64 a0, u1], Own (sliceR (sliceR intR 3) 24) [v197] x198, Box b194 24 [v184], Box b111 46 [.int .i64 0, (.slice none 0 0)], Box b107 46 [.int .i64 a2, u3]] := hS.tops 6 [1, 2] rfl
              have hC := (hCd _).2 ⟨_, hS⟩
              refine ⟨fun _ => hC, ?_⟩
              refine al_p (v := .pointer (some ⟨b130, 0 + 1, none⟩)) (by kernel_rfl) 11 rfl rfl (by decide) hC (by kernel_rfl) (by kernel_rfl) (sv_on rfl (fun w' hw' => by obtain ⟨_, hS⟩ := (hCd _).1 hw'; exact (pv_fieldAddr he146))) ?_
              refine al_one 12 (by kernel_rfl) rfl ?_
              refine el_storev (hS.top 0 rfl) rfl [v197] (cells_of rfl (oc (hS.rdAt (R := (sliceR (sliceR intR 3) 24)) 2 rfl))) rfl (of_decide_eq_true rfl) (all_cons (oc (hS.rdAt (R := (sliceR (sliceR intR 3) 24)) 2 rfl)) rfl) ?_
              intro w201 hS
              replace hS : Sat w0 w201 [Box b130 46 [.int .i64 a0, v197], Box b103 46 [.int .i64 a0, u1], Own (sliceR (sliceR intR 3) 24) [v197] x198, Box b194 24 [v184], Box b111 46 [.int .i64 0, (.slice none 0 0)], Box b107 46 [.int .i64 a2, u3]] := hS
              refine el_nil ?_
              refine ⟨fun h => (nomatch (show false = true from h)), ?_⟩
              refine al_nil (by kernel_rfl) ?_
              refine hQ155 _ _ _ ?_
              refine inb_n ?_
              refine hQ154 _ _ _ ?_
              refine thn_n ?_
              replace hS : Sat w0 w201 [Box b130 46 [.int .i64 a0, v197], Box b103 46 [.int .i64 a0, u1], Own (sliceR (sliceR intR 3) 24) [v197] x198, Box b111 46 [.int .i64 0, (.slice none 0 0)], Box b107 46 [.int .i64 a2, u3]] := hS.rems 6 [3] rfl
              refine cw_reg ?_
              refine el_pv (v := .int .i64 x142) (pv_move he147) (by decide) ?_
              replace hF := ob hF
              obtain ⟨x202, hx202, hF⟩ := hF
              refine el_pv (v := .int .i64 x202) (pv_add rfl rfl hx202) (by decide) ?_
              refine el_pv (v := .int .i64 x202) (pv_assign rfl) (by decide) ?_
              refine el_nil ?_
              refine hQ150 _ _ _ ?_
              refine thn_n ?_
              replace hS : Sat w0 w201 [Own (sliceR (sliceR intR 3) 24) [v197] x198, Box b130 46 [.int .i64 a0, v197], Box b111 46 [.int .i64 0, (.slice none 0 0)], Box b107 46 [.int .i64 a2, u3], Box b103 46 [.int .i64 a0, u1]] := hS.tops 5 [2, 0, 3, 4, 1] rfl
              replace hS := hS.keep 5
              exact ⟨v197, x198, x202, he143, he144, he145, he146, rfl, hS, hF⟩
          · refine cw_cond_f rfl hb153 ?_
            refine cw_exit ?_
            refine hQ151 _ _ _ ?_
            refine thn_x ?_
            refine hQ150 _ _ _ ?_
            refine thn_x ?_
            replace hF := exB hF hK139
            refine hQ136 _ _ _ ?_
            refine inb_s ?_
            refine hQ134 _ _ _ ?_
            refine thn_n ?_
            refine cw_seq ?_
            refine cw_gen ?_
            intro Q203 hQ203
            replace hS : Sat w0 w148 [Own (sliceR (sliceR intR 3) 24) [v141] x140, Box b130 46 [.int .i64 a0, v141], Box b111 46 [.int .i64 0, (.slice none 0 0)]] := hS.rems 5 [3, 4] rfl
            refine cw_reg ?_
            refine el_pv (v := .agg #[.int .i64 a0, v141]) (pv_loada (cs := [.int .i64 a0, v141]) he146 rfl (boxc0 (hS.boxAt 1 rfl))) (by decide) ?_
            refine el_storev (hS.top 2 rfl) he145 [.int .i64 a0, v141] rfl rfl (of_decide_eq_true rfl) (all_cons rfl (all_cons (oc (hS.rdAt (R := (sliceR (sliceR intR 3) 24)) 0 rfl)) rfl)) ?_
            intro w204 hS
            replace hS : Sat w0 w204 [Box b111 46 [.int .i64 a0, v141], Own (sliceR (sliceR intR 3) 24) [v141] x140, Box b130 46 [.int .i64 a0, v141]] := hS
            refine el_pv (v := .bool true) (pv_assign rfl) (by decide) ?_
            refine el_nil ?_
            refine hQ203 _ _ _ ?_
            refine thn_n ?_
            refine cw_ret ?_
            refine finCT (cs := [.int .i64 a0, v141]) rfl he145 rfl (boxc0 (hS.boxAt 0 rfl)) rfl ?_
            replace hS : Sat w0 w204 [Own (sliceR (sliceR intR 3) 24) [v141] x140, Box b111 46 [.int .i64 a0, v141], Box b130 46 [.int .i64 a0, v141]] := hS.tops 3 [1] rfl
            have hr := Option.some.inj hF
            exact ⟨v141, congrArg (fun (r : (Int × List (List Int)) × Bool) => Ending.returned (.tuple #[.agg #[.int .i64 r.1.1, v141], .bool r.2])) hr, Eq.mp (congrArg (fun (r : (Int × List (List Int)) × Bool) => Sat w0 w204 [Own (sliceR (sliceR intR 3) 24) [v141] r.1.2]) hr) (hS.keep 1)⟩
    · refine el_off rfl (bnot_f hb123) rfl (by decide) ?_
      refine el_off rfl (bnot_f hb123) rfl (by decide) ?_
      refine el_off rfl (bnot_f hb123) rfl (by decide) ?_
      refine el_off rfl (bnot_f hb123) rfl (by decide) ?_
      refine el_off rfl (bnot_f hb123) rfl (by decide) ?_
      refine el_pv (v := .bool true) (pv_pick_t rfl (bnot_f hb123) rfl) (by decide) ?_
      refine el_nil ?_
      refine hQ115 _ _ _ ?_
      refine thn_n ?_
      refine cw_cond_t rfl rfl ?_
      refine cw_seq ?_
      refine cw_gen ?_
      intro Q205 hQ205
      replace hS : Sat w0 w121 [Box b111 46 [.int .i64 0, (.slice none 0 0)]] := hS.rems 3 [1, 2] rfl
      refine cw_reg ?_
      refine el_pv (v := .agg #[.int .i64 0, (.slice none 0 0)]) (pv_build [] [.int .i64 0, (.slice none 0 0)] rfl rfl) (by decide) ?_
      refine el_storev (hS.top 0 rfl) rfl [.int .i64 0, (.slice none 0 0)] rfl rfl (of_decide_eq_true rfl) (all_cons rfl (all_cons rfl rfl)) ?_
      intro w206 hS
      replace hS : Sat w0 w206 [Box b111 46 [.int .i64 0, (.slice none 0 0)]] := hS
      refine el_pv (v := .bool false) (pv_assign rfl) (by decide) ?_
      refine el_nil ?_
      refine hQ205 _ _ _ ?_
      refine thn_n ?_
      refine cw_ret ?_
      refine hQ114 _ _ _ ?_
      refine thn_r ?_
      replace hS := hS.nil (sliceR intR 3) 24
      refine finCT (cs := [.int .i64 0, (.slice none 0 0)]) rfl rfl rfl (boxc0 (hS.boxAt 1 rfl)) rfl ?_
      have hr := Option.some.inj hF
      exact ⟨(.slice none 0 0), congrArg (fun (r : (Int × List (List Int)) × Bool) => Ending.returned (.tuple #[.agg #[.int .i64 r.1.1, (.slice none 0 0)], .bool r.2])) hr, Eq.mp (congrArg (fun (r : (Int × List (List Int)) × Bool) => Sat w0 w206 [Own (sliceR (sliceR intR 3) 24) [(.slice none 0 0)] r.1.2]) hr) (hS.keep 1)⟩
  · refine el_off rfl (bnot_f hb119) rfl (by decide) ?_
    refine el_off rfl (bnot_f hb119) rfl (by decide) ?_
    refine el_off rfl (bnot_f hb119) rfl (by decide) ?_
    refine el_pv (v := .bool true) (pv_pick_t rfl (bnot_f hb119) rfl) (by decide) ?_
    refine el_pv (v := .bool true) (pv_move rfl) (by decide) ?_
    refine el_off rfl rfl rfl (by decide) ?_
    refine el_off rfl rfl rfl (by decide) ?_
    refine el_off rfl rfl rfl (by decide) ?_
    refine el_off rfl rfl rfl (by decide) ?_
    refine el_off rfl rfl rfl (by decide) ?_
    refine el_pv (v := .bool true) (pv_pick_t rfl rfl rfl) (by decide) ?_
    refine el_nil ?_
    refine hQ115 _ _ _ ?_
    refine thn_n ?_
    refine cw_cond_t rfl rfl ?_
    refine cw_seq ?_
    refine cw_gen ?_
    intro Q208 hQ208
    replace hS : Sat w0 w117 [Box b111 46 [.int .i64 0, (.slice none 0 0)]] := hS.rems 3 [1, 2] rfl
    refine cw_reg ?_
    refine el_pv (v := .agg #[.int .i64 0, (.slice none 0 0)]) (pv_build [] [.int .i64 0, (.slice none 0 0)] rfl rfl) (by decide) ?_
    refine el_storev (hS.top 0 rfl) rfl [.int .i64 0, (.slice none 0 0)] rfl rfl (of_decide_eq_true rfl) (all_cons rfl (all_cons rfl rfl)) ?_
    intro w209 hS
    replace hS : Sat w0 w209 [Box b111 46 [.int .i64 0, (.slice none 0 0)]] := hS
    refine el_pv (v := .bool false) (pv_assign rfl) (by decide) ?_
    refine el_nil ?_
    refine hQ208 _ _ _ ?_
    refine thn_n ?_
    refine cw_ret ?_
    refine hQ114 _ _ _ ?_
    refine thn_r ?_
    replace hS := hS.nil (sliceR intR 3) 24
    refine finCT (cs := [.int .i64 0, (.slice none 0 0)]) rfl rfl rfl (boxc0 (hS.boxAt 1 rfl)) rfl ?_
    have hr := Option.some.inj hF
    exact ⟨(.slice none 0 0), congrArg (fun (r : (Int × List (List Int)) × Bool) => Ending.returned (.tuple #[.agg #[.int .i64 r.1.1, (.slice none 0 0)], .bool r.2])) hr, Eq.mp (congrArg (fun (r : (Int × List (List Int)) × Bool) => Sat w0 w209 [Own (sliceR (sliceR intR 3) 24) [(.slice none 0 0)] r.1.2]) hr) (hS.keep 1)⟩
set_option maxHeartbeats 4000000 in
theorem spec_DiffDatabases_ok {w0 : World} {u0 : Value} {a0 : List (ByteArray × (Int × List (List Int)))} {u1 : Value} {a1 : List (ByteArray × (Int × List (List Int)))} {a2 : ByteArray} (ha0 : (sliceR (pairR strR (pairR intR (sliceR (sliceR intR 3) 24))) 80).rd w0 [u0] a0) (ha1 : (sliceR (pairR strR (pairR intR (sliceR (sliceR intR 3) 24))) 80).rd w0 [u1] a1) (ha2 : a2.size ≤ 9223372036854775807) {N : Nat} {r : (ByteArray × (Int × List (List Int)) × (Int × List (List Int))) × Bool} (hF : spec_DiffDatabases N a0 a1 a2 = some r) :
    Calls Try.prog 23 #[.agg #[u0], .agg #[u1], .string a2] w0 fun e w' => ∃ (q0 : Value) (q1 : Value), e = .returned (.tuple #[.agg #[.string r.1.1, .int .i64 r.1.2.1.1, q0, .int .i64 r.1.2.2.1, q1], .bool r.2]) ∧ Sat w0 w' [Own (sliceR (sliceR intR 3) 24) [q0] r.1.2.1.2, Own (sliceR (sliceR intR 3) 24) [q1] r.1.2.2.2] ∧ r.1.1.size ≤ 9223372036854775807 := by
  unfold spec_DiffDatabases at hF
  refine calls_E Try.func23 rfl rfl (of_decide_eq_true rfl) ?_
  have hS := Sat.start w0
  refine cw_seq ?_
  refine cw_gen ?_
  intro Q101 hQ101
  refine cw_reg ?_
  refine el_box [u0] rfl hS (by decide) ?_
  intro w102 b103 hS hx104
  refine el_box [u1] rfl hS (by decide) ?_
  intro w106 b107 hS hx108
  refine el_alloc hS (by decide) ?_
  intro w110 b111 hS hx112
  refine el_pv (v := .bool false) (pv_assign rfl) (by decide) ?_
  refine el_nil ?_
  refine hQ101 _ _ _ ?_
  refine thn_n ?_
  refine cw_seq ?_
  refine cw_gen ?_
  intro Q114 hQ114
  refine cw_reg ?_
  refine el_pv (v := .agg #[u0]) (pv_loada (cs := [u0]) rfl rfl (boxc0 (hS.boxAt 2 rfl))) (by decide) ?_
  refine el_pv (v := .string a2) (pv_move rfl) (by decide) ?_
  replace hF := ob hF
  obtain ⟨r115, hr115, hF⟩ := hF
  refine el_call goes37 (spec_LookupRelation_ok (hS.up ha0) ha2 hr115) (congrArg List.toArray (mapc rfl (mapc rfl rfl))) (by decide) ?_
  rintro _ w118 ⟨v116, rfl, hS'⟩
  refine ⟨_, rfl, ?_⟩
  have hx119 := hS'.below
  replace hS := hS.call1 hS'
  refine el_pv (v := .tuple #[.agg #[.int .i64 r115.1.1, v116], .bool r115.2]) (pv_move rfl) (by decide) ?_
  refine el_pv (v := .agg #[.int .i64 r115.1.1, v116]) (pv_extract rfl rfl) (by decide) ?_
  refine el_pv (v := .bool r115.2) (pv_extract rfl rfl) (by decide) ?_
  refine el_alloc hS (by decide) ?_
  intro w120 b121 hS hx122
  refine el_storev (hS.top 0 rfl) rfl [.int .i64 r115.1.1, v116] rfl rfl (of_decide_eq_true rfl) (all_cons rfl (all_cons (oc (hS.rdAt (R := (sliceR (sliceR intR 3) 24)) 1 rfl)) rfl)) ?_
  intro w124 hS
  replace hS : Sat w0 w124 [Box b121 46 [.int .i64 r115.1.1, v116], Own (sliceR (sliceR intR 3) 24) [v116] r115.1.2, Box b111 48 [.string ByteArray.empty, .int .i64 0, (.slice none 0 0), .int .i64 0, (.slice none 0 0)], Box b107 44 [u1], Box b103 44 [u0]] := hS
  refine el_pv (v := .bool r115.2) (pv_assign rfl) (by decide) ?_
  refine el_nil ?_
  refine hQ114 _ _ _ ?_
  refine thn_n ?_
  refine cw_seq ?_
  refine cw_gen ?_
  intro Q125 hQ125
  replace hS : Sat w0 w124 [Box b121 46 [.int .i64 r115.1.1, v116], Own (sliceR (sliceR intR 3) 24) [v116] r115.1.2, Box b111 48 [.string ByteArray.empty, .int .i64 0, (.slice none 0 0), .int .i64 0, (.slice none 0 0)], Box b107 44 [u1]] := hS.rems 5 [4] rfl
  refine cw_reg ?_
  refine el_pv (v := .agg #[u1]) (pv_loada (cs := [u1]) rfl rfl (boxc0 (hS.boxAt 3 rfl))) (by decide) ?_
  refine el_pv (v := .string a2) (pv_move rfl) (by decide) ?_
  replace hF := ob hF
  obtain ⟨r126, hr126, hF⟩ := hF
  refine el_call goes37 (spec_LookupRelation_ok (hS.up ha1) ha2 hr126) (congrArg List.toArray (mapc rfl (mapc rfl rfl))) (by decide) ?_
  rintro _ w129 ⟨v127, rfl, hS'⟩
  refine ⟨_, rfl, ?_⟩
  have hx130 := hS'.below
  replace hS := hS.call1 hS'
  refine el_pv (v := .tuple #[.agg #[.int .i64 r126.1.1, v127], .bool r126.2]) (pv_move rfl) (by decide) ?_
  refine el_pv (v := .agg #[.int .i64 r126.1.1, v127]) (pv_extract rfl rfl) (by decide) ?_
  refine el_pv (v := .bool r126.2) (pv_extract rfl rfl) (by decide) ?_
  refine el_alloc hS (by decide) ?_
  intro w131 b132 hS hx133
  refine el_storev (hS.top 0 rfl) rfl [.int .i64 r126.1.1, v127] rfl rfl (of_decide_eq_true rfl) (all_cons rfl (all_cons (oc (hS.rdAt (R := (sliceR (sliceR intR 3) 24)) 1 rfl)) rfl)) ?_
  intro w135 hS
  replace hS : Sat w0 w135 [Box b132 46 [.int .i64 r126.1.1, v127], Own (sliceR (sliceR intR 3) 24) [v127] r126.1.2, Box b121 46 [.int .i64 r115.1.1, v116], Own (sliceR (sliceR intR 3) 24) [v116] r115.1.2, Box b111 48 [.string ByteArray.empty, .int .i64 0, (.slice none 0 0), .int .i64 0, (.slice none 0 0)], Box b107 44 [u1]] := hS
  refine el_pv (v := .bool r126.2) (pv_assign rfl) (by decide) ?_
  refine el_nil ?_
  refine hQ125 _ _ _ ?_
  refine thn_n ?_
  refine cw_seq ?_
  refine cw_gen ?_
  intro Q136 hQ136
  refine cw_seq ?_
  refine cw_gen ?_
  intro Q137 hQ137
  replace hS : Sat w0 w135 [Box b132 46 [.int .i64 r126.1.1, v127], Own (sliceR (sliceR intR 3) 24) [v127] r126.1.2, Box b121 46 [.int .i64 r115.1.1, v116], Own (sliceR (sliceR intR 3) 24) [v116] r115.1.2, Box b111 48 [.string ByteArray.empty, .int .i64 0, (.slice none 0 0), .int .i64 0, (.slice none 0 0)]] := hS.rems 6 [5] rfl
  refine cw_reg ?_
  refine el_pv (v := .bool r115.2) (pv_move rfl) (by decide) ?_
  refine el_pv (v := .bool (!r115.2)) (pv_not rfl) (by decide) ?_
  refine el_pv (v := .bool (!r115.2)) (pv_move rfl) (by decide) ?_
  replace hF := oif hF
  rcases hF with ⟨hb138, hF⟩ | ⟨hb138, hF⟩
  · refine el_on rfl (bnot_t hb138) ?_
    refine el_pv (v := .bool r126.2) (pv_move rfl) (by decide) ?_
    refine el_on rfl (bnot_t hb138) ?_
    refine el_pv (v := .bool (!r126.2)) (pv_not rfl) (by decide) ?_
    refine el_pv (v := .bool (!r126.2)) (pv_pick_f rfl (bnot_t hb138) rfl) (by decide) ?_
    refine el_pv (v := .bool (!r126.2)) (pv_move rfl) (by decide) ?_
    replace hF := oif hF
    rcases hF with ⟨hb139, hF⟩ | ⟨hb139, hF⟩
    · refine el_on rfl (bnot_t hb139) ?_
      refine el_pv (v := .pointer (some ⟨b121, 0 + 0, none⟩)) (pv_fieldAddr rfl) (by decide) ?_
      refine el_on rfl (bnot_t hb139) ?_
      refine el_pv (v := .int .i64 r115.1.1) (pv_loadc rfl ((hS.boxAt 2 rfl) 0 _ rfl)) (by decide) ?_
      refine el_on rfl (bnot_t hb139) ?_
      refine el_pv (v := .pointer (some ⟨b132, 0 + 0, none⟩)) (pv_fieldAddr rfl) (by decide) ?_
      refine el_on rfl (bnot_t hb139) ?_
      refine el_pv (v := .int .i64 r126.1.1) (pv_loadc rfl ((hS.boxAt 0 rfl) 0 _ rfl)) (by decide) ?_
      refine el_on rfl (bnot_t hb139) ?_
      refine el_pv (v := .bool (r115.1.1 != r126.1.1)) (pv_neq rfl rfl) (by decide) ?_
      refine el_pv (v := .bool (r115.1.1 != r126.1.1)) (pv_pick_f rfl (bnot_t hb139) rfl) (by decide) ?_
      refine el_nil ?_
      refine hQ137 _ _ _ ?_
      refine thn_n ?_
      replace hF := oif hF
      rcases hF with ⟨hb140, hF⟩ | ⟨hb140, hF⟩
      · refine cw_cond_t rfl hb140 ?_
        refine cw_seq ?_
        refine cw_gen ?_
        intro Q141 hQ141
        replace hS : Sat w0 w135 [Box b111 48 [.string ByteArray.empty, .int .i64 0, (.slice none 0 0), .int .i64 0, (.slice none 0 0)]] := hS.rems 5 [0, 1, 2, 3] rfl
        refine cw_reg ?_
        refine el_pv (v := .agg #[.string ByteArray.empty, .int .i64 0, (.slice none 0 0), .int .i64 0, (.slice none 0 0)]) (pv_build [] [.string ByteArray.empty, .int .i64 0, (.slice none 0 0), .int .i64 0, (.slice none 0 0)] rfl rfl) (by decide) ?_
        refine el_storev (hS.top 0 rfl) rfl [.string ByteArray.empty, .int .i64 0, (.slice none 0 0), .int .i64 0, (.slice none 0 0)] rfl rfl (of_decide_eq_true rfl) (all_cons rfl (all_cons rfl (all_cons rfl (all_cons rfl (all_cons rfl rfl))))) ?_
        intro w142 hS
        replace hS : Sat w0 w142 [Box b111 48 [.string ByteArray.empty, .int .i64 0, (.slice none 0 0), .int .i64 0, (.slice none 0 0)]] := hS
        refine el_pv (v := .bool false) (pv_assign rfl) (by decide) ?_
        refine el_nil ?_
        refine hQ141 _ _ _ ?_
        refine thn_n ?_
        refine cw_ret ?_
        refine hQ136 _ _ _ ?_
        refine thn_r ?_
        replace hS := hS.nil (sliceR intR 3) 24
        replace hS := hS.nil (sliceR intR 3) 24
        refine finCT (cs := [.string ByteArray.empty, .int .i64 0, (.slice none 0 0), .int .i64 0, (.slice none 0 0)]) rfl rfl rfl (boxc0 (hS.boxAt 2 rfl)) rfl ?_
        replace hS : Sat w0 w142 [Own (sliceR (sliceR intR 3) 24) [(.slice none 0 0)] [], Own (sliceR (sliceR intR 3) 24) [(.slice none 0 0)] [], Box b111 48 [.string ByteArray.empty, .int .i64 0, (.slice none 0 0), .int .i64 0, (.slice none 0 0)]] := hS.tops 3 [1, 0] rfl
        have hr := Option.some.inj hF
        exact ⟨(.slice none 0 0), (.slice none 0 0), congrArg (fun (r : (ByteArray × (Int × List (List Int)) × (Int × List (List Int))) × Bool) => Ending.returned (.tuple #[.agg #[.string r.1.1, .int .i64 r.1.2.1.1, (.slice none 0 0), .int .i64 r.1.2.2.1, (.slice none 0 0)], .bool r.2])) hr, Eq.mp (congrArg (fun (r : (ByteArray × (Int × List (List Int)) × (Int × List (List Int))) × Bool) => Sat w0 w142 [Own (sliceR (sliceR intR 3) 24) [(.slice none 0 0)] r.1.2.1.2, Own (sliceR (sliceR intR 3) 24) [(.slice none 0 0)] r.1.2.2.2]) hr) (hS.keep 2), Eq.mp (congrArg (fun (r : (ByteArray × (Int × List (List Int)) × (Int × List (List Int))) × Bool) => r.1.1.size ≤ 9223372036854775807) hr) (by decide)⟩
      · refine cw_cond_f rfl hb140 ?_
        refine cw_skip ?_
        refine hQ136 _ _ _ ?_
        refine thn_n ?_
        refine cw_seq ?_
        refine cw_gen ?_
        intro Q145 hQ145
        refine cw_reg ?_
        refine el_pv (v := .agg #[.int .i64 r126.1.1, v127]) (pv_loada (cs := [.int .i64 r126.1.1, v127]) rfl rfl (boxc0 (hS.boxAt 0 rfl))) (by decide) ?_
        refine el_pv (v := .agg #[.int .i64 r115.1.1, v116]) (pv_loada (cs := [.int .i64 r115.1.1, v116]) rfl rfl (boxc0 (hS.boxAt 2 rfl))) (by decide) ?_
        replace hF := ob hF
        obtain ⟨r146, hr146, hF⟩ := hF
        refine el_call goes45 (spec_Difference_ok (hS.rdAt (R := (sliceR (sliceR intR 3) 24)) 1 rfl) (hS.rdAt (R := (sliceR (sliceR intR 3) 24)) 3 rfl) hr146) (congrArg List.toArray (mapc rfl (mapc rfl rfl))) (by decide) ?_
        rintro _ w149 ⟨v147, rfl, hS'⟩
        refine ⟨_, rfl, ?_⟩
        have hx150 := hS'.below
        replace hS := hS.call1 hS'
        refine el_pv (v := .tuple #[.agg #[.int .i64 r146.1.1, v147], .bool r146.2]) (pv_move rfl) (by decide) ?_
        refine el_pv (v := .agg #[.int .i64 r146.1.1, v147]) (pv_extract rfl rfl) (by decide) ?_
        refine el_pv (v := .bool r146.2) (pv_extract rfl rfl) (by decide) ?_
        refine el_alloc hS (by decide) ?_
        intro w151 b152 hS hx153
        refine el_storev (hS.top 0 rfl) rfl [.int .i64 r146.1.1, v147] rfl rfl (of_decide_eq_true rfl) (all_cons rfl (all_cons (oc (hS.rdAt (R := (sliceR (sliceR intR 3) 24)) 1 rfl)) rfl)) ?_
        intro w155 hS
        replace hS : Sat w0 w155 [Box b152 46 [.int .i64 r146.1.1, v147], Own (sliceR (sliceR intR 3) 24) [v147] r146.1.2, Box b132 46 [.int .i64 r126.1.1, v127], Own (sliceR (sliceR intR 3) 24) [v127] r126.1.2, Box b121 46 [.int .i64 r115.1.1, v116], Own (sliceR (sliceR intR 3) 24) [v116] r115.1.2, Box b111 48 [.string ByteArray.empty, .int .i64 0, (.slice none 0 0), .int .i64 0, (.slice none 0 0)]] := hS
        refine el_pv (v := .bool r146.2) (pv_assign rfl) (by decide) ?_
        refine el_nil ?_
        refine hQ145 _ _ _ ?_
        refine thn_n ?_
        refine cw_seq ?_
        refine cw_gen ?_
        intro Q156 hQ156
        refine cw_reg ?_
        refine el_pv (v := .agg #[.int .i64 r115.1.1, v116]) (pv_loada (cs := [.int .i64 r115.1.1, v116]) rfl rfl (boxc0 (hS.boxAt 4 rfl))) (by decide) ?_
        refine el_pv (v := .agg #[.int .i64 r126.1.1, v127]) (pv_loada (cs := [.int .i64 r126.1.1, v127]) rfl rfl (boxc0 (hS.boxAt 2 rfl))) (by decide) ?_
        replace hF := ob hF
        obtain ⟨r157, hr157, hF⟩ := hF
        refine el_call goes45 (spec_Difference_ok (hS.rdAt (R := (sliceR (sliceR intR 3) 24)) 5 rfl) (hS.rdAt (R := (sliceR (sliceR intR 3) 24)) 3 rfl) hr157) (congrArg List.toArray (mapc rfl (mapc rfl rfl))) (by decide) ?_
        rintro _ w160 ⟨v158, rfl, hS'⟩
        refine ⟨_, rfl, ?_⟩
        have hx161 := hS'.below
        replace hS := hS.call1 hS'
        refine el_pv (v := .tuple #[.agg #[.int .i64 r157.1.1, v158], .bool r157.2]) (pv_move rfl) (by decide) ?_
        refine el_pv (v := .agg #[.int .i64 r157.1.1, v158]) (pv_extract rfl rfl) (by decide) ?_
        refine el_pv (v := .bool r157.2) (pv_extract rfl rfl) (by decide) ?_
        refine el_alloc hS (by decide) ?_
        intro w162 b163 hS hx164
        refine el_storev (hS.top 0 rfl) rfl [.int .i64 r157.1.1, v158] rfl rfl (of_decide_eq_true rfl) (all_cons rfl (all_cons (oc (hS.rdAt (R := (sliceR (sliceR intR 3) 24)) 1 rfl)) rfl)) ?_
        intro w166 hS
        replace hS : Sat w0 w166 [Box b163 46 [.int .i64 r157.1.1, v158], Own (sliceR (sliceR intR 3) 24) [v158] r157.1.2, Box b152 46 [.int .i64 r146.1.1, v147], Own (sliceR (sliceR intR 3) 24) [v147] r146.1.2, Box b132 46 [.int .i64 r126.1.1, v127], Own (sliceR (sliceR intR 3) 24) [v127] r126.1.2, Box b121 46 [.int .i64 r115.1.1, v116], Own (sliceR (sliceR intR 3) 24) [v116] r115.1.2, Box b111 48 [.string ByteArray.empty, .int .i64 0, (.slice none 0 0), .int .i64 0, (.slice none 0 0)]] := hS
        refine el_pv (v := .bool r157.2) (pv_assign rfl) (by decide) ?_
        refine el_nil ?_
        refine hQ156 _ _ _ ?_
        refine thn_n ?_
        refine cw_seq ?_
        refine cw_gen ?_
        intro Q167 hQ167
        replace hS : Sat w0 w166 [Box b163 46 [.int .i64 r157.1.1, v158], Own (sliceR (sliceR intR 3) 24) [v158] r157.1.2, Box b152 46 [.int .i64 r146.1.1, v147], Own (sliceR (sliceR intR 3) 24) [v147] r146.1.2, Box b111 48 [.string ByteArray.empty, .int .i64 0, (.slice none 0 0), .int .i64 0, (.slice none 0 0)]] := hS.rems 9 [4, 5, 6, 7] rfl
        refine cw_reg ?_
        refine el_pv (v := .string a2) (pv_move rfl) (by decide) ?_
        refine el_pv (v := .agg #[.int .i64 r146.1.1, v147]) (pv_loada (cs := [.int .i64 r146.1.1, v147]) rfl rfl (boxc0 (hS.boxAt 2 rfl))) (by decide) ?_
        refine el_pv (v := .agg #[.int .i64 r157.1.1, v158]) (pv_loada (cs := [.int .i64 r157.1.1, v158]) rfl rfl (boxc0 (hS.boxAt 0 rfl))) (by decide) ?_
        refine el_pv (v := .agg #[.string a2, .int .i64 r146.1.1, v147, .int .i64 r157.1.1, v158]) (pv_build [(0, [.string a2]), (1, [.int .i64 r146.1.1, v147]), (2, [.int .i64 r157.1.1, v158])] [.string a2, .int .i64 r146.1.1, v147, .int .i64 r157.1.1, v158] (partc rfl (partc rfl (partc rfl rfl))) rfl) (by decide) ?_
        refine el_storev (hS.top 4 rfl) rfl [.string a2, .int .i64 r146.1.1, v147, .int .i64 r157.1.1, v158] rfl rfl (of_decide_eq_true rfl) (all_cons rfl (all_cons rfl (all_cons (oc (hS.rdAt (R := (sliceR (sliceR intR 3) 24)) 3 rfl)) (all_cons rfl (all_cons (oc (hS.rdAt (R := (sliceR (sliceR intR 3) 24)) 1 rfl)) rfl))))) ?_
        intro w168 hS
        replace hS : Sat w0 w168 [Box b111 48 [.string a2, .int .i64 r146.1.1, v147, .int .i64 r157.1.1, v158], Box b163 46 [.int .i64 r157.1.1, v158], Own (sliceR (sliceR intR 3) 24) [v158] r157.1.2, Box b152 46 [.int .i64 r146.1.1, v147], Own (sliceR (sliceR intR 3) 24) [v147] r146.1.2] := hS
        refine el_pv (v := .bool true) (pv_assign rfl) (by decide) ?_
        refine el_nil ?_
        refine hQ167 _ _ _ ?_
        refine thn_n ?_
        refine cw_ret ?_
        refine finCT (cs := [.string a2, .int .i64 r146.1.1, v147, .int .i64 r157.1.1, v158]) rfl rfl rfl (boxc0 (hS.boxAt 0 rfl)) rfl ?_
        replace hS : Sat w0 w168 [Own (sliceR (sliceR intR 3) 24) [v147] r146.1.2, Own (sliceR (sliceR intR 3) 24) [v158] r157.1.2, Box b111 48 [.string a2, .int .i64 r146.1.1, v147, .int .i64 r157.1.1, v158], Box b163 46 [.int .i64 r157.1.1, v158], Box b152 46 [.int .i64 r146.1.1, v147]] := hS.tops 5 [4, 2] rfl
        have hr := Option.some.inj hF
        exact ⟨v147, v158, congrArg (fun (r : (ByteArray × (Int × List (List Int)) × (Int × List (List Int))) × Bool) => Ending.returned (.tuple #[.agg #[.string r.1.1, .int .i64 r.1.2.1.1, v147, .int .i64 r.1.2.2.1, v158], .bool r.2])) hr, Eq.mp (congrArg (fun (r : (ByteArray × (Int × List (List Int)) × (Int × List (List Int))) × Bool) => Sat w0 w168 [Own (sliceR (sliceR intR 3) 24) [v147] r.1.2.1.2, Own (sliceR (sliceR intR 3) 24) [v158] r.1.2.2.2]) hr) (hS.keep 2), Eq.mp (congrArg (fun (r : (ByteArray × (Int × List (List Int)) × (Int × List (List Int))) × Bool) => r.1.1.size ≤ 9223372036854775807) hr) ha2⟩
    · refine el_off rfl (bnot_f hb139) rfl (by decide) ?_
      refine el_off rfl (bnot_f hb139) rfl (by decide) ?_
      refine el_off rfl (bnot_f hb139) rfl (by decide) ?_
      refine el_off rfl (bnot_f hb139) rfl (by decide) ?_
      refine el_off rfl (bnot_f hb139) rfl (by decide) ?_
      refine el_pv (v := .bool true) (pv_pick_t rfl (bnot_f hb139) rfl) (by decide) ?_
      refine el_nil ?_
      refine hQ137 _ _ _ ?_
      refine thn_n ?_
      refine cw_cond_t rfl rfl ?_
      refine cw_seq ?_
      refine cw_gen ?_
      intro Q169 hQ169
      replace hS : Sat w0 w135 [Box b111 48 [.string ByteArray.empty, .int .i64 0, (.slice none 0 0), .int .i64 0, (.slice none 0 0)]] := hS.rems 5 [0, 1, 2, 3] rfl
      refine cw_reg ?_
      refine el_pv (v := .agg #[.string ByteArray.empty, .int .i64 0, (.slice none 0 0), .int .i64 0, (.slice none 0 0)]) (pv_build [] [.string ByteArray.empty, .int .i64 0, (.slice none 0 0), .int .i64 0, (.slice none 0 0)] rfl rfl) (by decide) ?_
      refine el_storev (hS.top 0 rfl) rfl [.string ByteArray.empty, .int .i64 0, (.slice none 0 0), .int .i64 0, (.slice none 0 0)] rfl rfl (of_decide_eq_true rfl) (all_cons rfl (all_cons rfl (all_cons rfl (all_cons rfl (all_cons rfl rfl))))) ?_
      intro w170 hS
      replace hS : Sat w0 w170 [Box b111 48 [.string ByteArray.empty, .int .i64 0, (.slice none 0 0), .int .i64 0, (.slice none 0 0)]] := hS
      refine el_pv (v := .bool false) (pv_assign rfl) (by decide) ?_
      refine el_nil ?_
      refine hQ169 _ _ _ ?_
      refine thn_n ?_
      refine cw_ret ?_
      refine hQ136 _ _ _ ?_
      refine thn_r ?_
      replace hS := hS.nil (sliceR intR 3) 24
      replace hS := hS.nil (sliceR intR 3) 24
      refine finCT (cs := [.string ByteArray.empty, .int .i64 0, (.slice none 0 0), .int .i64 0, (.slice none 0 0)]) rfl rfl rfl (boxc0 (hS.boxAt 2 rfl)) rfl ?_
      replace hS : Sat w0 w170 [Own (sliceR (sliceR intR 3) 24) [(.slice none 0 0)] [], Own (sliceR (sliceR intR 3) 24) [(.slice none 0 0)] [], Box b111 48 [.string ByteArray.empty, .int .i64 0, (.slice none 0 0), .int .i64 0, (.slice none 0 0)]] := hS.tops 3 [1, 0] rfl
      have hr := Option.some.inj hF
      exact ⟨(.slice none 0 0), (.slice none 0 0), congrArg (fun (r : (ByteArray × (Int × List (List Int)) × (Int × List (List Int))) × Bool) => Ending.returned (.tuple #[.agg #[.string r.1.1, .int .i64 r.1.2.1.1, (.slice none 0 0), .int .i64 r.1.2.2.1, (.slice none 0 0)], .bool r.2])) hr, Eq.mp (congrArg (fun (r : (ByteArray × (Int × List (List Int)) × (Int × List (List Int))) × Bool) => Sat w0 w170 [Own (sliceR (sliceR intR 3) 24) [(.slice none 0 0)] r.1.2.1.2, Own (sliceR (sliceR intR 3) 24) [(.slice none 0 0)] r.1.2.2.2]) hr) (hS.keep 2), Eq.mp (congrArg (fun (r : (ByteArray × (Int × List (List Int)) × (Int × List (List Int))) × Bool) => r.1.1.size ≤ 9223372036854775807) hr) (by decide)⟩
  · refine el_off rfl (bnot_f hb138) rfl (by decide) ?_
    refine el_off rfl (bnot_f hb138) rfl (by decide) ?_
    refine el_pv (v := .bool true) (pv_pick_t rfl (bnot_f hb138) rfl) (by decide) ?_
    refine el_pv (v := .bool true) (pv_move rfl) (by decide) ?_
    refine el_off rfl rfl rfl (by decide) ?_
    refine el_off rfl rfl rfl (by decide) ?_
    refine el_off rfl rfl rfl (by decide) ?_
    refine el_off rfl rfl rfl (by decide) ?_
    refine el_off rfl rfl rfl (by decide) ?_
    refine el_pv (v := .bool true) (pv_pick_t rfl rfl rfl) (by decide) ?_
    refine el_nil ?_
    refine hQ137 _ _ _ ?_
    refine thn_n ?_
    refine cw_cond_t rfl rfl ?_
    refine cw_seq ?_
    refine cw_gen ?_
    intro Q173 hQ173
    replace hS : Sat w0 w135 [Box b111 48 [.string ByteArray.empty, .int .i64 0, (.slice none 0 0), .int .i64 0, (.slice none 0 0)]] := hS.rems 5 [0, 1, 2, 3] rfl
    refine cw_reg ?_
    refine el_pv (v := .agg #[.string ByteArray.empty, .int .i64 0, (.slice none 0 0), .int .i64 0, (.slice none 0 0)]) (pv_build [] [.string ByteArray.empty, .int .i64 0, (.slice none 0 0), .int .i64 0, (.slice none 0 0)] rfl rfl) (by decide) ?_
    refine el_storev (hS.top 0 rfl) rfl [.string ByteArray.empty, .int .i64 0, (.slice none 0 0), .int .i64 0, (.slice none 0 0)] rfl rfl (of_decide_eq_true rfl) (all_cons rfl (all_cons rfl (all_cons rfl (all_cons rfl (all_cons rfl rfl))))) ?_
    intro w174 hS
    replace hS : Sat w0 w174 [Box b111 48 [.string ByteArray.empty, .int .i64 0, (.slice none 0 0), .int .i64 0, (.slice none 0 0)]] := hS
    refine el_pv (v := .bool false) (pv_assign rfl) (by decide) ?_
    refine el_nil ?_
    refine hQ173 _ _ _ ?_
    refine thn_n ?_
    refine cw_ret ?_
    refine hQ136 _ _ _ ?_
    refine thn_r ?_
    replace hS := hS.nil (sliceR intR 3) 24
    replace hS := hS.nil (sliceR intR 3) 24
    refine finCT (cs := [.string ByteArray.empty, .int .i64 0, (.slice none 0 0), .int .i64 0, (.slice none 0 0)]) rfl rfl rfl (boxc0 (hS.boxAt 2 rfl)) rfl ?_
    replace hS : Sat w0 w174 [Own (sliceR (sliceR intR 3) 24) [(.slice none 0 0)] [], Own (sliceR (sliceR intR 3) 24) [(.slice none 0 0)] [], Box b111 48 [.string ByteArray.empty, .int .i64 0, (.slice none 0 0), .int .i64 0, (.slice none 0 0)]] := hS.tops 3 [1, 0] rfl
    have hr := Option.some.inj hF
    exact ⟨(.slice none 0 0), (.slice none 0 0), congrArg (fun (r : (ByteArray × (Int × List (List Int)) × (Int × List (List Int))) × Bool) => Ending.returned (.tuple #[.agg #[.string r.1.1, .int .i64 r.1.2.1.1, (.slice none 0 0), .int .i64 r.1.2.2.1, (.slice none 0 0)], .bool r.2])) hr, Eq.mp (congrArg (fun (r : (ByteArray × (Int × List (List Int)) × (Int × List (List Int))) × Bool) => Sat w0 w174 [Own (sliceR (sliceR intR 3) 24) [(.slice none 0 0)] r.1.2.1.2, Own (sliceR (sliceR intR 3) 24) [(.slice none 0 0)] r.1.2.2.2]) hr) (hS.keep 2), Eq.mp (congrArg (fun (r : (ByteArray × (Int × List (List Int)) × (Int × List (List Int))) × Bool) => r.1.1.size ≤ 9223372036854775807) hr) (by decide)⟩
set_option maxHeartbeats 4000000 in
theorem impl_Difference_ok {w0 : World} {a0 : Int} {u1 : Value} {a1 : List (List Int)} {a2 : Int} {u3 : Value} {a3 : List (List Int)} (ha1 : (sliceR (sliceR intR 3) 24).rd w0 [u1] a1) (ha3 : (sliceR (sliceR intR 3) 24).rd w0 [u3] a3) {N : Nat} {r : (Int × List (List Int)) × Bool} (hF : impl_Difference N a0 a1 a2 a3 = some r) :
    Calls Try.prog 47 #[.agg #[.int .i64 a0, u1], .agg #[.int .i64 a2, u3]] w0 fun e w' => ∃ (q0 : Value), e = .returned (.tuple #[.agg #[.int .i64 r.1.1, q0], .bool r.2]) ∧ Sat w0 w' [Own (sliceR (sliceR intR 3) 24) [q0] r.1.2] := by
  unfold impl_Difference at hF
  refine calls_E Try.func47 rfl rfl (of_decide_eq_true rfl) ?_
  have hS := Sat.start w0
  refine cw_seq ?_
  refine cw_gen ?_
  intro Q101 hQ101
  refine cw_reg ?_
  refine el_box [.int .i64 a0, u1] rfl hS (by decide) ?_
  intro w102 b103 hS hx104
  refine el_box [.int .i64 a2, u3] rfl hS (by decide) ?_
  intro w106 b107 hS hx108
  refine el_alloc hS (by decide) ?_
  intro w110 b111 hS hx112
  refine el_pv (v := .bool false) (pv_assign rfl) (by decide) ?_
  refine el_nil ?_
  refine hQ101 _ _ _ ?_
  refine thn_n ?_
  refine cw_seq ?_
  refine cw_gen ?_
  intro Q114 hQ114
  refine cw_seq ?_
  refine cw_gen ?_
  intro Q115 hQ115
  refine cw_reg ?_
  refine el_pv (v := .agg #[.int .i64 a0, u1]) (pv_loada (cs := [.int .i64 a0, u1]) rfl rfl (boxc0 (hS.boxAt 2 rfl))) (by decide) ?_
  replace hF := ob hF
  obtain ⟨r116, hr116, hF⟩ := hF
  refine el_call goes60 (impl_IsValidRelation_ok (hS.up ha1) hr116) (congrArg List.toArray (mapc rfl rfl)) (by decide) ?_
  rintro _ w117 ⟨rfl, hx118⟩
  refine ⟨_, rfl, ?_⟩
  replace hS := hS.ext hx118
  refine el_pv (v := .bool (!r116)) (pv_not rfl) (by decide) ?_
  refine el_pv (v := .bool (!r116)) (pv_move rfl) (by decide) ?_
  replace hF := oif hF
  rcases hF with ⟨hb119, hF⟩ | ⟨hb119, hF⟩
  · refine el_on rfl (bnot_t hb119) ?_
    refine el_pv (v := .agg #[.int .i64 a2, u3]) (pv_loada (cs := [.int .i64 a2, u3]) rfl rfl (boxc0 (hS.boxAt 1 rfl))) (by decide) ?_
    refine el_on rfl (bnot_t hb119) ?_
    replace hF := ob hF
    obtain ⟨r120, hr120, hF⟩ := hF
    refine el_call goes60 (impl_IsValidRelation_ok (hS.up ha3) hr120) (congrArg List.toArray (mapc rfl rfl)) (by decide) ?_
    rintro _ w121 ⟨rfl, hx122⟩
    refine ⟨_, rfl, ?_⟩
    replace hS := hS.ext hx122
    refine el_on rfl (bnot_t hb119) ?_
    refine el_pv (v := .bool (!r120)) (pv_not rfl) (by decide) ?_
    refine el_pv (v := .bool (!r120)) (pv_pick_f rfl (bnot_t hb119) rfl) (by decide) ?_
    refine el_pv (v := .bool (!r120)) (pv_move rfl) (by decide) ?_
    replace hF := oif hF
    rcases hF with ⟨hb123, hF⟩ | ⟨hb123, hF⟩
    · refine el_on rfl (bnot_t hb123) ?_
      refine el_pv (v := .pointer (some ⟨b103, 0 + 0, none⟩)) (pv_fieldAddr rfl) (by decide) ?_
      refine el_on rfl (bnot_t hb123) ?_
      refine el_pv (v := .int .i64 a0) (pv_loadc rfl ((hS.boxAt 2 rfl) 0 _ rfl)) (by decide) ?_
      refine el_on rfl (bnot_t hb123) ?_
      refine el_pv (v := .pointer (some ⟨b107, 0 + 0, none⟩)) (pv_fieldAddr rfl) (by decide) ?_
      refine el_on rfl (bnot_t hb123) ?_
      refine el_pv (v := .int .i64 a2) (pv_loadc rfl ((hS.boxAt 1 rfl) 0 _ rfl)) (by decide) ?_
      refine el_on rfl (bnot_t hb123) ?_
      refine el_pv (v := .bool (a0 != a2)) (pv_neq rfl rfl) (by decide) ?_
      refine el_pv (v := .bool (a0 != a2)) (pv_pick_f rfl (bnot_t hb123) rfl) (by decide) ?_
      refine el_nil ?_
      refine hQ115 _ _ _ ?_
      refine thn_n ?_
      replace hF := oif hF
      rcases hF with ⟨hb124, hF⟩ | ⟨hb124, hF⟩
      · refine cw_cond_t rfl hb124 ?_
        refine cw_seq ?_
        refine cw_gen ?_
        intro Q125 hQ125
        replace hS : Sat w0 w121 [Box b111 46 [.int .i64 0, (.slice none 0 0)]] := hS.rems 3 [1, 2] rfl
        refine cw_reg ?_
        refine el_pv (v := .agg #[.int .i64 0, (.slice none 0 0)]) (pv_build [] [.int .i64 0, (.slice none 0 0)] rfl rfl) (by decide) ?_
        refine el_storev (hS.top 0 rfl) rfl [.int .i64 0, (.slice none 0 0)] rfl rfl (of_decide_eq_true rfl) (all_cons rfl (all_cons rfl rfl)) ?_
        intro w126 hS
        replace hS : Sat w0 w126 [Box b111 46 [.int .i64 0, (.slice none 0 0)]] := hS
        refine el_pv (v := .bool false) (pv_assign rfl) (by decide) ?_
        refine el_nil ?_
        refine hQ125 _ _ _ ?_
        refine thn_n ?_
        refine cw_ret ?_
        refine hQ114 _ _ _ ?_
        refine thn_r ?_
        replace hS := hS.nil (sliceR intR 3) 24
        refine finCT (cs := [.int .i64 0, (.slice none 0 0)]) rfl rfl rfl (boxc0 (hS.boxAt 1 rfl)) rfl ?_
        have hr := Option.some.inj hF
        exact ⟨(.slice none 0 0), congrArg (fun (r : (Int × List (List Int)) × Bool) => Ending.returned (.tuple #[.agg #[.int .i64 r.1.1, (.slice none 0 0)], .bool r.2])) hr, Eq.mp (congrArg (fun (r : (Int × List (List Int)) × Bool) => Sat w0 w126 [Own (sliceR (sliceR intR 3) 24) [(.slice none 0 0)] r.1.2]) hr) (hS.keep 1)⟩
      · refine cw_cond_f rfl hb124 ?_
        refine cw_skip ?_
        refine hQ114 _ _ _ ?_
        refine thn_n ?_
        refine cw_seq ?_
        refine cw_gen ?_
        intro Q128 hQ128
        refine cw_reg ?_
        refine el_pv (v := .pointer (some ⟨b103, 0 + 0, none⟩)) (pv_fieldAddr rfl) (by decide) ?_
        refine el_pv (v := .int .i64 a0) (pv_loadc rfl ((hS.boxAt 2 rfl) 0 _ rfl)) (by decide) ?_
        refine el_pv (v := .agg #[.int .i64 a0, (.slice none 0 0)]) (pv_build [(0, [.int .i64 a0])] [.int .i64 a0, (.slice none 0 0)] (partc rfl rfl) rfl) (by decide) ?_
        refine el_alloc hS (by decide) ?_
        intro w129 b130 hS hx131
        refine el_storev (hS.top 0 rfl) rfl [.int .i64 a0, (.slice none 0 0)] rfl rfl (of_decide_eq_true rfl) (all_cons rfl (all_cons rfl rfl)) ?_
        intro w133 hS
        replace hS : Sat w0 w133 [Box b130 46 [.int .i64 a0, (.slice none 0 0)], Box b111 46 [.int .i64 0, (.slice none 0 0)], Box b107 46 [.int .i64 a2, u3], Box b103 46 [.int .i64 a0, u1]] := hS
        refine el_nil ?_
        refine hQ128 _ _ _ ?_
        refine thn_n ?_
        refine cw_seq ?_
        refine cw_gen ?_
        intro Q134 hQ134
        refine cw_seq ?_
        refine cw_gen ?_
        intro Q135 hQ135
        refine cw_reg ?_
        refine el_pv (v := .pointer (some ⟨b103, 0 + 1, none⟩)) (pv_fieldAddr rfl) (by decide) ?_
        refine el_pv (v := u1) (pv_loadc rfl ((hS.boxAt 3 rfl) 1 _ rfl)) (by decide) ?_
        refine el_pv (v := .int .i64 (a1.length : Int)) (pv_len rfl ha1) (by decide) ?_
        refine el_pv (v := .int .i64 0) (pv_move rfl) (by decide) ?_
        refine el_nil ?_
        refine hQ135 _ _ _ ?_
        refine thn_n ?_
        refine cw_block ?_
        refine cw_gen ?_
        intro Q136 hQ136
        replace hS := hS.nil (sliceR intR 3) 24
        obtain ⟨s138, hL, hK139⟩ := ob hF
        replace hS : Sat w0 w133 [Own (sliceR (sliceR intR 3) 24) [(.slice none 0 0)] [], Box b130 46 [.int .i64 a0, (.slice none 0 0)], Box b111 46 [.int .i64 0, (.slice none 0 0)], Box b107 46 [.int .i64 a2, u3]] := hS.rems 5 [4] rfl
        refine cw_loopS (fun k e w => ∃ (v141 : Value), ∃ (x140 : List (List Int)), ∃ (x142 : Int), e 3 = .pointer (some ⟨b107, 0, none⟩) ∧ e 4 = .pointer (some ⟨b111, 0, none⟩) ∧ e 6 = .pointer (some ⟨b130, 0, none⟩) ∧ e 29 = u1 ∧ e 30 = .int .i64 (a1.length : Int) ∧ e 31 = .int .i64 x142 ∧ Sat w0 w [Own (sliceR (sliceR intR 3) 24) [v141] x140, Box b130 46 [.int .i64 a0, v141], Box b111 46 [.int .i64 0, (.slice none 0 0)], Box b107 46 [.int .i64 a2, u3]] ∧ impl_Difference_L1 N k a2 a3 0 [] a0 x140 a1 (a1.length : Int) x142 = some s138) N ?_ ?_ ?_
        · exact ⟨(.slice none 0 0), [], 0, rfl, rfl, rfl, rfl, rfl, rfl, hS, hL⟩
        · rintro e w ⟨_, _, _, _, _, _, _, _, _, _, hz⟩; exact nomatch (show none = some _ from hz)
        · rintro k e150 w149 ⟨v141, x140, x142, he143, he144, he145, he146, he147, he148, hS, hF⟩
          refine cw_gen ?_
          intro Q151 hQ151
          refine cw_seq ?_
          refine cw_gen ?_
          intro Q152 hQ152
          refine cw_reg ?_
          refine el_pv (v := .bool (decide (x142 < (a1.length : Int)))) (pv_lss he148 he147) (by decide) ?_
          refine el_nil ?_
          refine hQ152 _ _ _ ?_
          refine thn_n ?_
          refine cw_seq ?_
          refine cw_gen ?_
          intro Q153 hQ153
          replace hF := oif hF
          rcases hF with ⟨hb154, hF⟩ | ⟨hb154, hF⟩
          · refine cw_cond_t rfl hb154 ?_
            refine cw_skip ?_
            refine hQ153 _ _ _ ?_
            refine thn_n ?_
            refine cw_seq ?_
            refine cw_gen ?_
            intro Q155 hQ155
            refine cw_block ?_
            refine cw_gen ?_
            intro Q156 hQ156
            refine cw_seq ?_
            refine cw_gen ?_
            intro Q157 hQ157
            refine cw_reg ?_
            replace hF := ob hF
            obtain ⟨x158, hx158, hF⟩ := hF
            refine el_index (wA := w0) he146 ha1 rfl (by decide) he148 hx158 (by decide) ?_
            intro b159 of160 c161 hr162 hm163
            obtain ⟨v164, rfl⟩ := slice_one hr162
            refine el_pv (v := v164) (pv_loadc rfl ((cells_up hS.below hm163) 0 _ rfl)) (by decide) ?_
            refine el_pv (v := v164) (pv_assign rfl) (by decide) ?_
            refine el_nil ?_
            refine hQ157 _ _ _ ?_
            refine thn_n ?_
            refine cw_seq ?_
            refine cw_gen ?_
            intro Q165 hQ165
            refine cw_reg ?_
            refine el_pv (v := .agg #[.int .i64 a2, u3]) (pv_loada (cs := [.int .i64 a2, u3]) he143 rfl (boxc0 (hS.boxAt 3 rfl))) (by decide) ?_
            refine el_pv (v := v164) (pv_move rfl) (by decide) ?_
            replace hF := ob hF
            obtain ⟨r166, hr166, hF⟩ := hF
            refine el_call goes42 (impl_ContainsRow_ok (hS.up ha3) (hS.up hr162) hr166) (congrArg List.toArray (mapc rfl (mapc rfl rfl))) (by decide) ?_
            rintro _ w167 ⟨rfl, hx168⟩
            refine ⟨_, rfl, ?_⟩
            replace hS := hS.ext hx168
            refine el_pv (v := .bool (!r166)) (pv_not rfl) (by decide) ?_
            refine el_nil ?_
            refine hQ165 _ _ _ ?_
            refine thn_n ?_
            replace hF := oif hF
            rcases hF with ⟨hb169, hF⟩ | ⟨hb169, hF⟩
            · refine cw_cond_f rfl (bnot_t hb169) ?_
              refine cw_skip ?_
              refine hQ156 _ _ _ ?_
              refine inb_n ?_
              refine hQ155 _ _ _ ?_
              refine thn_n ?_
              refine cw_reg ?_
              replace hF := ob hF
              obtain ⟨x170, hx170, hF⟩ := hF
              refine el_pv (v := .int .i64 x170) (pv_add he148 rfl hx170) (by decide) ?_
              refine el_pv (v := .int .i64 x170) (pv_move rfl) (by decide) ?_
              refine el_nil ?_
              refine hQ151 _ _ _ ?_
              refine thn_n ?_
              replace hS := hS.keep 4
              exact ⟨v141, x140, x170, he143, he144, he145, he146, he147, rfl, hS, hF⟩
            · refine cw_cond_t rfl (bnot_f hb169) ?_
              obtain ⟨C, hCd⟩ : ∃ C : World → Prop, ∀ w, C w ↔ ∃ G, Sat w0 w ([Box b130 46 [.int .i64 a0, v141]] ++ G) := ⟨_, fun _ => Iff.rfl⟩
              refine cw_regb [0, 1, 2, 3, 4, 5, 6] C (by kernel_rfl) ?_
              intro w171 hx172
              replace hS := hS.ext hx172
              replace hS : Sat w0 w171 [Box b130 46 [.int .i64 a0, v141], Own (sliceR (sliceR intR 3) 24) [v141] x140, Box b111 46 [.int .i64 0, (.slice none 0 0)], Box b107 46 [.int .i64 a2, u3]] := hS.tops 4 [1] rfl
              have hC := (hCd _).2 ⟨_, hS⟩
              refine al_p (v := .pointer (some ⟨b130, 0 + 1, none⟩)) (by kernel_rfl) 0 rfl rfl (by decide) hC (by kernel_rfl) (by kernel_rfl) (sv_on rfl (fun w' hw' => by obtain ⟨_, hS⟩ := (hCd _).1 hw'; exact (pv_fieldAddr he145))) ?_
              refine al_p (v := v141) (by kernel_rfl) 1 rfl rfl (by decide) hC (by kernel_rfl) (by kernel_rfl) (sv_on rfl (fun w' hw' => by obtain ⟨_, hS⟩ := (hCd _).1 hw'; exact (pv_loadc rfl ((hS.boxAt 0 rfl) 1 _ rfl)))) ?_
              refine al_p (v := v164) (by kernel_rfl) 2 rfl rfl (by decide) hC (by kernel_rfl) (by kernel_rfl) (sv_on rfl (fun w' hw' => by obtain ⟨_, hS⟩ := (hCd _).1 hw'; exact (pv_move rfl))) ?_
              refine al_one 3 (by kernel_rfl) rfl ?_
              replace hF := ob hF
              obtain ⟨r173, hr173, hF⟩ := hF
              refine el_call goes65 (impl_copyInts_ok (hS.up hr162) hr173) (congrArg List.toArray (mapc rfl rfl)) (by decide) ?_
              rintro _ w176 ⟨v174, rfl, hS'⟩
              refine ⟨_, rfl, ?_⟩
              have hx177 := hS'.below
              replace hS := hS.call1 hS'
              refine el_nil ?_
              replace hS : Sat w0 w176 [Box b130 46 [.int .i64 a0, v141], Own (sliceR intR 3) [v174] r173, Own (sliceR (sliceR intR 3) 24) [v141] x140, Box b111 46 [.int .i64 0, (.slice none 0 0)], Box b107 46 [.int .i64 a2, u3]] := hS.tops 5 [1] rfl
              have hC := (hCd _).2 ⟨_, hS⟩
              refine ⟨fun _ => hC, ?_⟩
              refine al_one 4 (by kernel_rfl) rfl ?_
              refine el_buildSlice1 [v174] (cells_of rfl (oc (hS.rdAt (R := (sliceR intR 3)) 1 rfl))) (by rfl) (by decide) rfl (by decide) hS (by decide) ?_
              intro w178 b180 hS hx179
              refine el_nil ?_
              replace hS : Sat w0 w178 [Box b130 46 [.int .i64 a0, v141], Box b180 24 [v174], Own (sliceR intR 3) [v174] r173, Own (sliceR (sliceR intR 3) 24) [v141] x140, Box b111 46 [.int .i64 0, (.slice none 0 0)], Box b107 46 [.int .i64 a2, u3]] := hS.tops 6 [1] rfl
              have hC := (hCd _).2 ⟨_, hS⟩
              refine ⟨fun _ => hC, ?_⟩
              refine al_one 5 (by kernel_rfl) rfl ?_
              replace hF := ob hF
              obtain ⟨x184, hx184, hF⟩ := hF
              have hrow185 := hS.boxRow 1 rfl
              replace hS : Sat w0 w178 [Own (sliceR (sliceR intR 3) 24) [v141] x140, Box b130 46 [.int .i64 a0, v141], Box b180 24 [v174], Own (sliceR intR 3) [v174] r173, Box b111 46 [.int .i64 0, (.slice none 0 0)], Box b107 46 [.int .i64 a2, u3]] := hS.top 3 rfl
              replace hS : Sat w0 w178 [Own (sliceR intR 3) [v174] r173, Own (sliceR (sliceR intR 3) 24) [v141] x140, Box b130 46 [.int .i64 a0, v141], Box b180 24 [v174], Box b111 46 [.int .i64 0, (.slice none 0 0)], Box b107 46 [.int .i64 a2, u3]] := hS.top 3 rfl
              replace hS := hS.one
              refine el_append rfl (by decide) rfl (by decide) hS rfl rfl rfl (by simp) hrow185 hx184 (by decide) ?_
              intro w182 v183 hS
              refine el_nil ?_
              replace hS : Sat w0 w182 [Box b130 46 [.int .i64 a0, v141], Own (sliceR (sliceR intR 3) 24) [v183] x184, Box b180 24 [v174], Box b111 46 [.int .i64 0, (.slice none 0 0)], Box b107 46 [.int .i64 a2, u3]] := hS.tops 5 [1] rfl
              have hC := (hCd _).2 ⟨_, hS⟩
              refine ⟨fun _ => hC, ?_⟩
              refine al_p (v := .pointer (some ⟨b130, 0 + 1, none⟩)) (by kernel_rfl) 6 rfl rfl (by decide) hC (by kernel_rfl) (by kernel_rfl) (sv_on rfl (fun w' hw' => by obtain ⟨_, hS⟩ := (hCd _).1 hw'; exact (pv_fieldAddr he145))) ?_
              refine al_one 7 (by kernel_rfl) rfl ?_
              refine el_storev (hS.top 0 rfl) rfl [v183] (cells_of rfl (oc (hS.rdAt (R := (sliceR (sliceR intR 3) 24)) 1 rfl))) rfl (of_decide_eq_true rfl) (all_cons (oc (hS.rdAt (R := (sliceR (sliceR intR 3) 24)) 1 rfl)) rfl) ?_
              intro w187 hS
              replace hS : Sat w0 w187 [Box b130 46 [.int .i64 a0, v183], Own (sliceR (sliceR intR 3) 24) [v183] x184, Box b180 24 [v174], Box b111 46 [.int .i64 0, (.slice none 0 0)], Box b107 46 [.int .i64 a2, u3]] := hS
              refine el_nil ?_
              refine ⟨fun h => (nomatch (show false = true from h)), ?_⟩
              refine al_nil (by kernel_rfl) ?_
              refine hQ156 _ _ _ ?_
              refine inb_n ?_
              refine hQ155 _ _ _ ?_
              refine thn_n ?_
              replace hS : Sat w0 w187 [Box b130 46 [.int .i64 a0, v183], Own (sliceR (sliceR intR 3) 24) [v183] x184, Box b111 46 [.int .i64 0, (.slice none 0 0)], Box b107 46 [.int .i64 a2, u3]] := hS.rems 5 [2] rfl
              refine cw_reg ?_
              replace hF := ob hF
              obtain ⟨x188, hx188, hF⟩ := hF
              refine el_pv (v := .int .i64 x188) (pv_add he148 rfl hx188) (by decide) ?_
              refine el_pv (v := .int .i64 x188) (pv_move rfl) (by decide) ?_
              refine el_nil ?_
              refine hQ151 _ _ _ ?_
              refine thn_n ?_
              replace hS : Sat w0 w187 [Own (sliceR (sliceR intR 3) 24) [v183] x184, Box b130 46 [.int .i64 a0, v183], Box b111 46 [.int .i64 0, (.slice none 0 0)], Box b107 46 [.int .i64 a2, u3]] := hS.tops 4 [1, 0, 2, 3] rfl
              replace hS := hS.keep 4
              exact ⟨v183, x184, x188, he143, he144, he145, he146, he147, rfl, hS, hF⟩
          · refine cw_cond_f rfl hb154 ?_
            refine cw_exit ?_
            refine hQ153 _ _ _ ?_
            refine thn_x ?_
            refine hQ151 _ _ _ ?_
            refine thn_x ?_
            replace hF := exB hF hK139
            refine hQ136 _ _ _ ?_
            refine inb_s ?_
            refine hQ134 _ _ _ ?_
            refine thn_n ?_
            refine cw_seq ?_
            refine cw_gen ?_
            intro Q189 hQ189
            replace hS : Sat w0 w149 [Own (sliceR (sliceR intR 3) 24) [v141] x140, Box b130 46 [.int .i64 a0, v141], Box b111 46 [.int .i64 0, (.slice none 0 0)]] := hS.rems 4 [3] rfl
            refine cw_reg ?_
            refine el_pv (v := .agg #[.int .i64 a0, v141]) (pv_loada (cs := [.int .i64 a0, v141]) he145 rfl (boxc0 (hS.boxAt 1 rfl))) (by decide) ?_
            refine el_storev (hS.top 2 rfl) he144 [.int .i64 a0, v141] rfl rfl (of_decide_eq_true rfl) (all_cons rfl (all_cons (oc (hS.rdAt (R := (sliceR (sliceR intR 3) 24)) 0 rfl)) rfl)) ?_
            intro w190 hS
            replace hS : Sat w0 w190 [Box b111 46 [.int .i64 a0, v141], Own (sliceR (sliceR intR 3) 24) [v141] x140, Box b130 46 [.int .i64 a0, v141]] := hS
            refine el_pv (v := .bool true) (pv_assign rfl) (by decide) ?_
            refine el_nil ?_
            refine hQ189 _ _ _ ?_
            refine thn_n ?_
            refine cw_ret ?_
            refine finCT (cs := [.int .i64 a0, v141]) rfl he144 rfl (boxc0 (hS.boxAt 0 rfl)) rfl ?_
            replace hS : Sat w0 w190 [Own (sliceR (sliceR intR 3) 24) [v141] x140, Box b111 46 [.int .i64 a0, v141], Box b130 46 [.int .i64 a0, v141]] := hS.tops 3 [1] rfl
            have hr := Option.some.inj hF
            exact ⟨v141, congrArg (fun (r : (Int × List (List Int)) × Bool) => Ending.returned (.tuple #[.agg #[.int .i64 r.1.1, v141], .bool r.2])) hr, Eq.mp (congrArg (fun (r : (Int × List (List Int)) × Bool) => Sat w0 w190 [Own (sliceR (sliceR intR 3) 24) [v141] r.1.2]) hr) (hS.keep 1)⟩
    · refine el_off rfl (bnot_f hb123) rfl (by decide) ?_
      refine el_off rfl (bnot_f hb123) rfl (by decide) ?_
      refine el_off rfl (bnot_f hb123) rfl (by decide) ?_
      refine el_off rfl (bnot_f hb123) rfl (by decide) ?_
      refine el_off rfl (bnot_f hb123) rfl (by decide) ?_
      refine el_pv (v := .bool true) (pv_pick_t rfl (bnot_f hb123) rfl) (by decide) ?_
      refine el_nil ?_
      refine hQ115 _ _ _ ?_
      refine thn_n ?_
      refine cw_cond_t rfl rfl ?_
      refine cw_seq ?_
      refine cw_gen ?_
      intro Q191 hQ191
      replace hS : Sat w0 w121 [Box b111 46 [.int .i64 0, (.slice none 0 0)]] := hS.rems 3 [1, 2] rfl
      refine cw_reg ?_
      refine el_pv (v := .agg #[.int .i64 0, (.slice none 0 0)]) (pv_build [] [.int .i64 0, (.slice none 0 0)] rfl rfl) (by decide) ?_
      refine el_storev (hS.top 0 rfl) rfl [.int .i64 0, (.slice none 0 0)] rfl rfl (of_decide_eq_true rfl) (all_cons rfl (all_cons rfl rfl)) ?_
      intro w192 hS
      replace hS : Sat w0 w192 [Box b111 46 [.int .i64 0, (.slice none 0 0)]] := hS
      refine el_pv (v := .bool false) (pv_assign rfl) (by decide) ?_
      refine el_nil ?_
      refine hQ191 _ _ _ ?_
      refine thn_n ?_
      refine cw_ret ?_
      refine hQ114 _ _ _ ?_
      refine thn_r ?_
      replace hS := hS.nil (sliceR intR 3) 24
      refine finCT (cs := [.int .i64 0, (.slice none 0 0)]) rfl rfl rfl (boxc0 (hS.boxAt 1 rfl)) rfl ?_
      have hr := Option.some.inj hF
      exact ⟨(.slice none 0 0), congrArg (fun (r : (Int × List (List Int)) × Bool) => Ending.returned (.tuple #[.agg #[.int .i64 r.1.1, (.slice none 0 0)], .bool r.2])) hr, Eq.mp (congrArg (fun (r : (Int × List (List Int)) × Bool) => Sat w0 w192 [Own (sliceR (sliceR intR 3) 24) [(.slice none 0 0)] r.1.2]) hr) (hS.keep 1)⟩
  · refine el_off rfl (bnot_f hb119) rfl (by decide) ?_
    refine el_off rfl (bnot_f hb119) rfl (by decide) ?_
    refine el_off rfl (bnot_f hb119) rfl (by decide) ?_
    refine el_pv (v := .bool true) (pv_pick_t rfl (bnot_f hb119) rfl) (by decide) ?_
    refine el_pv (v := .bool true) (pv_move rfl) (by decide) ?_
    refine el_off rfl rfl rfl (by decide) ?_
    refine el_off rfl rfl rfl (by decide) ?_
    refine el_off rfl rfl rfl (by decide) ?_
    refine el_off rfl rfl rfl (by decide) ?_
    refine el_off rfl rfl rfl (by decide) ?_
    refine el_pv (v := .bool true) (pv_pick_t rfl rfl rfl) (by decide) ?_
    refine el_nil ?_
    refine hQ115 _ _ _ ?_
    refine thn_n ?_
    refine cw_cond_t rfl rfl ?_
    refine cw_seq ?_
    refine cw_gen ?_
    intro Q194 hQ194
    replace hS : Sat w0 w117 [Box b111 46 [.int .i64 0, (.slice none 0 0)]] := hS.rems 3 [1, 2] rfl
    refine cw_reg ?_
    refine el_pv (v := .agg #[.int .i64 0, (.slice none 0 0)]) (pv_build [] [.int .i64 0, (.slice none 0 0)] rfl rfl) (by decide) ?_
    refine el_storev (hS.top 0 rfl) rfl [.int .i64 0, (.slice none 0 0)] rfl rfl (of_decide_eq_true rfl) (all_cons rfl (all_cons rfl rfl)) ?_
    intro w195 hS
    replace hS : Sat w0 w195 [Box b111 46 [.int .i64 0, (.slice none 0 0)]] := hS
    refine el_pv (v := .bool false) (pv_assign rfl) (by decide) ?_
    refine el_nil ?_
    refine hQ194 _ _ _ ?_
    refine thn_n ?_
    refine cw_ret ?_
    refine hQ114 _ _ _ ?_
    refine thn_r ?_
    replace hS := hS.nil (sliceR intR 3) 24
    refine finCT (cs := [.int .i64 0, (.slice none 0 0)]) rfl rfl rfl (boxc0 (hS.boxAt 1 rfl)) rfl ?_
    have hr := Option.some.inj hF
    exact ⟨(.slice none 0 0), congrArg (fun (r : (Int × List (List Int)) × Bool) => Ending.returned (.tuple #[.agg #[.int .i64 r.1.1, (.slice none 0 0)], .bool r.2])) hr, Eq.mp (congrArg (fun (r : (Int × List (List Int)) × Bool) => Sat w0 w195 [Own (sliceR (sliceR intR 3) 24) [(.slice none 0 0)] r.1.2]) hr) (hS.keep 1)⟩
set_option maxHeartbeats 4000000 in
theorem impl_DiffDatabases_ok {w0 : World} {u0 : Value} {a0 : List (ByteArray × (Int × List (List Int)))} {u1 : Value} {a1 : List (ByteArray × (Int × List (List Int)))} {a2 : ByteArray} (ha0 : (sliceR (pairR strR (pairR intR (sliceR (sliceR intR 3) 24))) 80).rd w0 [u0] a0) (ha1 : (sliceR (pairR strR (pairR intR (sliceR (sliceR intR 3) 24))) 80).rd w0 [u1] a1) (ha2 : a2.size ≤ 9223372036854775807) {N : Nat} {r : (ByteArray × (Int × List (List Int)) × (Int × List (List Int))) × Bool} (hF : impl_DiffDatabases N a0 a1 a2 = some r) :
    Calls Try.prog 24 #[.agg #[u0], .agg #[u1], .string a2] w0 fun e w' => ∃ (q0 : Value) (q1 : Value), e = .returned (.tuple #[.agg #[.string r.1.1, .int .i64 r.1.2.1.1, q0, .int .i64 r.1.2.2.1, q1], .bool r.2]) ∧ Sat w0 w' [Own (sliceR (sliceR intR 3) 24) [q0] r.1.2.1.2, Own (sliceR (sliceR intR 3) 24) [q1] r.1.2.2.2] ∧ r.1.1.size ≤ 9223372036854775807 := by
  unfold impl_DiffDatabases at hF
  refine calls_E Try.func24 rfl rfl (of_decide_eq_true rfl) ?_
  have hS := Sat.start w0
  refine cw_seq ?_
  refine cw_gen ?_
  intro Q101 hQ101
  refine cw_reg ?_
  refine el_box [u0] rfl hS (by decide) ?_
  intro w102 b103 hS hx104
  refine el_box [u1] rfl hS (by decide) ?_
  intro w106 b107 hS hx108
  refine el_alloc hS (by decide) ?_
  intro w110 b111 hS hx112
  refine el_pv (v := .bool false) (pv_assign rfl) (by decide) ?_
  refine el_nil ?_
  refine hQ101 _ _ _ ?_
  refine thn_n ?_
  refine cw_seq ?_
  refine cw_gen ?_
  intro Q114 hQ114
  refine cw_reg ?_
  refine el_pv (v := .agg #[u0]) (pv_loada (cs := [u0]) rfl rfl (boxc0 (hS.boxAt 2 rfl))) (by decide) ?_
  refine el_pv (v := .string a2) (pv_move rfl) (by decide) ?_
  replace hF := ob hF
  obtain ⟨r115, hr115, hF⟩ := hF
  refine el_call goes46 (impl_LookupRelation_ok (hS.up ha0) ha2 hr115) (congrArg List.toArray (mapc rfl (mapc rfl rfl))) (by decide) ?_
  rintro _ w118 ⟨v116, rfl, hS'⟩
  refine ⟨_, rfl, ?_⟩
  have hx119 := hS'.below
  replace hS := hS.call1 hS'
  refine el_pv (v := .tuple #[.agg #[.int .i64 r115.1.1, v116], .bool r115.2]) (pv_move rfl) (by decide) ?_
  refine el_pv (v := .agg #[.int .i64 r115.1.1, v116]) (pv_extract rfl rfl) (by decide) ?_
  refine el_pv (v := .bool r115.2) (pv_extract rfl rfl) (by decide) ?_
  refine el_alloc hS (by decide) ?_
  intro w120 b121 hS hx122
  refine el_storev (hS.top 0 rfl) rfl [.int .i64 r115.1.1, v116] rfl rfl (of_decide_eq_true rfl) (all_cons rfl (all_cons (oc (hS.rdAt (R := (sliceR (sliceR intR 3) 24)) 1 rfl)) rfl)) ?_
  intro w124 hS
  replace hS : Sat w0 w124 [Box b121 46 [.int .i64 r115.1.1, v116], Own (sliceR (sliceR intR 3) 24) [v116] r115.1.2, Box b111 48 [.string ByteArray.empty, .int .i64 0, (.slice none 0 0), .int .i64 0, (.slice none 0 0)], Box b107 44 [u1], Box b103 44 [u0]] := hS
  refine el_pv (v := .bool r115.2) (pv_assign rfl) (by decide) ?_
  refine el_nil ?_
  refine hQ114 _ _ _ ?_
  refine thn_n ?_
  refine cw_seq ?_
  refine cw_gen ?_
  intro Q125 hQ125
  replace hS : Sat w0 w124 [Box b121 46 [.int .i64 r115.1.1, v116], Own (sliceR (sliceR intR 3) 24) [v116] r115.1.2, Box b111 48 [.string ByteArray.empty, .int .i64 0, (.slice none 0 0), .int .i64 0, (.slice none 0 0)], Box b107 44 [u1]] := hS.rems 5 [4] rfl
  refine cw_reg ?_
  refine el_pv (v := .agg #[u1]) (pv_loada (cs := [u1]) rfl rfl (boxc0 (hS.boxAt 3 rfl))) (by decide) ?_
  refine el_pv (v := .string a2) (pv_move rfl) (by decide) ?_
  replace hF := ob hF
  obtain ⟨r126, hr126, hF⟩ := hF
  refine el_call goes46 (impl_LookupRelation_ok (hS.up ha1) ha2 hr126) (congrArg List.toArray (mapc rfl (mapc rfl rfl))) (by decide) ?_
  rintro _ w129 ⟨v127, rfl, hS'⟩
  refine ⟨_, rfl, ?_⟩
  have hx130 := hS'.below
  replace hS := hS.call1 hS'
  refine el_pv (v := .tuple #[.agg #[.int .i64 r126.1.1, v127], .bool r126.2]) (pv_move rfl) (by decide) ?_
  refine el_pv (v := .agg #[.int .i64 r126.1.1, v127]) (pv_extract rfl rfl) (by decide) ?_
  refine el_pv (v := .bool r126.2) (pv_extract rfl rfl) (by decide) ?_
  refine el_alloc hS (by decide) ?_
  intro w131 b132 hS hx133
  refine el_storev (hS.top 0 rfl) rfl [.int .i64 r126.1.1, v127] rfl rfl (of_decide_eq_true rfl) (all_cons rfl (all_cons (oc (hS.rdAt (R := (sliceR (sliceR intR 3) 24)) 1 rfl)) rfl)) ?_
  intro w135 hS
  replace hS : Sat w0 w135 [Box b132 46 [.int .i64 r126.1.1, v127], Own (sliceR (sliceR intR 3) 24) [v127] r126.1.2, Box b121 46 [.int .i64 r115.1.1, v116], Own (sliceR (sliceR intR 3) 24) [v116] r115.1.2, Box b111 48 [.string ByteArray.empty, .int .i64 0, (.slice none 0 0), .int .i64 0, (.slice none 0 0)], Box b107 44 [u1]] := hS
  refine el_pv (v := .bool r126.2) (pv_assign rfl) (by decide) ?_
  refine el_nil ?_
  refine hQ125 _ _ _ ?_
  refine thn_n ?_
  refine cw_seq ?_
  refine cw_gen ?_
  intro Q136 hQ136
  refine cw_seq ?_
  refine cw_gen ?_
  intro Q137 hQ137
  replace hS : Sat w0 w135 [Box b132 46 [.int .i64 r126.1.1, v127], Own (sliceR (sliceR intR 3) 24) [v127] r126.1.2, Box b121 46 [.int .i64 r115.1.1, v116], Own (sliceR (sliceR intR 3) 24) [v116] r115.1.2, Box b111 48 [.string ByteArray.empty, .int .i64 0, (.slice none 0 0), .int .i64 0, (.slice none 0 0)]] := hS.rems 6 [5] rfl
  refine cw_reg ?_
  refine el_pv (v := .bool r115.2) (pv_move rfl) (by decide) ?_
  refine el_pv (v := .bool (!r115.2)) (pv_not rfl) (by decide) ?_
  refine el_pv (v := .bool (!r115.2)) (pv_move rfl) (by decide) ?_
  replace hF := oif hF
  rcases hF with ⟨hb138, hF⟩ | ⟨hb138, hF⟩
  · refine el_on rfl (bnot_t hb138) ?_
    refine el_pv (v := .bool r126.2) (pv_move rfl) (by decide) ?_
    refine el_on rfl (bnot_t hb138) ?_
    refine el_pv (v := .bool (!r126.2)) (pv_not rfl) (by decide) ?_
    refine el_pv (v := .bool (!r126.2)) (pv_pick_f rfl (bnot_t hb138) rfl) (by decide) ?_
    refine el_pv (v := .bool (!r126.2)) (pv_move rfl) (by decide) ?_
    replace hF := oif hF
    rcases hF with ⟨hb139, hF⟩ | ⟨hb139, hF⟩
    · refine el_on rfl (bnot_t hb139) ?_
      refine el_pv (v := .pointer (some ⟨b121, 0 + 0, none⟩)) (pv_fieldAddr rfl) (by decide) ?_
      refine el_on rfl (bnot_t hb139) ?_
      refine el_pv (v := .int .i64 r115.1.1) (pv_loadc rfl ((hS.boxAt 2 rfl) 0 _ rfl)) (by decide) ?_
      refine el_on rfl (bnot_t hb139) ?_
      refine el_pv (v := .pointer (some ⟨b132, 0 + 0, none⟩)) (pv_fieldAddr rfl) (by decide) ?_
      refine el_on rfl (bnot_t hb139) ?_
      refine el_pv (v := .int .i64 r126.1.1) (pv_loadc rfl ((hS.boxAt 0 rfl) 0 _ rfl)) (by decide) ?_
      refine el_on rfl (bnot_t hb139) ?_
      refine el_pv (v := .bool (r115.1.1 != r126.1.1)) (pv_neq rfl rfl) (by decide) ?_
      refine el_pv (v := .bool (r115.1.1 != r126.1.1)) (pv_pick_f rfl (bnot_t hb139) rfl) (by decide) ?_
      refine el_nil ?_
      refine hQ137 _ _ _ ?_
      refine thn_n ?_
      replace hF := oif hF
      rcases hF with ⟨hb140, hF⟩ | ⟨hb140, hF⟩
      · refine cw_cond_t rfl hb140 ?_
        refine cw_seq ?_
        refine cw_gen ?_
        intro Q141 hQ141
        replace hS : Sat w0 w135 [Box b111 48 [.string ByteArray.empty, .int .i64 0, (.slice none 0 0), .int .i64 0, (.slice none 0 0)]] := hS.rems 5 [0, 1, 2, 3] rfl
        refine cw_reg ?_
        refine el_pv (v := .agg #[.string ByteArray.empty, .int .i64 0, (.slice none 0 0), .int .i64 0, (.slice none 0 0)]) (pv_build [] [.string ByteArray.empty, .int .i64 0, (.slice none 0 0), .int .i64 0, (.slice none 0 0)] rfl rfl) (by decide) ?_
        refine el_storev (hS.top 0 rfl) rfl [.string ByteArray.empty, .int .i64 0, (.slice none 0 0), .int .i64 0, (.slice none 0 0)] rfl rfl (of_decide_eq_true rfl) (all_cons rfl (all_cons rfl (all_cons rfl (all_cons rfl (all_cons rfl rfl))))) ?_
        intro w142 hS
        replace hS : Sat w0 w142 [Box b111 48 [.string ByteArray.empty, .int .i64 0, (.slice none 0 0), .int .i64 0, (.slice none 0 0)]] := hS
        refine el_pv (v := .bool false) (pv_assign rfl) (by decide) ?_
        refine el_nil ?_
        refine hQ141 _ _ _ ?_
        refine thn_n ?_
        refine cw_ret ?_
        refine hQ136 _ _ _ ?_
        refine thn_r ?_
        replace hS := hS.nil (sliceR intR 3) 24
        replace hS := hS.nil (sliceR intR 3) 24
        refine finCT (cs := [.string ByteArray.empty, .int .i64 0, (.slice none 0 0), .int .i64 0, (.slice none 0 0)]) rfl rfl rfl (boxc0 (hS.boxAt 2 rfl)) rfl ?_
        replace hS : Sat w0 w142 [Own (sliceR (sliceR intR 3) 24) [(.slice none 0 0)] [], Own (sliceR (sliceR intR 3) 24) [(.slice none 0 0)] [], Box b111 48 [.string ByteArray.empty, .int .i64 0, (.slice none 0 0), .int .i64 0, (.slice none 0 0)]] := hS.tops 3 [1, 0] rfl
        have hr := Option.some.inj hF
        exact ⟨(.slice none 0 0), (.slice none 0 0), congrArg (fun (r : (ByteArray × (Int × List (List Int)) × (Int × List (List Int))) × Bool) => Ending.returned (.tuple #[.agg #[.string r.1.1, .int .i64 r.1.2.1.1, (.slice none 0 0), .int .i64 r.1.2.2.1, (.slice none 0 0)], .bool r.2])) hr, Eq.mp (congrArg (fun (r : (ByteArray × (Int × List (List Int)) × (Int × List (List Int))) × Bool) => Sat w0 w142 [Own (sliceR (sliceR intR 3) 24) [(.slice none 0 0)] r.1.2.1.2, Own (sliceR (sliceR intR 3) 24) [(.slice none 0 0)] r.1.2.2.2]) hr) (hS.keep 2), Eq.mp (congrArg (fun (r : (ByteArray × (Int × List (List Int)) × (Int × List (List Int))) × Bool) => r.1.1.size ≤ 9223372036854775807) hr) (by decide)⟩
      · refine cw_cond_f rfl hb140 ?_
        refine cw_skip ?_
        refine hQ136 _ _ _ ?_
        refine thn_n ?_
        refine cw_seq ?_
        refine cw_gen ?_
        intro Q145 hQ145
        refine cw_reg ?_
        refine el_pv (v := .agg #[.int .i64 r126.1.1, v127]) (pv_loada (cs := [.int .i64 r126.1.1, v127]) rfl rfl (boxc0 (hS.boxAt 0 rfl))) (by decide) ?_
        refine el_pv (v := .agg #[.int .i64 r115.1.1, v116]) (pv_loada (cs := [.int .i64 r115.1.1, v116]) rfl rfl (boxc0 (hS.boxAt 2 rfl))) (by decide) ?_
        replace hF := ob hF
        obtain ⟨r146, hr146, hF⟩ := hF
        refine el_call goes47 (impl_Difference_ok (hS.rdAt (R := (sliceR (sliceR intR 3) 24)) 1 rfl) (hS.rdAt (R := (sliceR (sliceR intR 3) 24)) 3 rfl) hr146) (congrArg List.toArray (mapc rfl (mapc rfl rfl))) (by decide) ?_
        rintro _ w149 ⟨v147, rfl, hS'⟩
        refine ⟨_, rfl, ?_⟩
        have hx150 := hS'.below
        replace hS := hS.call1 hS'
        refine el_pv (v := .tuple #[.agg #[.int .i64 r146.1.1, v147], .bool r146.2]) (pv_move rfl) (by decide) ?_
        refine el_pv (v := .agg #[.int .i64 r146.1.1, v147]) (pv_extract rfl rfl) (by decide) ?_
        refine el_pv (v := .bool r146.2) (pv_extract rfl rfl) (by decide) ?_
        refine el_alloc hS (by decide) ?_
        intro w151 b152 hS hx153
        refine el_storev (hS.top 0 rfl) rfl [.int .i64 r146.1.1, v147] rfl rfl (of_decide_eq_true rfl) (all_cons rfl (all_cons (oc (hS.rdAt (R := (sliceR (sliceR intR 3) 24)) 1 rfl)) rfl)) ?_
        intro w155 hS
        replace hS : Sat w0 w155 [Box b152 46 [.int .i64 r146.1.1, v147], Own (sliceR (sliceR intR 3) 24) [v147] r146.1.2, Box b132 46 [.int .i64 r126.1.1, v127], Own (sliceR (sliceR intR 3) 24) [v127] r126.1.2, Box b121 46 [.int .i64 r115.1.1, v116], Own (sliceR (sliceR intR 3) 24) [v116] r115.1.2, Box b111 48 [.string ByteArray.empty, .int .i64 0, (.slice none 0 0), .int .i64 0, (.slice none 0 0)]] := hS
        refine el_pv (v := .bool r146.2) (pv_assign rfl) (by decide) ?_
        refine el_nil ?_
        refine hQ145 _ _ _ ?_
        refine thn_n ?_
        refine cw_seq ?_
        refine cw_gen ?_
        intro Q156 hQ156
        refine cw_reg ?_
        refine el_pv (v := .agg #[.int .i64 r115.1.1, v116]) (pv_loada (cs := [.int .i64 r115.1.1, v116]) rfl rfl (boxc0 (hS.boxAt 4 rfl))) (by decide) ?_
        refine el_pv (v := .agg #[.int .i64 r126.1.1, v127]) (pv_loada (cs := [.int .i64 r126.1.1, v127]) rfl rfl (boxc0 (hS.boxAt 2 rfl))) (by decide) ?_
        replace hF := ob hF
        obtain ⟨r157, hr157, hF⟩ := hF
        refine el_call goes47 (impl_Difference_ok (hS.rdAt (R := (sliceR (sliceR intR 3) 24)) 5 rfl) (hS.rdAt (R := (sliceR (sliceR intR 3) 24)) 3 rfl) hr157) (congrArg List.toArray (mapc rfl (mapc rfl rfl))) (by decide) ?_
        rintro _ w160 ⟨v158, rfl, hS'⟩
        refine ⟨_, rfl, ?_⟩
        have hx161 := hS'.below
        replace hS := hS.call1 hS'
        refine el_pv (v := .tuple #[.agg #[.int .i64 r157.1.1, v158], .bool r157.2]) (pv_move rfl) (by decide) ?_
        refine el_pv (v := .agg #[.int .i64 r157.1.1, v158]) (pv_extract rfl rfl) (by decide) ?_
        refine el_pv (v := .bool r157.2) (pv_extract rfl rfl) (by decide) ?_
        refine el_alloc hS (by decide) ?_
        intro w162 b163 hS hx164
        refine el_storev (hS.top 0 rfl) rfl [.int .i64 r157.1.1, v158] rfl rfl (of_decide_eq_true rfl) (all_cons rfl (all_cons (oc (hS.rdAt (R := (sliceR (sliceR intR 3) 24)) 1 rfl)) rfl)) ?_
        intro w166 hS
        replace hS : Sat w0 w166 [Box b163 46 [.int .i64 r157.1.1, v158], Own (sliceR (sliceR intR 3) 24) [v158] r157.1.2, Box b152 46 [.int .i64 r146.1.1, v147], Own (sliceR (sliceR intR 3) 24) [v147] r146.1.2, Box b132 46 [.int .i64 r126.1.1, v127], Own (sliceR (sliceR intR 3) 24) [v127] r126.1.2, Box b121 46 [.int .i64 r115.1.1, v116], Own (sliceR (sliceR intR 3) 24) [v116] r115.1.2, Box b111 48 [.string ByteArray.empty, .int .i64 0, (.slice none 0 0), .int .i64 0, (.slice none 0 0)]] := hS
        refine el_pv (v := .bool r157.2) (pv_assign rfl) (by decide) ?_
        refine el_nil ?_
        refine hQ156 _ _ _ ?_
        refine thn_n ?_
        refine cw_seq ?_
        refine cw_gen ?_
        intro Q167 hQ167
        replace hS : Sat w0 w166 [Box b163 46 [.int .i64 r157.1.1, v158], Own (sliceR (sliceR intR 3) 24) [v158] r157.1.2, Box b152 46 [.int .i64 r146.1.1, v147], Own (sliceR (sliceR intR 3) 24) [v147] r146.1.2, Box b111 48 [.string ByteArray.empty, .int .i64 0, (.slice none 0 0), .int .i64 0, (.slice none 0 0)]] := hS.rems 9 [4, 5, 6, 7] rfl
        refine cw_reg ?_
        refine el_pv (v := .string a2) (pv_move rfl) (by decide) ?_
        refine el_pv (v := .agg #[.int .i64 r146.1.1, v147]) (pv_loada (cs := [.int .i64 r146.1.1, v147]) rfl rfl (boxc0 (hS.boxAt 2 rfl))) (by decide) ?_
        refine el_pv (v := .agg #[.int .i64 r157.1.1, v158]) (pv_loada (cs := [.int .i64 r157.1.1, v158]) rfl rfl (boxc0 (hS.boxAt 0 rfl))) (by decide) ?_
        refine el_pv (v := .agg #[.string a2, .int .i64 r146.1.1, v147, .int .i64 r157.1.1, v158]) (pv_build [(0, [.string a2]), (1, [.int .i64 r146.1.1, v147]), (2, [.int .i64 r157.1.1, v158])] [.string a2, .int .i64 r146.1.1, v147, .int .i64 r157.1.1, v158] (partc rfl (partc rfl (partc rfl rfl))) rfl) (by decide) ?_
        refine el_storev (hS.top 4 rfl) rfl [.string a2, .int .i64 r146.1.1, v147, .int .i64 r157.1.1, v158] rfl rfl (of_decide_eq_true rfl) (all_cons rfl (all_cons rfl (all_cons (oc (hS.rdAt (R := (sliceR (sliceR intR 3) 24)) 3 rfl)) (all_cons rfl (all_cons (oc (hS.rdAt (R := (sliceR (sliceR intR 3) 24)) 1 rfl)) rfl))))) ?_
        intro w168 hS
        replace hS : Sat w0 w168 [Box b111 48 [.string a2, .int .i64 r146.1.1, v147, .int .i64 r157.1.1, v158], Box b163 46 [.int .i64 r157.1.1, v158], Own (sliceR (sliceR intR 3) 24) [v158] r157.1.2, Box b152 46 [.int .i64 r146.1.1, v147], Own (sliceR (sliceR intR 3) 24) [v147] r146.1.2] := hS
        refine el_pv (v := .bool true) (pv_assign rfl) (by decide) ?_
        refine el_nil ?_
        refine hQ167 _ _ _ ?_
        refine thn_n ?_
        refine cw_ret ?_
        refine finCT (cs := [.string a2, .int .i64 r146.1.1, v147, .int .i64 r157.1.1, v158]) rfl rfl rfl (boxc0 (hS.boxAt 0 rfl)) rfl ?_
        replace hS : Sat w0 w168 [Own (sliceR (sliceR intR 3) 24) [v147] r146.1.2, Own (sliceR (sliceR intR 3) 24) [v158] r157.1.2, Box b111 48 [.string a2, .int .i64 r146.1.1, v147, .int .i64 r157.1.1, v158], Box b163 46 [.int .i64 r157.1.1, v158], Box b152 46 [.int .i64 r146.1.1, v147]] := hS.tops 5 [4, 2] rfl
        have hr := Option.some.inj hF
        exact ⟨v147, v158, congrArg (fun (r : (ByteArray × (Int × List (List Int)) × (Int × List (List Int))) × Bool) => Ending.returned (.tuple #[.agg #[.string r.1.1, .int .i64 r.1.2.1.1, v147, .int .i64 r.1.2.2.1, v158], .bool r.2])) hr, Eq.mp (congrArg (fun (r : (ByteArray × (Int × List (List Int)) × (Int × List (List Int))) × Bool) => Sat w0 w168 [Own (sliceR (sliceR intR 3) 24) [v147] r.1.2.1.2, Own (sliceR (sliceR intR 3) 24) [v158] r.1.2.2.2]) hr) (hS.keep 2), Eq.mp (congrArg (fun (r : (ByteArray × (Int × List (List Int)) × (Int × List (List Int))) × Bool) => r.1.1.size ≤ 9223372036854775807) hr) ha2⟩
    · refine el_off rfl (bnot_f hb139) rfl (by decide) ?_
      refine el_off rfl (bnot_f hb139) rfl (by decide) ?_
      refine el_off rfl (bnot_f hb139) rfl (by decide) ?_
      refine el_off rfl (bnot_f hb139) rfl (by decide) ?_
      refine el_off rfl (bnot_f hb139) rfl (by decide) ?_
      refine el_pv (v := .bool true) (pv_pick_t rfl (bnot_f hb139) rfl) (by decide) ?_
      refine el_nil ?_
      refine hQ137 _ _ _ ?_
      refine thn_n ?_
      refine cw_cond_t rfl rfl ?_
      refine cw_seq ?_
      refine cw_gen ?_
      intro Q169 hQ169
      replace hS : Sat w0 w135 [Box b111 48 [.string ByteArray.empty, .int .i64 0, (.slice none 0 0), .int .i64 0, (.slice none 0 0)]] := hS.rems 5 [0, 1, 2, 3] rfl
      refine cw_reg ?_
      refine el_pv (v := .agg #[.string ByteArray.empty, .int .i64 0, (.slice none 0 0), .int .i64 0, (.slice none 0 0)]) (pv_build [] [.string ByteArray.empty, .int .i64 0, (.slice none 0 0), .int .i64 0, (.slice none 0 0)] rfl rfl) (by decide) ?_
      refine el_storev (hS.top 0 rfl) rfl [.string ByteArray.empty, .int .i64 0, (.slice none 0 0), .int .i64 0, (.slice none 0 0)] rfl rfl (of_decide_eq_true rfl) (all_cons rfl (all_cons rfl (all_cons rfl (all_cons rfl (all_cons rfl rfl))))) ?_
      intro w170 hS
      replace hS : Sat w0 w170 [Box b111 48 [.string ByteArray.empty, .int .i64 0, (.slice none 0 0), .int .i64 0, (.slice none 0 0)]] := hS
      refine el_pv (v := .bool false) (pv_assign rfl) (by decide) ?_
      refine el_nil ?_
      refine hQ169 _ _ _ ?_
      refine thn_n ?_
      refine cw_ret ?_
      refine hQ136 _ _ _ ?_
      refine thn_r ?_
      replace hS := hS.nil (sliceR intR 3) 24
      replace hS := hS.nil (sliceR intR 3) 24
      refine finCT (cs := [.string ByteArray.empty, .int .i64 0, (.slice none 0 0), .int .i64 0, (.slice none 0 0)]) rfl rfl rfl (boxc0 (hS.boxAt 2 rfl)) rfl ?_
      replace hS : Sat w0 w170 [Own (sliceR (sliceR intR 3) 24) [(.slice none 0 0)] [], Own (sliceR (sliceR intR 3) 24) [(.slice none 0 0)] [], Box b111 48 [.string ByteArray.empty, .int .i64 0, (.slice none 0 0), .int .i64 0, (.slice none 0 0)]] := hS.tops 3 [1, 0] rfl
      have hr := Option.some.inj hF
      exact ⟨(.slice none 0 0), (.slice none 0 0), congrArg (fun (r : (ByteArray × (Int × List (List Int)) × (Int × List (List Int))) × Bool) => Ending.returned (.tuple #[.agg #[.string r.1.1, .int .i64 r.1.2.1.1, (.slice none 0 0), .int .i64 r.1.2.2.1, (.slice none 0 0)], .bool r.2])) hr, Eq.mp (congrArg (fun (r : (ByteArray × (Int × List (List Int)) × (Int × List (List Int))) × Bool) => Sat w0 w170 [Own (sliceR (sliceR intR 3) 24) [(.slice none 0 0)] r.1.2.1.2, Own (sliceR (sliceR intR 3) 24) [(.slice none 0 0)] r.1.2.2.2]) hr) (hS.keep 2), Eq.mp (congrArg (fun (r : (ByteArray × (Int × List (List Int)) × (Int × List (List Int))) × Bool) => r.1.1.size ≤ 9223372036854775807) hr) (by decide)⟩
  · refine el_off rfl (bnot_f hb138) rfl (by decide) ?_
    refine el_off rfl (bnot_f hb138) rfl (by decide) ?_
    refine el_pv (v := .bool true) (pv_pick_t rfl (bnot_f hb138) rfl) (by decide) ?_
    refine el_pv (v := .bool true) (pv_move rfl) (by decide) ?_
    refine el_off rfl rfl rfl (by decide) ?_
    refine el_off rfl rfl rfl (by decide) ?_
    refine el_off rfl rfl rfl (by decide) ?_
    refine el_off rfl rfl rfl (by decide) ?_
    refine el_off rfl rfl rfl (by decide) ?_
    refine el_pv (v := .bool true) (pv_pick_t rfl rfl rfl) (by decide) ?_
    refine el_nil ?_
    refine hQ137 _ _ _ ?_
    refine thn_n ?_
    refine cw_cond_t rfl rfl ?_
    refine cw_seq ?_
    refine cw_gen ?_
    intro Q173 hQ173
    replace hS : Sat w0 w135 [Box b111 48 [.string ByteArray.empty, .int .i64 0, (.slice none 0 0), .int .i64 0, (.slice none 0 0)]] := hS.rems 5 [0, 1, 2, 3] rfl
    refine cw_reg ?_
    refine el_pv (v := .agg #[.string ByteArray.empty, .int .i64 0, (.slice none 0 0), .int .i64 0, (.slice none 0 0)]) (pv_build [] [.string ByteArray.empty, .int .i64 0, (.slice none 0 0), .int .i64 0, (.slice none 0 0)] rfl rfl) (by decide) ?_
    refine el_storev (hS.top 0 rfl) rfl [.string ByteArray.empty, .int .i64 0, (.slice none 0 0), .int .i64 0, (.slice none 0 0)] rfl rfl (of_decide_eq_true rfl) (all_cons rfl (all_cons rfl (all_cons rfl (all_cons rfl (all_cons rfl rfl))))) ?_
    intro w174 hS
    replace hS : Sat w0 w174 [Box b111 48 [.string ByteArray.empty, .int .i64 0, (.slice none 0 0), .int .i64 0, (.slice none 0 0)]] := hS
    refine el_pv (v := .bool false) (pv_assign rfl) (by decide) ?_
    refine el_nil ?_
    refine hQ173 _ _ _ ?_
    refine thn_n ?_
    refine cw_ret ?_
    refine hQ136 _ _ _ ?_
    refine thn_r ?_
    replace hS := hS.nil (sliceR intR 3) 24
    replace hS := hS.nil (sliceR intR 3) 24
    refine finCT (cs := [.string ByteArray.empty, .int .i64 0, (.slice none 0 0), .int .i64 0, (.slice none 0 0)]) rfl rfl rfl (boxc0 (hS.boxAt 2 rfl)) rfl ?_
    replace hS : Sat w0 w174 [Own (sliceR (sliceR intR 3) 24) [(.slice none 0 0)] [], Own (sliceR (sliceR intR 3) 24) [(.slice none 0 0)] [], Box b111 48 [.string ByteArray.empty, .int .i64 0, (.slice none 0 0), .int .i64 0, (.slice none 0 0)]] := hS.tops 3 [1, 0] rfl
    have hr := Option.some.inj hF
    exact ⟨(.slice none 0 0), (.slice none 0 0), congrArg (fun (r : (ByteArray × (Int × List (List Int)) × (Int × List (List Int))) × Bool) => Ending.returned (.tuple #[.agg #[.string r.1.1, .int .i64 r.1.2.1.1, (.slice none 0 0), .int .i64 r.1.2.2.1, (.slice none 0 0)], .bool r.2])) hr, Eq.mp (congrArg (fun (r : (ByteArray × (Int × List (List Int)) × (Int × List (List Int))) × Bool) => Sat w0 w174 [Own (sliceR (sliceR intR 3) 24) [(.slice none 0 0)] r.1.2.1.2, Own (sliceR (sliceR intR 3) 24) [(.slice none 0 0)] r.1.2.2.2]) hr) (hS.keep 2), Eq.mp (congrArg (fun (r : (ByteArray × (Int × List (List Int)) × (Int × List (List Int))) × Bool) => r.1.1.size ≤ 9223372036854775807) hr) (by decide)⟩
set_option maxHeartbeats 4000000 in
theorem laws_markText_ok {w0 : World} {a0 : Int}  {N : Nat} {r : ByteArray} (hF : laws_markText N a0 = some r) :
    Calls Try.prog 66 #[.int .i64 a0] w0 fun e w' => e = .returned (.string r) ∧ Ext w0 w' ∧ r.size ≤ 9223372036854775807 := by
  unfold laws_markText at hF
  refine calls_E Try.func66 rfl rfl (of_decide_eq_true rfl) ?_
  have hS := Sat.start w0
  refine cw_seq ?_
  refine cw_gen ?_
  intro Q101 hQ101
  refine cw_reg ?_
  refine el_pv (v := .string ByteArray.empty) (pv_assign rfl) (by decide) ?_
  refine el_nil ?_
  refine hQ101 _ _ _ ?_
  refine thn_n ?_
  refine cw_seq ?_
  refine cw_gen ?_
  intro Q102 hQ102
  refine cw_seq ?_
  refine cw_gen ?_
  intro Q103 hQ103
  refine cw_reg ?_
  refine el_pv (v := .int .i64 a0) (pv_move rfl) (by decide) ?_
  refine el_pv (v := .bool (decide (a0 ≤ 0))) (pv_leq rfl rfl) (by decide) ?_
  refine el_nil ?_
  refine hQ103 _ _ _ ?_
  refine thn_n ?_
  replace hF := oif hF
  rcases hF with ⟨hb104, hF⟩ | ⟨hb104, hF⟩
  · refine cw_cond_t rfl hb104 ?_
    refine cw_seq ?_
    refine cw_gen ?_
    intro Q105 hQ105
    refine cw_reg ?_
    refine el_pv (v := .string (⟨#[109, 48]⟩ : ByteArray)) (pv_assign rfl) (by decide) ?_
    refine el_nil ?_
    refine hQ105 _ _ _ ?_
    refine thn_n ?_
    refine cw_ret ?_
    refine hQ102 _ _ _ ?_
    refine thn_r ?_
    refine fin1 rfl rfl ?_
    have hr := Option.some.inj hF
    exact ⟨congrArg (fun (r : ByteArray) => Ending.returned (.string r)) hr, hS.below, Eq.mp (congrArg (fun (r : ByteArray) => r.size ≤ 9223372036854775807) hr) (by decide)⟩
  · refine cw_cond_f rfl hb104 ?_
    refine cw_skip ?_
    refine hQ102 _ _ _ ?_
    refine thn_n ?_
    refine cw_seq ?_
    refine cw_gen ?_
    intro Q106 hQ106
    refine cw_reg ?_
    refine el_pv (v := .string ByteArray.empty) (pv_assign rfl) (by decide) ?_
    refine el_nil ?_
    refine hQ106 _ _ _ ?_
    refine thn_n ?_
    refine cw_seq ?_
    refine cw_gen ?_
    intro Q107 hQ107
    refine cw_block ?_
    refine cw_gen ?_
    intro Q108 hQ108
    obtain ⟨s109, hL, hK110⟩ := ob hF
    refine cw_loopS (fun k e w => ∃ (x111 : Int), ∃ (x112 : ByteArray), e 0 = .int .i64 x111 ∧ e 3 = .string x112 ∧ Sat w0 w [] ∧ x112.size ≤ 9223372036854775807 ∧ laws_markText_L1 N k x111 x112 = some s109) N ?_ ?_ ?_
    · exact ⟨a0, ByteArray.empty, rfl, rfl, hS, (by decide), hL⟩
    · rintro e w ⟨_, _, _, _, _, _, hz⟩; exact nomatch (show none = some _ from hz)
    · rintro k e117 w116 ⟨x111, x112, he114, he115, hS, hz113, hF⟩
      refine cw_gen ?_
      intro Q118 hQ118
      refine cw_seq ?_
      refine cw_gen ?_
      intro Q119 hQ119
      refine cw_seq ?_
      refine cw_gen ?_
      intro Q120 hQ120
      refine cw_reg ?_
      refine el_pv (v := .int .i64 x111) (pv_move he114) (by decide) ?_
      refine el_pv (v := .bool (decide (0 < x111))) (pv_gtr rfl rfl) (by decide) ?_
      refine el_nil ?_
      refine hQ120 _ _ _ ?_
      refine thn_n ?_
      replace hF := oif hF
      rcases hF with ⟨hb121, hF⟩ | ⟨hb121, hF⟩
      · refine cw_cond_t rfl hb121 ?_
        refine cw_skip ?_
        refine hQ119 _ _ _ ?_
        refine thn_n ?_
        refine cw_block ?_
        refine cw_gen ?_
        intro Q122 hQ122
        refine cw_seq ?_
        refine cw_gen ?_
        intro Q123 hQ123
        refine cw_reg ?_
        refine el_pv (v := .int .i64 x111) (pv_move he114) (by decide) ?_
        replace hF := ob hF
        obtain ⟨x124, hx124, hF⟩ := hF
        refine el_pv (v := .int .i64 x124) (pv_rem rfl rfl hx124) (by decide) ?_
        replace hF := ob hF
        obtain ⟨x125, hx125, hF⟩ := hF
        refine el_pv (v := .int .i64 x125) (pv_add rfl rfl hx125) (by decide) ?_
        refine el_pv (v := .int .u8 (IntKind.u8.wrap x125)) (pv_convI Try.underlying3 Try.underlying5 rfl) (by decide) ?_
        refine el_buildSlice1 [.int .u8 (IntKind.u8.wrap x125)] rfl (by rfl) (by decide) rfl (by decide) hS (by decide) ?_
        intro w126 b128 hS hx127
        replace hS := hS.u8 (IntKind.u8.wrap x125)
        replace hS : Sat w0 w126 [Box b128 5 [.int .u8 (IntKind.u8.wrap x125)], _] := hS.top 1 rfl
        replace hS := hS.lit1
        have hz131 := ofB_sz (hS.rdAt (R := (sliceR u8R 5)) 0 rfl)
        refine el_pv (v := .string (ofB ([(IntKind.u8.wrap x125)]))) (pv_bytes Try.underlying5 Try.underlying9 rfl (hS.rdAt (R := (sliceR u8R 5)) 0 rfl)) (by decide) ?_
        refine el_pv (v := .string x112) (pv_move he115) (by decide) ?_
        replace hF := ob hF
        obtain ⟨x132, hx132, hF⟩ := hF
        refine el_pv (v := .string x132) (pv_addS rfl rfl hx132) (by decide) ?_
        refine el_pv (v := .string x132) (pv_assign rfl) (by decide) ?_
        refine el_nil ?_
        refine hQ123 _ _ _ ?_
        refine thn_n ?_
        replace hS : Sat w0 w126 [] := hS.rems 1 [0] rfl
        refine cw_reg ?_
        refine el_pv (v := .int .i64 x111) (pv_move he114) (by decide) ?_
        replace hF := ob hF
        obtain ⟨x133, hx133, hF⟩ := hF
        refine el_pv (v := .int .i64 x133) (pv_quo rfl rfl hx133) (by decide) ?_
        refine el_pv (v := .int .i64 x133) (pv_assign rfl) (by decide) ?_
        refine el_nil ?_
        refine hQ122 _ _ _ ?_
        refine inb_n ?_
        refine hQ118 _ _ _ ?_
        refine thn_n ?_
        replace hS := hS.keep 0
        exact ⟨x133, x132, rfl, rfl, hS, (scat_size hx132), hF⟩
      · refine cw_cond_f rfl hb121 ?_
        refine cw_exit ?_
        refine hQ119 _ _ _ ?_
        refine thn_x ?_
        refine hQ118 _ _ _ ?_
        refine thn_x ?_
        replace hF := exB hF hK110
        refine hQ108 _ _ _ ?_
        refine inb_s ?_
        refine hQ107 _ _ _ ?_
        refine thn_n ?_
        refine cw_seq ?_
        refine cw_gen ?_
        intro Q134 hQ134
        refine cw_reg ?_
        refine el_pv (v := .string x112) (pv_move he115) (by decide) ?_
        replace hF := ob hF
        obtain ⟨x135, hx135, hF⟩ := hF
        refine el_pv (v := .string x135) (pv_addS rfl rfl hx135) (by decide) ?_
        refine el_pv (v := .string x135) (pv_assign rfl) (by decide) ?_
        refine el_nil ?_
        refine hQ134 _ _ _ ?_
        refine thn_n ?_
        refine cw_ret ?_
        refine fin1 rfl rfl ?_
        have hr := Option.some.inj hF
        exact ⟨congrArg (fun (r : ByteArray) => Ending.returned (.string r)) hr, hS.below, Eq.mp (congrArg (fun (r : ByteArray) => r.size ≤ 9223372036854775807) hr) (scat_size hx135)⟩
set_option maxHeartbeats 4000000 in
theorem laws_markTableS_ok {w0 : World} {w00 : World} {G0 : List Asn} {u0 : Value} {a0 : List (ByteArray × (Int × List (List Int)))} {a1 : Int} (hS : Sat w00 w0 (Own (sliceR (pairR strR (pairR intR (sliceR (sliceR intR 3) 24))) 80) [u0] a0 :: G0)) {N : Nat} {r : Int × (List (ByteArray × (Int × List (List Int))))} (hF : laws_markTableS N a0 a1 = some r) :
    Calls Try.prog 48 #[u0, .int .i64 a1] w0 fun e w' => e = .returned (.int .i64 r.1) ∧ Sat w00 w' (Own (sliceR (pairR strR (pairR intR (sliceR (sliceR intR 3) 24))) 80) [u0] r.2 :: G0) := by
  unfold laws_markTableS at hF
  refine calls_E Try.func48 rfl rfl (of_decide_eq_true rfl) ?_
  refine cw_seq ?_
  refine cw_gen ?_
  intro Q101 hQ101
  refine cw_reg ?_
  refine el_pv (v := .int .i64 0) (pv_assign rfl) (by decide) ?_
  refine el_nil ?_
  refine hQ101 _ _ _ ?_
  refine thn_n ?_
  refine cw_seq ?_
  refine cw_gen ?_
  intro Q102 hQ102
  refine cw_seq ?_
  refine cw_gen ?_
  intro Q103 hQ103
  refine cw_reg ?_
  refine el_pv (v := .int .i64 0) (pv_assign rfl) (by decide) ?_
  refine el_nil ?_
  refine hQ103 _ _ _ ?_
  refine thn_n ?_
  refine cw_block ?_
  refine cw_gen ?_
  intro Q104 hQ104
  obtain ⟨s105, hL, hK106⟩ := ob hF
  refine cw_loopS (fun k e w => ∃ (x107 : List (ByteArray × (Int × List (List Int)))), ∃ (x108 : Int), ∃ (x109 : Int), e 0 = u0 ∧ e 1 = .int .i64 x108 ∧ e 5 = .int .i64 x109 ∧ Sat w00 w (Own (sliceR (pairR strR (pairR intR (sliceR (sliceR intR 3) 24))) 80) [u0] x107 :: G0) ∧ laws_markTableS_L1 N k x107 x108 x109 = some s105) N ?_ ?_ ?_
  · exact ⟨a0, a1, 0, rfl, rfl, rfl, hS, hL⟩
  · rintro e w ⟨_, _, _, _, _, _, _, hz⟩; exact nomatch (show none = some _ from hz)
  · rintro k e114 w113 ⟨x107, x108, x109, he110, he111, he112, hS, hF⟩
    refine cw_gen ?_
    intro Q115 hQ115
    refine cw_seq ?_
    refine cw_gen ?_
    intro Q116 hQ116
    refine cw_seq ?_
    refine cw_gen ?_
    intro Q117 hQ117
    refine cw_reg ?_
    refine el_pv (v := .int .i64 x109) (pv_move he112) (by decide) ?_
    refine el_pv (v := u0) (pv_move he110) (by decide) ?_
    refine el_pv (v := .int .i64 (x107.length : Int)) (pv_len rfl (hS.rdAt (R := (sliceR (pairR strR (pairR intR (sliceR (sliceR intR 3) 24))) 80)) 0 rfl)) (by decide) ?_
    refine el_pv (v := .bool (decide (x109 < (x107.length : Int)))) (pv_lss rfl rfl) (by decide) ?_
    refine el_nil ?_
    refine hQ117 _ _ _ ?_
    refine thn_n ?_
    replace hF := oif hF
    rcases hF with ⟨hb118, hF⟩ | ⟨hb118, hF⟩
    · refine cw_cond_t rfl hb118 ?_
      refine cw_skip ?_
      refine hQ116 _ _ _ ?_
      refine thn_n ?_
      refine cw_seq ?_
      refine cw_gen ?_
      intro Q119 hQ119
      refine cw_block ?_
      refine cw_gen ?_
      intro Q120 hQ120
      refine cw_seq ?_
      refine cw_gen ?_
      intro Q121 hQ121
      refine cw_reg ?_
      refine el_pv (v := u0) (pv_move he110) (by decide) ?_
      refine el_pv (v := .int .i64 x109) (pv_move he112) (by decide) ?_
      refine el_pv (v := .int .i64 x108) (pv_move he111) (by decide) ?_
      replace hF := ob hF
      obtain ⟨r122, hr122, hF⟩ := hF
      refine el_call goes66 (laws_markText_ok hr122) (congrArg List.toArray (mapc rfl rfl)) (by decide) ?_
      rintro _ w124 ⟨rfl, hx125, hz123⟩
      refine ⟨_, rfl, ?_⟩
      replace hS := hS.ext hx125
      replace hF := ob hF
      obtain ⟨x126, hx126, hF⟩ := hF
      refine el_indexO hS rfl rfl (by decide) rfl hx126 (by decide) ?_
      intro b127 of128 c129 hv132 hr130 hm131
      obtain ⟨_, _, rfl, hr133, hr134⟩ := hr130
      obtain ⟨rfl, hz135⟩ := hr133
      obtain ⟨_, _, rfl, hr136, hr137⟩ := hr134
      obtain rfl := hr136
      obtain ⟨v138, rfl⟩ := slice_one hr137
      refine el_pv (v := .pointer (some ⟨b127, x109.toNat * 3 + 0, none⟩)) (pv_fieldAddr rfl) (by decide) ?_
      replace hF := ob hF
      obtain ⟨x140, hx140, hF⟩ := hF
      refine el_storeF (m := 3) (j := 0) hv132 hS hx126 hx140 rfl (by omega) rfl rfl rfl (fu_fst (fu_str hz123 _)) ?_
      intro w139 hS
      refine el_nil ?_
      refine hQ121 _ _ _ ?_
      refine thn_n ?_
      refine cw_seq ?_
      refine cw_gen ?_
      intro Q141 hQ141
      refine cw_reg ?_
      refine el_pv (v := .int .i64 x108) (pv_move he111) (by decide) ?_
      replace hF := ob hF
      obtain ⟨x142, hx142, hF⟩ := hF
      refine el_pv (v := .int .i64 x142) (pv_add rfl rfl hx142) (by decide) ?_
      refine el_pv (v := .int .i64 x142) (pv_assign rfl) (by decide) ?_
      refine el_nil ?_
      refine hQ141 _ _ _ ?_
      refine thn_n ?_
      refine cw_seq ?_
      refine cw_gen ?_
      intro Q143 hQ143
      refine cw_reg ?_
      refine el_pv (v := u0) (pv_move he110) (by decide) ?_
      refine el_pv (v := .int .i64 x109) (pv_move he112) (by decide) ?_
      refine el_pv (v := .int .i64 x142) (pv_move rfl) (by decide) ?_
      replace hF := ob hF
      obtain ⟨x144, hx144, hF⟩ := hF
      refine el_indexO hS rfl rfl (by decide) rfl hx144 (by decide) ?_
      intro b145 of146 c147 hv150 hr148 hm149
      obtain ⟨_, _, rfl, hr151, hr152⟩ := hr148
      obtain ⟨rfl, hz153⟩ := hr151
      obtain ⟨_, _, rfl, hr154, hr155⟩ := hr152
      obtain rfl := hr154
      obtain ⟨v156, rfl⟩ := slice_one hr155
      refine el_pv (v := .pointer (some ⟨b145, x109.toNat * 3 + 1, none⟩)) (pv_fieldAddr rfl) (by decide) ?_
      refine el_pv (v := .pointer (some ⟨b145, x109.toNat * 3 + 1 + 0, none⟩)) (pv_fieldAddr rfl) (by decide) ?_
      replace hF := ob hF
      obtain ⟨x158, hx158, hF⟩ := hF
      refine el_storeF (m := 3) (j := 1) hv150 hS hx144 hx158 rfl (by omega) rfl rfl rfl (fu_snd (fu_fst (fu_int _ _)) (by rfl)) ?_
      intro w157 hS
      refine el_nil ?_
      refine hQ143 _ _ _ ?_
      refine thn_n ?_
      refine cw_seq ?_
      refine cw_gen ?_
      intro Q159 hQ159
      refine cw_reg ?_
      refine el_pv (v := .int .i64 x142) (pv_move rfl) (by decide) ?_
      replace hF := ob hF
      obtain ⟨x160, hx160, hF⟩ := hF
      refine el_pv (v := .int .i64 x160) (pv_add rfl rfl hx160) (by decide) ?_
      refine el_pv (v := .int .i64 x160) (pv_assign rfl) (by decide) ?_
      refine el_nil ?_
      refine hQ159 _ _ _ ?_
      refine thn_n ?_
      refine cw_reg ?_
      refine el_pv (v := u0) (pv_move he110) (by decide) ?_
      refine el_pv (v := .int .i64 x109) (pv_move he112) (by decide) ?_
      replace hF := ob hF
      obtain ⟨x161, hx161, hF⟩ := hF
      refine el_indexO hS rfl rfl (by decide) rfl hx161 (by decide) ?_
      intro b162 of163 c164 hv167 hr165 hm166
      obtain ⟨_, _, rfl, hr168, hr169⟩ := hr165
      obtain ⟨rfl, hz170⟩ := hr168
      obtain ⟨_, _, rfl, hr171, hr172⟩ := hr169
      obtain rfl := hr171
      obtain ⟨v173, rfl⟩ := slice_one hr172
      refine el_pv (v := .pointer (some ⟨b162, x109.toNat * 3 + 1, none⟩)) (pv_fieldAddr rfl) (by decide) ?_
      refine el_pv (v := .pointer (some ⟨b162, x109.toNat * 3 + 1 + 1, none⟩)) (pv_fieldAddr rfl) (by decide) ?_
      refine el_pv (v := v173) (pv_loadc rfl (hm166 2 _ rfl)) (by decide) ?_
      refine el_pv (v := .int .i64 x160) (pv_move rfl) (by decide) ?_
      replace hS := hS.takeOut hv167 hx161 (m := 3) rfl rfl hm166
      replace hS := hS.unpair rfl
      replace hS := hS.top 1 rfl
      replace hS := hS.unpair rfl
      replace hS : Sat w00 w157 (Own intR [.int .i64 x161.2.1] x161.2.1 :: Own (sliceR (sliceR intR 3) 24) [v173] x161.2.2 :: Own strR [.string x161.1] x161.1 :: _ :: G0) := hS
      replace hS : Sat w00 w157 (Own (sliceR (sliceR intR 3) 24) [v173] x161.2.2 :: Own intR [.int .i64 x161.2.1] x161.2.1 :: Own strR [.string x161.1] x161.1 :: _ :: G0) := hS.tops 4 [1] rfl
      replace hF := ob hF
      obtain ⟨r177, hr177, hF⟩ := hF
      refine el_call goes12 (laws_markIntSS_ok hS hr177) (congrArg List.toArray (mapc rfl (mapc rfl rfl))) (by decide) ?_
      rintro _ w178 ⟨rfl, hS⟩
      refine ⟨_, rfl, ?_⟩
      replace hS : Sat w00 w178 (Own (sliceR (sliceR intR 3) 24) [v173] r177.2 :: Own intR [.int .i64 x161.2.1] x161.2.1 :: Own strR [.string x161.1] x161.1 :: _ :: G0) := hS
      replace hS : Sat w00 w178 (Own intR [.int .i64 x161.2.1] x161.2.1 :: Own (sliceR (sliceR intR 3) 24) [v173] r177.2 :: Own strR [.string x161.1] x161.1 :: _ :: G0) := hS.top 1 rfl
      replace hS : Sat w00 w178 (Own strR [.string x161.1] x161.1 :: Own intR [.int .i64 x161.2.1] x161.2.1 :: Own (sliceR (sliceR intR 3) 24) [v173] r177.2 :: _ :: G0) := hS.top 2 rfl
      replace hS := hS.pair3
      replace hF := ob hF
      obtain ⟨x179, hx179, hF⟩ := hF
      replace hS := hS.putBack hx179
      replace hS : Sat w00 w178 (Own (sliceR (pairR strR (pairR intR (sliceR (sliceR intR 3) 24))) 80) [u0] x179 :: G0) := hS
      refine el_pv (v := .int .i64 r177.1) (pv_assign rfl) (by decide) ?_
      refine el_nil ?_
      refine hQ120 _ _ _ ?_
      refine inb_n ?_
      refine hQ119 _ _ _ ?_
      refine thn_n ?_
      refine cw_reg ?_
      refine el_pv (v := .int .i64 x109) (pv_move he112) (by decide) ?_
      replace hF := ob hF
      obtain ⟨x180, hx180, hF⟩ := hF
      refine el_pv (v := .int .i64 x180) (pv_add rfl rfl hx180) (by decide) ?_
      refine el_pv (v := .int .i64 x180) (pv_assign rfl) (by decide) ?_
      refine el_nil ?_
      refine hQ115 _ _ _ ?_
      refine thn_n ?_
      exact ⟨x179, r177.1, x180, he110, rfl, rfl, hS, hF⟩
    · refine cw_cond_f rfl hb118 ?_
      refine cw_exit ?_
      refine hQ116 _ _ _ ?_
      refine thn_x ?_
      refine hQ115 _ _ _ ?_
      refine thn_x ?_
      replace hF := exB hF hK106
      refine hQ104 _ _ _ ?_
      refine inb_s ?_
      refine hQ102 _ _ _ ?_
      refine thn_n ?_
      refine cw_seq ?_
      refine cw_gen ?_
      intro Q181 hQ181
      refine cw_reg ?_
      refine el_pv (v := .int .i64 x108) (pv_move he111) (by decide) ?_
      refine el_pv (v := .int .i64 x108) (pv_assign rfl) (by decide) ?_
      refine el_nil ?_
      refine hQ181 _ _ _ ?_
      refine thn_n ?_
      refine cw_ret ?_
      refine fin1 rfl rfl ?_
      have hr := Option.some.inj hF
      exact ⟨congrArg (fun (r : Int × (List (ByteArray × (Int × List (List Int))))) => Ending.returned (.int .i64 r.1)) hr, Eq.mp (congrArg (fun (r : Int × (List (ByteArray × (Int × List (List Int))))) => Sat w00 w113 (Own (sliceR (pairR strR (pairR intR (sliceR (sliceR intR 3) 24))) 80) [u0] r.2 :: G0)) hr) hS⟩
set_option maxHeartbeats 4000000 in
theorem laws_markDatabase_ok {w0 : World} {w00 : World} {G0 : List Asn} {u0 : Value} {a0 : List (ByteArray × (Int × List (List Int)))} {a1 : Int} (hS : Sat w00 w0 (Own (sliceR (pairR strR (pairR intR (sliceR (sliceR intR 3) 24))) 80) [u0] a0 :: G0)) {N : Nat} {r : Int × (List (ByteArray × (Int × List (List Int))))} (hF : laws_markDatabase N a0 a1 = some r) :
    Calls Try.prog 25 #[.agg #[u0], .int .i64 a1] w0 fun e w' => e = .returned (.int .i64 r.1) ∧ Sat w00 w' (Own (sliceR (pairR strR (pairR intR (sliceR (sliceR intR 3) 24))) 80) [u0] r.2 :: G0) := by
  unfold laws_markDatabase at hF
  refine calls_E Try.func25 rfl rfl (of_decide_eq_true rfl) ?_
  refine cw_seq ?_
  refine cw_gen ?_
  intro Q101 hQ101
  refine cw_reg ?_
  refine el_box [u0] rfl hS (by decide) ?_
  intro w102 b103 hS hx104
  refine el_pv (v := .int .i64 0) (pv_assign rfl) (by decide) ?_
  refine el_nil ?_
  refine hQ101 _ _ _ ?_
  refine thn_n ?_
  refine cw_seq ?_
  refine cw_gen ?_
  intro Q106 hQ106
  refine cw_reg ?_
  refine el_pv (v := .pointer (some ⟨b103, 0 + 0, none⟩)) (pv_fieldAddr rfl) (by decide) ?_
  refine el_pv (v := u0) (pv_loadc rfl ((hS.boxAt 0 rfl) 0 _ rfl)) (by decide) ?_
  refine el_pv (v := .int .i64 a1) (pv_move rfl) (by decide) ?_
  replace hS : Sat w00 w102 (Own (sliceR (pairR strR (pairR intR (sliceR (sliceR intR 3) 24))) 80) [u0] a0 :: Box b103 44 [u0] :: G0) := hS.tops 2 [1] rfl
  replace hF := ob hF
  obtain ⟨r107, hr107, hF⟩ := hF
  refine el_call goes48 (laws_markTableS_ok hS hr107) (congrArg List.toArray (mapc rfl (mapc rfl rfl))) (by decide) ?_
  rintro _ w108 ⟨rfl, hS⟩
  refine ⟨_, rfl, ?_⟩
  replace hS : Sat w00 w108 (Own (sliceR (pairR strR (pairR intR (sliceR (sliceR intR 3) 24))) 80) [u0] r107.2 :: Box b103 44 [u0] :: G0) := hS
  refine el_pv (v := .int .i64 r107.1) (pv_assign rfl) (by decide) ?_
  refine el_nil ?_
  refine hQ106 _ _ _ ?_
  refine thn_n ?_
  refine cw_seq ?_
  refine cw_gen ?_
  intro Q109 hQ109
  replace hS : Sat w00 w108 (Own (sliceR (pairR strR (pairR intR (sliceR (sliceR intR 3) 24))) 80) [u0] r107.2 :: G0) := hS.rems 2 [1] rfl
  refine cw_reg ?_
  refine el_pv (v := .int .i64 r107.1) (pv_move rfl) (by decide) ?_
  refine el_pv (v := .int .i64 r107.1) (pv_assign rfl) (by decide) ?_
  refine el_nil ?_
  refine hQ109 _ _ _ ?_
  refine thn_n ?_
  refine cw_ret ?_
  refine fin1 rfl rfl ?_
  have hr := Option.some.inj hF
  exact ⟨congrArg (fun (r : Int × (List (ByteArray × (Int × List (List Int))))) => Ending.returned (.int .i64 r.1)) hr, Eq.mp (congrArg (fun (r : Int × (List (ByteArray × (Int × List (List Int))))) => Sat w00 w108 (Own (sliceR (pairR strR (pairR intR (sliceR (sliceR intR 3) 24))) 80) [u0] r.2 :: G0)) hr) hS⟩
set_option maxHeartbeats 4000000 in
theorem laws_markRelation_ok {w0 : World} {w00 : World} {G0 : List Asn} {a0 : Int} {u1 : Value} {a1 : List (List Int)} {a2 : Int} (hS : Sat w00 w0 (Own (sliceR (sliceR intR 3) 24) [u1] a1 :: G0)) {N : Nat} {r : Int × (List (List Int))} (hF : laws_markRelation N a0 a1 a2 = some r) :
    Calls Try.prog 49 #[.agg #[.int .i64 a0, u1], .int .i64 a2] w0 fun e w' => e = .returned (.int .i64 r.1) ∧ Sat w00 w' (Own (sliceR (sliceR intR 3) 24) [u1] r.2 :: G0) := by
  unfold laws_markRelation at hF
  refine calls_E Try.func49 rfl rfl (of_decide_eq_true rfl) ?_
  refine cw_seq ?_
  refine cw_gen ?_
  intro Q101 hQ101
  refine cw_reg ?_
  refine el_box [.int .i64 a0, u1] rfl hS (by decide) ?_
  intro w102 b103 hS hx104
  refine el_pv (v := .int .i64 0) (pv_assign rfl) (by decide) ?_
  refine el_nil ?_
  refine hQ101 _ _ _ ?_
  refine thn_n ?_
  refine cw_seq ?_
  refine cw_gen ?_
  intro Q106 hQ106
  refine cw_reg ?_
  refine el_pv (v := .pointer (some ⟨b103, 0 + 1, none⟩)) (pv_fieldAddr rfl) (by decide) ?_
  refine el_pv (v := u1) (pv_loadc rfl ((hS.boxAt 0 rfl) 1 _ rfl)) (by decide) ?_
  refine el_pv (v := .int .i64 a2) (pv_move rfl) (by decide) ?_
  replace hS : Sat w00 w102 (Own (sliceR (sliceR intR 3) 24) [u1] a1 :: Box b103 46 [.int .i64 a0, u1] :: G0) := hS.tops 2 [1] rfl
  replace hF := ob hF
  obtain ⟨r107, hr107, hF⟩ := hF
  refine el_call goes12 (laws_markIntSS_ok hS hr107) (congrArg List.toArray (mapc rfl (mapc rfl rfl))) (by decide) ?_
  rintro _ w108 ⟨rfl, hS⟩
  refine ⟨_, rfl, ?_⟩
  replace hS : Sat w00 w108 (Own (sliceR (sliceR intR 3) 24) [u1] r107.2 :: Box b103 46 [.int .i64 a0, u1] :: G0) := hS
  refine el_pv (v := .int .i64 r107.1) (pv_assign rfl) (by decide) ?_
  refine el_nil ?_
  refine hQ106 _ _ _ ?_
  refine thn_n ?_
  refine cw_seq ?_
  refine cw_gen ?_
  intro Q109 hQ109
  replace hS : Sat w00 w108 (Own (sliceR (sliceR intR 3) 24) [u1] r107.2 :: G0) := hS.rems 2 [1] rfl
  refine cw_reg ?_
  refine el_pv (v := .int .i64 r107.1) (pv_move rfl) (by decide) ?_
  refine el_pv (v := .int .i64 r107.1) (pv_assign rfl) (by decide) ?_
  refine el_nil ?_
  refine hQ109 _ _ _ ?_
  refine thn_n ?_
  refine cw_ret ?_
  refine fin1 rfl rfl ?_
  have hr := Option.some.inj hF
  exact ⟨congrArg (fun (r : Int × (List (List Int))) => Ending.returned (.int .i64 r.1)) hr, Eq.mp (congrArg (fun (r : Int × (List (List Int))) => Sat w00 w108 (Own (sliceR (sliceR intR 3) 24) [u1] r.2 :: G0)) hr) hS⟩
end Go.Proofs.Ytnanddmadghnnaa
