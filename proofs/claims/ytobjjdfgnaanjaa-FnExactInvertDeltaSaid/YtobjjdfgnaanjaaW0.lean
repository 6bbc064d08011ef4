/- The walks through functions of the program: each hands back what it comes to. No condition but that it comes to something. -/
import Derived.Test.YtobjjdfgnaanjaaGoes
import Derived.Test.YtobjjdfgnaanjaaM
import Derived.Test.YtobjjdfgnaanjaaW0D
namespace Go.Proofs.Ytobjjdfgnaanjaa
open Go.RowKit
set_option maxRecDepth 100000
set_option maxHeartbeats 4000000 in
theorem laws_szIntS_ok {w0 : World} {u0 : Value} {a0 : List Int} {a1 : Int} (ha0 : (sliceR intR 3).rd w0 [u0] a0) {N : Nat} {r : Int} (hF : laws_szIntS N a0 a1 = some r) :
    Calls Try.prog 44 #[u0, .int .i64 a1] w0 fun e w' => e = .returned (.int .i64 r) ∧ Ext w0 w' := by
  unfold laws_szIntS at hF
  refine calls_E Try.func44 rfl rfl (of_decide_eq_true rfl) ?_
  have hS := Sat.start w0
  refine cw_seq ?_
  refine cw_gen ?_
  intro Q101 hQ101
  refine cw_reg ?_
  refine el_pv (v := .int .i64 0) (pv_assign rfl) (by decide) ?_
  refine el_nil ?_
  refine hQ101 _ _ _ ?_
  refine thn_n ?_
  refine cw_seq ?_
  refine cw_gen ?_
  intro Q102 hQ102
  refine cw_reg ?_
  refine el_pv (v := .int .i64 a1) (pv_move rfl) (by decide) ?_
  refine el_pv (v := u0) (pv_move rfl) (by decide) ?_
  refine el_pv (v := .int .i64 (a0.length : Int)) (pv_len rfl ha0) (by decide) ?_
  replace hF := ob hF
  obtain ⟨x103, hx103, hF⟩ := hF
  refine el_pv (v := .int .i64 x103) (pv_sub rfl rfl hx103) (by decide) ?_
  refine el_pv (v := .int .i64 x103) (pv_assign rfl) (by decide) ?_
  refine el_nil ?_
  refine hQ102 _ _ _ ?_
  refine thn_n ?_
  refine cw_seq ?_
  refine cw_gen ?_
  intro Q104 hQ104
  refine cw_seq ?_
  refine cw_gen ?_
  intro Q105 hQ105
  refine cw_reg ?_
  refine el_pv (v := .int .i64 x103) (pv_move rfl) (by decide) ?_
  refine el_pv (v := .bool (decide (x103 < 0))) (pv_lss rfl rfl) (by decide) ?_
  refine el_nil ?_
  refine hQ105 _ _ _ ?_
  refine thn_n ?_
  replace hF := oif hF
  rcases hF with ⟨hb106, hF⟩ | ⟨hb106, hF⟩
  · refine cw_cond_t rfl hb106 ?_
    refine cw_seq ?_
    refine cw_gen ?_
    intro Q107 hQ107
    refine cw_reg ?_
    refine el_pv (v := .int .i64 (-1)) (pv_assign rfl) (by decide) ?_
    refine el_nil ?_
    refine hQ107 _ _ _ ?_
    refine thn_n ?_
    refine cw_ret ?_
    refine hQ104 _ _ _ ?_
    refine thn_r ?_
    refine fin1 rfl rfl ?_
    have hr := Option.some.inj hF
    exact ⟨congrArg (fun (r : Int) => Ending.returned (.int .i64 r)) hr, hS.below⟩
  · refine cw_cond_f rfl hb106 ?_
    refine cw_skip ?_
    refine hQ104 _ _ _ ?_
    refine thn_n ?_
    refine cw_seq ?_
    refine cw_gen ?_
    intro Q108 hQ108
    refine cw_reg ?_
    refine el_pv (v := .int .i64 x103) (pv_move rfl) (by decide) ?_
    refine el_pv (v := .int .i64 x103) (pv_assign rfl) (by decide) ?_
    refine el_nil ?_
    refine hQ108 _ _ _ ?_
    refine thn_n ?_
    refine cw_ret ?_
    refine fin1 rfl rfl ?_
    have hr := Option.some.inj hF
    exact ⟨congrArg (fun (r : Int) => Ending.returned (.int .i64 r)) hr, hS.below⟩
set_option maxHeartbeats 4000000 in
theorem laws_szFactorNode_ok {w0 : World} {u0 : Value} {a0 : List Int} {u1 : Value} {a1 : List Int} {a2 : Int} (ha0 : (sliceR intR 3).rd w0 [u0] a0) (ha1 : (sliceR intR 3).rd w0 [u1] a1) {N : Nat} {r : Int} (hF : laws_szFactorNode N a0 a1 a2 = some r) :
    Calls Try.prog 79 #[.agg #[u0, u1], .int .i64 a2] w0 fun e w' => e = .returned (.int .i64 r) ∧ Ext w0 w' := by
  unfold laws_szFactorNode at hF
  refine calls_E Try.func79 rfl rfl (of_decide_eq_true rfl) ?_
  have hS := Sat.start w0
  refine cw_seq ?_
  refine cw_gen ?_
  intro Q101 hQ101
  refine cw_reg ?_
  refine el_box [u0, u1] rfl hS (by decide) ?_
  intro w102 b103 hS hx104
  refine el_pv (v := .int .i64 0) (pv_assign rfl) (by decide) ?_
  refine el_nil ?_
  refine hQ101 _ _ _ ?_
  refine thn_n ?_
  refine cw_seq ?_
  refine cw_gen ?_
  intro Q106 hQ106
  refine cw_reg ?_
  refine el_pv (v := .pointer (some ⟨b103, 0 + 0, none⟩)) (pv_fieldAddr rfl) (by decide) ?_
  refine el_pv (v := u0) (pv_loadc rfl ((hS.boxAt 0 rfl) 0 _ rfl)) (by decide) ?_
  refine el_pv (v := .int .i64 a2) (pv_move rfl) (by decide) ?_
  replace hF := ob hF
  obtain ⟨r107, hr107, hF⟩ := hF
  refine el_call goes44 (laws_szIntS_ok (hS.up ha0) hr107) (congrArg List.toArray (mapc rfl (mapc rfl rfl))) (by decide) ?_
  rintro _ w108 ⟨rfl, hx109⟩
  refine ⟨_, rfl, ?_⟩
  replace hS := hS.ext hx109
  refine el_pv (v := .int .i64 r107) (pv_assign rfl) (by decide) ?_
  refine el_nil ?_
  refine hQ106 _ _ _ ?_
  refine thn_n ?_
  refine cw_seq ?_
  refine cw_gen ?_
  intro Q110 hQ110
  refine cw_seq ?_
  refine cw_gen ?_
  intro Q111 hQ111
  refine cw_reg ?_
  refine el_pv (v := .int .i64 r107) (pv_move rfl) (by decide) ?_
  refine el_pv (v := .bool (decide (r107 < 0))) (pv_lss rfl rfl) (by decide) ?_
  refine el_nil ?_
  refine hQ111 _ _ _ ?_
  refine thn_n ?_
  replace hF := oif hF
  rcases hF with ⟨hb112, hF⟩ | ⟨hb112, hF⟩
  · refine cw_cond_t rfl hb112 ?_
    refine cw_seq ?_
    refine cw_gen ?_
    intro Q113 hQ113
    refine cw_reg ?_
    refine el_pv (v := .int .i64 (-1)) (pv_assign rfl) (by decide) ?_
    refine el_nil ?_
    refine hQ113 _ _ _ ?_
    refine thn_n ?_
    refine cw_ret ?_
    refine hQ110 _ _ _ ?_
    refine thn_r ?_
    refine fin1 rfl rfl ?_
    have hr := Option.some.inj hF
    exact ⟨congrArg (fun (r : Int) => Ending.returned (.int .i64 r)) hr, hS.below⟩
  · refine cw_cond_f rfl hb112 ?_
    refine cw_skip ?_
    refine hQ110 _ _ _ ?_
    refine thn_n ?_
    refine cw_seq ?_
    refine cw_gen ?_
    intro Q114 hQ114
    refine cw_reg ?_
    refine el_pv (v := .pointer (some ⟨b103, 0 + 1, none⟩)) (pv_fieldAddr rfl) (by decide) ?_
    refine el_pv (v := u1) (pv_loadc rfl ((hS.boxAt 0 rfl) 1 _ rfl)) (by decide) ?_
    refine el_pv (v := .int .i64 r107) (pv_move rfl) (by decide) ?_
    replace hF := ob hF
    obtain ⟨r115, hr115, hF⟩ := hF
    refine el_call goes44 (laws_szIntS_ok (hS.up ha1) hr115) (congrArg List.toArray (mapc rfl (mapc rfl rfl))) (by decide) ?_
    rintro _ w116 ⟨rfl, hx117⟩
    refine ⟨_, rfl, ?_⟩
    replace hS := hS.ext hx117
    refine el_pv (v := .int .i64 r115) (pv_assign rfl) (by decide) ?_
    refine el_nil ?_
    refine hQ114 _ _ _ ?_
    refine thn_n ?_
    refine cw_seq ?_
    refine cw_gen ?_
    intro Q118 hQ118
    refine cw_seq ?_
    refine cw_gen ?_
    intro Q119 hQ119
    refine cw_reg ?_
    refine el_pv (v := .int .i64 r115) (pv_move rfl) (by decide) ?_
    refine el_pv (v := .bool (decide (r115 < 0))) (pv_lss rfl rfl) (by decide) ?_
    refine el_nil ?_
    refine hQ119 _ _ _ ?_
    refine thn_n ?_
    replace hF := oif hF
    rcases hF with ⟨hb120, hF⟩ | ⟨hb120, hF⟩
    · refine cw_cond_t rfl hb120 ?_
      refine cw_seq ?_
      refine cw_gen ?_
      intro Q121 hQ121
      refine cw_reg ?_
      refine el_pv (v := .int .i64 (-1)) (pv_assign rfl) (by decide) ?_
      refine el_nil ?_
      refine hQ121 _ _ _ ?_
      refine thn_n ?_
      refine cw_ret ?_
      refine hQ118 _ _ _ ?_
      refine thn_r ?_
      refine fin1 rfl rfl ?_
      have hr := Option.some.inj hF
      exact ⟨congrArg (fun (r : Int) => Ending.returned (.int .i64 r)) hr, hS.below⟩
    · refine cw_cond_f rfl hb120 ?_
      refine cw_skip ?_
      refine hQ118 _ _ _ ?_
      refine thn_n ?_
      refine cw_seq ?_
      refine cw_gen ?_
      intro Q122 hQ122
      refine cw_reg ?_
      refine el_pv (v := .int .i64 r115) (pv_move rfl) (by decide) ?_
      refine el_pv (v := .int .i64 r115) (pv_assign rfl) (by decide) ?_
      refine el_nil ?_
      refine hQ122 _ _ _ ?_
      refine thn_n ?_
      refine cw_ret ?_
      refine fin1 rfl rfl ?_
      have hr := Option.some.inj hF
      exact ⟨congrArg (fun (r : Int) => Ending.returned (.int .i64 r)) hr, hS.below⟩
set_option maxHeartbeats 4000000 in
theorem laws_szFactorNodeS_ok {w0 : World} {u0 : Value} {a0 : List (List Int × List Int)} {a1 : Int} (ha0 : (sliceR (pairR (sliceR intR 3) (sliceR intR 3)) 89).rd w0 [u0] a0) {N : Nat} {r : Int} (hF : laws_szFactorNodeS N a0 a1 = some r) :
    Calls Try.prog 45 #[u0, .int .i64 a1] w0 fun e w' => e = .returned (.int .i64 r) ∧ Ext w0 w' := by
  unfold laws_szFactorNodeS at hF
  refine calls_E Try.func45 rfl rfl (of_decide_eq_true rfl) ?_
  have hS := Sat.start w0
  refine cw_seq ?_
  refine cw_gen ?_
  intro Q101 hQ101
  refine cw_reg ?_
  refine el_pv (v := .int .i64 0) (pv_assign rfl) (by decide) ?_
  refine el_nil ?_
  refine hQ101 _ _ _ ?_
  refine thn_n ?_
  refine cw_seq ?_
  refine cw_gen ?_
  intro Q102 hQ102
  refine cw_reg ?_
  refine el_pv (v := .int .i64 a1) (pv_move rfl) (by decide) ?_
  refine el_pv (v := u0) (pv_move rfl) (by decide) ?_
  refine el_pv (v := .int .i64 (a0.length : Int)) (pv_len rfl ha0) (by decide) ?_
  replace hF := ob hF
  obtain ⟨x103, hx103, hF⟩ := hF
  refine el_pv (v := .int .i64 x103) (pv_sub rfl rfl hx103) (by decide) ?_
  refine el_pv (v := .int .i64 x103) (pv_assign rfl) (by decide) ?_
  refine el_nil ?_
  refine hQ102 _ _ _ ?_
  refine thn_n ?_
  refine cw_seq ?_
  refine cw_gen ?_
  intro Q104 hQ104
  refine cw_seq ?_
  refine cw_gen ?_
  intro Q105 hQ105
  refine cw_reg ?_
  refine el_pv (v := .int .i64 x103) (pv_move rfl) (by decide) ?_
  refine el_pv (v := .bool (decide (x103 < 0))) (pv_lss rfl rfl) (by decide) ?_
  refine el_nil ?_
  refine hQ105 _ _ _ ?_
  refine thn_n ?_
  replace hF := oif hF
  rcases hF with ⟨hb106, hF⟩ | ⟨hb106, hF⟩
  · refine cw_cond_t rfl hb106 ?_
    refine cw_seq ?_
    refine cw_gen ?_
    intro Q107 hQ107
    refine cw_reg ?_
    refine el_pv (v := .int .i64 (-1)) (pv_assign rfl) (by decide) ?_
    refine el_nil ?_
    refine hQ107 _ _ _ ?_
    refine thn_n ?_
    refine cw_ret ?_
    refine hQ104 _ _ _ ?_
    refine thn_r ?_
    refine fin1 rfl rfl ?_
    have hr := Option.some.inj hF
    exact ⟨congrArg (fun (r : Int) => Ending.returned (.int .i64 r)) hr, hS.below⟩
  · refine cw_cond_f rfl hb106 ?_
    refine cw_skip ?_
    refine hQ104 _ _ _ ?_
    refine thn_n ?_
    refine cw_seq ?_
    refine cw_gen ?_
    intro Q108 hQ108
    refine cw_seq ?_
    refine cw_gen ?_
    intro Q109 hQ109
    refine cw_reg ?_
    refine el_pv (v := .int .i64 0) (pv_assign rfl) (by decide) ?_
    refine el_nil ?_
    refine hQ109 _ _ _ ?_
    refine thn_n ?_
    refine cw_block ?_
    refine cw_gen ?_
    intro Q110 hQ110
    obtain ⟨s111, hL, hK112⟩ := ob hF
    refine cw_loopS (fun k e w => ∃ (x113 : Int), ∃ (x114 : Int), e 0 = u0 ∧ e 1 = .int .i64 x113 ∧ e 5 = .int .i64 x114 ∧ Sat w0 w [] ∧ laws_szFactorNodeS_L1 N k a0 x113 x114 = some s111) N ?_ ?_ ?_
    · exact ⟨x103, 0, rfl, rfl, rfl, hS, hL⟩
    · rintro e w ⟨_, _, _, _, _, _, hz⟩; exact nomatch (show none = some _ from hz)
    · rintro k e119 w118 ⟨x113, x114, he115, he116, he117, hS, hF⟩
      refine cw_gen ?_
      intro Q120 hQ120
      refine cw_seq ?_
      refine cw_gen ?_
      intro Q121 hQ121
      refine cw_seq ?_
      refine cw_gen ?_
      intro Q122 hQ122
      refine cw_reg ?_
      refine el_pv (v := .int .i64 x114) (pv_move he117) (by decide) ?_
      refine el_pv (v := u0) (pv_move he115) (by decide) ?_
      refine el_pv (v := .int .i64 (a0.length : Int)) (pv_len rfl ha0) (by decide) ?_
      refine el_pv (v := .bool (decide (x114 < (a0.length : Int)))) (pv_lss rfl rfl) (by decide) ?_
      refine el_nil ?_
      refine hQ122 _ _ _ ?_
      refine thn_n ?_
      replace hF := oif hF
      rcases hF with ⟨hb123, hF⟩ | ⟨hb123, hF⟩
      · refine cw_cond_t rfl hb123 ?_
        refine cw_skip ?_
        refine hQ121 _ _ _ ?_
        refine thn_n ?_
        refine cw_seq ?_
        refine cw_gen ?_
        intro Q124 hQ124
        refine cw_block ?_
        refine cw_gen ?_
        intro Q125 hQ125
        refine cw_seq ?_
        refine cw_gen ?_
        intro Q126 hQ126
        refine cw_reg ?_
        refine el_pv (v := u0) (pv_move he115) (by decide) ?_
        refine el_pv (v := .int .i64 x114) (pv_move he117) (by decide) ?_
        replace hF := ob hF
        obtain ⟨x127, hx127, hF⟩ := hF
        refine el_index (wA := w0) rfl ha0 rfl (by decide) rfl hx127 (by decide) ?_
        intro b128 of129 c130 hr131 hm132
        obtain ⟨_, _, rfl, hr133, hr134⟩ := hr131
        obtain ⟨v135, rfl⟩ := slice_one hr133
        obtain ⟨v136, rfl⟩ := slice_one hr134
        refine el_pv (v := .agg #[v135, v136]) (pv_loada (cs := [v135, v136]) rfl rfl (cells_up hS.below hm132)) (by decide) ?_
        refine el_pv (v := .int .i64 x113) (pv_move he116) (by decide) ?_
        replace hF := ob hF
        obtain ⟨r137, hr137, hF⟩ := hF
        refine el_call goes79 (laws_szFactorNode_ok (hS.up hr133) (hS.up hr134) hr137) (congrArg List.toArray (mapc rfl (mapc rfl rfl))) (by decide) ?_
        rintro _ w138 ⟨rfl, hx139⟩
        refine ⟨_, rfl, ?_⟩
        replace hS := hS.ext hx139
        refine el_pv (v := .int .i64 r137) (pv_assign rfl) (by decide) ?_
        refine el_nil ?_
        refine hQ126 _ _ _ ?_
        refine thn_n ?_
        refine cw_seq ?_
        refine cw_gen ?_
        intro Q140 hQ140
        refine cw_reg ?_
        refine el_pv (v := .int .i64 r137) (pv_move rfl) (by decide) ?_
        refine el_pv (v := .bool (decide (r137 < 0))) (pv_lss rfl rfl) (by decide) ?_
        refine el_nil ?_
        refine hQ140 _ _ _ ?_
        refine thn_n ?_
        replace hF := oif hF
        rcases hF with ⟨hb141, hF⟩ | ⟨hb141, hF⟩
        · refine cw_cond_t rfl hb141 ?_
          refine cw_seq ?_
          refine cw_gen ?_
          intro Q142 hQ142
          refine cw_reg ?_
          refine el_pv (v := .int .i64 (-1)) (pv_assign rfl) (by decide) ?_
          refine el_nil ?_
          refine hQ142 _ _ _ ?_
          refine thn_n ?_
          refine cw_ret ?_
          refine hQ125 _ _ _ ?_
          refine inb_r ?_
          refine hQ124 _ _ _ ?_
          refine thn_r ?_
          refine hQ120 _ _ _ ?_
          refine thn_r ?_
          refine hQ110 _ _ _ ?_
          refine inb_r ?_
          refine hQ108 _ _ _ ?_
          refine thn_r ?_
          replace hF := exL hF hK112
          refine fin1 rfl rfl ?_
          have hr := Option.some.inj hF
          exact ⟨congrArg (fun (r : Int) => Ending.returned (.int .i64 r)) hr, hS.below⟩
        · refine cw_cond_f rfl hb141 ?_
          refine cw_skip ?_
          refine hQ125 _ _ _ ?_
          refine inb_n ?_
          refine hQ124 _ _ _ ?_
          refine thn_n ?_
          refine cw_reg ?_
          refine el_pv (v := .int .i64 x114) (pv_move he117) (by decide) ?_
          replace hF := ob hF
          obtain ⟨x143, hx143, hF⟩ := hF
          refine el_pv (v := .int .i64 x143) (pv_add rfl rfl hx143) (by decide) ?_
          refine el_pv (v := .int .i64 x143) (pv_assign rfl) (by decide) ?_
          refine el_nil ?_
          refine hQ120 _ _ _ ?_
          refine thn_n ?_
          replace hS := hS.keep 0
          exact ⟨r137, x143, he115, rfl, rfl, hS, hF⟩
      · refine cw_cond_f rfl hb123 ?_
        refine cw_exit ?_
        refine hQ121 _ _ _ ?_
        refine thn_x ?_
        refine hQ120 _ _ _ ?_
        refine thn_x ?_
        replace hF := exA hF hK112
        refine hQ110 _ _ _ ?_
        refine inb_s ?_
        refine hQ108 _ _ _ ?_
        refine thn_n ?_
        refine cw_seq ?_
        refine cw_gen ?_
        intro Q144 hQ144
        refine cw_reg ?_
        refine el_pv (v := .int .i64 x113) (pv_move he116) (by decide) ?_
        refine el_pv (v := .int .i64 x113) (pv_assign rfl) (by decide) ?_
        refine el_nil ?_
        refine hQ144 _ _ _ ?_
        refine thn_n ?_
        refine cw_ret ?_
        refine fin1 rfl rfl ?_
        have hr := Option.some.inj hF
        exact ⟨congrArg (fun (r : Int) => Ending.returned (.int .i64 r)) hr, hS.below⟩
set_option maxHeartbeats 4000000 in
theorem laws_szFactorization_ok {w0 : World} {u0 : Value} {a0 : List Int} {u1 : Value} {a1 : List (List Int × List Int)} {a2 : Int} (ha0 : (sliceR intR 3).rd w0 [u0] a0) (ha1 : (sliceR (pairR (sliceR intR 3) (sliceR intR 3)) 89).rd w0 [u1] a1) {N : Nat} {r : Int} (hF : laws_szFactorization N a0 a1 a2 = some r) :
    Calls Try.prog 9 #[.agg #[u0, u1], .int .i64 a2] w0 fun e w' => e = .returned (.int .i64 r) ∧ Ext w0 w' := by
  unfold laws_szFactorization at hF
  refine calls_E Try.func9 rfl rfl (of_decide_eq_true rfl) ?_
  have hS := Sat.start w0
  refine cw_seq ?_
  refine cw_gen ?_
  intro Q101 hQ101
  refine cw_reg ?_
  refine el_box [u0, u1] rfl hS (by decide) ?_
  intro w102 b103 hS hx104
  refine el_pv (v := .int .i64 0) (pv_assign rfl) (by decide) ?_
  refine el_nil ?_
  refine hQ101 _ _ _ ?_
  refine thn_n ?_
  refine cw_seq ?_
  refine cw_gen ?_
  intro Q106 hQ106
  refine cw_reg ?_
  refine el_pv (v := .pointer (some ⟨b103, 0 + 0, none⟩)) (pv_fieldAddr rfl) (by decide) ?_
  refine el_pv (v := u0) (pv_loadc rfl ((hS.boxAt 0 rfl) 0 _ rfl)) (by decide) ?_
  refine el_pv (v := .int .i64 a2) (pv_move rfl) (by decide) ?_
  replace hF := ob hF
  obtain ⟨r107, hr107, hF⟩ := hF
  refine el_call goes44 (laws_szIntS_ok (hS.up ha0) hr107) (congrArg List.toArray (mapc rfl (mapc rfl rfl))) (by decide) ?_
  rintro _ w108 ⟨rfl, hx109⟩
  refine ⟨_, rfl, ?_⟩
  replace hS := hS.ext hx109
  refine el_pv (v := .int .i64 r107) (pv_assign rfl) (by decide) ?_
  refine el_nil ?_
  refine hQ106 _ _ _ ?_
  refine thn_n ?_
  refine cw_seq ?_
  refine cw_gen ?_
  intro Q110 hQ110
  refine cw_seq ?_
  refine cw_gen ?_
  intro Q111 hQ111
  refine cw_reg ?_
  refine el_pv (v := .int .i64 r107) (pv_move rfl) (by decide) ?_
  refine el_pv (v := .bool (decide (r107 < 0))) (pv_lss rfl rfl) (by decide) ?_
  refine el_nil ?_
  refine hQ111 _ _ _ ?_
  refine thn_n ?_
  replace hF := oif hF
  rcases hF with ⟨hb112, hF⟩ | ⟨hb112, hF⟩
  · refine cw_cond_t rfl hb112 ?_
    refine cw_seq ?_
    refine cw_gen ?_
    intro Q113 hQ113
    refine cw_reg ?_
    refine el_pv (v := .int .i64 (-1)) (pv_assign rfl) (by decide) ?_
    refine el_nil ?_
    refine hQ113 _ _ _ ?_
    refine thn_n ?_
    refine cw_ret ?_
    refine hQ110 _ _ _ ?_
    refine thn_r ?_
    refine fin1 rfl rfl ?_
    have hr := Option.some.inj hF
    exact ⟨congrArg (fun (r : Int) => Ending.returned (.int .i64 r)) hr, hS.below⟩
  · refine cw_cond_f rfl hb112 ?_
    refine cw_skip ?_
    refine hQ110 _ _ _ ?_
    refine thn_n ?_
    refine cw_seq ?_
    refine cw_gen ?_
    intro Q114 hQ114
    refine cw_reg ?_
    refine el_pv (v := .pointer (some ⟨b103, 0 + 1, none⟩)) (pv_fieldAddr rfl) (by decide) ?_
    refine el_pv (v := u1) (pv_loadc rfl ((hS.boxAt 0 rfl) 1 _ rfl)) (by decide) ?_
    refine el_pv (v := .int .i64 r107) (pv_move rfl) (by decide) ?_
    replace hF := ob hF
    obtain ⟨r115, hr115, hF⟩ := hF
    refine el_call goes45 (laws_szFactorNodeS_ok (hS.up ha1) hr115) (congrArg List.toArray (mapc rfl (mapc rfl rfl))) (by decide) ?_
    rintro _ w116 ⟨rfl, hx117⟩
    refine ⟨_, rfl, ?_⟩
    replace hS := hS.ext hx117
    refine el_pv (v := .int .i64 r115) (pv_assign rfl) (by decide) ?_
    refine el_nil ?_
    refine hQ114 _ _ _ ?_
    refine thn_n ?_
    refine cw_seq ?_
    refine cw_gen ?_
    intro Q118 hQ118
    refine cw_seq ?_
    refine cw_gen ?_
    intro Q119 hQ119
    refine cw_reg ?_
    refine el_pv (v := .int .i64 r115) (pv_move rfl) (by decide) ?_
    refine el_pv (v := .bool (decide (r115 < 0))) (pv_lss rfl rfl) (by decide) ?_
    refine el_nil ?_
    refine hQ119 _ _ _ ?_
    refine thn_n ?_
    replace hF := oif hF
    rcases hF with ⟨hb120, hF⟩ | ⟨hb120, hF⟩
    · refine cw_cond_t rfl hb120 ?_
      refine cw_seq ?_
      refine cw_gen ?_
      intro Q121 hQ121
      refine cw_reg ?_
      refine el_pv (v := .int .i64 (-1)) (pv_assign rfl) (by decide) ?_
      refine el_nil ?_
      refine hQ121 _ _ _ ?_
      refine thn_n ?_
      refine cw_ret ?_
      refine hQ118 _ _ _ ?_
      refine thn_r ?_
      refine fin1 rfl rfl ?_
      have hr := Option.some.inj hF
      exact ⟨congrArg (fun (r : Int) => Ending.returned (.int .i64 r)) hr, hS.below⟩
    · refine cw_cond_f rfl hb120 ?_
      refine cw_skip ?_
      refine hQ118 _ _ _ ?_
      refine thn_n ?_
      refine cw_seq ?_
      refine cw_gen ?_
      intro Q122 hQ122
      refine cw_reg ?_
      refine el_pv (v := .int .i64 r115) (pv_move rfl) (by decide) ?_
      refine el_pv (v := .int .i64 r115) (pv_assign rfl) (by decide) ?_
      refine el_nil ?_
      refine hQ122 _ _ _ ?_
      refine thn_n ?_
      refine cw_ret ?_
      refine fin1 rfl rfl ?_
      have hr := Option.some.inj hF
      exact ⟨congrArg (fun (r : Int) => Ending.returned (.int .i64 r)) hr, hS.below⟩
set_option maxHeartbeats 4000000 in
theorem spec_CompareRows_ok {w0 : World} {u0 : Value} {a0 : List Int} {u1 : Value} {a1 : List Int} (ha0 : (sliceR intR 3).rd w0 [u0] a0) (ha1 : (sliceR intR 3).rd w0 [u1] a1) {N : Nat} {r : Int} (hF : spec_CompareRows N a0 a1 = some r) :
    Calls Try.prog 46 #[u0, u1] w0 fun e w' => e = .returned (.int .i64 r) ∧ Ext w0 w' := by
  unfold spec_CompareRows at hF
  refine calls_E Try.func46 rfl rfl (of_decide_eq_true rfl) ?_
  have hS := Sat.start w0
  refine cw_seq ?_
  refine cw_gen ?_
  intro Q101 hQ101
  refine cw_reg ?_
  refine el_pv (v := .int .i64 0) (pv_assign rfl) (by decide) ?_
  refine el_nil ?_
  refine hQ101 _ _ _ ?_
  refine thn_n ?_
  refine cw_seq ?_
  refine cw_gen ?_
  intro Q102 hQ102
  refine cw_seq ?_
  refine cw_gen ?_
  intro Q103 hQ103
  refine cw_reg ?_
  refine el_pv (v := .int .i64 0) (pv_assign rfl) (by decide) ?_
  refine el_nil ?_
  refine hQ103 _ _ _ ?_
  refine thn_n ?_
  refine cw_block ?_
  refine cw_gen ?_
  intro Q104 hQ104
  obtain ⟨s105, hL, hK106⟩ := ob hF
  refine cw_loopS (fun k e w => ∃ (x107 : Int), e 0 = u0 ∧ e 1 = u1 ∧ e 5 = .int .i64 x107 ∧ Sat w0 w [] ∧ spec_CompareRows_L1 N k a0 a1 x107 = some s105) N ?_ ?_ ?_
  · exact ⟨0, rfl, rfl, rfl, hS, hL⟩
  · rintro e w ⟨_, _, _, _, _, hz⟩; exact nomatch (show none = some _ from hz)
  · rintro k e112 w111 ⟨x107, he108, he109, he110, hS, hF⟩
    refine cw_gen ?_
    intro Q113 hQ113
    refine cw_seq ?_
    refine cw_gen ?_
    intro Q114 hQ114
    refine cw_seq ?_
    refine cw_gen ?_
    intro Q115 hQ115
    refine cw_reg ?_
    refine el_pv (v := .int .i64 x107) (pv_move he110) (by decide) ?_
    refine el_pv (v := u0) (pv_move he108) (by decide) ?_
    refine el_pv (v := .int .i64 (a0.length : Int)) (pv_len rfl ha0) (by decide) ?_
    refine el_pv (v := .bool (decide (x107 < (a0.length : Int)))) (pv_lss rfl rfl) (by decide) ?_
    refine el_pv (v := .bool (decide (x107 < (a0.length : Int)))) (pv_move rfl) (by decide) ?_
    replace hF := oif hF
    rcases hF with ⟨hb116, hF⟩ | ⟨hb116, hF⟩
    · refine el_on rfl hb116 ?_
      refine el_pv (v := .int .i64 x107) (pv_move he110) (by decide) ?_
      refine el_on rfl hb116 ?_
      refine el_pv (v := u1) (pv_move he109) (by decide) ?_
      refine el_on rfl hb116 ?_
      refine el_pv (v := .int .i64 (a1.length : Int)) (pv_len rfl ha1) (by decide) ?_
      refine el_on rfl hb116 ?_
      refine el_pv (v := .bool (decide (x107 < (a1.length : Int)))) (pv_lss rfl rfl) (by decide) ?_
      refine el_pv (v := .bool (decide (x107 < (a1.length : Int)))) (pv_pick_t rfl hb116 rfl) (by decide) ?_
      refine el_nil ?_
      refine hQ115 _ _ _ ?_
      refine thn_n ?_
      replace hF := oif hF
      rcases hF with ⟨hb117, hF⟩ | ⟨hb117, hF⟩
      · refine cw_cond_t rfl hb117 ?_
        refine cw_skip ?_
        refine hQ114 _ _ _ ?_
        refine thn_n ?_
        refine cw_seq ?_
        refine cw_gen ?_
        intro Q118 hQ118
        refine cw_block ?_
        refine cw_gen ?_
        intro Q119 hQ119
        refine cw_seq ?_
        refine cw_gen ?_
        intro Q120 hQ120
        refine cw_seq ?_
        refine cw_gen ?_
        intro Q121 hQ121
        refine cw_regq (by kernel_rfl) (by kernel_rfl) ?_
        refine ql_pv (v := u0) (pv_move he108) (by decide) ?_
        refine ql_pv (v := .int .i64 x107) (pv_move he110) (by decide) ?_
        replace hF := ob hF
        obtain ⟨x122, hx122, hF⟩ := hF
        refine ql_index (wA := w0) rfl ha0 rfl (by decide) rfl hx122 (by decide) ?_
        intro b123 of124 c125 hr126 hm127
        obtain rfl := hr126
        refine ql_pv (v := .int .i64 x122) (pv_loadc rfl ((cells_up hS.below hm127) 0 _ rfl)) (by decide) ?_
        refine ql_pv (v := u1) (pv_move he109) (by decide) ?_
        refine ql_pv (v := .int .i64 x107) (pv_move he110) (by decide) ?_
        replace hF := ob hF
        obtain ⟨x128, hx128, hF⟩ := hF
        refine ql_index (wA := w0) rfl ha1 rfl (by decide) rfl hx128 (by decide) ?_
        intro b129 of130 c131 hr132 hm133
        obtain rfl := hr132
        refine ql_pv (v := .int .i64 x128) (pv_loadc rfl ((cells_up hS.below hm133) 0 _ rfl)) (by decide) ?_
        refine ql_pv (v := .bool (decide (x122 < x128))) (pv_lss rfl rfl) (by decide) ?_
        refine ql_nil ?_
        intro w134 hx135
        replace hS := hS.ext hx135
        refine hQ121 _ _ _ ?_
        refine thn_n ?_
        replace hF := oif hF
        rcases hF with ⟨hb136, hF⟩ | ⟨hb136, hF⟩
        · refine cw_cond_t rfl hb136 ?_
          refine cw_seq ?_
          refine cw_gen ?_
          intro Q137 hQ137
          refine cw_reg ?_
          refine el_pv (v := .int .i64 (-1)) (pv_assign rfl) (by decide) ?_
          refine el_nil ?_
          refine hQ137 _ _ _ ?_
          refine thn_n ?_
          refine cw_ret ?_
          refine hQ120 _ _ _ ?_
          refine thn_r ?_
          refine hQ119 _ _ _ ?_
          refine inb_r ?_
          refine hQ118 _ _ _ ?_
          refine thn_r ?_
          refine hQ113 _ _ _ ?_
          refine thn_r ?_
          refine hQ104 _ _ _ ?_
          refine inb_r ?_
          refine hQ102 _ _ _ ?_
          refine thn_r ?_
          replace hF := exL hF hK106
          refine fin1 rfl rfl ?_
          have hr := Option.some.inj hF
          exact ⟨congrArg (fun (r : Int) => Ending.returned (.int .i64 r)) hr, hS.below⟩
        · refine cw_cond_f rfl hb136 ?_
          refine cw_skip ?_
          refine hQ120 _ _ _ ?_
          refine thn_n ?_
          refine cw_seq ?_
          refine cw_gen ?_
          intro Q138 hQ138
          refine cw_regq (by kernel_rfl) (by kernel_rfl) ?_
          refine ql_pv (v := u0) (pv_move he108) (by decide) ?_
          refine ql_pv (v := .int .i64 x107) (pv_move he110) (by decide) ?_
          replace hF := ob hF
          obtain ⟨x139, hx139, hF⟩ := hF
          refine ql_index (wA := w0) rfl ha0 rfl (by decide) rfl hx139 (by decide) ?_
          intro b140 of141 c142 hr143 hm144
          obtain rfl := hr143
          refine ql_pv (v := .int .i64 x139) (pv_loadc rfl ((cells_up hS.below hm144) 0 _ rfl)) (by decide) ?_
          refine ql_pv (v := u1) (pv_move he109) (by decide) ?_
          refine ql_pv (v := .int .i64 x107) (pv_move he110) (by decide) ?_
          replace hF := ob hF
          obtain ⟨x145, hx145, hF⟩ := hF
          refine ql_index (wA := w0) rfl ha1 rfl (by decide) rfl hx145 (by decide) ?_
          intro b146 of147 c148 hr149 hm150
          obtain rfl := hr149
          refine ql_pv (v := .int .i64 x145) (pv_loadc rfl ((cells_up hS.below hm150) 0 _ rfl)) (by decide) ?_
          refine ql_pv (v := .bool (decide (x145 < x139))) (pv_gtr rfl rfl) (by decide) ?_
          refine ql_nil ?_
          intro w151 hx152
          replace hS := hS.ext hx152
          refine hQ138 _ _ _ ?_
          refine thn_n ?_
          replace hF := oif hF
          rcases hF with ⟨hb153, hF⟩ | ⟨hb153, hF⟩
          · refine cw_cond_t rfl hb153 ?_
            refine cw_seq ?_
            refine cw_gen ?_
            intro Q154 hQ154
            refine cw_reg ?_
            refine el_pv (v := .int .i64 1) (pv_assign rfl) (by decide) ?_
            refine el_nil ?_
            refine hQ154 _ _ _ ?_
            refine thn_n ?_
            refine cw_ret ?_
            refine hQ119 _ _ _ ?_
            refine inb_r ?_
            refine hQ118 _ _ _ ?_
            refine thn_r ?_
            refine hQ113 _ _ _ ?_
            refine thn_r ?_
            refine hQ104 _ _ _ ?_
            refine inb_r ?_
            refine hQ102 _ _ _ ?_
            refine thn_r ?_
            replace hF := exL hF hK106
            refine fin1 rfl rfl ?_
            have hr := Option.some.inj hF
            exact ⟨congrArg (fun (r : Int) => Ending.returned (.int .i64 r)) hr, hS.below⟩
          · refine cw_cond_f rfl hb153 ?_
            refine cw_skip ?_
            refine hQ119 _ _ _ ?_
            refine inb_n ?_
            refine hQ118 _ _ _ ?_
            refine thn_n ?_
            refine cw_reg ?_
            refine el_pv (v := .int .i64 x107) (pv_move he110) (by decide) ?_
            replace hF := ob hF
            obtain ⟨x155, hx155, hF⟩ := hF
            refine el_pv (v := .int .i64 x155) (pv_add rfl rfl hx155) (by decide) ?_
            refine el_pv (v := .int .i64 x155) (pv_assign rfl) (by decide) ?_
            refine el_nil ?_
            refine hQ113 _ _ _ ?_
            refine thn_n ?_
            replace hS := hS.keep 0
            exact ⟨x155, he108, he109, rfl, hS, hF⟩
      · refine cw_cond_f rfl hb117 ?_
        refine cw_exit ?_
        refine hQ114 _ _ _ ?_
        refine thn_x ?_
        refine hQ113 _ _ _ ?_
        refine thn_x ?_
        replace hF := exA hF hK106
        refine hQ104 _ _ _ ?_
        refine inb_s ?_
        refine hQ102 _ _ _ ?_
        refine thn_n ?_
        refine cw_seq ?_
        refine cw_gen ?_
        intro Q156 hQ156
        refine cw_seq ?_
        refine cw_gen ?_
        intro Q157 hQ157
        refine cw_reg ?_
        refine el_pv (v := u0) (pv_move he108) (by decide) ?_
        refine el_pv (v := .int .i64 (a0.length : Int)) (pv_len rfl ha0) (by decide) ?_
        refine el_pv (v := u1) (pv_move he109) (by decide) ?_
        refine el_pv (v := .int .i64 (a1.length : Int)) (pv_len rfl ha1) (by decide) ?_
        refine el_pv (v := .bool (decide ((a0.length : Int) < (a1.length : Int)))) (pv_lss rfl rfl) (by decide) ?_
        refine el_nil ?_
        refine hQ157 _ _ _ ?_
        refine thn_n ?_
        replace hF := oif hF
        rcases hF with ⟨hb158, hF⟩ | ⟨hb158, hF⟩
        · refine cw_cond_t rfl hb158 ?_
          refine cw_seq ?_
          refine cw_gen ?_
          intro Q159 hQ159
          refine cw_reg ?_
          refine el_pv (v := .int .i64 (-1)) (pv_assign rfl) (by decide) ?_
          refine el_nil ?_
          refine hQ159 _ _ _ ?_
          refine thn_n ?_
          refine cw_ret ?_
          refine hQ156 _ _ _ ?_
          refine thn_r ?_
          refine fin1 rfl rfl ?_
          have hr := Option.some.inj hF
          exact ⟨congrArg (fun (r : Int) => Ending.returned (.int .i64 r)) hr, hS.below⟩
        · refine cw_cond_f rfl hb158 ?_
          refine cw_skip ?_
          refine hQ156 _ _ _ ?_
          refine thn_n ?_
          refine cw_seq ?_
          refine cw_gen ?_
          intro Q160 hQ160
          refine cw_seq ?_
          refine cw_gen ?_
          intro Q161 hQ161
          refine cw_reg ?_
          refine el_pv (v := u0) (pv_move he108) (by decide) ?_
          refine el_pv (v := .int .i64 (a0.length : Int)) (pv_len rfl ha0) (by decide) ?_
          refine el_pv (v := u1) (pv_move he109) (by decide) ?_
          refine el_pv (v := .int .i64 (a1.length : Int)) (pv_len rfl ha1) (by decide) ?_
          refine el_pv (v := .bool (decide ((a1.length : Int) < (a0.length : Int)))) (pv_gtr rfl rfl) (by decide) ?_
          refine el_nil ?_
          refine hQ161 _ _ _ ?_
          refine thn_n ?_
          replace hF := oif hF
          rcases hF with ⟨hb162, hF⟩ | ⟨hb162, hF⟩
          · refine cw_cond_t rfl hb162 ?_
            refine cw_seq ?_
            refine cw_gen ?_
            intro Q163 hQ163
            refine cw_reg ?_
            refine el_pv (v := .int .i64 1) (pv_assign rfl) (by decide) ?_
            refine el_nil ?_
            refine hQ163 _ _ _ ?_
            refine thn_n ?_
            refine cw_ret ?_
            refine hQ160 _ _ _ ?_
            refine thn_r ?_
            refine fin1 rfl rfl ?_
            have hr := Option.some.inj hF
            exact ⟨congrArg (fun (r : Int) => Ending.returned (.int .i64 r)) hr, hS.below⟩
          · refine cw_cond_f rfl hb162 ?_
            refine cw_skip ?_
            refine hQ160 _ _ _ ?_
            refine thn_n ?_
            refine cw_seq ?_
            refine cw_gen ?_
            intro Q164 hQ164
            refine cw_reg ?_
            refine el_pv (v := .int .i64 0) (pv_assign rfl) (by decide) ?_
            refine el_nil ?_
            refine hQ164 _ _ _ ?_
            refine thn_n ?_
            refine cw_ret ?_
            refine fin1 rfl rfl ?_
            have hr := Option.some.inj hF
            exact ⟨congrArg (fun (r : Int) => Ending.returned (.int .i64 r)) hr, hS.below⟩
    · refine el_off rfl hb116 rfl (by decide) ?_
      refine el_off rfl hb116 rfl (by decide) ?_
      refine el_off rfl hb116 rfl (by decide) ?_
      refine el_off rfl hb116 rfl (by decide) ?_
      refine el_pv (v := .bool false) (pv_pick_f rfl hb116 rfl) (by decide) ?_
      refine el_nil ?_
      refine hQ115 _ _ _ ?_
      refine thn_n ?_
      refine cw_cond_f rfl rfl ?_
      refine cw_exit ?_
      refine hQ114 _ _ _ ?_
      refine thn_x ?_
      refine hQ113 _ _ _ ?_
      refine thn_x ?_
      replace hF := exA hF hK106
      refine hQ104 _ _ _ ?_
      refine inb_s ?_
      refine hQ102 _ _ _ ?_
      refine thn_n ?_
      refine cw_seq ?_
      refine cw_gen ?_
      intro Q165 hQ165
      refine cw_seq ?_
      refine cw_gen ?_
      intro Q166 hQ166
      refine cw_reg ?_
      refine el_pv (v := u0) (pv_move he108) (by decide) ?_
      refine el_pv (v := .int .i64 (a0.length : Int)) (pv_len rfl ha0) (by decide) ?_
      refine el_pv (v := u1) (pv_move he109) (by decide) ?_
      refine el_pv (v := .int .i64 (a1.length : Int)) (pv_len rfl ha1) (by decide) ?_
      refine el_pv (v := .bool (decide ((a0.length : Int) < (a1.length : Int)))) (pv_lss rfl rfl) (by decide) ?_
      refine el_nil ?_
      refine hQ166 _ _ _ ?_
      refine thn_n ?_
      replace hF := oif hF
      rcases hF with ⟨hb167, hF⟩ | ⟨hb167, hF⟩
      · refine cw_cond_t rfl hb167 ?_
        refine cw_seq ?_
        refine cw_gen ?_
        intro Q168 hQ168
        refine cw_reg ?_
        refine el_pv (v := .int .i64 (-1)) (pv_assign rfl) (by decide) ?_
        refine el_nil ?_
        refine hQ168 _ _ _ ?_
        refine thn_n ?_
        refine cw_ret ?_
        refine hQ165 _ _ _ ?_
        refine thn_r ?_
        refine fin1 rfl rfl ?_
        have hr := Option.some.inj hF
        exact ⟨congrArg (fun (r : Int) => Ending.returned (.int .i64 r)) hr, hS.below⟩
      · refine cw_cond_f rfl hb167 ?_
        refine cw_skip ?_
        refine hQ165 _ _ _ ?_
        refine thn_n ?_
        refine cw_seq ?_
        refine cw_gen ?_
        intro Q169 hQ169
        refine cw_seq ?_
        refine cw_gen ?_
        intro Q170 hQ170
        refine cw_reg ?_
        refine el_pv (v := u0) (pv_move he108) (by decide) ?_
        refine el_pv (v := .int .i64 (a0.length : Int)) (pv_len rfl ha0) (by decide) ?_
        refine el_pv (v := u1) (pv_move he109) (by decide) ?_
        refine el_pv (v := .int .i64 (a1.length : Int)) (pv_len rfl ha1) (by decide) ?_
        refine el_pv (v := .bool (decide ((a1.length : Int) < (a0.length : Int)))) (pv_gtr rfl rfl) (by decide) ?_
        refine el_nil ?_
        refine hQ170 _ _ _ ?_
        refine thn_n ?_
        replace hF := oif hF
        rcases hF with ⟨hb171, hF⟩ | ⟨hb171, hF⟩
        · refine cw_cond_t rfl hb171 ?_
          refine cw_seq ?_
          refine cw_gen ?_
          intro Q172 hQ172
          refine cw_reg ?_
          refine el_pv (v := .int .i64 1) (pv_assign rfl) (by decide) ?_
          refine el_nil ?_
          refine hQ172 _ _ _ ?_
          refine thn_n ?_
          refine cw_ret ?_
          refine hQ169 _ _ _ ?_
          refine thn_r ?_
          refine fin1 rfl rfl ?_
          have hr := Option.some.inj hF
          exact ⟨congrArg (fun (r : Int) => Ending.returned (.int .i64 r)) hr, hS.below⟩
        · refine cw_cond_f rfl hb171 ?_
          refine cw_skip ?_
          refine hQ169 _ _ _ ?_
          refine thn_n ?_
          refine cw_seq ?_
          refine cw_gen ?_
          intro Q173 hQ173
          refine cw_reg ?_
          refine el_pv (v := .int .i64 0) (pv_assign rfl) (by decide) ?_
          refine el_nil ?_
          refine hQ173 _ _ _ ?_
          refine thn_n ?_
          refine cw_ret ?_
          refine fin1 rfl rfl ?_
          have hr := Option.some.inj hF
          exact ⟨congrArg (fun (r : Int) => Ending.returned (.int .i64 r)) hr, hS.below⟩
set_option maxHeartbeats 4000000 in
theorem spec_EqualFactorizations_ok {w0 : World} {u0 : Value} {a0 : List Int} {u1 : Value} {a1 : List (List Int × List Int)} {u2 : Value} {a2 : List Int} {u3 : Value} {a3 : List (List Int × List Int)} (ha0 : (sliceR intR 3).rd w0 [u0] a0) (ha1 : (sliceR (pairR (sliceR intR 3) (sliceR intR 3)) 67).rd w0 [u1] a1) (ha2 : (sliceR intR 3).rd w0 [u2] a2) (ha3 : (sliceR (pairR (sliceR intR 3) (sliceR intR 3)) 67).rd w0 [u3] a3) {N : Nat} {r : Bool} (hF : spec_EqualFactorizations N a0 a1 a2 a3 = some r) :
    Calls Try.prog 10 #[.agg #[u0, u1], .agg #[u2, u3]] w0 fun e w' => e = .returned (.bool r) ∧ Ext w0 w' := by
  unfold spec_EqualFactorizations at hF
  refine calls_E Try.func10 rfl rfl (of_decide_eq_true rfl) ?_
  have hS := Sat.start w0
  refine cw_seq ?_
  refine cw_gen ?_
  intro Q101 hQ101
  refine cw_reg ?_
  refine el_box [u0, u1] rfl hS (by decide) ?_
  intro w102 b103 hS hx104
  refine el_box [u2, u3] rfl hS (by decide) ?_
  intro w106 b107 hS hx108
  refine el_pv (v := .bool false) (pv_assign rfl) (by decide) ?_
  refine el_nil ?_
  refine hQ101 _ _ _ ?_
  refine thn_n ?_
  refine cw_seq ?_
  refine cw_gen ?_
  intro Q110 hQ110
  refine cw_seq ?_
  refine cw_gen ?_
  intro Q111 hQ111
  refine cw_reg ?_
  refine el_pv (v := .pointer (some ⟨b103, 0 + 0, none⟩)) (pv_fieldAddr rfl) (by decide) ?_
  refine el_pv (v := u0) (pv_loadc rfl ((hS.boxAt 1 rfl) 0 _ rfl)) (by decide) ?_
  refine el_pv (v := .pointer (some ⟨b107, 0 + 0, none⟩)) (pv_fieldAddr rfl) (by decide) ?_
  refine el_pv (v := u2) (pv_loadc rfl ((hS.boxAt 0 rfl) 0 _ rfl)) (by decide) ?_
  replace hF := ob hF
  obtain ⟨r112, hr112, hF⟩ := hF
  refine el_call goes46 (spec_CompareRows_ok (hS.up ha0) (hS.up ha2) hr112) (congrArg List.toArray (mapc rfl (mapc rfl rfl))) (by decide) ?_
  rintro _ w113 ⟨rfl, hx114⟩
  refine ⟨_, rfl, ?_⟩
  replace hS := hS.ext hx114
  refine el_pv (v := .bool (r112 != 0)) (pv_neq rfl rfl) (by decide) ?_
  refine el_pv (v := .bool (r112 != 0)) (pv_move rfl) (by decide) ?_
  replace hF := oif hF
  rcases hF with ⟨hb115, hF⟩ | ⟨hb115, hF⟩
  · refine el_off rfl hb115 rfl (by decide) ?_
    refine el_off rfl hb115 rfl (by decide) ?_
    refine el_off rfl hb115 rfl (by decide) ?_
    refine el_off rfl hb115 rfl (by decide) ?_
    refine el_off rfl hb115 rfl (by decide) ?_
    refine el_off rfl hb115 rfl (by decide) ?_
    refine el_off rfl hb115 rfl (by decide) ?_
    refine el_pv (v := .bool true) (pv_pick_t rfl hb115 rfl) (by decide) ?_
    refine el_nil ?_
    refine hQ111 _ _ _ ?_
    refine thn_n ?_
    refine cw_cond_t rfl rfl ?_
    refine cw_seq ?_
    refine cw_gen ?_
    intro Q116 hQ116
    refine cw_reg ?_
    refine el_pv (v := .bool false) (pv_assign rfl) (by decide) ?_
    refine el_nil ?_
    refine hQ116 _ _ _ ?_
    refine thn_n ?_
    refine cw_ret ?_
    refine hQ110 _ _ _ ?_
    refine thn_r ?_
    refine fin1 rfl rfl ?_
    have hr := Option.some.inj hF
    exact ⟨congrArg (fun (r : Bool) => Ending.returned (.bool r)) hr, hS.below⟩
  · refine el_on rfl hb115 ?_
    refine el_pv (v := .pointer (some ⟨b103, 0 + 1, none⟩)) (pv_fieldAddr rfl) (by decide) ?_
    refine el_on rfl hb115 ?_
    refine el_pv (v := u1) (pv_loadc rfl ((hS.boxAt 1 rfl) 1 _ rfl)) (by decide) ?_
    refine el_on rfl hb115 ?_
    refine el_pv (v := .int .i64 (a1.length : Int)) (pv_len rfl ha1) (by decide) ?_
    refine el_on rfl hb115 ?_
    refine el_pv (v := .pointer (some ⟨b107, 0 + 1, none⟩)) (pv_fieldAddr rfl) (by decide) ?_
    refine el_on rfl hb115 ?_
    refine el_pv (v := u3) (pv_loadc rfl ((hS.boxAt 0 rfl) 1 _ rfl)) (by decide) ?_
    refine el_on rfl hb115 ?_
    refine el_pv (v := .int .i64 (a3.length : Int)) (pv_len rfl ha3) (by decide) ?_
    refine el_on rfl hb115 ?_
    refine el_pv (v := .bool ((a1.length : Int) != (a3.length : Int))) (pv_neq rfl rfl) (by decide) ?_
    refine el_pv (v := .bool ((a1.length : Int) != (a3.length : Int))) (pv_pick_f rfl hb115 rfl) (by decide) ?_
    refine el_nil ?_
    refine hQ111 _ _ _ ?_
    refine thn_n ?_
    replace hF := oif hF
    rcases hF with ⟨hb117, hF⟩ | ⟨hb117, hF⟩
    · refine cw_cond_t rfl hb117 ?_
      refine cw_seq ?_
      refine cw_gen ?_
      intro Q118 hQ118
      refine cw_reg ?_
      refine el_pv (v := .bool false) (pv_assign rfl) (by decide) ?_
      refine el_nil ?_
      refine hQ118 _ _ _ ?_
      refine thn_n ?_
      refine cw_ret ?_
      refine hQ110 _ _ _ ?_
      refine thn_r ?_
      refine fin1 rfl rfl ?_
      have hr := Option.some.inj hF
      exact ⟨congrArg (fun (r : Bool) => Ending.returned (.bool r)) hr, hS.below⟩
    · refine cw_cond_f rfl hb117 ?_
      refine cw_skip ?_
      refine hQ110 _ _ _ ?_
      refine thn_n ?_
      refine cw_seq ?_
      refine cw_gen ?_
      intro Q119 hQ119
      refine cw_seq ?_
      refine cw_gen ?_
      intro Q120 hQ120
      refine cw_reg ?_
      refine el_pv (v := .int .i64 0) (pv_assign rfl) (by decide) ?_
      refine el_nil ?_
      refine hQ120 _ _ _ ?_
      refine thn_n ?_
      refine cw_block ?_
      refine cw_gen ?_
      intro Q121 hQ121
      obtain ⟨s122, hL, hK123⟩ := ob hF
      refine cw_loopS (fun k e w => ∃ (x124 : Int), e 2 = .pointer (some ⟨b103, 0, none⟩) ∧ e 3 = .pointer (some ⟨b107, 0, none⟩) ∧ e 5 = .int .i64 x124 ∧ Sat w0 w [Box b107 30 [u2, u3], Box b103 30 [u0, u1]] ∧ spec_EqualFactorizations_L1 N k a0 a1 a2 a3 x124 = some s122) N ?_ ?_ ?_
      · exact ⟨0, rfl, rfl, rfl, hS, hL⟩
      · rintro e w ⟨_, _, _, _, _, hz⟩; exact nomatch (show none = some _ from hz)
      · rintro k e129 w128 ⟨x124, he125, he126, he127, hS, hF⟩
        refine cw_gen ?_
        intro Q130 hQ130
        refine cw_seq ?_
        refine cw_gen ?_
        intro Q131 hQ131
        refine cw_seq ?_
        refine cw_gen ?_
        intro Q132 hQ132
        refine cw_reg ?_
        refine el_pv (v := .int .i64 x124) (pv_move he127) (by decide) ?_
        refine el_pv (v := .pointer (some ⟨b103, 0 + 1, none⟩)) (pv_fieldAddr he125) (by decide) ?_
        refine el_pv (v := u1) (pv_loadc rfl ((hS.boxAt 1 rfl) 1 _ rfl)) (by decide) ?_
        refine el_pv (v := .int .i64 (a1.length : Int)) (pv_len rfl ha1) (by decide) ?_
        refine el_pv (v := .bool (decide (x124 < (a1.length : Int)))) (pv_lss rfl rfl) (by decide) ?_
        refine el_nil ?_
        refine hQ132 _ _ _ ?_
        refine thn_n ?_
        replace hF := oif hF
        rcases hF with ⟨hb133, hF⟩ | ⟨hb133, hF⟩
        · refine cw_cond_t rfl hb133 ?_
          refine cw_skip ?_
          refine hQ131 _ _ _ ?_
          refine thn_n ?_
          refine cw_seq ?_
          refine cw_gen ?_
          intro Q134 hQ134
          refine cw_block ?_
          refine cw_gen ?_
          intro Q135 hQ135
          refine cw_seq ?_
          refine cw_gen ?_
          intro Q136 hQ136
          refine cw_regq (by kernel_rfl) (by kernel_rfl) ?_
          refine ql_pv (v := .pointer (some ⟨b103, 0 + 1, none⟩)) (pv_fieldAddr he125) (by decide) ?_
          refine ql_pv (v := u1) (pv_loadc rfl ((hS.boxAt 1 rfl) 1 _ rfl)) (by decide) ?_
          refine ql_pv (v := .int .i64 x124) (pv_move he127) (by decide) ?_
          replace hF := ob hF
          obtain ⟨x137, hx137, hF⟩ := hF
          refine ql_index (wA := w0) rfl ha1 rfl (by decide) rfl hx137 (by decide) ?_
          intro b138 of139 c140 hr141 hm142
          obtain ⟨_, _, rfl, hr143, hr144⟩ := hr141
          obtain ⟨v145, rfl⟩ := slice_one hr143
          obtain ⟨v146, rfl⟩ := slice_one hr144
          refine ql_pv (v := .pointer (some ⟨b138, of139 + 0, none⟩)) (pv_fieldAddr rfl) (by decide) ?_
          refine ql_pv (v := v145) (pv_loadc rfl ((cells_up hS.below hm142) 0 _ rfl)) (by decide) ?_
          refine ql_pv (v := .pointer (some ⟨b107, 0 + 1, none⟩)) (pv_fieldAddr he126) (by decide) ?_
          refine ql_pv (v := u3) (pv_loadc rfl ((hS.boxAt 0 rfl) 1 _ rfl)) (by decide) ?_
          refine ql_pv (v := .int .i64 x124) (pv_move he127) (by decide) ?_
          replace hF := ob hF
          obtain ⟨x147, hx147, hF⟩ := hF
          refine ql_index (wA := w0) rfl ha3 rfl (by decide) rfl hx147 (by decide) ?_
          intro b148 of149 c150 hr151 hm152
          obtain ⟨_, _, rfl, hr153, hr154⟩ := hr151
          obtain ⟨v155, rfl⟩ := slice_one hr153
          obtain ⟨v156, rfl⟩ := slice_one hr154
          refine ql_pv (v := .pointer (some ⟨b148, of149 + 0, none⟩)) (pv_fieldAddr rfl) (by decide) ?_
          refine ql_pv (v := v155) (pv_loadc rfl ((cells_up hS.below hm152) 0 _ rfl)) (by decide) ?_
          replace hF := ob hF
          obtain ⟨r157, hr157, hF⟩ := hF
          refine ql_call (.int .i64 r157) goes46 (fun w' hw' => spec_CompareRows_ok (rd_up (hS.up hr143) hw') (rd_up (hS.up hr153) hw') hr157) (congrArg List.toArray (mapc rfl (mapc rfl rfl))) (by decide) ?_
          refine ql_pv (v := .bool (r157 != 0)) (pv_neq rfl rfl) (by decide) ?_
          refine ql_pv (v := .bool (r157 != 0)) (pv_move rfl) (by decide) ?_
          replace hF := oif hF
          rcases hF with ⟨hb158, hF⟩ | ⟨hb158, hF⟩
          · refine ql_off rfl hb158 rfl (by decide) ?_
            refine ql_off rfl hb158 rfl (by decide) ?_
            refine ql_off rfl hb158 rfl (by decide) ?_
            refine ql_off rfl hb158 rfl (by decide) ?_
            refine ql_off rfl hb158 rfl (by decide) ?_
            refine ql_off rfl hb158 rfl (by decide) ?_
            refine ql_off rfl hb158 rfl (by decide) ?_
            refine ql_off rfl hb158 rfl (by decide) ?_
            refine ql_off rfl hb158 rfl (by decide) ?_
            refine ql_off rfl hb158 rfl (by decide) ?_
            refine ql_off rfl hb158 rfl (by decide) ?_
            refine ql_off rfl hb158 rfl (by decide) ?_
            refine ql_off rfl hb158 rfl (by decide) ?_
            refine ql_off rfl hb158 rfl (by decide) ?_
            refine ql_pv (v := .bool true) (pv_pick_t rfl hb158 rfl) (by decide) ?_
            refine ql_nil ?_
            intro w159 hx160
            replace hS := hS.ext hx160
            refine hQ136 _ _ _ ?_
            refine thn_n ?_
            refine cw_cond_t rfl rfl ?_
            refine cw_seq ?_
            refine cw_gen ?_
            intro Q161 hQ161
            refine cw_reg ?_
            refine el_pv (v := .bool false) (pv_assign rfl) (by decide) ?_
            refine el_nil ?_
            refine hQ161 _ _ _ ?_
            refine thn_n ?_
            refine cw_ret ?_
            refine hQ135 _ _ _ ?_
            refine inb_r ?_
            refine hQ134 _ _ _ ?_
            refine thn_r ?_
            refine hQ130 _ _ _ ?_
            refine thn_r ?_
            refine hQ121 _ _ _ ?_
            refine inb_r ?_
            refine hQ119 _ _ _ ?_
            refine thn_r ?_
            replace hF := exL hF hK123
            refine fin1 rfl rfl ?_
            have hr := Option.some.inj hF
            exact ⟨congrArg (fun (r : Bool) => Ending.returned (.bool r)) hr, hS.below⟩
          · refine ql_on rfl hb158 ?_
            refine ql_pv (v := .pointer (some ⟨b103, 0 + 1, none⟩)) (pv_fieldAddr he125) (by decide) ?_
            refine ql_on rfl hb158 ?_
            refine ql_pv (v := u1) (pv_loadc rfl ((hS.boxAt 1 rfl) 1 _ rfl)) (by decide) ?_
            refine ql_on rfl hb158 ?_
            refine ql_pv (v := .int .i64 x124) (pv_move he127) (by decide) ?_
            refine ql_on rfl hb158 ?_
            replace hF := ob hF
            obtain ⟨x162, hx162, hF⟩ := hF
            refine ql_index (wA := w0) rfl ha1 rfl (by decide) rfl hx162 (by decide) ?_
            intro b163 of164 c165 hr166 hm167
            obtain ⟨_, _, rfl, hr168, hr169⟩ := hr166
            obtain ⟨v170, rfl⟩ := slice_one hr168
            obtain ⟨v171, rfl⟩ := slice_one hr169
            refine ql_on rfl hb158 ?_
            refine ql_pv (v := .pointer (some ⟨b163, of164 + 1, none⟩)) (pv_fieldAddr rfl) (by decide) ?_
            refine ql_on rfl hb158 ?_
            refine ql_pv (v := v171) (pv_loadc rfl ((cells_up hS.below hm167) 1 _ rfl)) (by decide) ?_
            refine ql_on rfl hb158 ?_
            refine ql_pv (v := .pointer (some ⟨b107, 0 + 1, none⟩)) (pv_fieldAddr he126) (by decide) ?_
            refine ql_on rfl hb158 ?_
            refine ql_pv (v := u3) (pv_loadc rfl ((hS.boxAt 0 rfl) 1 _ rfl)) (by decide) ?_
            refine ql_on rfl hb158 ?_
            refine ql_pv (v := .int .i64 x124) (pv_move he127) (by decide) ?_
            refine ql_on rfl hb158 ?_
            replace hF := ob hF
            obtain ⟨x172, hx172, hF⟩ := hF
            refine ql_index (wA := w0) rfl ha3 rfl (by decide) rfl hx172 (by decide) ?_
            intro b173 of174 c175 hr176 hm177
            obtain ⟨_, _, rfl, hr178, hr179⟩ := hr176
            obtain ⟨v180, rfl⟩ := slice_one hr178
            obtain ⟨v181, rfl⟩ := slice_one hr179
            refine ql_on rfl hb158 ?_
            refine ql_pv (v := .pointer (some ⟨b173, of174 + 1, none⟩)) (pv_fieldAddr rfl) (by decide) ?_
            refine ql_on rfl hb158 ?_
            refine ql_pv (v := v181) (pv_loadc rfl ((cells_up hS.below hm177) 1 _ rfl)) (by decide) ?_
            refine ql_on rfl hb158 ?_
            replace hF := ob hF
            obtain ⟨r182, hr182, hF⟩ := hF
            refine ql_call (.int .i64 r182) goes46 (fun w' hw' => spec_CompareRows_ok (rd_up (hS.up hr169) hw') (rd_up (hS.up hr179) hw') hr182) (congrArg List.toArray (mapc rfl (mapc rfl rfl))) (by decide) ?_
            refine ql_on rfl hb158 ?_
            refine ql_pv (v := .bool (r182 != 0)) (pv_neq rfl rfl) (by decide) ?_
            refine ql_pv (v := .bool (r182 != 0)) (pv_pick_f rfl hb158 rfl) (by decide) ?_
            refine ql_nil ?_
            intro w183 hx184
            replace hS := hS.ext hx184
            refine hQ136 _ _ _ ?_
            refine thn_n ?_
            replace hF := oif hF
            rcases hF with ⟨hb185, hF⟩ | ⟨hb185, hF⟩
            · refine cw_cond_t rfl hb185 ?_
              refine cw_seq ?_
              refine cw_gen ?_
              intro Q186 hQ186
              refine cw_reg ?_
              refine el_pv (v := .bool false) (pv_assign rfl) (by decide) ?_
              refine el_nil ?_
              refine hQ186 _ _ _ ?_
              refine thn_n ?_
              refine cw_ret ?_
              refine hQ135 _ _ _ ?_
              refine inb_r ?_
              refine hQ134 _ _ _ ?_
              refine thn_r ?_
              refine hQ130 _ _ _ ?_
              refine thn_r ?_
              refine hQ121 _ _ _ ?_
              refine inb_r ?_
              refine hQ119 _ _ _ ?_
              refine thn_r ?_
              replace hF := exL hF hK123
              refine fin1 rfl rfl ?_
              have hr := Option.some.inj hF
              exact ⟨congrArg (fun (r : Bool) => Ending.returned (.bool r)) hr, hS.below⟩
            · refine cw_cond_f rfl hb185 ?_
              refine cw_skip ?_
              refine hQ135 _ _ _ ?_
              refine inb_n ?_
              refine hQ134 _ _ _ ?_
              refine thn_n ?_
              refine cw_reg ?_
              refine el_pv (v := .int .i64 x124) (pv_move he127) (by decide) ?_
              replace hF := ob hF
              obtain ⟨x187, hx187, hF⟩ := hF
              refine el_pv (v := .int .i64 x187) (pv_add rfl rfl hx187) (by decide) ?_
              refine el_pv (v := .int .i64 x187) (pv_assign rfl) (by decide) ?_
              refine el_nil ?_
              refine hQ130 _ _ _ ?_
              refine thn_n ?_
              replace hS : Sat w0 w183 [Box b103 30 [u0, u1], Box b107 30 [u2, u3]] := hS.top 1 rfl
              replace hS : Sat w0 w183 [Box b107 30 [u2, u3], Box b103 30 [u0, u1]] := hS.top 1 rfl
              replace hS := hS.keep 2
              exact ⟨x187, he125, he126, rfl, hS, hF⟩
        · refine cw_cond_f rfl hb133 ?_
          refine cw_exit ?_
          refine hQ131 _ _ _ ?_
          refine thn_x ?_
          refine hQ130 _ _ _ ?_
          refine thn_x ?_
          replace hF := exA hF hK123
          refine hQ121 _ _ _ ?_
          refine inb_s ?_
          refine hQ119 _ _ _ ?_
          refine thn_n ?_
          refine cw_seq ?_
          refine cw_gen ?_
          intro Q188 hQ188
          refine cw_reg ?_
          refine el_pv (v := .bool true) (pv_assign rfl) (by decide) ?_
          refine el_nil ?_
          refine hQ188 _ _ _ ?_
          refine thn_n ?_
          refine cw_ret ?_
          refine fin1 rfl rfl ?_
          have hr := Option.some.inj hF
          exact ⟨congrArg (fun (r : Bool) => Ending.returned (.bool r)) hr, hS.below⟩
set_option maxHeartbeats 4000000 in
theorem laws_toIntS_ok {w0 : World} {u0 : Value} {a0 : List Int} (ha0 : (sliceR intR 3).rd w0 [u0] a0) {N : Nat} {r : (List Int)} (hF : laws_toIntS N a0 = some r) :
    Calls Try.prog 47 #[u0] w0 fun e w' => ∃ q0, e = .returned (q0) ∧ Sat w0 w' [Own (sliceR intR 3) [q0] r] := by
  unfold laws_toIntS at hF
  refine calls_E Try.func47 rfl rfl (of_decide_eq_true rfl) ?_
  have hS := Sat.start w0
  refine cw_seq ?_
  refine cw_gen ?_
  intro Q101 hQ101
  refine cw_reg ?_
  refine el_pv (v := (.slice none 0 0)) (pv_assign rfl) (by decide) ?_
  refine el_nil ?_
  refine hQ101 _ _ _ ?_
  refine thn_n ?_
  refine cw_seq ?_
  refine cw_gen ?_
  intro Q102 hQ102
  refine cw_reg ?_
  refine el_pv (v := u0) (pv_move rfl) (by decide) ?_
  refine el_pv (v := .int .i64 (a0.length : Int)) (pv_len rfl ha0) (by decide) ?_
  replace hF := ob hF
  obtain ⟨x106, hx106, hF⟩ := hF
  refine el_make (R := intR) (x0 := 0) rfl (by decide) rfl (fun _ => ⟨rfl, rfl⟩) rfl rfl hx106 hS (by decide) ?_
  intro w103 g104 k105 hS hx107 hlx106
  refine el_pv (v := (.slice (some ⟨g104, 0, none⟩) k105 k105)) (pv_assign rfl) (by decide) ?_
  refine el_nil ?_
  refine hQ102 _ _ _ ?_
  refine thn_n ?_
  refine cw_seq ?_
  refine cw_gen ?_
  intro Q109 hQ109
  refine cw_seq ?_
  refine cw_gen ?_
  intro Q110 hQ110
  refine cw_reg ?_
  refine el_pv (v := .int .i64 0) (pv_assign rfl) (by decide) ?_
  refine el_nil ?_
  refine hQ110 _ _ _ ?_
  refine thn_n ?_
  refine cw_block ?_
  refine cw_gen ?_
  intro Q111 hQ111
  obtain ⟨s112, hL, hK113⟩ := ob hF
  refine cw_loopS (fun k e w => ∃ (v115 : Value), ∃ (x114 : List Int), ∃ (x116 : Int), e 0 = u0 ∧ e 3 = v115 ∧ e 4 = .int .i64 x116 ∧ Sat w0 w [Own (sliceR intR 3) [v115] x114] ∧ laws_toIntS_L1 N k a0 x114 x116 = some s112) N ?_ ?_ ?_
  · exact ⟨(.slice (some ⟨g104, 0, none⟩) k105 k105), x106, 0, rfl, rfl, rfl, hS, hL⟩
  · rintro e w ⟨_, _, _, _, _, _, _, hz⟩; exact nomatch (show none = some _ from hz)
  · rintro k e121 w120 ⟨v115, x114, x116, he117, he118, he119, hS, hF⟩
    refine cw_gen ?_
    intro Q122 hQ122
    refine cw_seq ?_
    refine cw_gen ?_
    intro Q123 hQ123
    refine cw_seq ?_
    refine cw_gen ?_
    intro Q124 hQ124
    refine cw_reg ?_
    refine el_pv (v := .int .i64 x116) (pv_move he119) (by decide) ?_
    refine el_pv (v := u0) (pv_move he117) (by decide) ?_
    refine el_pv (v := .int .i64 (a0.length : Int)) (pv_len rfl ha0) (by decide) ?_
    refine el_pv (v := .bool (decide (x116 < (a0.length : Int)))) (pv_lss rfl rfl) (by decide) ?_
    refine el_nil ?_
    refine hQ124 _ _ _ ?_
    refine thn_n ?_
    replace hF := oif hF
    rcases hF with ⟨hb125, hF⟩ | ⟨hb125, hF⟩
    · refine cw_cond_t rfl hb125 ?_
      refine cw_skip ?_
      refine hQ123 _ _ _ ?_
      refine thn_n ?_
      refine cw_seq ?_
      refine cw_gen ?_
      intro Q126 hQ126
      refine cw_block ?_
      refine cw_gen ?_
      intro Q127 hQ127
      refine cw_reg ?_
      refine el_pv (v := v115) (pv_move he118) (by decide) ?_
      refine el_pv (v := .int .i64 x116) (pv_move he119) (by decide) ?_
      refine el_pv (v := u0) (pv_move he117) (by decide) ?_
      refine el_pv (v := .int .i64 x116) (pv_move he119) (by decide) ?_
      replace hF := ob hF
      obtain ⟨x128, hx128, hF⟩ := hF
      refine el_index (wA := w0) rfl ha0 rfl (by decide) rfl hx128 (by decide) ?_
      intro b129 of130 c131 hr132 hm133
      obtain rfl := hr132
      refine el_pv (v := .int .i64 x128) (pv_loadc rfl ((cells_up hS.below hm133) 0 _ rfl)) (by decide) ?_
      replace hF := ob hF
      obtain ⟨x134, hx134, hF⟩ := hF
      obtain ⟨g135, cap136, hv137⟩ := ownShape 0 hS rfl hx134
      refine el_pv (v := .pointer (some ⟨g135, x116.toNat * 1, none⟩)) (pv_indexF (v := v115) rfl hv137 rfl hx134) (by decide) ?_
      replace hF := ob hF
      obtain ⟨x139, hx139, hF⟩ := hF
      replace hS := hS.int x128
      refine el_storeO rfl hv137 hS hx139 rfl rfl ?_
      intro w138 hS
      refine el_nil ?_
      refine hQ127 _ _ _ ?_
      refine inb_n ?_
      refine hQ126 _ _ _ ?_
      refine thn_n ?_
      refine cw_reg ?_
      refine el_pv (v := .int .i64 x116) (pv_move he119) (by decide) ?_
      replace hF := ob hF
      obtain ⟨x140, hx140, hF⟩ := hF
      refine el_pv (v := .int .i64 x140) (pv_add rfl rfl hx140) (by decide) ?_
      refine el_pv (v := .int .i64 x140) (pv_assign rfl) (by decide) ?_
      refine el_nil ?_
      refine hQ122 _ _ _ ?_
      refine thn_n ?_
      replace hS := hS.keep 1
      exact ⟨v115, x139, x140, he117, he118, rfl, hS, hF⟩
    · refine cw_cond_f rfl hb125 ?_
      refine cw_exit ?_
      refine hQ123 _ _ _ ?_
      refine thn_x ?_
      refine hQ122 _ _ _ ?_
      refine thn_x ?_
      replace hF := exB hF hK113
      refine hQ111 _ _ _ ?_
      refine inb_s ?_
      refine hQ109 _ _ _ ?_
      refine thn_n ?_
      refine cw_seq ?_
      refine cw_gen ?_
      intro Q141 hQ141
      refine cw_reg ?_
      refine el_pv (v := v115) (pv_move he118) (by decide) ?_
      refine el_pv (v := v115) (pv_assign rfl) (by decide) ?_
      refine el_nil ?_
      refine hQ141 _ _ _ ?_
      refine thn_n ?_
      refine cw_ret ?_
      refine fin1 rfl rfl ?_
      have hr := Option.some.inj hF
      exact ⟨v115, congrArg (fun (r : (List Int)) => Ending.returned (v115)) hr, Eq.mp (congrArg (fun (r : (List Int)) => Sat w0 w120 [Own (sliceR intR 3) [v115] r]) hr) (hS.keep 1)⟩
set_option maxHeartbeats 4000000 in
theorem laws_toFactorNode_ok {w0 : World} {u0 : Value} {a0 : List Int} {u1 : Value} {a1 : List Int} (ha0 : (sliceR intR 3).rd w0 [u0] a0) (ha1 : (sliceR intR 3).rd w0 [u1] a1) {N : Nat} {r : (List Int × List Int)} (hF : laws_toFactorNode N a0 a1 = some r) :
    Calls Try.prog 80 #[.agg #[u0, u1]] w0 fun e w' => ∃ q0 q1, e = .returned (.agg #[q0, q1]) ∧ Sat w0 w' [Own (sliceR intR 3) [q0] r.1, Own (sliceR intR 3) [q1] r.2] := by
  unfold laws_toFactorNode at hF
  refine calls_E Try.func80 rfl rfl (of_decide_eq_true rfl) ?_
  have hS := Sat.start w0
  refine cw_seq ?_
  refine cw_gen ?_
  intro Q101 hQ101
  refine cw_reg ?_
  refine el_box [u0, u1] rfl hS (by decide) ?_
  intro w102 b103 hS hx104
  refine el_alloc hS (by decide) ?_
  intro w106 b107 hS hx108
  refine el_nil ?_
  refine hQ101 _ _ _ ?_
  refine thn_n ?_
  refine cw_seq ?_
  refine cw_gen ?_
  intro Q110 hQ110
  refine cw_reg ?_
  refine el_alloc hS (by decide) ?_
  intro w111 b112 hS hx113
  refine el_nil ?_
  refine hQ110 _ _ _ ?_
  refine thn_n ?_
  refine cw_seq ?_
  refine cw_gen ?_
  intro Q115 hQ115
  refine cw_reg ?_
  refine el_pv (v := .pointer (some ⟨b103, 0 + 0, none⟩)) (pv_fieldAddr rfl) (by decide) ?_
  refine el_pv (v := u0) (pv_loadc rfl ((hS.boxAt 2 rfl) 0 _ rfl)) (by decide) ?_
  replace hF := ob hF
  obtain ⟨r116, hr116, hF⟩ := hF
  refine el_call goes47 (laws_toIntS_ok (hS.up ha0) hr116) (congrArg List.toArray (mapc rfl rfl)) (by decide) ?_
  rintro _ w119 ⟨v117, rfl, hS'⟩
  refine ⟨_, rfl, ?_⟩
  have hx120 := hS'.below
  replace hS := hS.call1 hS'
  refine el_pv (v := .pointer (some ⟨b112, 0 + 0, none⟩)) (pv_fieldAddr rfl) (by decide) ?_
  refine el_storev (hS.top 1 rfl) rfl [v117] (cells_of rfl (oc (hS.rdAt (R := (sliceR intR 3)) 0 rfl))) rfl (of_decide_eq_true rfl) (all_cons (oc (hS.rdAt (R := (sliceR intR 3)) 0 rfl)) rfl) ?_
  intro w121 hS
  replace hS : Sat w0 w121 [Box b112 67 [v117, (.slice none 0 0)], Own (sliceR intR 3) [v117] r116, Box b107 67 [(.slice none 0 0), (.slice none 0 0)], Box b103 89 [u0, u1]] := hS
  refine el_nil ?_
  refine hQ115 _ _ _ ?_
  refine thn_n ?_
  refine cw_seq ?_
  refine cw_gen ?_
  intro Q122 hQ122
  refine cw_reg ?_
  refine el_pv (v := .pointer (some ⟨b103, 0 + 1, none⟩)) (pv_fieldAddr rfl) (by decide) ?_
  refine el_pv (v := u1) (pv_loadc rfl ((hS.boxAt 3 rfl) 1 _ rfl)) (by decide) ?_
  replace hF := ob hF
  obtain ⟨r123, hr123, hF⟩ := hF
  refine el_call goes47 (laws_toIntS_ok (hS.up ha1) hr123) (congrArg List.toArray (mapc rfl rfl)) (by decide) ?_
  rintro _ w126 ⟨v124, rfl, hS'⟩
  refine ⟨_, rfl, ?_⟩
  have hx127 := hS'.below
  replace hS := hS.call1 hS'
  refine el_pv (v := .pointer (some ⟨b112, 0 + 1, none⟩)) (pv_fieldAddr rfl) (by decide) ?_
  refine el_storev (hS.top 1 rfl) rfl [v124] (cells_of rfl (oc (hS.rdAt (R := (sliceR intR 3)) 0 rfl))) rfl (of_decide_eq_true rfl) (all_cons (oc (hS.rdAt (R := (sliceR intR 3)) 0 rfl)) rfl) ?_
  intro w128 hS
  replace hS : Sat w0 w128 [Box b112 67 [v117, v124], Own (sliceR intR 3) [v124] r123, Own (sliceR intR 3) [v117] r116, Box b107 67 [(.slice none 0 0), (.slice none 0 0)], Box b103 89 [u0, u1]] := hS
  refine el_nil ?_
  refine hQ122 _ _ _ ?_
  refine thn_n ?_
  refine cw_seq ?_
  refine cw_gen ?_
  intro Q129 hQ129
  refine cw_reg ?_
  refine el_pv (v := .agg #[v117, v124]) (pv_loada (cs := [v117, v124]) rfl rfl (boxc0 (hS.boxAt 0 rfl))) (by decide) ?_
  refine el_storev (hS.top 3 rfl) rfl [v117, v124] rfl rfl (of_decide_eq_true rfl) (all_cons (oc (hS.rdAt (R := (sliceR intR 3)) 2 rfl)) (all_cons (oc (hS.rdAt (R := (sliceR intR 3)) 1 rfl)) rfl)) ?_
  intro w130 hS
  replace hS : Sat w0 w130 [Box b107 67 [v117, v124], Box b112 67 [v117, v124], Own (sliceR intR 3) [v124] r123, Own (sliceR intR 3) [v117] r116, Box b103 89 [u0, u1]] := hS
  refine el_nil ?_
  refine hQ129 _ _ _ ?_
  refine thn_n ?_
  refine cw_ret ?_
  refine finC (cs := [v117, v124]) rfl rfl rfl (boxc0 (hS.boxAt 0 rfl))  ?_
  replace hS : Sat w0 w130 [Own (sliceR intR 3) [v124] r123, Box b107 67 [v117, v124], Box b112 67 [v117, v124], Own (sliceR intR 3) [v117] r116, Box b103 89 [u0, u1]] := hS.top 2 rfl
  replace hS : Sat w0 w130 [Own (sliceR intR 3) [v117] r116, Own (sliceR intR 3) [v124] r123, Box b107 67 [v117, v124], Box b112 67 [v117, v124], Box b103 89 [u0, u1]] := hS.top 3 rfl
  have hr := Option.some.inj hF
  exact ⟨v117, v124, congrArg (fun (r : (List Int × List Int)) => Ending.returned (.agg #[v117, v124])) hr, Eq.mp (congrArg (fun (r : (List Int × List Int)) => Sat w0 w130 [Own (sliceR intR 3) [v117] r.1, Own (sliceR intR 3) [v124] r.2]) hr) (hS.keep 2)⟩
set_option maxHeartbeats 4000000 in
theorem laws_toFactorNodeS_ok {w0 : World} {u0 : Value} {a0 : List (List Int × List Int)} (ha0 : (sliceR (pairR (sliceR intR 3) (sliceR intR 3)) 89).rd w0 [u0] a0) {N : Nat} {r : (List (List Int × List Int))} (hF : laws_toFactorNodeS N a0 = some r) :
    Calls Try.prog 48 #[u0] w0 fun e w' => ∃ q0, e = .returned (q0) ∧ Sat w0 w' [Own (sliceR (pairR (sliceR intR 3) (sliceR intR 3)) 67) [q0] r] := by
  unfold laws_toFactorNodeS at hF
  refine calls_E Try.func48 rfl rfl (of_decide_eq_true rfl) ?_
  have hS := Sat.start w0
  refine cw_seq ?_
  refine cw_gen ?_
  intro Q101 hQ101
  refine cw_reg ?_
  refine el_pv (v := (.slice none 0 0)) (pv_assign rfl) (by decide) ?_
  refine el_nil ?_
  refine hQ101 _ _ _ ?_
  refine thn_n ?_
  refine cw_seq ?_
  refine cw_gen ?_
  intro Q102 hQ102
  refine cw_reg ?_
  refine el_pv (v := u0) (pv_move rfl) (by decide) ?_
  refine el_pv (v := .int .i64 (a0.length : Int)) (pv_len rfl ha0) (by decide) ?_
  replace hF := ob hF
  obtain ⟨x106, hx106, hF⟩ := hF
  refine el_make (R := (pairR (sliceR intR 3) (sliceR intR 3))) (x0 := ([], [])) rfl (by decide) rfl (fun _ => ⟨_, _, [], [], rfl, rfl, .inl ⟨rfl, rfl, rfl⟩, .inl ⟨rfl, rfl, rfl⟩⟩) rfl rfl hx106 hS (by decide) ?_
  intro w103 g104 k105 hS hx107 hlx106
  refine el_pv (v := (.slice (some ⟨g104, 0, none⟩) k105 k105)) (pv_assign rfl) (by decide) ?_
  refine el_nil ?_
  refine hQ102 _ _ _ ?_
  refine thn_n ?_
  refine cw_seq ?_
  refine cw_gen ?_
  intro Q109 hQ109
  refine cw_seq ?_
  refine cw_gen ?_
  intro Q110 hQ110
  refine cw_reg ?_
  refine el_pv (v := .int .i64 0) (pv_assign rfl) (by decide) ?_
  refine el_nil ?_
  refine hQ110 _ _ _ ?_
  refine thn_n ?_
  refine cw_block ?_
  refine cw_gen ?_
  intro Q111 hQ111
  obtain ⟨s112, hL, hK113⟩ := ob hF
  refine cw_loopS (fun k e w => ∃ (v115 : Value), ∃ (x114 : List (List Int × List Int)), ∃ (x116 : Int), e 0 = u0 ∧ e 3 = v115 ∧ e 4 = .int .i64 x116 ∧ Sat w0 w [Own (sliceR (pairR (sliceR intR 3) (sliceR intR 3)) 67) [v115] x114] ∧ laws_toFactorNodeS_L1 N k a0 x114 x116 = some s112) N ?_ ?_ ?_
  · exact ⟨(.slice (some ⟨g104, 0, none⟩) k105 k105), x106, 0, rfl, rfl, rfl, hS, hL⟩
  · rintro e w ⟨_, _, _, _, _, _, _, hz⟩; exact nomatch (show none = some _ from hz)
  · rintro k e121 w120 ⟨v115, x114, x116, he117, he118, he119, hS, hF⟩
    refine cw_gen ?_
    intro Q122 hQ122
    refine cw_seq ?_
    refine cw_gen ?_
    intro Q123 hQ123
    refine cw_seq ?_
    refine cw_gen ?_
    intro Q124 hQ124
    refine cw_reg ?_
    refine el_pv (v := .int .i64 x116) (pv_move he119) (by decide) ?_
    refine el_pv (v := u0) (pv_move he117) (by decide) ?_
    refine el_pv (v := .int .i64 (a0.length : Int)) (pv_len rfl ha0) (by decide) ?_
    refine el_pv (v := .bool (decide (x116 < (a0.length : Int)))) (pv_lss rfl rfl) (by decide) ?_
    refine el_nil ?_
    refine hQ124 _ _ _ ?_
    refine thn_n ?_
    replace hF := oif hF
    rcases hF with ⟨hb125, hF⟩ | ⟨hb125, hF⟩
    · refine cw_cond_t rfl hb125 ?_
      refine cw_skip ?_
      refine hQ123 _ _ _ ?_
      refine thn_n ?_
      refine cw_seq ?_
      refine cw_gen ?_
      intro Q126 hQ126
      refine cw_block ?_
      refine cw_gen ?_
      intro Q127 hQ127
      refine cw_reg ?_
      refine el_pv (v := v115) (pv_move he118) (by decide) ?_
      refine el_pv (v := .int .i64 x116) (pv_move he119) (by decide) ?_
      refine el_pv (v := u0) (pv_move he117) (by decide) ?_
      refine el_pv (v := .int .i64 x116) (pv_move he119) (by decide) ?_
      replace hF := ob hF
      obtain ⟨x128, hx128, hF⟩ := hF
      refine el_index (wA := w0) rfl ha0 rfl (by decide) rfl hx128 (by decide) ?_
      intro b129 of130 c131 hr132 hm133
      obtain ⟨_, _, rfl, hr134, hr135⟩ := hr132
      obtain ⟨v136, rfl⟩ := slice_one hr134
      obtain ⟨v137, rfl⟩ := slice_one hr135
      refine el_pv (v := .agg #[v136, v137]) (pv_loada (cs := [v136, v137]) rfl rfl (cells_up hS.below hm133)) (by decide) ?_
      replace hF := ob hF
      obtain ⟨r138, hr138, hF⟩ := hF
      refine el_call goes80 (laws_toFactorNode_ok (hS.up hr134) (hS.up hr135) hr138) (congrArg List.toArray (mapc rfl rfl)) (by decide) ?_
      rintro _ w143 ⟨v139, v141, rfl, hS'⟩
      refine ⟨_, rfl, ?_⟩
      have hx144 := hS'.below
      replace hS := hS.call2 hS'
      replace hF := ob hF
      obtain ⟨x145, hx145, hF⟩ := hF
      replace hS : Sat w0 w143 [Own (sliceR (pairR (sliceR intR 3) (sliceR intR 3)) 67) [v115] x114, Own (sliceR intR 3) [v139] r138.1, Own (sliceR intR 3) [v141] r138.2] := hS.top 2 rfl
      refine el_indexO hS rfl rfl (by decide) rfl hx145 (by decide) ?_
      intro b146 of147 c148 hv151 hr149 hm150
      obtain ⟨_, _, rfl, hr152, hr153⟩ := hr149
      obtain ⟨v154, rfl⟩ := slice_one hr152
      obtain ⟨v155, rfl⟩ := slice_one hr153
      replace hF := ob hF
      obtain ⟨x157, hx157, hF⟩ := hF
      replace hS : Sat w0 w143 [Own (sliceR intR 3) [v141] r138.2, Own (sliceR (pairR (sliceR intR 3) (sliceR intR 3)) 67) [v115] x114, Own (sliceR intR 3) [v139] r138.1] := hS.top 2 rfl
      replace hS : Sat w0 w143 [Own (sliceR intR 3) [v139] r138.1, _, Own (sliceR (pairR (sliceR intR 3) (sliceR intR 3)) 67) [v115] x114] := hS.top 2 rfl
      replace hS := hS.pair
      refine el_storeO rfl hv151 hS hx157 rfl rfl ?_
      intro w156 hS
      refine el_nil ?_
      refine hQ127 _ _ _ ?_
      refine inb_n ?_
      refine hQ126 _ _ _ ?_
      refine thn_n ?_
      refine cw_reg ?_
      refine el_pv (v := .int .i64 x116) (pv_move he119) (by decide) ?_
      replace hF := ob hF
      obtain ⟨x158, hx158, hF⟩ := hF
      refine el_pv (v := .int .i64 x158) (pv_add rfl rfl hx158) (by decide) ?_
      refine el_pv (v := .int .i64 x158) (pv_assign rfl) (by decide) ?_
      refine el_nil ?_
      refine hQ122 _ _ _ ?_
      refine thn_n ?_
      replace hS := hS.keep 1
      exact ⟨v115, x157, x158, he117, he118, rfl, hS, hF⟩
    · refine cw_cond_f rfl hb125 ?_
      refine cw_exit ?_
      refine hQ123 _ _ _ ?_
      refine thn_x ?_
      refine hQ122 _ _ _ ?_
      refine thn_x ?_
      replace hF := exB hF hK113
      refine hQ111 _ _ _ ?_
      refine inb_s ?_
      refine hQ109 _ _ _ ?_
      refine thn_n ?_
      refine cw_seq ?_
      refine cw_gen ?_
      intro Q159 hQ159
      refine cw_reg ?_
      refine el_pv (v := v115) (pv_move he118) (by decide) ?_
      refine el_pv (v := v115) (pv_assign rfl) (by decide) ?_
      refine el_nil ?_
      refine hQ159 _ _ _ ?_
      refine thn_n ?_
      refine cw_ret ?_
      refine fin1 rfl rfl ?_
      have hr := Option.some.inj hF
      exact ⟨v115, congrArg (fun (r : (List (List Int × List Int))) => Ending.returned (v115)) hr, Eq.mp (congrArg (fun (r : (List (List Int × List Int))) => Sat w0 w120 [Own (sliceR (pairR (sliceR intR 3) (sliceR intR 3)) 67) [v115] r]) hr) (hS.keep 1)⟩
set_option maxHeartbeats 4000000 in
theorem laws_toFactorization_ok {w0 : World} {u0 : Value} {a0 : List Int} {u1 : Value} {a1 : List (List Int × List Int)} (ha0 : (sliceR intR 3).rd w0 [u0] a0) (ha1 : (sliceR (pairR (sliceR intR 3) (sliceR intR 3)) 89).rd w0 [u1] a1) {N : Nat} {r : (List Int × List (List Int × List Int))} (hF : laws_toFactorization N a0 a1 = some r) :
    Calls Try.prog 11 #[.agg #[u0, u1]] w0 fun e w' => ∃ q0 q1, e = .returned (.agg #[q0, q1]) ∧ Sat w0 w' [Own (sliceR intR 3) [q0] r.1, Own (sliceR (pairR (sliceR intR 3) (sliceR intR 3)) 67) [q1] r.2] := by
  unfold laws_toFactorization at hF
  refine calls_E Try.func11 rfl rfl (of_decide_eq_true rfl) ?_
  have hS := Sat.start w0
  refine cw_seq ?_
  refine cw_gen ?_
  intro Q101 hQ101
  refine cw_reg ?_
  refine el_box [u0, u1] rfl hS (by decide) ?_
  intro w102 b103 hS hx104
  refine el_alloc hS (by decide) ?_
  intro w106 b107 hS hx108
  refine el_nil ?_
  refine hQ101 _ _ _ ?_
  refine thn_n ?_
  refine cw_seq ?_
  refine cw_gen ?_
  intro Q110 hQ110
  refine cw_reg ?_
  refine el_alloc hS (by decide) ?_
  intro w111 b112 hS hx113
  refine el_nil ?_
  refine hQ110 _ _ _ ?_
  refine thn_n ?_
  refine cw_seq ?_
  refine cw_gen ?_
  intro Q115 hQ115
  refine cw_reg ?_
  refine el_pv (v := .pointer (some ⟨b103, 0 + 0, none⟩)) (pv_fieldAddr rfl) (by decide) ?_
  refine el_pv (v := u0) (pv_loadc rfl ((hS.boxAt 2 rfl) 0 _ rfl)) (by decide) ?_
  replace hF := ob hF
  obtain ⟨r116, hr116, hF⟩ := hF
  refine el_call goes47 (laws_toIntS_ok (hS.up ha0) hr116) (congrArg List.toArray (mapc rfl rfl)) (by decide) ?_
  rintro _ w119 ⟨v117, rfl, hS'⟩
  refine ⟨_, rfl, ?_⟩
  have hx120 := hS'.below
  replace hS := hS.call1 hS'
  refine el_pv (v := .pointer (some ⟨b112, 0 + 0, none⟩)) (pv_fieldAddr rfl) (by decide) ?_
  refine el_storev (hS.top 1 rfl) rfl [v117] (cells_of rfl (oc (hS.rdAt (R := (sliceR intR 3)) 0 rfl))) rfl (of_decide_eq_true rfl) (all_cons (oc (hS.rdAt (R := (sliceR intR 3)) 0 rfl)) rfl) ?_
  intro w121 hS
  replace hS : Sat w0 w121 [Box b112 30 [v117, (.slice none 0 0)], Own (sliceR intR 3) [v117] r116, Box b107 30 [(.slice none 0 0), (.slice none 0 0)], Box b103 25 [u0, u1]] := hS
  refine el_nil ?_
  refine hQ115 _ _ _ ?_
  refine thn_n ?_
  refine cw_seq ?_
  refine cw_gen ?_
  intro Q122 hQ122
  refine cw_reg ?_
  refine el_pv (v := .pointer (some ⟨b103, 0 + 1, none⟩)) (pv_fieldAddr rfl) (by decide) ?_
  refine el_pv (v := u1) (pv_loadc rfl ((hS.boxAt 3 rfl) 1 _ rfl)) (by decide) ?_
  replace hF := ob hF
  obtain ⟨r123, hr123, hF⟩ := hF
  refine el_call goes48 (laws_toFactorNodeS_ok (hS.up ha1) hr123) (congrArg List.toArray (mapc rfl rfl)) (by decide) ?_
  rintro _ w126 ⟨v124, rfl, hS'⟩
  refine ⟨_, rfl, ?_⟩
  have hx127 := hS'.below
  replace hS := hS.call1 hS'
  refine el_pv (v := .pointer (some ⟨b112, 0 + 1, none⟩)) (pv_fieldAddr rfl) (by decide) ?_
  refine el_storev (hS.top 1 rfl) rfl [v124] (cells_of rfl (oc (hS.rdAt (R := (sliceR (pairR (sliceR intR 3) (sliceR intR 3)) 67)) 0 rfl))) rfl (of_decide_eq_true rfl) (all_cons (oc (hS.rdAt (R := (sliceR (pairR (sliceR intR 3) (sliceR intR 3)) 67)) 0 rfl)) rfl) ?_
  intro w128 hS
  replace hS : Sat w0 w128 [Box b112 30 [v117, v124], Own (sliceR (pairR (sliceR intR 3) (sliceR intR 3)) 67) [v124] r123, Own (sliceR intR 3) [v117] r116, Box b107 30 [(.slice none 0 0), (.slice none 0 0)], Box b103 25 [u0, u1]] := hS
  refine el_nil ?_
  refine hQ122 _ _ _ ?_
  refine thn_n ?_
  refine cw_seq ?_
  refine cw_gen ?_
  intro Q129 hQ129
  refine cw_reg ?_
  refine el_pv (v := .agg #[v117, v124]) (pv_loada (cs := [v117, v124]) rfl rfl (boxc0 (hS.boxAt 0 rfl))) (by decide) ?_
  refine el_storev (hS.top 3 rfl) rfl [v117, v124] rfl rfl (of_decide_eq_true rfl) (all_cons (oc (hS.rdAt (R := (sliceR intR 3)) 2 rfl)) (all_cons (oc (hS.rdAt (R := (sliceR (pairR (sliceR intR 3) (sliceR intR 3)) 67)) 1 rfl)) rfl)) ?_
  intro w130 hS
  replace hS : Sat w0 w130 [Box b107 30 [v117, v124], Box b112 30 [v117, v124], Own (sliceR (pairR (sliceR intR 3) (sliceR intR 3)) 67) [v124] r123, Own (sliceR intR 3) [v117] r116, Box b103 25 [u0, u1]] := hS
  refine el_nil ?_
  refine hQ129 _ _ _ ?_
  refine thn_n ?_
  refine cw_ret ?_
  refine finC (cs := [v117, v124]) rfl rfl rfl (boxc0 (hS.boxAt 0 rfl))  ?_
  replace hS : Sat w0 w130 [Own (sliceR (pairR (sliceR intR 3) (sliceR intR 3)) 67) [v124] r123, Box b107 30 [v117, v124], Box b112 30 [v117, v124], Own (sliceR intR 3) [v117] r116, Box b103 25 [u0, u1]] := hS.top 2 rfl
  replace hS : Sat w0 w130 [Own (sliceR intR 3) [v117] r116, Own (sliceR (pairR (sliceR intR 3) (sliceR intR 3)) 67) [v124] r123, Box b107 30 [v117, v124], Box b112 30 [v117, v124], Box b103 25 [u0, u1]] := hS.top 3 rfl
  have hr := Option.some.inj hF
  exact ⟨v117, v124, congrArg (fun (r : (List Int × List (List Int × List Int))) => Ending.returned (.agg #[v117, v124])) hr, Eq.mp (congrArg (fun (r : (List Int × List (List Int × List Int))) => Sat w0 w130 [Own (sliceR intR 3) [v117] r.1, Own (sliceR (pairR (sliceR intR 3) (sliceR intR 3)) 67) [v124] r.2]) hr) (hS.keep 2)⟩
set_option maxHeartbeats 4000000 in
theorem impl_sameInts_ok {w0 : World} {u0 : Value} {a0 : List Int} {u1 : Value} {a1 : List Int} (ha0 : (sliceR intR 3).rd w0 [u0] a0) (ha1 : (sliceR intR 3).rd w0 [u1] a1) {N : Nat} {r : Bool} (hF : impl_sameInts N a0 a1 = some r) :
    Calls Try.prog 49 #[u0, u1] w0 fun e w' => e = .returned (.bool r) ∧ Ext w0 w' := by
  unfold impl_sameInts at hF
  refine calls_E Try.func49 rfl rfl (of_decide_eq_true rfl) ?_
  have hS := Sat.start w0
  refine cw_seq ?_
  refine cw_gen ?_
  intro Q101 hQ101
  refine cw_reg ?_
  refine el_pv (v := .bool false) (pv_assign rfl) (by decide) ?_
  refine el_nil ?_
  refine hQ101 _ _ _ ?_
  refine thn_n ?_
  refine cw_seq ?_
  refine cw_gen ?_
  intro Q102 hQ102
  refine cw_seq ?_
  refine cw_gen ?_
  intro Q103 hQ103
  refine cw_reg ?_
  refine el_pv (v := u0) (pv_move rfl) (by decide) ?_
  refine el_pv (v := .int .i64 (a0.length : Int)) (pv_len rfl ha0) (by decide) ?_
  refine el_pv (v := u1) (pv_move rfl) (by decide) ?_
  refine el_pv (v := .int .i64 (a1.length : Int)) (pv_len rfl ha1) (by decide) ?_
  refine el_pv (v := .bool ((a0.length : Int) != (a1.length : Int))) (pv_neq rfl rfl) (by decide) ?_
  refine el_nil ?_
  refine hQ103 _ _ _ ?_
  refine thn_n ?_
  replace hF := oif hF
  rcases hF with ⟨hb104, hF⟩ | ⟨hb104, hF⟩
  · refine cw_cond_t rfl hb104 ?_
    refine cw_seq ?_
    refine cw_gen ?_
    intro Q105 hQ105
    refine cw_reg ?_
    refine el_pv (v := .bool false) (pv_assign rfl) (by decide) ?_
    refine el_nil ?_
    refine hQ105 _ _ _ ?_
    refine thn_n ?_
    refine cw_ret ?_
    refine hQ102 _ _ _ ?_
    refine thn_r ?_
    refine fin1 rfl rfl ?_
    have hr := Option.some.inj hF
    exact ⟨congrArg (fun (r : Bool) => Ending.returned (.bool r)) hr, hS.below⟩
  · refine cw_cond_f rfl hb104 ?_
    refine cw_skip ?_
    refine hQ102 _ _ _ ?_
    refine thn_n ?_
    refine cw_seq ?_
    refine cw_gen ?_
    intro Q106 hQ106
    refine cw_seq ?_
    refine cw_gen ?_
    intro Q107 hQ107
    refine cw_reg ?_
    refine el_pv (v := u0) (pv_move rfl) (by decide) ?_
    refine el_pv (v := .int .i64 (a0.length : Int)) (pv_len rfl ha0) (by decide) ?_
    refine el_pv (v := .int .i64 0) (pv_move rfl) (by decide) ?_
    refine el_nil ?_
    refine hQ107 _ _ _ ?_
    refine thn_n ?_
    refine cw_block ?_
    refine cw_gen ?_
    intro Q108 hQ108
    obtain ⟨s109, hL, hK110⟩ := ob hF
    refine cw_loopS (fun k e w => ∃ (x111 : Int), e 0 = u0 ∧ e 1 = u1 ∧ e 12 = .int .i64 (a0.length : Int) ∧ e 13 = .int .i64 x111 ∧ Sat w0 w [] ∧ impl_sameInts_L1 N k a0 a1 (a0.length : Int) x111 = some s109) N ?_ ?_ ?_
    · exact ⟨0, rfl, rfl, rfl, rfl, hS, hL⟩
    · rintro e w ⟨_, _, _, _, _, _, hz⟩; exact nomatch (show none = some _ from hz)
    · rintro k e117 w116 ⟨x111, he112, he113, he114, he115, hS, hF⟩
      refine cw_gen ?_
      intro Q118 hQ118
      refine cw_seq ?_
      refine cw_gen ?_
      intro Q119 hQ119
      refine cw_reg ?_
      refine el_pv (v := .bool (decide (x111 < (a0.length : Int)))) (pv_lss he115 he114) (by decide) ?_
      refine el_nil ?_
      refine hQ119 _ _ _ ?_
      refine thn_n ?_
      refine cw_seq ?_
      refine cw_gen ?_
      intro Q120 hQ120
      replace hF := oif hF
      rcases hF with ⟨hb121, hF⟩ | ⟨hb121, hF⟩
      · refine cw_cond_t rfl hb121 ?_
        refine cw_skip ?_
        refine hQ120 _ _ _ ?_
        refine thn_n ?_
        refine cw_seq ?_
        refine cw_gen ?_
        intro Q122 hQ122
        refine cw_block ?_
        refine cw_gen ?_
        intro Q123 hQ123
        refine cw_seq ?_
        refine cw_gen ?_
        intro Q124 hQ124
        refine cw_reg ?_
        refine el_pv (v := .int .i64 x111) (pv_move he115) (by decide) ?_
        refine el_pv (v := .int .i64 x111) (pv_assign rfl) (by decide) ?_
        refine el_nil ?_
        refine hQ124 _ _ _ ?_
        refine thn_n ?_
        refine cw_seq ?_
        refine cw_gen ?_
        intro Q125 hQ125
        refine cw_regq (by kernel_rfl) (by kernel_rfl) ?_
        refine ql_pv (v := u0) (pv_move he112) (by decide) ?_
        refine ql_pv (v := .int .i64 x111) (pv_move rfl) (by decide) ?_
        replace hF := ob hF
        obtain ⟨x126, hx126, hF⟩ := hF
        refine ql_index (wA := w0) rfl ha0 rfl (by decide) rfl hx126 (by decide) ?_
        intro b127 of128 c129 hr130 hm131
        obtain rfl := hr130
        refine ql_pv (v := .int .i64 x126) (pv_loadc rfl ((cells_up hS.below hm131) 0 _ rfl)) (by decide) ?_
        refine ql_pv (v := u1) (pv_move he113) (by decide) ?_
        refine ql_pv (v := .int .i64 x111) (pv_move rfl) (by decide) ?_
        replace hF := ob hF
        obtain ⟨x132, hx132, hF⟩ := hF
        refine ql_index (wA := w0) rfl ha1 rfl (by decide) rfl hx132 (by decide) ?_
        intro b133 of134 c135 hr136 hm137
        obtain rfl := hr136
        refine ql_pv (v := .int .i64 x132) (pv_loadc rfl ((cells_up hS.below hm137) 0 _ rfl)) (by decide) ?_
        refine ql_pv (v := .bool (x126 != x132)) (pv_neq rfl rfl) (by decide) ?_
        refine ql_nil ?_
        intro w138 hx139
        replace hS := hS.ext hx139
        refine hQ125 _ _ _ ?_
        refine thn_n ?_
        replace hF := oif hF
        rcases hF with ⟨hb140, hF⟩ | ⟨hb140, hF⟩
        · refine cw_cond_t rfl hb140 ?_
          refine cw_seq ?_
          refine cw_gen ?_
          intro Q141 hQ141
          refine cw_reg ?_
          refine el_pv (v := .bool false) (pv_assign rfl) (by decide) ?_
          refine el_nil ?_
          refine hQ141 _ _ _ ?_
          refine thn_n ?_
          refine cw_ret ?_
          refine hQ123 _ _ _ ?_
          refine inb_r ?_
          refine hQ122 _ _ _ ?_
          refine thn_r ?_
          refine hQ118 _ _ _ ?_
          refine thn_r ?_
          refine hQ108 _ _ _ ?_
          refine inb_r ?_
          refine hQ106 _ _ _ ?_
          refine thn_r ?_
          replace hF := exL hF hK110
          refine fin1 rfl rfl ?_
          have hr := Option.some.inj hF
          exact ⟨congrArg (fun (r : Bool) => Ending.returned (.bool r)) hr, hS.below⟩
        · refine cw_cond_f rfl hb140 ?_
          refine cw_skip ?_
          refine hQ123 _ _ _ ?_
          refine inb_n ?_
          refine hQ122 _ _ _ ?_
          refine thn_n ?_
          refine cw_reg ?_
          replace hF := ob hF
          obtain ⟨x142, hx142, hF⟩ := hF
          refine el_pv (v := .int .i64 x142) (pv_add he115 rfl hx142) (by decide) ?_
          refine el_pv (v := .int .i64 x142) (pv_move rfl) (by decide) ?_
          refine el_nil ?_
          refine hQ118 _ _ _ ?_
          refine thn_n ?_
          replace hS := hS.keep 0
          exact ⟨x142, he112, he113, he114, rfl, hS, hF⟩
      · refine cw_cond_f rfl hb121 ?_
        refine cw_exit ?_
        refine hQ120 _ _ _ ?_
        refine thn_x ?_
        refine hQ118 _ _ _ ?_
        refine thn_x ?_
        replace hF := exA hF hK110
        refine hQ108 _ _ _ ?_
        refine inb_s ?_
        refine hQ106 _ _ _ ?_
        refine thn_n ?_
        refine cw_seq ?_
        refine cw_gen ?_
        intro Q143 hQ143
        refine cw_reg ?_
        refine el_pv (v := .bool true) (pv_assign rfl) (by decide) ?_
        refine el_nil ?_
        refine hQ143 _ _ _ ?_
        refine thn_n ?_
        refine cw_ret ?_
        refine fin1 rfl rfl ?_
        have hr := Option.some.inj hF
        exact ⟨congrArg (fun (r : Bool) => Ending.returned (.bool r)) hr, hS.below⟩
set_option maxHeartbeats 4000000 in
theorem impl_sameNode_ok {w0 : World} {u0 : Value} {a0 : List Int} {u1 : Value} {a1 : List Int} {u2 : Value} {a2 : List Int} {u3 : Value} {a3 : List Int} (ha0 : (sliceR intR 3).rd w0 [u0] a0) (ha1 : (sliceR intR 3).rd w0 [u1] a1) (ha2 : (sliceR intR 3).rd w0 [u2] a2) (ha3 : (sliceR intR 3).rd w0 [u3] a3) {N : Nat} {r : Bool} (hF : impl_sameNode N a0 a1 a2 a3 = some r) :
    Calls Try.prog 50 #[.agg #[u0, u1], .agg #[u2, u3]] w0 fun e w' => e = .returned (.bool r) ∧ Ext w0 w' := by
  unfold impl_sameNode at hF
  refine calls_E Try.func50 rfl rfl (of_decide_eq_true rfl) ?_
  have hS := Sat.start w0
  refine cw_seq ?_
  refine cw_gen ?_
  intro Q101 hQ101
  refine cw_reg ?_
  refine el_box [u0, u1] rfl hS (by decide) ?_
  intro w102 b103 hS hx104
  refine el_box [u2, u3] rfl hS (by decide) ?_
  intro w106 b107 hS hx108
  refine el_pv (v := .bool false) (pv_assign rfl) (by decide) ?_
  refine el_nil ?_
  refine hQ101 _ _ _ ?_
  refine thn_n ?_
  refine cw_seq ?_
  refine cw_gen ?_
  intro Q110 hQ110
  refine cw_reg ?_
  refine el_pv (v := .pointer (some ⟨b103, 0 + 0, none⟩)) (pv_fieldAddr rfl) (by decide) ?_
  refine el_pv (v := u0) (pv_loadc rfl ((hS.boxAt 1 rfl) 0 _ rfl)) (by decide) ?_
  refine el_pv (v := .pointer (some ⟨b107, 0 + 0, none⟩)) (pv_fieldAddr rfl) (by decide) ?_
  refine el_pv (v := u2) (pv_loadc rfl ((hS.boxAt 0 rfl) 0 _ rfl)) (by decide) ?_
  replace hF := ob hF
  obtain ⟨r111, hr111, hF⟩ := hF
  refine el_call goes49 (impl_sameInts_ok (hS.up ha0) (hS.up ha2) hr111) (congrArg List.toArray (mapc rfl (mapc rfl rfl))) (by decide) ?_
  rintro _ w112 ⟨rfl, hx113⟩
  refine ⟨_, rfl, ?_⟩
  replace hS := hS.ext hx113
  refine el_pv (v := .bool r111) (pv_move rfl) (by decide) ?_
  replace hF := oif hF
  rcases hF with ⟨hb114, hF⟩ | ⟨hb114, hF⟩
  · refine el_on rfl hb114 ?_
    refine el_pv (v := .pointer (some ⟨b103, 0 + 1, none⟩)) (pv_fieldAddr rfl) (by decide) ?_
    refine el_on rfl hb114 ?_
    refine el_pv (v := u1) (pv_loadc rfl ((hS.boxAt 1 rfl) 1 _ rfl)) (by decide) ?_
    refine el_on rfl hb114 ?_
    refine el_pv (v := .pointer (some ⟨b107, 0 + 1, none⟩)) (pv_fieldAddr rfl) (by decide) ?_
    refine el_on rfl hb114 ?_
    refine el_pv (v := u3) (pv_loadc rfl ((hS.boxAt 0 rfl) 1 _ rfl)) (by decide) ?_
    refine el_on rfl hb114 ?_
    replace hF := ob hF
    obtain ⟨r115, hr115, hF⟩ := hF
    refine el_call goes49 (impl_sameInts_ok (hS.up ha1) (hS.up ha3) hr115) (congrArg List.toArray (mapc rfl (mapc rfl rfl))) (by decide) ?_
    rintro _ w116 ⟨rfl, hx117⟩
    refine ⟨_, rfl, ?_⟩
    replace hS := hS.ext hx117
    refine el_pv (v := .bool r115) (pv_pick_t rfl hb114 rfl) (by decide) ?_
    refine el_pv (v := .bool r115) (pv_assign rfl) (by decide) ?_
    refine el_nil ?_
    refine hQ110 _ _ _ ?_
    refine thn_n ?_
    refine cw_ret ?_
    refine fin1 rfl rfl ?_
    have hr := Option.some.inj hF
    exact ⟨congrArg (fun (r : Bool) => Ending.returned (.bool r)) hr, hS.below⟩
  · refine el_off rfl hb114 rfl (by decide) ?_
    refine el_off rfl hb114 rfl (by decide) ?_
    refine el_off rfl hb114 rfl (by decide) ?_
    refine el_off rfl hb114 rfl (by decide) ?_
    refine el_off rfl hb114 rfl (by decide) ?_
    refine el_pv (v := .bool false) (pv_pick_f rfl hb114 rfl) (by decide) ?_
    refine el_pv (v := .bool false) (pv_assign rfl) (by decide) ?_
    refine el_nil ?_
    refine hQ110 _ _ _ ?_
    refine thn_n ?_
    refine cw_ret ?_
    refine fin1 rfl rfl ?_
    have hr := Option.some.inj hF
    exact ⟨congrArg (fun (r : Bool) => Ending.returned (.bool r)) hr, hS.below⟩
end Go.Proofs.Ytobjjdfgnaanjaa
