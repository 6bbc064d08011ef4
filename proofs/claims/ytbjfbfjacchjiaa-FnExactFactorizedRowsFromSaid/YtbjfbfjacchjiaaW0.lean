/- The walks through functions of the program: each hands back what it comes to. No condition but that it comes to something. -/
import Derived.Test.YtbjfbfjacchjiaaGoes
import Derived.Test.YtbjfbfjacchjiaaN
import Derived.Test.YtbjfbfjacchjiaaW0D
namespace Go.Proofs.Ytbjfbfjacchjiaa
open Go.RowKit
set_option maxRecDepth 100000
set_option maxHeartbeats 4000000 in
theorem laws_szIntS_ok {w0 : World} {u0 : Value} {a0 : List Int} {a1 : Int} (ha0 : (sliceR intR 3).rd w0 [u0] a0) {N : Nat} {r : Int} (hF : laws_szIntS N a0 a1 = some r) :
    Calls Try.prog 32 #[u0, .int .i64 a1] w0 fun e w' => e = .returned (.int .i64 r) ∧ Ext w0 w' := by
  unfold laws_szIntS at hF
  refine calls_E Try.func32 rfl rfl (of_decide_eq_true rfl) ?_
  have hS := Sat.start w0
  refine cw_seq ?_
  refine cw_gen ?_
  intro Q101 hQ101
  refine cw_reg ?_
  refine el_pv (v := .int .i64 0) (pv_assign rfl) (by decide) ?_
  refine el_nil ?_
  refine hQ101 _ _ _ ?_
  refine thn_n ?_
  refine cw_seq ?_
  refine cw_gen ?_
  intro Q102 hQ102
  refine cw_reg ?_
  refine el_pv (v := .int .i64 a1) (pv_move rfl) (by decide) ?_
  refine el_pv (v := u0) (pv_move rfl) (by decide) ?_
  refine el_pv (v := .int .i64 (a0.length : Int)) (pv_len rfl ha0) (by decide) ?_
  replace hF := ob hF
  obtain ⟨x103, hx103, hF⟩ := hF
  refine el_pv (v := .int .i64 x103) (pv_sub rfl rfl hx103) (by decide) ?_
  refine el_pv (v := .int .i64 x103) (pv_assign rfl) (by decide) ?_
  refine el_nil ?_
  refine hQ102 _ _ _ ?_
  refine thn_n ?_
  refine cw_seq ?_
  refine cw_gen ?_
  intro Q104 hQ104
  refine cw_seq ?_
  refine cw_gen ?_
  intro Q105 hQ105
  refine cw_reg ?_
  refine el_pv (v := .int .i64 x103) (pv_move rfl) (by decide) ?_
  refine el_pv (v := .bool (decide (x103 < 0))) (pv_lss rfl rfl) (by decide) ?_
  refine el_nil ?_
  refine hQ105 _ _ _ ?_
  refine thn_n ?_
  replace hF := oif hF
  rcases hF with ⟨hb106, hF⟩ | ⟨hb106, hF⟩
  · refine cw_cond_t rfl hb106 ?_
    refine cw_seq ?_
    refine cw_gen ?_
    intro Q107 hQ107
    refine cw_reg ?_
    refine el_pv (v := .int .i64 (-1)) (pv_assign rfl) (by decide) ?_
    refine el_nil ?_
    refine hQ107 _ _ _ ?_
    refine thn_n ?_
    refine cw_ret ?_
    refine hQ104 _ _ _ ?_
    refine thn_r ?_
    refine fin1 rfl rfl ?_
    have hr := Option.some.inj hF
    exact ⟨congrArg (fun (r : Int) => Ending.returned (.int .i64 r)) hr, hS.below⟩
  · refine cw_cond_f rfl hb106 ?_
    refine cw_skip ?_
    refine hQ104 _ _ _ ?_
    refine thn_n ?_
    refine cw_seq ?_
    refine cw_gen ?_
    intro Q108 hQ108
    refine cw_reg ?_
    refine el_pv (v := .int .i64 x103) (pv_move rfl) (by decide) ?_
    refine el_pv (v := .int .i64 x103) (pv_assign rfl) (by decide) ?_
    refine el_nil ?_
    refine hQ108 _ _ _ ?_
    refine thn_n ?_
    refine cw_ret ?_
    refine fin1 rfl rfl ?_
    have hr := Option.some.inj hF
    exact ⟨congrArg (fun (r : Int) => Ending.returned (.int .i64 r)) hr, hS.below⟩
set_option maxHeartbeats 4000000 in
theorem laws_szFactorNode_ok {w0 : World} {u0 : Value} {a0 : List Int} {u1 : Value} {a1 : List Int} {a2 : Int} (ha0 : (sliceR intR 3).rd w0 [u0] a0) (ha1 : (sliceR intR 3).rd w0 [u1] a1) {N : Nat} {r : Int} (hF : laws_szFactorNode N a0 a1 a2 = some r) :
    Calls Try.prog 46 #[.agg #[u0, u1], .int .i64 a2] w0 fun e w' => e = .returned (.int .i64 r) ∧ Ext w0 w' := by
  unfold laws_szFactorNode at hF
  refine calls_E Try.func46 rfl rfl (of_decide_eq_true rfl) ?_
  have hS := Sat.start w0
  refine cw_seq ?_
  refine cw_gen ?_
  intro Q101 hQ101
  refine cw_reg ?_
  refine el_box [u0, u1] rfl hS (by decide) ?_
  intro w102 b103 hS hx104
  refine el_pv (v := .int .i64 0) (pv_assign rfl) (by decide) ?_
  refine el_nil ?_
  refine hQ101 _ _ _ ?_
  refine thn_n ?_
  refine cw_seq ?_
  refine cw_gen ?_
  intro Q106 hQ106
  refine cw_reg ?_
  refine el_pv (v := .pointer (some ⟨b103, 0 + 0, none⟩)) (pv_fieldAddr rfl) (by decide) ?_
  refine el_pv (v := u0) (pv_loadc rfl ((hS.boxAt 0 rfl) 0 _ rfl)) (by decide) ?_
  refine el_pv (v := .int .i64 a2) (pv_move rfl) (by decide) ?_
  replace hF := ob hF
  obtain ⟨r107, hr107, hF⟩ := hF
  refine el_call goes32 (laws_szIntS_ok (hS.up ha0) hr107) (congrArg List.toArray (mapc rfl (mapc rfl rfl))) (by decide) ?_
  rintro _ w108 ⟨rfl, hx109⟩
  refine ⟨_, rfl, ?_⟩
  replace hS := hS.ext hx109
  refine el_pv (v := .int .i64 r107) (pv_assign rfl) (by decide) ?_
  refine el_nil ?_
  refine hQ106 _ _ _ ?_
  refine thn_n ?_
  refine cw_seq ?_
  refine cw_gen ?_
  intro Q110 hQ110
  refine cw_seq ?_
  refine cw_gen ?_
  intro Q111 hQ111
  refine cw_reg ?_
  refine el_pv (v := .int .i64 r107) (pv_move rfl) (by decide) ?_
  refine el_pv (v := .bool (decide (r107 < 0))) (pv_lss rfl rfl) (by decide) ?_
  refine el_nil ?_
  refine hQ111 _ _ _ ?_
  refine thn_n ?_
  replace hF := oif hF
  rcases hF with ⟨hb112, hF⟩ | ⟨hb112, hF⟩
  · refine cw_cond_t rfl hb112 ?_
    refine cw_seq ?_
    refine cw_gen ?_
    intro Q113 hQ113
    refine cw_reg ?_
    refine el_pv (v := .int .i64 (-1)) (pv_assign rfl) (by decide) ?_
    refine el_nil ?_
    refine hQ113 _ _ _ ?_
    refine thn_n ?_
    refine cw_ret ?_
    refine hQ110 _ _ _ ?_
    refine thn_r ?_
    refine fin1 rfl rfl ?_
    have hr := Option.some.inj hF
    exact ⟨congrArg (fun (r : Int) => Ending.returned (.int .i64 r)) hr, hS.below⟩
  · refine cw_cond_f rfl hb112 ?_
    refine cw_skip ?_
    refine hQ110 _ _ _ ?_
    refine thn_n ?_
    refine cw_seq ?_
    refine cw_gen ?_
    intro Q114 hQ114
    refine cw_reg ?_
    refine el_pv (v := .pointer (some ⟨b103, 0 + 1, none⟩)) (pv_fieldAddr rfl) (by decide) ?_
    refine el_pv (v := u1) (pv_loadc rfl ((hS.boxAt 0 rfl) 1 _ rfl)) (by decide) ?_
    refine el_pv (v := .int .i64 r107) (pv_move rfl) (by decide) ?_
    replace hF := ob hF
    obtain ⟨r115, hr115, hF⟩ := hF
    refine el_call goes32 (laws_szIntS_ok (hS.up ha1) hr115) (congrArg List.toArray (mapc rfl (mapc rfl rfl))) (by decide) ?_
    rintro _ w116 ⟨rfl, hx117⟩
    refine ⟨_, rfl, ?_⟩
    replace hS := hS.ext hx117
    refine el_pv (v := .int .i64 r115) (pv_assign rfl) (by decide) ?_
    refine el_nil ?_
    refine hQ114 _ _ _ ?_
    refine thn_n ?_
    refine cw_seq ?_
    refine cw_gen ?_
    intro Q118 hQ118
    refine cw_seq ?_
    refine cw_gen ?_
    intro Q119 hQ119
    refine cw_reg ?_
    refine el_pv (v := .int .i64 r115) (pv_move rfl) (by decide) ?_
    refine el_pv (v := .bool (decide (r115 < 0))) (pv_lss rfl rfl) (by decide) ?_
    refine el_nil ?_
    refine hQ119 _ _ _ ?_
    refine thn_n ?_
    replace hF := oif hF
    rcases hF with ⟨hb120, hF⟩ | ⟨hb120, hF⟩
    · refine cw_cond_t rfl hb120 ?_
      refine cw_seq ?_
      refine cw_gen ?_
      intro Q121 hQ121
      refine cw_reg ?_
      refine el_pv (v := .int .i64 (-1)) (pv_assign rfl) (by decide) ?_
      refine el_nil ?_
      refine hQ121 _ _ _ ?_
      refine thn_n ?_
      refine cw_ret ?_
      refine hQ118 _ _ _ ?_
      refine thn_r ?_
      refine fin1 rfl rfl ?_
      have hr := Option.some.inj hF
      exact ⟨congrArg (fun (r : Int) => Ending.returned (.int .i64 r)) hr, hS.below⟩
    · refine cw_cond_f rfl hb120 ?_
      refine cw_skip ?_
      refine hQ118 _ _ _ ?_
      refine thn_n ?_
      refine cw_seq ?_
      refine cw_gen ?_
      intro Q122 hQ122
      refine cw_reg ?_
      refine el_pv (v := .int .i64 r115) (pv_move rfl) (by decide) ?_
      refine el_pv (v := .int .i64 r115) (pv_assign rfl) (by decide) ?_
      refine el_nil ?_
      refine hQ122 _ _ _ ?_
      refine thn_n ?_
      refine cw_ret ?_
      refine fin1 rfl rfl ?_
      have hr := Option.some.inj hF
      exact ⟨congrArg (fun (r : Int) => Ending.returned (.int .i64 r)) hr, hS.below⟩
set_option maxHeartbeats 4000000 in
theorem laws_szFactorNodeS_ok {w0 : World} {u0 : Value} {a0 : List (List Int × List Int)} {a1 : Int} (ha0 : (sliceR (pairR (sliceR intR 3) (sliceR intR 3)) 62).rd w0 [u0] a0) {N : Nat} {r : Int} (hF : laws_szFactorNodeS N a0 a1 = some r) :
    Calls Try.prog 33 #[u0, .int .i64 a1] w0 fun e w' => e = .returned (.int .i64 r) ∧ Ext w0 w' := by
  unfold laws_szFactorNodeS at hF
  refine calls_E Try.func33 rfl rfl (of_decide_eq_true rfl) ?_
  have hS := Sat.start w0
  refine cw_seq ?_
  refine cw_gen ?_
  intro Q101 hQ101
  refine cw_reg ?_
  refine el_pv (v := .int .i64 0) (pv_assign rfl) (by decide) ?_
  refine el_nil ?_
  refine hQ101 _ _ _ ?_
  refine thn_n ?_
  refine cw_seq ?_
  refine cw_gen ?_
  intro Q102 hQ102
  refine cw_reg ?_
  refine el_pv (v := .int .i64 a1) (pv_move rfl) (by decide) ?_
  refine el_pv (v := u0) (pv_move rfl) (by decide) ?_
  refine el_pv (v := .int .i64 (a0.length : Int)) (pv_len rfl ha0) (by decide) ?_
  replace hF := ob hF
  obtain ⟨x103, hx103, hF⟩ := hF
  refine el_pv (v := .int .i64 x103) (pv_sub rfl rfl hx103) (by decide) ?_
  refine el_pv (v := .int .i64 x103) (pv_assign rfl) (by decide) ?_
  refine el_nil ?_
  refine hQ102 _ _ _ ?_
  refine thn_n ?_
  refine cw_seq ?_
  refine cw_gen ?_
  intro Q104 hQ104
  refine cw_seq ?_
  refine cw_gen ?_
  intro Q105 hQ105
  refine cw_reg ?_
  refine el_pv (v := .int .i64 x103) (pv_move rfl) (by decide) ?_
  refine el_pv (v := .bool (decide (x103 < 0))) (pv_lss rfl rfl) (by decide) ?_
  refine el_nil ?_
  refine hQ105 _ _ _ ?_
  refine thn_n ?_
  replace hF := oif hF
  rcases hF with ⟨hb106, hF⟩ | ⟨hb106, hF⟩
  · refine cw_cond_t rfl hb106 ?_
    refine cw_seq ?_
    refine cw_gen ?_
    intro Q107 hQ107
    refine cw_reg ?_
    refine el_pv (v := .int .i64 (-1)) (pv_assign rfl) (by decide) ?_
    refine el_nil ?_
    refine hQ107 _ _ _ ?_
    refine thn_n ?_
    refine cw_ret ?_
    refine hQ104 _ _ _ ?_
    refine thn_r ?_
    refine fin1 rfl rfl ?_
    have hr := Option.some.inj hF
    exact ⟨congrArg (fun (r : Int) => Ending.returned (.int .i64 r)) hr, hS.below⟩
  · refine cw_cond_f rfl hb106 ?_
    refine cw_skip ?_
    refine hQ104 _ _ _ ?_
    refine thn_n ?_
    refine cw_seq ?_
    refine cw_gen ?_
    intro Q108 hQ108
    refine cw_seq ?_
    refine cw_gen ?_
    intro Q109 hQ109
    refine cw_reg ?_
    refine el_pv (v := .int .i64 0) (pv_assign rfl) (by decide) ?_
    refine el_nil ?_
    refine hQ109 _ _ _ ?_
    refine thn_n ?_
    refine cw_block ?_
    refine cw_gen ?_
    intro Q110 hQ110
    obtain ⟨s111, hL, hK112⟩ := ob hF
    refine cw_loopS (fun k e w => ∃ (x113 : Int), ∃ (x114 : Int), e 0 = u0 ∧ e 1 = .int .i64 x113 ∧ e 5 = .int .i64 x114 ∧ Sat w0 w [] ∧ laws_szFactorNodeS_L1 N k a0 x113 x114 = some s111) N ?_ ?_ ?_
    · exact ⟨x103, 0, rfl, rfl, rfl, hS, hL⟩
    · rintro e w ⟨_, _, _, _, _, _, hz⟩; exact nomatch (show none = some _ from hz)
    · rintro k e119 w118 ⟨x113, x114, he115, he116, he117, hS, hF⟩
      refine cw_gen ?_
      intro Q120 hQ120
      refine cw_seq ?_
      refine cw_gen ?_
      intro Q121 hQ121
      refine cw_seq ?_
      refine cw_gen ?_
      intro Q122 hQ122
      refine cw_reg ?_
      refine el_pv (v := .int .i64 x114) (pv_move he117) (by decide) ?_
      refine el_pv (v := u0) (pv_move he115) (by decide) ?_
      refine el_pv (v := .int .i64 (a0.length : Int)) (pv_len rfl ha0) (by decide) ?_
      refine el_pv (v := .bool (decide (x114 < (a0.length : Int)))) (pv_lss rfl rfl) (by decide) ?_
      refine el_nil ?_
      refine hQ122 _ _ _ ?_
      refine thn_n ?_
      replace hF := oif hF
      rcases hF with ⟨hb123, hF⟩ | ⟨hb123, hF⟩
      · refine cw_cond_t rfl hb123 ?_
        refine cw_skip ?_
        refine hQ121 _ _ _ ?_
        refine thn_n ?_
        refine cw_seq ?_
        refine cw_gen ?_
        intro Q124 hQ124
        refine cw_block ?_
        refine cw_gen ?_
        intro Q125 hQ125
        refine cw_seq ?_
        refine cw_gen ?_
        intro Q126 hQ126
        refine cw_reg ?_
        refine el_pv (v := u0) (pv_move he115) (by decide) ?_
        refine el_pv (v := .int .i64 x114) (pv_move he117) (by decide) ?_
        replace hF := ob hF
        obtain ⟨x127, hx127, hF⟩ := hF
        refine el_index (wA := w0) rfl ha0 rfl (by decide) rfl hx127 (by decide) ?_
        intro b128 of129 c130 hr131 hm132
        obtain ⟨_, _, rfl, hr133, hr134⟩ := hr131
        obtain ⟨v135, rfl⟩ := slice_one hr133
        obtain ⟨v136, rfl⟩ := slice_one hr134
        refine el_pv (v := .agg #[v135, v136]) (pv_loada (cs := [v135, v136]) rfl rfl (cells_up hS.below hm132)) (by decide) ?_
        refine el_pv (v := .int .i64 x113) (pv_move he116) (by decide) ?_
        replace hF := ob hF
        obtain ⟨r137, hr137, hF⟩ := hF
        refine el_call goes46 (laws_szFactorNode_ok (hS.up hr133) (hS.up hr134) hr137) (congrArg List.toArray (mapc rfl (mapc rfl rfl))) (by decide) ?_
        rintro _ w138 ⟨rfl, hx139⟩
        refine ⟨_, rfl, ?_⟩
        replace hS := hS.ext hx139
        refine el_pv (v := .int .i64 r137) (pv_assign rfl) (by decide) ?_
        refine el_nil ?_
        refine hQ126 _ _ _ ?_
        refine thn_n ?_
        refine cw_seq ?_
        refine cw_gen ?_
        intro Q140 hQ140
        refine cw_reg ?_
        refine el_pv (v := .int .i64 r137) (pv_move rfl) (by decide) ?_
        refine el_pv (v := .bool (decide (r137 < 0))) (pv_lss rfl rfl) (by decide) ?_
        refine el_nil ?_
        refine hQ140 _ _ _ ?_
        refine thn_n ?_
        replace hF := oif hF
        rcases hF with ⟨hb141, hF⟩ | ⟨hb141, hF⟩
        · refine cw_cond_t rfl hb141 ?_
          refine cw_seq ?_
          refine cw_gen ?_
          intro Q142 hQ142
          refine cw_reg ?_
          refine el_pv (v := .int .i64 (-1)) (pv_assign rfl) (by decide) ?_
          refine el_nil ?_
          refine hQ142 _ _ _ ?_
          refine thn_n ?_
          refine cw_ret ?_
          refine hQ125 _ _ _ ?_
          refine inb_r ?_
          refine hQ124 _ _ _ ?_
          refine thn_r ?_
          refine hQ120 _ _ _ ?_
          refine thn_r ?_
          refine hQ110 _ _ _ ?_
          refine inb_r ?_
          refine hQ108 _ _ _ ?_
          refine thn_r ?_
          replace hF := exL hF hK112
          refine fin1 rfl rfl ?_
          have hr := Option.some.inj hF
          exact ⟨congrArg (fun (r : Int) => Ending.returned (.int .i64 r)) hr, hS.below⟩
        · refine cw_cond_f rfl hb141 ?_
          refine cw_skip ?_
          refine hQ125 _ _ _ ?_
          refine inb_n ?_
          refine hQ124 _ _ _ ?_
          refine thn_n ?_
          refine cw_reg ?_
          refine el_pv (v := .int .i64 x114) (pv_move he117) (by decide) ?_
          replace hF := ob hF
          obtain ⟨x143, hx143, hF⟩ := hF
          refine el_pv (v := .int .i64 x143) (pv_add rfl rfl hx143) (by decide) ?_
          refine el_pv (v := .int .i64 x143) (pv_assign rfl) (by decide) ?_
          refine el_nil ?_
          refine hQ120 _ _ _ ?_
          refine thn_n ?_
          replace hS := hS.keep 0
          exact ⟨r137, x143, he115, rfl, rfl, hS, hF⟩
      · refine cw_cond_f rfl hb123 ?_
        refine cw_exit ?_
        refine hQ121 _ _ _ ?_
        refine thn_x ?_
        refine hQ120 _ _ _ ?_
        refine thn_x ?_
        replace hF := exA hF hK112
        refine hQ110 _ _ _ ?_
        refine inb_s ?_
        refine hQ108 _ _ _ ?_
        refine thn_n ?_
        refine cw_seq ?_
        refine cw_gen ?_
        intro Q144 hQ144
        refine cw_reg ?_
        refine el_pv (v := .int .i64 x113) (pv_move he116) (by decide) ?_
        refine el_pv (v := .int .i64 x113) (pv_assign rfl) (by decide) ?_
        refine el_nil ?_
        refine hQ144 _ _ _ ?_
        refine thn_n ?_
        refine cw_ret ?_
        refine fin1 rfl rfl ?_
        have hr := Option.some.inj hF
        exact ⟨congrArg (fun (r : Int) => Ending.returned (.int .i64 r)) hr, hS.below⟩
set_option maxHeartbeats 4000000 in
theorem laws_szFactorization_ok {w0 : World} {u0 : Value} {a0 : List Int} {u1 : Value} {a1 : List (List Int × List Int)} {a2 : Int} (ha0 : (sliceR intR 3).rd w0 [u0] a0) (ha1 : (sliceR (pairR (sliceR intR 3) (sliceR intR 3)) 62).rd w0 [u1] a1) {N : Nat} {r : Int} (hF : laws_szFactorization N a0 a1 a2 = some r) :
    Calls Try.prog 9 #[.agg #[u0, u1], .int .i64 a2] w0 fun e w' => e = .returned (.int .i64 r) ∧ Ext w0 w' := by
  unfold laws_szFactorization at hF
  refine calls_E Try.func9 rfl rfl (of_decide_eq_true rfl) ?_
  have hS := Sat.start w0
  refine cw_seq ?_
  refine cw_gen ?_
  intro Q101 hQ101
  refine cw_reg ?_
  refine el_box [u0, u1] rfl hS (by decide) ?_
  intro w102 b103 hS hx104
  refine el_pv (v := .int .i64 0) (pv_assign rfl) (by decide) ?_
  refine el_nil ?_
  refine hQ101 _ _ _ ?_
  refine thn_n ?_
  refine cw_seq ?_
  refine cw_gen ?_
  intro Q106 hQ106
  refine cw_reg ?_
  refine el_pv (v := .pointer (some ⟨b103, 0 + 0, none⟩)) (pv_fieldAddr rfl) (by decide) ?_
  refine el_pv (v := u0) (pv_loadc rfl ((hS.boxAt 0 rfl) 0 _ rfl)) (by decide) ?_
  refine el_pv (v := .int .i64 a2) (pv_move rfl) (by decide) ?_
  replace hF := ob hF
  obtain ⟨r107, hr107, hF⟩ := hF
  refine el_call goes32 (laws_szIntS_ok (hS.up ha0) hr107) (congrArg List.toArray (mapc rfl (mapc rfl rfl))) (by decide) ?_
  rintro _ w108 ⟨rfl, hx109⟩
  refine ⟨_, rfl, ?_⟩
  replace hS := hS.ext hx109
  refine el_pv (v := .int .i64 r107) (pv_assign rfl) (by decide) ?_
  refine el_nil ?_
  refine hQ106 _ _ _ ?_
  refine thn_n ?_
  refine cw_seq ?_
  refine cw_gen ?_
  intro Q110 hQ110
  refine cw_seq ?_
  refine cw_gen ?_
  intro Q111 hQ111
  refine cw_reg ?_
  refine el_pv (v := .int .i64 r107) (pv_move rfl) (by decide) ?_
  refine el_pv (v := .bool (decide (r107 < 0))) (pv_lss rfl rfl) (by decide) ?_
  refine el_nil ?_
  refine hQ111 _ _ _ ?_
  refine thn_n ?_
  replace hF := oif hF
  rcases hF with ⟨hb112, hF⟩ | ⟨hb112, hF⟩
  · refine cw_cond_t rfl hb112 ?_
    refine cw_seq ?_
    refine cw_gen ?_
    intro Q113 hQ113
    refine cw_reg ?_
    refine el_pv (v := .int .i64 (-1)) (pv_assign rfl) (by decide) ?_
    refine el_nil ?_
    refine hQ113 _ _ _ ?_
    refine thn_n ?_
    refine cw_ret ?_
    refine hQ110 _ _ _ ?_
    refine thn_r ?_
    refine fin1 rfl rfl ?_
    have hr := Option.some.inj hF
    exact ⟨congrArg (fun (r : Int) => Ending.returned (.int .i64 r)) hr, hS.below⟩
  · refine cw_cond_f rfl hb112 ?_
    refine cw_skip ?_
    refine hQ110 _ _ _ ?_
    refine thn_n ?_
    refine cw_seq ?_
    refine cw_gen ?_
    intro Q114 hQ114
    refine cw_reg ?_
    refine el_pv (v := .pointer (some ⟨b103, 0 + 1, none⟩)) (pv_fieldAddr rfl) (by decide) ?_
    refine el_pv (v := u1) (pv_loadc rfl ((hS.boxAt 0 rfl) 1 _ rfl)) (by decide) ?_
    refine el_pv (v := .int .i64 r107) (pv_move rfl) (by decide) ?_
    replace hF := ob hF
    obtain ⟨r115, hr115, hF⟩ := hF
    refine el_call goes33 (laws_szFactorNodeS_ok (hS.up ha1) hr115) (congrArg List.toArray (mapc rfl (mapc rfl rfl))) (by decide) ?_
    rintro _ w116 ⟨rfl, hx117⟩
    refine ⟨_, rfl, ?_⟩
    replace hS := hS.ext hx117
    refine el_pv (v := .int .i64 r115) (pv_assign rfl) (by decide) ?_
    refine el_nil ?_
    refine hQ114 _ _ _ ?_
    refine thn_n ?_
    refine cw_seq ?_
    refine cw_gen ?_
    intro Q118 hQ118
    refine cw_seq ?_
    refine cw_gen ?_
    intro Q119 hQ119
    refine cw_reg ?_
    refine el_pv (v := .int .i64 r115) (pv_move rfl) (by decide) ?_
    refine el_pv (v := .bool (decide (r115 < 0))) (pv_lss rfl rfl) (by decide) ?_
    refine el_nil ?_
    refine hQ119 _ _ _ ?_
    refine thn_n ?_
    replace hF := oif hF
    rcases hF with ⟨hb120, hF⟩ | ⟨hb120, hF⟩
    · refine cw_cond_t rfl hb120 ?_
      refine cw_seq ?_
      refine cw_gen ?_
      intro Q121 hQ121
      refine cw_reg ?_
      refine el_pv (v := .int .i64 (-1)) (pv_assign rfl) (by decide) ?_
      refine el_nil ?_
      refine hQ121 _ _ _ ?_
      refine thn_n ?_
      refine cw_ret ?_
      refine hQ118 _ _ _ ?_
      refine thn_r ?_
      refine fin1 rfl rfl ?_
      have hr := Option.some.inj hF
      exact ⟨congrArg (fun (r : Int) => Ending.returned (.int .i64 r)) hr, hS.below⟩
    · refine cw_cond_f rfl hb120 ?_
      refine cw_skip ?_
      refine hQ118 _ _ _ ?_
      refine thn_n ?_
      refine cw_seq ?_
      refine cw_gen ?_
      intro Q122 hQ122
      refine cw_reg ?_
      refine el_pv (v := .int .i64 r115) (pv_move rfl) (by decide) ?_
      refine el_pv (v := .int .i64 r115) (pv_assign rfl) (by decide) ?_
      refine el_nil ?_
      refine hQ122 _ _ _ ?_
      refine thn_n ?_
      refine cw_ret ?_
      refine fin1 rfl rfl ?_
      have hr := Option.some.inj hF
      exact ⟨congrArg (fun (r : Int) => Ending.returned (.int .i64 r)) hr, hS.below⟩
set_option maxHeartbeats 4000000 in
theorem spec_l1In_ok {w0 : World} {a0 : Int} {a1 : Int} {a2 : Int}  {N : Nat} {r : Bool} (hF : spec_l1In N a0 a1 a2 = some r) :
    Calls Try.prog 43 #[.int .i64 a0, .int .i64 a1, .int .i64 a2] w0 fun e w' => e = .returned (.bool r) ∧ Ext w0 w' := by
  unfold spec_l1In at hF
  refine calls_E Try.func43 rfl rfl (of_decide_eq_true rfl) ?_
  have hS := Sat.start w0
  refine cw_seq ?_
  refine cw_gen ?_
  intro Q101 hQ101
  refine cw_reg ?_
  refine el_pv (v := .bool false) (pv_assign rfl) (by decide) ?_
  refine el_nil ?_
  refine hQ101 _ _ _ ?_
  refine thn_n ?_
  refine cw_seq ?_
  refine cw_gen ?_
  intro Q102 hQ102
  refine cw_reg ?_
  refine el_pv (v := .int .i64 a0) (pv_move rfl) (by decide) ?_
  refine el_pv (v := .int .i64 a1) (pv_move rfl) (by decide) ?_
  refine el_pv (v := .bool (decide (a1 ≤ a0))) (pv_geq rfl rfl) (by decide) ?_
  refine el_pv (v := .bool (decide (a1 ≤ a0))) (pv_move rfl) (by decide) ?_
  replace hF := oif hF
  rcases hF with ⟨hb103, hF⟩ | ⟨hb103, hF⟩
  · refine el_on rfl hb103 ?_
    refine el_pv (v := .int .i64 a0) (pv_move rfl) (by decide) ?_
    refine el_on rfl hb103 ?_
    refine el_pv (v := .int .i64 a2) (pv_move rfl) (by decide) ?_
    refine el_on rfl hb103 ?_
    refine el_pv (v := .bool (decide (a0 ≤ a2))) (pv_leq rfl rfl) (by decide) ?_
    refine el_pv (v := .bool (decide (a0 ≤ a2))) (pv_pick_t rfl hb103 rfl) (by decide) ?_
    refine el_pv (v := .bool (decide (a0 ≤ a2))) (pv_assign rfl) (by decide) ?_
    refine el_nil ?_
    refine hQ102 _ _ _ ?_
    refine thn_n ?_
    refine cw_ret ?_
    refine fin1 rfl rfl ?_
    have hr := Option.some.inj hF
    exact ⟨congrArg (fun (r : Bool) => Ending.returned (.bool r)) hr, hS.below⟩
  · refine el_off rfl hb103 rfl (by decide) ?_
    refine el_off rfl hb103 rfl (by decide) ?_
    refine el_off rfl hb103 rfl (by decide) ?_
    refine el_pv (v := .bool false) (pv_pick_f rfl hb103 rfl) (by decide) ?_
    refine el_pv (v := .bool false) (pv_assign rfl) (by decide) ?_
    refine el_nil ?_
    refine hQ102 _ _ _ ?_
    refine thn_n ?_
    refine cw_ret ?_
    refine fin1 rfl rfl ?_
    have hr := Option.some.inj hF
    exact ⟨congrArg (fun (r : Bool) => Ending.returned (.bool r)) hr, hS.below⟩
set_option maxHeartbeats 4000000 in
theorem spec_l7Find_ok {w0 : World} {u0 : Value} {a0 : List Int} {a1 : Int} (ha0 : (sliceR intR 3).rd w0 [u0] a0) {N : Nat} {r : Int} (hF : spec_l7Find N a0 a1 = some r) :
    Calls Try.prog 40 #[u0, .int .i64 a1] w0 fun e w' => e = .returned (.int .i64 r) ∧ Ext w0 w' := by
  unfold spec_l7Find at hF
  refine calls_E Try.func40 rfl rfl (of_decide_eq_true rfl) ?_
  have hS := Sat.start w0
  refine cw_seq ?_
  refine cw_gen ?_
  intro Q101 hQ101
  refine cw_reg ?_
  refine el_pv (v := .int .i64 0) (pv_assign rfl) (by decide) ?_
  refine el_nil ?_
  refine hQ101 _ _ _ ?_
  refine thn_n ?_
  refine cw_seq ?_
  refine cw_gen ?_
  intro Q102 hQ102
  refine cw_seq ?_
  refine cw_gen ?_
  intro Q103 hQ103
  refine cw_reg ?_
  refine el_pv (v := .int .i64 0) (pv_assign rfl) (by decide) ?_
  refine el_nil ?_
  refine hQ103 _ _ _ ?_
  refine thn_n ?_
  refine cw_block ?_
  refine cw_gen ?_
  intro Q104 hQ104
  obtain ⟨s105, hL, hK106⟩ := ob hF
  refine cw_loopS (fun k e w => ∃ (x107 : Int), e 0 = u0 ∧ e 1 = .int .i64 a1 ∧ e 5 = .int .i64 x107 ∧ Sat w0 w [] ∧ spec_l7Find_L1 N k a0 a1 x107 = some s105) N ?_ ?_ ?_
  · exact ⟨0, rfl, rfl, rfl, hS, hL⟩
  · rintro e w ⟨_, _, _, _, _, hz⟩; exact nomatch (show none = some _ from hz)
  · rintro k e112 w111 ⟨x107, he108, he109, he110, hS, hF⟩
    refine cw_gen ?_
    intro Q113 hQ113
    refine cw_seq ?_
    refine cw_gen ?_
    intro Q114 hQ114
    refine cw_seq ?_
    refine cw_gen ?_
    intro Q115 hQ115
    refine cw_reg ?_
    refine el_pv (v := .int .i64 x107) (pv_move he110) (by decide) ?_
    refine el_pv (v := u0) (pv_move he108) (by decide) ?_
    refine el_pv (v := .int .i64 (a0.length : Int)) (pv_len rfl ha0) (by decide) ?_
    refine el_pv (v := .bool (decide (x107 < (a0.length : Int)))) (pv_lss rfl rfl) (by decide) ?_
    refine el_nil ?_
    refine hQ115 _ _ _ ?_
    refine thn_n ?_
    replace hF := oif hF
    rcases hF with ⟨hb116, hF⟩ | ⟨hb116, hF⟩
    · refine cw_cond_t rfl hb116 ?_
      refine cw_skip ?_
      refine hQ114 _ _ _ ?_
      refine thn_n ?_
      refine cw_seq ?_
      refine cw_gen ?_
      intro Q117 hQ117
      refine cw_block ?_
      refine cw_gen ?_
      intro Q118 hQ118
      refine cw_seq ?_
      refine cw_gen ?_
      intro Q119 hQ119
      refine cw_reg ?_
      refine el_pv (v := u0) (pv_move he108) (by decide) ?_
      refine el_pv (v := .int .i64 x107) (pv_move he110) (by decide) ?_
      replace hF := ob hF
      obtain ⟨x120, hx120, hF⟩ := hF
      refine el_index (wA := w0) rfl ha0 rfl (by decide) rfl hx120 (by decide) ?_
      intro b121 of122 c123 hr124 hm125
      obtain rfl := hr124
      refine el_pv (v := .int .i64 x120) (pv_loadc rfl ((cells_up hS.below hm125) 0 _ rfl)) (by decide) ?_
      refine el_pv (v := .int .i64 a1) (pv_move he109) (by decide) ?_
      refine el_pv (v := .bool (x120 == a1)) (pv_eql rfl rfl) (by decide) ?_
      refine el_nil ?_
      refine hQ119 _ _ _ ?_
      refine thn_n ?_
      replace hF := oif hF
      rcases hF with ⟨hb126, hF⟩ | ⟨hb126, hF⟩
      · refine cw_cond_t rfl hb126 ?_
        refine cw_seq ?_
        refine cw_gen ?_
        intro Q127 hQ127
        refine cw_reg ?_
        refine el_pv (v := .int .i64 x107) (pv_move he110) (by decide) ?_
        refine el_pv (v := .int .i64 x107) (pv_assign rfl) (by decide) ?_
        refine el_nil ?_
        refine hQ127 _ _ _ ?_
        refine thn_n ?_
        refine cw_ret ?_
        refine hQ118 _ _ _ ?_
        refine inb_r ?_
        refine hQ117 _ _ _ ?_
        refine thn_r ?_
        refine hQ113 _ _ _ ?_
        refine thn_r ?_
        refine hQ104 _ _ _ ?_
        refine inb_r ?_
        refine hQ102 _ _ _ ?_
        refine thn_r ?_
        replace hF := exL hF hK106
        refine fin1 rfl rfl ?_
        have hr := Option.some.inj hF
        exact ⟨congrArg (fun (r : Int) => Ending.returned (.int .i64 r)) hr, hS.below⟩
      · refine cw_cond_f rfl hb126 ?_
        refine cw_skip ?_
        refine hQ118 _ _ _ ?_
        refine inb_n ?_
        refine hQ117 _ _ _ ?_
        refine thn_n ?_
        refine cw_reg ?_
        refine el_pv (v := .int .i64 x107) (pv_move he110) (by decide) ?_
        replace hF := ob hF
        obtain ⟨x128, hx128, hF⟩ := hF
        refine el_pv (v := .int .i64 x128) (pv_add rfl rfl hx128) (by decide) ?_
        refine el_pv (v := .int .i64 x128) (pv_assign rfl) (by decide) ?_
        refine el_nil ?_
        refine hQ113 _ _ _ ?_
        refine thn_n ?_
        replace hS := hS.keep 0
        exact ⟨x128, he108, he109, rfl, hS, hF⟩
    · refine cw_cond_f rfl hb116 ?_
      refine cw_exit ?_
      refine hQ114 _ _ _ ?_
      refine thn_x ?_
      refine hQ113 _ _ _ ?_
      refine thn_x ?_
      replace hF := exA hF hK106
      refine hQ104 _ _ _ ?_
      refine inb_s ?_
      refine hQ102 _ _ _ ?_
      refine thn_n ?_
      refine cw_seq ?_
      refine cw_gen ?_
      intro Q129 hQ129
      refine cw_reg ?_
      refine el_pv (v := .int .i64 (-1)) (pv_assign rfl) (by decide) ?_
      refine el_nil ?_
      refine hQ129 _ _ _ ?_
      refine thn_n ?_
      refine cw_ret ?_
      refine fin1 rfl rfl ?_
      have hr := Option.some.inj hF
      exact ⟨congrArg (fun (r : Int) => Ending.returned (.int .i64 r)) hr, hS.below⟩
set_option maxHeartbeats 4000000 in
theorem spec_IsPermutation_ok {w0 : World} {u0 : Value} {a0 : List Int} (ha0 : (sliceR intR 3).rd w0 [u0] a0) {N : Nat} {r : Bool} (hF : spec_IsPermutation N a0 = some r) :
    Calls Try.prog 47 #[u0] w0 fun e w' => e = .returned (.bool r) ∧ Ext w0 w' := by
  unfold spec_IsPermutation at hF
  refine calls_E Try.func47 rfl rfl (of_decide_eq_true rfl) ?_
  have hS := Sat.start w0
  refine cw_seq ?_
  refine cw_gen ?_
  intro Q101 hQ101
  refine cw_reg ?_
  refine el_pv (v := .bool false) (pv_assign rfl) (by decide) ?_
  refine el_nil ?_
  refine hQ101 _ _ _ ?_
  refine thn_n ?_
  refine cw_seq ?_
  refine cw_gen ?_
  intro Q102 hQ102
  refine cw_seq ?_
  refine cw_gen ?_
  intro Q103 hQ103
  refine cw_reg ?_
  refine el_pv (v := .int .i64 0) (pv_assign rfl) (by decide) ?_
  refine el_nil ?_
  refine hQ103 _ _ _ ?_
  refine thn_n ?_
  refine cw_block ?_
  refine cw_gen ?_
  intro Q104 hQ104
  obtain ⟨s105, hL, hK106⟩ := ob hF
  refine cw_loopS (fun k e w => ∃ (x107 : Int), e 0 = u0 ∧ e 3 = .int .i64 x107 ∧ Sat w0 w [] ∧ spec_IsPermutation_L1 N k a0 x107 = some s105) N ?_ ?_ ?_
  · exact ⟨0, rfl, rfl, hS, hL⟩
  · rintro e w ⟨_, _, _, _, hz⟩; exact nomatch (show none = some _ from hz)
  · rintro k e111 w110 ⟨x107, he108, he109, hS, hF⟩
    refine cw_gen ?_
    intro Q112 hQ112
    refine cw_seq ?_
    refine cw_gen ?_
    intro Q113 hQ113
    refine cw_seq ?_
    refine cw_gen ?_
    intro Q114 hQ114
    refine cw_reg ?_
    refine el_pv (v := .int .i64 x107) (pv_move he109) (by decide) ?_
    refine el_pv (v := u0) (pv_move he108) (by decide) ?_
    refine el_pv (v := .int .i64 (a0.length : Int)) (pv_len rfl ha0) (by decide) ?_
    refine el_pv (v := .bool (decide (x107 < (a0.length : Int)))) (pv_lss rfl rfl) (by decide) ?_
    refine el_nil ?_
    refine hQ114 _ _ _ ?_
    refine thn_n ?_
    replace hF := oif hF
    rcases hF with ⟨hb115, hF⟩ | ⟨hb115, hF⟩
    · refine cw_cond_t rfl hb115 ?_
      refine cw_skip ?_
      refine hQ113 _ _ _ ?_
      refine thn_n ?_
      refine cw_seq ?_
      refine cw_gen ?_
      intro Q116 hQ116
      refine cw_block ?_
      refine cw_gen ?_
      intro Q117 hQ117
      refine cw_seq ?_
      refine cw_gen ?_
      intro Q118 hQ118
      refine cw_regq (by kernel_rfl) (by kernel_rfl) ?_
      refine ql_pv (v := u0) (pv_move he108) (by decide) ?_
      refine ql_pv (v := .int .i64 x107) (pv_move he109) (by decide) ?_
      replace hF := ob hF
      obtain ⟨x119, hx119, hF⟩ := hF
      refine ql_index (wA := w0) rfl ha0 rfl (by decide) rfl hx119 (by decide) ?_
      intro b120 of121 c122 hr123 hm124
      obtain rfl := hr123
      refine ql_pv (v := .int .i64 x119) (pv_loadc rfl ((cells_up hS.below hm124) 0 _ rfl)) (by decide) ?_
      refine ql_pv (v := u0) (pv_move he108) (by decide) ?_
      refine ql_pv (v := .int .i64 (a0.length : Int)) (pv_len rfl ha0) (by decide) ?_
      replace hF := ob hF
      obtain ⟨x125, hx125, hF⟩ := hF
      refine ql_pv (v := .int .i64 x125) (pv_sub rfl rfl hx125) (by decide) ?_
      replace hF := ob hF
      obtain ⟨r126, hr126, hF⟩ := hF
      refine ql_call (.bool r126) goes43 (fun w' hw' => spec_l1In_ok hr126) (congrArg List.toArray (mapc rfl (mapc rfl (mapc rfl rfl)))) (by decide) ?_
      refine ql_pv (v := .bool (!r126)) (pv_not rfl) (by decide) ?_
      refine ql_pv (v := .bool (!r126)) (pv_move rfl) (by decide) ?_
      replace hF := oif hF
      rcases hF with ⟨hb127, hF⟩ | ⟨hb127, hF⟩
      · refine ql_on rfl (bnot_t hb127) ?_
        refine ql_pv (v := u0) (pv_move he108) (by decide) ?_
        refine ql_on rfl (bnot_t hb127) ?_
        refine ql_pv (v := .int .i64 x107) (pv_move he109) (by decide) ?_
        refine ql_on rfl (bnot_t hb127) ?_
        replace hF := ob hF
        obtain ⟨x128, hx128, hF⟩ := hF
        refine ql_slice (wA := w0) rfl rfl ha0 (.inr ⟨rfl, rfl⟩) (.inl (congrArg some rfl)) hx128 (by decide) ?_
        intro v129 hr130
        refine ql_on rfl (bnot_t hb127) ?_
        refine ql_pv (v := u0) (pv_move he108) (by decide) ?_
        refine ql_on rfl (bnot_t hb127) ?_
        refine ql_pv (v := .int .i64 x107) (pv_move he109) (by decide) ?_
        refine ql_on rfl (bnot_t hb127) ?_
        replace hF := ob hF
        obtain ⟨x131, hx131, hF⟩ := hF
        refine ql_index (wA := w0) rfl ha0 rfl (by decide) rfl hx131 (by decide) ?_
        intro b132 of133 c134 hr135 hm136
        obtain rfl := hr135
        refine ql_on rfl (bnot_t hb127) ?_
        refine ql_pv (v := .int .i64 x131) (pv_loadc rfl ((cells_up hS.below hm136) 0 _ rfl)) (by decide) ?_
        refine ql_on rfl (bnot_t hb127) ?_
        replace hF := ob hF
        obtain ⟨r137, hr137, hF⟩ := hF
        refine ql_call (.int .i64 r137) goes40 (fun w' hw' => spec_l7Find_ok (rd_up (hS.up hr130) hw') hr137) (congrArg List.toArray (mapc rfl (mapc rfl rfl))) (by decide) ?_
        refine ql_on rfl (bnot_t hb127) ?_
        refine ql_pv (v := .bool (decide (0 ≤ r137))) (pv_geq rfl rfl) (by decide) ?_
        refine ql_pv (v := .bool (decide (0 ≤ r137))) (pv_pick_f rfl (bnot_t hb127) rfl) (by decide) ?_
        refine ql_nil ?_
        intro w138 hx139
        replace hS := hS.ext hx139
        refine hQ118 _ _ _ ?_
        refine thn_n ?_
        replace hF := oif hF
        rcases hF with ⟨hb140, hF⟩ | ⟨hb140, hF⟩
        · refine cw_cond_t rfl hb140 ?_
          refine cw_seq ?_
          refine cw_gen ?_
          intro Q141 hQ141
          refine cw_reg ?_
          refine el_pv (v := .bool false) (pv_assign rfl) (by decide) ?_
          refine el_nil ?_
          refine hQ141 _ _ _ ?_
          refine thn_n ?_
          refine cw_ret ?_
          refine hQ117 _ _ _ ?_
          refine inb_r ?_
          refine hQ116 _ _ _ ?_
          refine thn_r ?_
          refine hQ112 _ _ _ ?_
          refine thn_r ?_
          refine hQ104 _ _ _ ?_
          refine inb_r ?_
          refine hQ102 _ _ _ ?_
          refine thn_r ?_
          replace hF := exL hF hK106
          refine fin1 rfl rfl ?_
          have hr := Option.some.inj hF
          exact ⟨congrArg (fun (r : Bool) => Ending.returned (.bool r)) hr, hS.below⟩
        · refine cw_cond_f rfl hb140 ?_
          refine cw_skip ?_
          refine hQ117 _ _ _ ?_
          refine inb_n ?_
          refine hQ116 _ _ _ ?_
          refine thn_n ?_
          refine cw_reg ?_
          refine el_pv (v := .int .i64 x107) (pv_move he109) (by decide) ?_
          replace hF := ob hF
          obtain ⟨x142, hx142, hF⟩ := hF
          refine el_pv (v := .int .i64 x142) (pv_add rfl rfl hx142) (by decide) ?_
          refine el_pv (v := .int .i64 x142) (pv_assign rfl) (by decide) ?_
          refine el_nil ?_
          refine hQ112 _ _ _ ?_
          refine thn_n ?_
          replace hS := hS.keep 0
          exact ⟨x142, he108, rfl, hS, hF⟩
      · refine ql_off rfl (bnot_f hb127) rfl (by decide) ?_
        refine ql_off rfl (bnot_f hb127) rfl (by decide) ?_
        refine ql_off rfl (bnot_f hb127) rfl (by decide) ?_
        refine ql_off rfl (bnot_f hb127) rfl (by decide) ?_
        refine ql_off rfl (bnot_f hb127) rfl (by decide) ?_
        refine ql_off rfl (bnot_f hb127) rfl (by decide) ?_
        refine ql_off rfl (bnot_f hb127) rfl (by decide) ?_
        refine ql_off rfl (bnot_f hb127) rfl (by decide) ?_
        refine ql_off rfl (bnot_f hb127) rfl (by decide) ?_
        refine ql_pv (v := .bool true) (pv_pick_t rfl (bnot_f hb127) rfl) (by decide) ?_
        refine ql_nil ?_
        intro w143 hx144
        replace hS := hS.ext hx144
        refine hQ118 _ _ _ ?_
        refine thn_n ?_
        refine cw_cond_t rfl rfl ?_
        refine cw_seq ?_
        refine cw_gen ?_
        intro Q145 hQ145
        refine cw_reg ?_
        refine el_pv (v := .bool false) (pv_assign rfl) (by decide) ?_
        refine el_nil ?_
        refine hQ145 _ _ _ ?_
        refine thn_n ?_
        refine cw_ret ?_
        refine hQ117 _ _ _ ?_
        refine inb_r ?_
        refine hQ116 _ _ _ ?_
        refine thn_r ?_
        refine hQ112 _ _ _ ?_
        refine thn_r ?_
        refine hQ104 _ _ _ ?_
        refine inb_r ?_
        refine hQ102 _ _ _ ?_
        refine thn_r ?_
        replace hF := exL hF hK106
        refine fin1 rfl rfl ?_
        have hr := Option.some.inj hF
        exact ⟨congrArg (fun (r : Bool) => Ending.returned (.bool r)) hr, hS.below⟩
    · refine cw_cond_f rfl hb115 ?_
      refine cw_exit ?_
      refine hQ113 _ _ _ ?_
      refine thn_x ?_
      refine hQ112 _ _ _ ?_
      refine thn_x ?_
      replace hF := exA hF hK106
      refine hQ104 _ _ _ ?_
      refine inb_s ?_
      refine hQ102 _ _ _ ?_
      refine thn_n ?_
      refine cw_seq ?_
      refine cw_gen ?_
      intro Q146 hQ146
      refine cw_reg ?_
      refine el_pv (v := u0) (pv_move he108) (by decide) ?_
      refine el_pv (v := .int .i64 (a0.length : Int)) (pv_len rfl ha0) (by decide) ?_
      refine el_pv (v := .bool (decide ((a0.length : Int) ≤ 5))) (pv_leq rfl rfl) (by decide) ?_
      refine el_pv (v := .bool (decide ((a0.length : Int) ≤ 5))) (pv_assign rfl) (by decide) ?_
      refine el_nil ?_
      refine hQ146 _ _ _ ?_
      refine thn_n ?_
      refine cw_ret ?_
      refine fin1 rfl rfl ?_
      have hr := Option.some.inj hF
      exact ⟨congrArg (fun (r : Bool) => Ending.returned (.bool r)) hr, hS.below⟩
set_option maxHeartbeats 4000000 in
theorem spec_IsStrictlyAscending_ok {w0 : World} {u0 : Value} {a0 : List Int} (ha0 : (sliceR intR 3).rd w0 [u0] a0) {N : Nat} {r : Bool} (hF : spec_IsStrictlyAscending N a0 = some r) :
    Calls Try.prog 48 #[u0] w0 fun e w' => e = .returned (.bool r) ∧ Ext w0 w' := by
  unfold spec_IsStrictlyAscending at hF
  refine calls_E Try.func48 rfl rfl (of_decide_eq_true rfl) ?_
  have hS := Sat.start w0
  refine cw_seq ?_
  refine cw_gen ?_
  intro Q101 hQ101
  refine cw_reg ?_
  refine el_pv (v := .bool false) (pv_assign rfl) (by decide) ?_
  refine el_nil ?_
  refine hQ101 _ _ _ ?_
  refine thn_n ?_
  refine cw_seq ?_
  refine cw_gen ?_
  intro Q102 hQ102
  refine cw_seq ?_
  refine cw_gen ?_
  intro Q103 hQ103
  refine cw_reg ?_
  refine el_pv (v := .int .i64 1) (pv_assign rfl) (by decide) ?_
  refine el_nil ?_
  refine hQ103 _ _ _ ?_
  refine thn_n ?_
  refine cw_block ?_
  refine cw_gen ?_
  intro Q104 hQ104
  obtain ⟨s105, hL, hK106⟩ := ob hF
  refine cw_loopS (fun k e w => ∃ (x107 : Int), e 0 = u0 ∧ e 3 = .int .i64 x107 ∧ Sat w0 w [] ∧ spec_IsStrictlyAscending_L1 N k a0 x107 = some s105) N ?_ ?_ ?_
  · exact ⟨1, rfl, rfl, hS, hL⟩
  · rintro e w ⟨_, _, _, _, hz⟩; exact nomatch (show none = some _ from hz)
  · rintro k e111 w110 ⟨x107, he108, he109, hS, hF⟩
    refine cw_gen ?_
    intro Q112 hQ112
    refine cw_seq ?_
    refine cw_gen ?_
    intro Q113 hQ113
    refine cw_seq ?_
    refine cw_gen ?_
    intro Q114 hQ114
    refine cw_reg ?_
    refine el_pv (v := .int .i64 x107) (pv_move he109) (by decide) ?_
    refine el_pv (v := u0) (pv_move he108) (by decide) ?_
    refine el_pv (v := .int .i64 (a0.length : Int)) (pv_len rfl ha0) (by decide) ?_
    refine el_pv (v := .bool (decide (x107 < (a0.length : Int)))) (pv_lss rfl rfl) (by decide) ?_
    refine el_nil ?_
    refine hQ114 _ _ _ ?_
    refine thn_n ?_
    replace hF := oif hF
    rcases hF with ⟨hb115, hF⟩ | ⟨hb115, hF⟩
    · refine cw_cond_t rfl hb115 ?_
      refine cw_skip ?_
      refine hQ113 _ _ _ ?_
      refine thn_n ?_
      refine cw_seq ?_
      refine cw_gen ?_
      intro Q116 hQ116
      refine cw_block ?_
      refine cw_gen ?_
      intro Q117 hQ117
      refine cw_seq ?_
      refine cw_gen ?_
      intro Q118 hQ118
      refine cw_regq (by kernel_rfl) (by kernel_rfl) ?_
      refine ql_pv (v := u0) (pv_move he108) (by decide) ?_
      refine ql_pv (v := .int .i64 x107) (pv_move he109) (by decide) ?_
      replace hF := ob hF
      obtain ⟨x119, hx119, hF⟩ := hF
      refine ql_index (wA := w0) rfl ha0 rfl (by decide) rfl hx119 (by decide) ?_
      intro b120 of121 c122 hr123 hm124
      obtain rfl := hr123
      refine ql_pv (v := .int .i64 x119) (pv_loadc rfl ((cells_up hS.below hm124) 0 _ rfl)) (by decide) ?_
      refine ql_pv (v := u0) (pv_move he108) (by decide) ?_
      refine ql_pv (v := .int .i64 x107) (pv_move he109) (by decide) ?_
      replace hF := ob hF
      obtain ⟨x125, hx125, hF⟩ := hF
      refine ql_pv (v := .int .i64 x125) (pv_sub rfl rfl hx125) (by decide) ?_
      replace hF := ob hF
      obtain ⟨x126, hx126, hF⟩ := hF
      refine ql_index (wA := w0) rfl ha0 rfl (by decide) rfl hx126 (by decide) ?_
      intro b127 of128 c129 hr130 hm131
      obtain rfl := hr130
      refine ql_pv (v := .int .i64 x126) (pv_loadc rfl ((cells_up hS.below hm131) 0 _ rfl)) (by decide) ?_
      refine ql_pv (v := .bool (decide (x119 ≤ x126))) (pv_leq rfl rfl) (by decide) ?_
      refine ql_nil ?_
      intro w132 hx133
      replace hS := hS.ext hx133
      refine hQ118 _ _ _ ?_
      refine thn_n ?_
      replace hF := oif hF
      rcases hF with ⟨hb134, hF⟩ | ⟨hb134, hF⟩
      · refine cw_cond_t rfl hb134 ?_
        refine cw_seq ?_
        refine cw_gen ?_
        intro Q135 hQ135
        refine cw_reg ?_
        refine el_pv (v := .bool false) (pv_assign rfl) (by decide) ?_
        refine el_nil ?_
        refine hQ135 _ _ _ ?_
        refine thn_n ?_
        refine cw_ret ?_
        refine hQ117 _ _ _ ?_
        refine inb_r ?_
        refine hQ116 _ _ _ ?_
        refine thn_r ?_
        refine hQ112 _ _ _ ?_
        refine thn_r ?_
        refine hQ104 _ _ _ ?_
        refine inb_r ?_
        refine hQ102 _ _ _ ?_
        refine thn_r ?_
        replace hF := exL hF hK106
        refine fin1 rfl rfl ?_
        have hr := Option.some.inj hF
        exact ⟨congrArg (fun (r : Bool) => Ending.returned (.bool r)) hr, hS.below⟩
      · refine cw_cond_f rfl hb134 ?_
        refine cw_skip ?_
        refine hQ117 _ _ _ ?_
        refine inb_n ?_
        refine hQ116 _ _ _ ?_
        refine thn_n ?_
        refine cw_reg ?_
        refine el_pv (v := .int .i64 x107) (pv_move he109) (by decide) ?_
        replace hF := ob hF
        obtain ⟨x136, hx136, hF⟩ := hF
        refine el_pv (v := .int .i64 x136) (pv_add rfl rfl hx136) (by decide) ?_
        refine el_pv (v := .int .i64 x136) (pv_assign rfl) (by decide) ?_
        refine el_nil ?_
        refine hQ112 _ _ _ ?_
        refine thn_n ?_
        replace hS := hS.keep 0
        exact ⟨x136, he108, rfl, hS, hF⟩
    · refine cw_cond_f rfl hb115 ?_
      refine cw_exit ?_
      refine hQ113 _ _ _ ?_
      refine thn_x ?_
      refine hQ112 _ _ _ ?_
      refine thn_x ?_
      replace hF := exA hF hK106
      refine hQ104 _ _ _ ?_
      refine inb_s ?_
      refine hQ102 _ _ _ ?_
      refine thn_n ?_
      refine cw_seq ?_
      refine cw_gen ?_
      intro Q137 hQ137
      refine cw_reg ?_
      refine el_pv (v := .bool true) (pv_assign rfl) (by decide) ?_
      refine el_nil ?_
      refine hQ137 _ _ _ ?_
      refine thn_n ?_
      refine cw_ret ?_
      refine fin1 rfl rfl ?_
      have hr := Option.some.inj hF
      exact ⟨congrArg (fun (r : Bool) => Ending.returned (.bool r)) hr, hS.below⟩
set_option maxHeartbeats 4000000 in
theorem spec_AreValidValues_ok {w0 : World} {u0 : Value} {a0 : List Int} (ha0 : (sliceR intR 3).rd w0 [u0] a0) {N : Nat} {r : Bool} (hF : spec_AreValidValues N a0 = some r) :
    Calls Try.prog 49 #[u0] w0 fun e w' => e = .returned (.bool r) ∧ Ext w0 w' := by
  unfold spec_AreValidValues at hF
  refine calls_E Try.func49 rfl rfl (of_decide_eq_true rfl) ?_
  have hS := Sat.start w0
  refine cw_seq ?_
  refine cw_gen ?_
  intro Q101 hQ101
  refine cw_reg ?_
  refine el_pv (v := .bool false) (pv_assign rfl) (by decide) ?_
  refine el_nil ?_
  refine hQ101 _ _ _ ?_
  refine thn_n ?_
  refine cw_seq ?_
  refine cw_gen ?_
  intro Q102 hQ102
  refine cw_seq ?_
  refine cw_gen ?_
  intro Q103 hQ103
  refine cw_reg ?_
  refine el_pv (v := .int .i64 0) (pv_assign rfl) (by decide) ?_
  refine el_nil ?_
  refine hQ103 _ _ _ ?_
  refine thn_n ?_
  refine cw_block ?_
  refine cw_gen ?_
  intro Q104 hQ104
  obtain ⟨s105, hL, hK106⟩ := ob hF
  refine cw_loopS (fun k e w => ∃ (x107 : Int), e 0 = u0 ∧ e 3 = .int .i64 x107 ∧ Sat w0 w [] ∧ spec_AreValidValues_L1 N k a0 x107 = some s105) N ?_ ?_ ?_
  · exact ⟨0, rfl, rfl, hS, hL⟩
  · rintro e w ⟨_, _, _, _, hz⟩; exact nomatch (show none = some _ from hz)
  · rintro k e111 w110 ⟨x107, he108, he109, hS, hF⟩
    refine cw_gen ?_
    intro Q112 hQ112
    refine cw_seq ?_
    refine cw_gen ?_
    intro Q113 hQ113
    refine cw_seq ?_
    refine cw_gen ?_
    intro Q114 hQ114
    refine cw_reg ?_
    refine el_pv (v := .int .i64 x107) (pv_move he109) (by decide) ?_
    refine el_pv (v := u0) (pv_move he108) (by decide) ?_
    refine el_pv (v := .int .i64 (a0.length : Int)) (pv_len rfl ha0) (by decide) ?_
    refine el_pv (v := .bool (decide (x107 < (a0.length : Int)))) (pv_lss rfl rfl) (by decide) ?_
    refine el_nil ?_
    refine hQ114 _ _ _ ?_
    refine thn_n ?_
    replace hF := oif hF
    rcases hF with ⟨hb115, hF⟩ | ⟨hb115, hF⟩
    · refine cw_cond_t rfl hb115 ?_
      refine cw_skip ?_
      refine hQ113 _ _ _ ?_
      refine thn_n ?_
      refine cw_seq ?_
      refine cw_gen ?_
      intro Q116 hQ116
      refine cw_block ?_
      refine cw_gen ?_
      intro Q117 hQ117
      refine cw_seq ?_
      refine cw_gen ?_
      intro Q118 hQ118
      refine cw_reg ?_
      refine el_pv (v := u0) (pv_move he108) (by decide) ?_
      refine el_pv (v := .int .i64 x107) (pv_move he109) (by decide) ?_
      replace hF := ob hF
      obtain ⟨x119, hx119, hF⟩ := hF
      refine el_index (wA := w0) rfl ha0 rfl (by decide) rfl hx119 (by decide) ?_
      intro b120 of121 c122 hr123 hm124
      obtain rfl := hr123
      refine el_pv (v := .int .i64 x119) (pv_loadc rfl ((cells_up hS.below hm124) 0 _ rfl)) (by decide) ?_
      replace hF := ob hF
      obtain ⟨r125, hr125, hF⟩ := hF
      refine el_call goes43 (spec_l1In_ok hr125) (congrArg List.toArray (mapc rfl (mapc rfl (mapc rfl rfl)))) (by decide) ?_
      rintro _ w126 ⟨rfl, hx127⟩
      refine ⟨_, rfl, ?_⟩
      replace hS := hS.ext hx127
      refine el_pv (v := .bool (!r125)) (pv_not rfl) (by decide) ?_
      refine el_nil ?_
      refine hQ118 _ _ _ ?_
      refine thn_n ?_
      replace hF := oif hF
      rcases hF with ⟨hb128, hF⟩ | ⟨hb128, hF⟩
      · refine cw_cond_f rfl (bnot_t hb128) ?_
        refine cw_skip ?_
        refine hQ117 _ _ _ ?_
        refine inb_n ?_
        refine hQ116 _ _ _ ?_
        refine thn_n ?_
        refine cw_reg ?_
        refine el_pv (v := .int .i64 x107) (pv_move he109) (by decide) ?_
        replace hF := ob hF
        obtain ⟨x129, hx129, hF⟩ := hF
        refine el_pv (v := .int .i64 x129) (pv_add rfl rfl hx129) (by decide) ?_
        refine el_pv (v := .int .i64 x129) (pv_assign rfl) (by decide) ?_
        refine el_nil ?_
        refine hQ112 _ _ _ ?_
        refine thn_n ?_
        replace hS := hS.keep 0
        exact ⟨x129, he108, rfl, hS, hF⟩
      · refine cw_cond_t rfl (bnot_f hb128) ?_
        refine cw_seq ?_
        refine cw_gen ?_
        intro Q130 hQ130
        refine cw_reg ?_
        refine el_pv (v := .bool false) (pv_assign rfl) (by decide) ?_
        refine el_nil ?_
        refine hQ130 _ _ _ ?_
        refine thn_n ?_
        refine cw_ret ?_
        refine hQ117 _ _ _ ?_
        refine inb_r ?_
        refine hQ116 _ _ _ ?_
        refine thn_r ?_
        refine hQ112 _ _ _ ?_
        refine thn_r ?_
        refine hQ104 _ _ _ ?_
        refine inb_r ?_
        refine hQ102 _ _ _ ?_
        refine thn_r ?_
        replace hF := exL hF hK106
        refine fin1 rfl rfl ?_
        have hr := Option.some.inj hF
        exact ⟨congrArg (fun (r : Bool) => Ending.returned (.bool r)) hr, hS.below⟩
    · refine cw_cond_f rfl hb115 ?_
      refine cw_exit ?_
      refine hQ113 _ _ _ ?_
      refine thn_x ?_
      refine hQ112 _ _ _ ?_
      refine thn_x ?_
      replace hF := exA hF hK106
      refine hQ104 _ _ _ ?_
      refine inb_s ?_
      refine hQ102 _ _ _ ?_
      refine thn_n ?_
      refine cw_seq ?_
      refine cw_gen ?_
      intro Q131 hQ131
      refine cw_reg ?_
      refine el_pv (v := .bool true) (pv_assign rfl) (by decide) ?_
      refine el_nil ?_
      refine hQ131 _ _ _ ?_
      refine thn_n ?_
      refine cw_ret ?_
      refine fin1 rfl rfl ?_
      have hr := Option.some.inj hF
      exact ⟨congrArg (fun (r : Bool) => Ending.returned (.bool r)) hr, hS.below⟩
set_option maxHeartbeats 4000000 in
theorem spec_CompareRows_ok {w0 : World} {u0 : Value} {a0 : List Int} {u1 : Value} {a1 : List Int} (ha0 : (sliceR intR 3).rd w0 [u0] a0) (ha1 : (sliceR intR 3).rd w0 [u1] a1) {N : Nat} {r : Int} (hF : spec_CompareRows N a0 a1 = some r) :
    Calls Try.prog 50 #[u0, u1] w0 fun e w' => e = .returned (.int .i64 r) ∧ Ext w0 w' := by
  unfold spec_CompareRows at hF
  refine calls_E Try.func50 rfl rfl (of_decide_eq_true rfl) ?_
  have hS := Sat.start w0
  refine cw_seq ?_
  refine cw_gen ?_
  intro Q101 hQ101
  refine cw_reg ?_
  refine el_pv (v := .int .i64 0) (pv_assign rfl) (by decide) ?_
  refine el_nil ?_
  refine hQ101 _ _ _ ?_
  refine thn_n ?_
  refine cw_seq ?_
  refine cw_gen ?_
  intro Q102 hQ102
  refine cw_seq ?_
  refine cw_gen ?_
  intro Q103 hQ103
  refine cw_reg ?_
  refine el_pv (v := .int .i64 0) (pv_assign rfl) (by decide) ?_
  refine el_nil ?_
  refine hQ103 _ _ _ ?_
  refine thn_n ?_
  refine cw_block ?_
  refine cw_gen ?_
  intro Q104 hQ104
  obtain ⟨s105, hL, hK106⟩ := ob hF
  refine cw_loopS (fun k e w => ∃ (x107 : Int), e 0 = u0 ∧ e 1 = u1 ∧ e 5 = .int .i64 x107 ∧ Sat w0 w [] ∧ spec_CompareRows_L1 N k a0 a1 x107 = some s105) N ?_ ?_ ?_
  · exact ⟨0, rfl, rfl, rfl, hS, hL⟩
  · rintro e w ⟨_, _, _, _, _, hz⟩; exact nomatch (show none = some _ from hz)
  · rintro k e112 w111 ⟨x107, he108, he109, he110, hS, hF⟩
    refine cw_gen ?_
    intro Q113 hQ113
    refine cw_seq ?_
    refine cw_gen ?_
    intro Q114 hQ114
    refine cw_seq ?_
    refine cw_gen ?_
    intro Q115 hQ115
    refine cw_reg ?_
    refine el_pv (v := .int .i64 x107) (pv_move he110) (by decide) ?_
    refine el_pv (v := u0) (pv_move he108) (by decide) ?_
    refine el_pv (v := .int .i64 (a0.length : Int)) (pv_len rfl ha0) (by decide) ?_
    refine el_pv (v := .bool (decide (x107 < (a0.length : Int)))) (pv_lss rfl rfl) (by decide) ?_
    refine el_pv (v := .bool (decide (x107 < (a0.length : Int)))) (pv_move rfl) (by decide) ?_
    replace hF := oif hF
    rcases hF with ⟨hb116, hF⟩ | ⟨hb116, hF⟩
    · refine el_on rfl hb116 ?_
      refine el_pv (v := .int .i64 x107) (pv_move he110) (by decide) ?_
      refine el_on rfl hb116 ?_
      refine el_pv (v := u1) (pv_move he109) (by decide) ?_
      refine el_on rfl hb116 ?_
      refine el_pv (v := .int .i64 (a1.length : Int)) (pv_len rfl ha1) (by decide) ?_
      refine el_on rfl hb116 ?_
      refine el_pv (v := .bool (decide (x107 < (a1.length : Int)))) (pv_lss rfl rfl) (by decide) ?_
      refine el_pv (v := .bool (decide (x107 < (a1.length : Int)))) (pv_pick_t rfl hb116 rfl) (by decide) ?_
      refine el_nil ?_
      refine hQ115 _ _ _ ?_
      refine thn_n ?_
      replace hF := oif hF
      rcases hF with ⟨hb117, hF⟩ | ⟨hb117, hF⟩
      · refine cw_cond_t rfl hb117 ?_
        refine cw_skip ?_
        refine hQ114 _ _ _ ?_
        refine thn_n ?_
        refine cw_seq ?_
        refine cw_gen ?_
        intro Q118 hQ118
        refine cw_block ?_
        refine cw_gen ?_
        intro Q119 hQ119
        refine cw_seq ?_
        refine cw_gen ?_
        intro Q120 hQ120
        refine cw_seq ?_
        refine cw_gen ?_
        intro Q121 hQ121
        refine cw_regq (by kernel_rfl) (by kernel_rfl) ?_
        refine ql_pv (v := u0) (pv_move he108) (by decide) ?_
        refine ql_pv (v := .int .i64 x107) (pv_move he110) (by decide) ?_
        replace hF := ob hF
        obtain ⟨x122, hx122, hF⟩ := hF
        refine ql_index (wA := w0) rfl ha0 rfl (by decide) rfl hx122 (by decide) ?_
        intro b123 of124 c125 hr126 hm127
        obtain rfl := hr126
        refine ql_pv (v := .int .i64 x122) (pv_loadc rfl ((cells_up hS.below hm127) 0 _ rfl)) (by decide) ?_
        refine ql_pv (v := u1) (pv_move he109) (by decide) ?_
        refine ql_pv (v := .int .i64 x107) (pv_move he110) (by decide) ?_
        replace hF := ob hF
        obtain ⟨x128, hx128, hF⟩ := hF
        refine ql_index (wA := w0) rfl ha1 rfl (by decide) rfl hx128 (by decide) ?_
        intro b129 of130 c131 hr132 hm133
        obtain rfl := hr132
        refine ql_pv (v := .int .i64 x128) (pv_loadc rfl ((cells_up hS.below hm133) 0 _ rfl)) (by decide) ?_
        refine ql_pv (v := .bool (decide (x122 < x128))) (pv_lss rfl rfl) (by decide) ?_
        refine ql_nil ?_
        intro w134 hx135
        replace hS := hS.ext hx135
        refine hQ121 _ _ _ ?_
        refine thn_n ?_
        replace hF := oif hF
        rcases hF with ⟨hb136, hF⟩ | ⟨hb136, hF⟩
        · refine cw_cond_t rfl hb136 ?_
          refine cw_seq ?_
          refine cw_gen ?_
          intro Q137 hQ137
          refine cw_reg ?_
          refine el_pv (v := .int .i64 (-1)) (pv_assign rfl) (by decide) ?_
          refine el_nil ?_
          refine hQ137 _ _ _ ?_
          refine thn_n ?_
          refine cw_ret ?_
          refine hQ120 _ _ _ ?_
          refine thn_r ?_
          refine hQ119 _ _ _ ?_
          refine inb_r ?_
          refine hQ118 _ _ _ ?_
          refine thn_r ?_
          refine hQ113 _ _ _ ?_
          refine thn_r ?_
          refine hQ104 _ _ _ ?_
          refine inb_r ?_
          refine hQ102 _ _ _ ?_
          refine thn_r ?_
          replace hF := exL hF hK106
          refine fin1 rfl rfl ?_
          have hr := Option.some.inj hF
          exact ⟨congrArg (fun (r : Int) => Ending.returned (.int .i64 r)) hr, hS.below⟩
        · refine cw_cond_f rfl hb136 ?_
          refine cw_skip ?_
          refine hQ120 _ _ _ ?_
          refine thn_n ?_
          refine cw_seq ?_
          refine cw_gen ?_
          intro Q138 hQ138
          refine cw_regq (by kernel_rfl) (by kernel_rfl) ?_
          refine ql_pv (v := u0) (pv_move he108) (by decide) ?_
          refine ql_pv (v := .int .i64 x107) (pv_move he110) (by decide) ?_
          replace hF := ob hF
          obtain ⟨x139, hx139, hF⟩ := hF
          refine ql_index (wA := w0) rfl ha0 rfl (by decide) rfl hx139 (by decide) ?_
          intro b140 of141 c142 hr143 hm144
          obtain rfl := hr143
          refine ql_pv (v := .int .i64 x139) (pv_loadc rfl ((cells_up hS.below hm144) 0 _ rfl)) (by decide) ?_
          refine ql_pv (v := u1) (pv_move he109) (by decide) ?_
          refine ql_pv (v := .int .i64 x107) (pv_move he110) (by decide) ?_
          replace hF := ob hF
          obtain ⟨x145, hx145, hF⟩ := hF
          refine ql_index (wA := w0) rfl ha1 rfl (by decide) rfl hx145 (by decide) ?_
          intro b146 of147 c148 hr149 hm150
          obtain rfl := hr149
          refine ql_pv (v := .int .i64 x145) (pv_loadc rfl ((cells_up hS.below hm150) 0 _ rfl)) (by decide) ?_
          refine ql_pv (v := .bool (decide (x145 < x139))) (pv_gtr rfl rfl) (by decide) ?_
          refine ql_nil ?_
          intro w151 hx152
          replace hS := hS.ext hx152
          refine hQ138 _ _ _ ?_
          refine thn_n ?_
          replace hF := oif hF
          rcases hF with ⟨hb153, hF⟩ | ⟨hb153, hF⟩
          · refine cw_cond_t rfl hb153 ?_
            refine cw_seq ?_
            refine cw_gen ?_
            intro Q154 hQ154
            refine cw_reg ?_
            refine el_pv (v := .int .i64 1) (pv_assign rfl) (by decide) ?_
            refine el_nil ?_
            refine hQ154 _ _ _ ?_
            refine thn_n ?_
            refine cw_ret ?_
            refine hQ119 _ _ _ ?_
            refine inb_r ?_
            refine hQ118 _ _ _ ?_
            refine thn_r ?_
            refine hQ113 _ _ _ ?_
            refine thn_r ?_
            refine hQ104 _ _ _ ?_
            refine inb_r ?_
            refine hQ102 _ _ _ ?_
            refine thn_r ?_
            replace hF := exL hF hK106
            refine fin1 rfl rfl ?_
            have hr := Option.some.inj hF
            exact ⟨congrArg (fun (r : Int) => Ending.returned (.int .i64 r)) hr, hS.below⟩
          · refine cw_cond_f rfl hb153 ?_
            refine cw_skip ?_
            refine hQ119 _ _ _ ?_
            refine inb_n ?_
            refine hQ118 _ _ _ ?_
            refine thn_n ?_
            refine cw_reg ?_
            refine el_pv (v := .int .i64 x107) (pv_move he110) (by decide) ?_
            replace hF := ob hF
            obtain ⟨x155, hx155, hF⟩ := hF
            refine el_pv (v := .int .i64 x155) (pv_add rfl rfl hx155) (by decide) ?_
            refine el_pv (v := .int .i64 x155) (pv_assign rfl) (by decide) ?_
            refine el_nil ?_
            refine hQ113 _ _ _ ?_
            refine thn_n ?_
            replace hS := hS.keep 0
            exact ⟨x155, he108, he109, rfl, hS, hF⟩
      · refine cw_cond_f rfl hb117 ?_
        refine cw_exit ?_
        refine hQ114 _ _ _ ?_
        refine thn_x ?_
        refine hQ113 _ _ _ ?_
        refine thn_x ?_
        replace hF := exA hF hK106
        refine hQ104 _ _ _ ?_
        refine inb_s ?_
        refine hQ102 _ _ _ ?_
        refine thn_n ?_
        refine cw_seq ?_
        refine cw_gen ?_
        intro Q156 hQ156
        refine cw_seq ?_
        refine cw_gen ?_
        intro Q157 hQ157
        refine cw_reg ?_
        refine el_pv (v := u0) (pv_move he108) (by decide) ?_
        refine el_pv (v := .int .i64 (a0.length : Int)) (pv_len rfl ha0) (by decide) ?_
        refine el_pv (v := u1) (pv_move he109) (by decide) ?_
        refine el_pv (v := .int .i64 (a1.length : Int)) (pv_len rfl ha1) (by decide) ?_
        refine el_pv (v := .bool (decide ((a0.length : Int) < (a1.length : Int)))) (pv_lss rfl rfl) (by decide) ?_
        refine el_nil ?_
        refine hQ157 _ _ _ ?_
        refine thn_n ?_
        replace hF := oif hF
        rcases hF with ⟨hb158, hF⟩ | ⟨hb158, hF⟩
        · refine cw_cond_t rfl hb158 ?_
          refine cw_seq ?_
          refine cw_gen ?_
          intro Q159 hQ159
          refine cw_reg ?_
          refine el_pv (v := .int .i64 (-1)) (pv_assign rfl) (by decide) ?_
          refine el_nil ?_
          refine hQ159 _ _ _ ?_
          refine thn_n ?_
          refine cw_ret ?_
          refine hQ156 _ _ _ ?_
          refine thn_r ?_
          refine fin1 rfl rfl ?_
          have hr := Option.some.inj hF
          exact ⟨congrArg (fun (r : Int) => Ending.returned (.int .i64 r)) hr, hS.below⟩
        · refine cw_cond_f rfl hb158 ?_
          refine cw_skip ?_
          refine hQ156 _ _ _ ?_
          refine thn_n ?_
          refine cw_seq ?_
          refine cw_gen ?_
          intro Q160 hQ160
          refine cw_seq ?_
          refine cw_gen ?_
          intro Q161 hQ161
          refine cw_reg ?_
          refine el_pv (v := u0) (pv_move he108) (by decide) ?_
          refine el_pv (v := .int .i64 (a0.length : Int)) (pv_len rfl ha0) (by decide) ?_
          refine el_pv (v := u1) (pv_move he109) (by decide) ?_
          refine el_pv (v := .int .i64 (a1.length : Int)) (pv_len rfl ha1) (by decide) ?_
          refine el_pv (v := .bool (decide ((a1.length : Int) < (a0.length : Int)))) (pv_gtr rfl rfl) (by decide) ?_
          refine el_nil ?_
          refine hQ161 _ _ _ ?_
          refine thn_n ?_
          replace hF := oif hF
          rcases hF with ⟨hb162, hF⟩ | ⟨hb162, hF⟩
          · refine cw_cond_t rfl hb162 ?_
            refine cw_seq ?_
            refine cw_gen ?_
            intro Q163 hQ163
            refine cw_reg ?_
            refine el_pv (v := .int .i64 1) (pv_assign rfl) (by decide) ?_
            refine el_nil ?_
            refine hQ163 _ _ _ ?_
            refine thn_n ?_
            refine cw_ret ?_
            refine hQ160 _ _ _ ?_
            refine thn_r ?_
            refine fin1 rfl rfl ?_
            have hr := Option.some.inj hF
            exact ⟨congrArg (fun (r : Int) => Ending.returned (.int .i64 r)) hr, hS.below⟩
          · refine cw_cond_f rfl hb162 ?_
            refine cw_skip ?_
            refine hQ160 _ _ _ ?_
            refine thn_n ?_
            refine cw_seq ?_
            refine cw_gen ?_
            intro Q164 hQ164
            refine cw_reg ?_
            refine el_pv (v := .int .i64 0) (pv_assign rfl) (by decide) ?_
            refine el_nil ?_
            refine hQ164 _ _ _ ?_
            refine thn_n ?_
            refine cw_ret ?_
            refine fin1 rfl rfl ?_
            have hr := Option.some.inj hF
            exact ⟨congrArg (fun (r : Int) => Ending.returned (.int .i64 r)) hr, hS.below⟩
    · refine el_off rfl hb116 rfl (by decide) ?_
      refine el_off rfl hb116 rfl (by decide) ?_
      refine el_off rfl hb116 rfl (by decide) ?_
      refine el_off rfl hb116 rfl (by decide) ?_
      refine el_pv (v := .bool false) (pv_pick_f rfl hb116 rfl) (by decide) ?_
      refine el_nil ?_
      refine hQ115 _ _ _ ?_
      refine thn_n ?_
      refine cw_cond_f rfl rfl ?_
      refine cw_exit ?_
      refine hQ114 _ _ _ ?_
      refine thn_x ?_
      refine hQ113 _ _ _ ?_
      refine thn_x ?_
      replace hF := exA hF hK106
      refine hQ104 _ _ _ ?_
      refine inb_s ?_
      refine hQ102 _ _ _ ?_
      refine thn_n ?_
      refine cw_seq ?_
      refine cw_gen ?_
      intro Q165 hQ165
      refine cw_seq ?_
      refine cw_gen ?_
      intro Q166 hQ166
      refine cw_reg ?_
      refine el_pv (v := u0) (pv_move he108) (by decide) ?_
      refine el_pv (v := .int .i64 (a0.length : Int)) (pv_len rfl ha0) (by decide) ?_
      refine el_pv (v := u1) (pv_move he109) (by decide) ?_
      refine el_pv (v := .int .i64 (a1.length : Int)) (pv_len rfl ha1) (by decide) ?_
      refine el_pv (v := .bool (decide ((a0.length : Int) < (a1.length : Int)))) (pv_lss rfl rfl) (by decide) ?_
      refine el_nil ?_
      refine hQ166 _ _ _ ?_
      refine thn_n ?_
      replace hF := oif hF
      rcases hF with ⟨hb167, hF⟩ | ⟨hb167, hF⟩
      · refine cw_cond_t rfl hb167 ?_
        refine cw_seq ?_
        refine cw_gen ?_
        intro Q168 hQ168
        refine cw_reg ?_
        refine el_pv (v := .int .i64 (-1)) (pv_assign rfl) (by decide) ?_
        refine el_nil ?_
        refine hQ168 _ _ _ ?_
        refine thn_n ?_
        refine cw_ret ?_
        refine hQ165 _ _ _ ?_
        refine thn_r ?_
        refine fin1 rfl rfl ?_
        have hr := Option.some.inj hF
        exact ⟨congrArg (fun (r : Int) => Ending.returned (.int .i64 r)) hr, hS.below⟩
      · refine cw_cond_f rfl hb167 ?_
        refine cw_skip ?_
        refine hQ165 _ _ _ ?_
        refine thn_n ?_
        refine cw_seq ?_
        refine cw_gen ?_
        intro Q169 hQ169
        refine cw_seq ?_
        refine cw_gen ?_
        intro Q170 hQ170
        refine cw_reg ?_
        refine el_pv (v := u0) (pv_move he108) (by decide) ?_
        refine el_pv (v := .int .i64 (a0.length : Int)) (pv_len rfl ha0) (by decide) ?_
        refine el_pv (v := u1) (pv_move he109) (by decide) ?_
        refine el_pv (v := .int .i64 (a1.length : Int)) (pv_len rfl ha1) (by decide) ?_
        refine el_pv (v := .bool (decide ((a1.length : Int) < (a0.length : Int)))) (pv_gtr rfl rfl) (by decide) ?_
        refine el_nil ?_
        refine hQ170 _ _ _ ?_
        refine thn_n ?_
        replace hF := oif hF
        rcases hF with ⟨hb171, hF⟩ | ⟨hb171, hF⟩
        · refine cw_cond_t rfl hb171 ?_
          refine cw_seq ?_
          refine cw_gen ?_
          intro Q172 hQ172
          refine cw_reg ?_
          refine el_pv (v := .int .i64 1) (pv_assign rfl) (by decide) ?_
          refine el_nil ?_
          refine hQ172 _ _ _ ?_
          refine thn_n ?_
          refine cw_ret ?_
          refine hQ169 _ _ _ ?_
          refine thn_r ?_
          refine fin1 rfl rfl ?_
          have hr := Option.some.inj hF
          exact ⟨congrArg (fun (r : Int) => Ending.returned (.int .i64 r)) hr, hS.below⟩
        · refine cw_cond_f rfl hb171 ?_
          refine cw_skip ?_
          refine hQ169 _ _ _ ?_
          refine thn_n ?_
          refine cw_seq ?_
          refine cw_gen ?_
          intro Q173 hQ173
          refine cw_reg ?_
          refine el_pv (v := .int .i64 0) (pv_assign rfl) (by decide) ?_
          refine el_nil ?_
          refine hQ173 _ _ _ ?_
          refine thn_n ?_
          refine cw_ret ?_
          refine fin1 rfl rfl ?_
          have hr := Option.some.inj hF
          exact ⟨congrArg (fun (r : Int) => Ending.returned (.int .i64 r)) hr, hS.below⟩
set_option maxHeartbeats 4000000 in
theorem spec_IsValidFactorization_ok {w0 : World} {u0 : Value} {a0 : List Int} {u1 : Value} {a1 : List (List Int × List Int)} (ha0 : (sliceR intR 3).rd w0 [u0] a0) (ha1 : (sliceR (pairR (sliceR intR 3) (sliceR intR 3)) 57).rd w0 [u1] a1) {N : Nat} {r : Bool} (hF : spec_IsValidFactorization N a0 a1 = some r) :
    Calls Try.prog 34 #[.agg #[u0, u1]] w0 fun e w' => e = .returned (.bool r) ∧ Ext w0 w' := by
  unfold spec_IsValidFactorization at hF
  refine calls_E Try.func34 rfl rfl (of_decide_eq_true rfl) ?_
  have hS := Sat.start w0
  refine cw_seq ?_
  refine cw_gen ?_
  intro Q101 hQ101
  refine cw_reg ?_
  refine el_box [u0, u1] rfl hS (by decide) ?_
  intro w102 b103 hS hx104
  refine el_pv (v := .bool false) (pv_assign rfl) (by decide) ?_
  refine el_nil ?_
  refine hQ101 _ _ _ ?_
  refine thn_n ?_
  refine cw_seq ?_
  refine cw_gen ?_
  intro Q106 hQ106
  refine cw_seq ?_
  refine cw_gen ?_
  intro Q107 hQ107
  refine cw_regq (by kernel_rfl) (by kernel_rfl) ?_
  refine ql_pv (v := .pointer (some ⟨b103, 0 + 0, none⟩)) (pv_fieldAddr rfl) (by decide) ?_
  refine ql_pv (v := u0) (pv_loadc rfl ((hS.boxAt 0 rfl) 0 _ rfl)) (by decide) ?_
  replace hF := ob hF
  obtain ⟨r108, hr108, hF⟩ := hF
  refine ql_call (.bool r108) goes47 (fun w' hw' => spec_IsPermutation_ok (rd_up (hS.up ha0) hw') hr108) (congrArg List.toArray (mapc rfl rfl)) (by decide) ?_
  refine ql_pv (v := .bool (!r108)) (pv_not rfl) (by decide) ?_
  refine ql_pv (v := .bool (!r108)) (pv_move rfl) (by decide) ?_
  replace hF := oif hF
  rcases hF with ⟨hb109, hF⟩ | ⟨hb109, hF⟩
  · refine ql_on rfl (bnot_t hb109) ?_
    refine ql_pv (v := .pointer (some ⟨b103, 0 + 1, none⟩)) (pv_fieldAddr rfl) (by decide) ?_
    refine ql_on rfl (bnot_t hb109) ?_
    refine ql_pv (v := u1) (pv_loadc rfl ((hS.boxAt 0 rfl) 1 _ rfl)) (by decide) ?_
    refine ql_on rfl (bnot_t hb109) ?_
    refine ql_pv (v := .int .i64 (a1.length : Int)) (pv_len rfl ha1) (by decide) ?_
    refine ql_on rfl (bnot_t hb109) ?_
    refine ql_pv (v := .bool (decide ((a1.length : Int) < 1))) (pv_lss rfl rfl) (by decide) ?_
    refine ql_pv (v := .bool (decide ((a1.length : Int) < 1))) (pv_pick_f rfl (bnot_t hb109) rfl) (by decide) ?_
    refine ql_pv (v := .bool (decide ((a1.length : Int) < 1))) (pv_move rfl) (by decide) ?_
    replace hF := oif hF
    rcases hF with ⟨hb110, hF⟩ | ⟨hb110, hF⟩
    · refine ql_off rfl hb110 rfl (by decide) ?_
      refine ql_off rfl hb110 rfl (by decide) ?_
      refine ql_off rfl hb110 rfl (by decide) ?_
      refine ql_off rfl hb110 rfl (by decide) ?_
      refine ql_pv (v := .bool true) (pv_pick_t rfl hb110 rfl) (by decide) ?_
      refine ql_pv (v := .bool true) (pv_move rfl) (by decide) ?_
      refine ql_off rfl rfl rfl (by decide) ?_
      refine ql_off rfl rfl rfl (by decide) ?_
      refine ql_off rfl rfl rfl (by decide) ?_
      refine ql_off rfl rfl rfl (by decide) ?_
      refine ql_off rfl rfl rfl (by decide) ?_
      refine ql_off rfl rfl rfl (by decide) ?_
      refine ql_off rfl rfl rfl (by decide) ?_
      refine ql_off rfl rfl rfl (by decide) ?_
      refine ql_off rfl rfl rfl (by decide) ?_
      refine ql_off rfl rfl rfl (by decide) ?_
      refine ql_off rfl rfl rfl (by decide) ?_
      refine ql_off rfl rfl rfl (by decide) ?_
      refine ql_off rfl rfl rfl (by decide) ?_
      refine ql_off rfl rfl rfl (by decide) ?_
      refine ql_pv (v := .bool true) (pv_pick_t rfl rfl rfl) (by decide) ?_
      refine ql_nil ?_
      intro w111 hx112
      replace hS := hS.ext hx112
      refine hQ107 _ _ _ ?_
      refine thn_n ?_
      refine cw_cond_t rfl rfl ?_
      refine cw_seq ?_
      refine cw_gen ?_
      intro Q113 hQ113
      refine cw_reg ?_
      refine el_pv (v := .bool false) (pv_assign rfl) (by decide) ?_
      refine el_nil ?_
      refine hQ113 _ _ _ ?_
      refine thn_n ?_
      refine cw_ret ?_
      refine hQ106 _ _ _ ?_
      refine thn_r ?_
      refine fin1 rfl rfl ?_
      have hr := Option.some.inj hF
      exact ⟨congrArg (fun (r : Bool) => Ending.returned (.bool r)) hr, hS.below⟩
    · refine ql_on rfl hb110 ?_
      refine ql_pv (v := .pointer (some ⟨b103, 0 + 1, none⟩)) (pv_fieldAddr rfl) (by decide) ?_
      refine ql_on rfl hb110 ?_
      refine ql_pv (v := u1) (pv_loadc rfl ((hS.boxAt 0 rfl) 1 _ rfl)) (by decide) ?_
      refine ql_on rfl hb110 ?_
      refine ql_pv (v := .int .i64 (a1.length : Int)) (pv_len rfl ha1) (by decide) ?_
      refine ql_on rfl hb110 ?_
      refine ql_pv (v := .bool (decide (4000 < (a1.length : Int)))) (pv_gtr rfl rfl) (by decide) ?_
      refine ql_pv (v := .bool (decide (4000 < (a1.length : Int)))) (pv_pick_f rfl hb110 rfl) (by decide) ?_
      refine ql_pv (v := .bool (decide (4000 < (a1.length : Int)))) (pv_move rfl) (by decide) ?_
      replace hF := oif hF
      rcases hF with ⟨hb114, hF⟩ | ⟨hb114, hF⟩
      · refine ql_off rfl hb114 rfl (by decide) ?_
        refine ql_off rfl hb114 rfl (by decide) ?_
        refine ql_off rfl hb114 rfl (by decide) ?_
        refine ql_off rfl hb114 rfl (by decide) ?_
        refine ql_off rfl hb114 rfl (by decide) ?_
        refine ql_off rfl hb114 rfl (by decide) ?_
        refine ql_off rfl hb114 rfl (by decide) ?_
        refine ql_off rfl hb114 rfl (by decide) ?_
        refine ql_off rfl hb114 rfl (by decide) ?_
        refine ql_off rfl hb114 rfl (by decide) ?_
        refine ql_off rfl hb114 rfl (by decide) ?_
        refine ql_off rfl hb114 rfl (by decide) ?_
        refine ql_off rfl hb114 rfl (by decide) ?_
        refine ql_off rfl hb114 rfl (by decide) ?_
        refine ql_pv (v := .bool true) (pv_pick_t rfl hb114 rfl) (by decide) ?_
        refine ql_nil ?_
        intro w115 hx116
        replace hS := hS.ext hx116
        refine hQ107 _ _ _ ?_
        refine thn_n ?_
        refine cw_cond_t rfl rfl ?_
        refine cw_seq ?_
        refine cw_gen ?_
        intro Q117 hQ117
        refine cw_reg ?_
        refine el_pv (v := .bool false) (pv_assign rfl) (by decide) ?_
        refine el_nil ?_
        refine hQ117 _ _ _ ?_
        refine thn_n ?_
        refine cw_ret ?_
        refine hQ106 _ _ _ ?_
        refine thn_r ?_
        refine fin1 rfl rfl ?_
        have hr := Option.some.inj hF
        exact ⟨congrArg (fun (r : Bool) => Ending.returned (.bool r)) hr, hS.below⟩
      · refine ql_on rfl hb114 ?_
        refine ql_pv (v := .pointer (some ⟨b103, 0 + 1, none⟩)) (pv_fieldAddr rfl) (by decide) ?_
        refine ql_on rfl hb114 ?_
        refine ql_pv (v := u1) (pv_loadc rfl ((hS.boxAt 0 rfl) 1 _ rfl)) (by decide) ?_
        refine ql_on rfl hb114 ?_
        replace hF := ob hF
        obtain ⟨x118, hx118, hF⟩ := hF
        refine ql_index (wA := w0) rfl ha1 rfl (by decide) rfl hx118 (by decide) ?_
        intro b119 of120 c121 hr122 hm123
        obtain ⟨_, _, rfl, hr124, hr125⟩ := hr122
        obtain ⟨v126, rfl⟩ := slice_one hr124
        obtain ⟨v127, rfl⟩ := slice_one hr125
        refine ql_on rfl hb114 ?_
        refine ql_pv (v := .pointer (some ⟨b119, of120 + 0, none⟩)) (pv_fieldAddr rfl) (by decide) ?_
        refine ql_on rfl hb114 ?_
        refine ql_pv (v := v126) (pv_loadc rfl ((cells_up hS.below hm123) 0 _ rfl)) (by decide) ?_
        refine ql_on rfl hb114 ?_
        refine ql_pv (v := .int .i64 (x118.1.length : Int)) (pv_len rfl hr124) (by decide) ?_
        refine ql_on rfl hb114 ?_
        refine ql_pv (v := .pointer (some ⟨b103, 0 + 1, none⟩)) (pv_fieldAddr rfl) (by decide) ?_
        refine ql_on rfl hb114 ?_
        refine ql_pv (v := u1) (pv_loadc rfl ((hS.boxAt 0 rfl) 1 _ rfl)) (by decide) ?_
        refine ql_on rfl hb114 ?_
        replace hF := ob hF
        obtain ⟨x128, hx128, hF⟩ := hF
        refine ql_index (wA := w0) rfl ha1 rfl (by decide) rfl hx128 (by decide) ?_
        intro b129 of130 c131 hr132 hm133
        obtain ⟨_, _, rfl, hr134, hr135⟩ := hr132
        obtain ⟨v136, rfl⟩ := slice_one hr134
        obtain ⟨v137, rfl⟩ := slice_one hr135
        refine ql_on rfl hb114 ?_
        refine ql_pv (v := .pointer (some ⟨b129, of130 + 1, none⟩)) (pv_fieldAddr rfl) (by decide) ?_
        refine ql_on rfl hb114 ?_
        refine ql_pv (v := v137) (pv_loadc rfl ((cells_up hS.below hm133) 1 _ rfl)) (by decide) ?_
        refine ql_on rfl hb114 ?_
        refine ql_pv (v := .int .i64 (x128.2.length : Int)) (pv_len rfl hr135) (by decide) ?_
        refine ql_on rfl hb114 ?_
        replace hF := ob hF
        obtain ⟨x138, hx138, hF⟩ := hF
        refine ql_pv (v := .int .i64 x138) (pv_add rfl rfl hx138) (by decide) ?_
        refine ql_on rfl hb114 ?_
        refine ql_pv (v := .bool (decide (0 < x138))) (pv_gtr rfl rfl) (by decide) ?_
        refine ql_pv (v := .bool (decide (0 < x138))) (pv_pick_f rfl hb114 rfl) (by decide) ?_
        refine ql_nil ?_
        intro w139 hx140
        replace hS := hS.ext hx140
        refine hQ107 _ _ _ ?_
        refine thn_n ?_
        replace hF := oif hF
        rcases hF with ⟨hb141, hF⟩ | ⟨hb141, hF⟩
        · refine cw_cond_t rfl hb141 ?_
          refine cw_seq ?_
          refine cw_gen ?_
          intro Q142 hQ142
          refine cw_reg ?_
          refine el_pv (v := .bool false) (pv_assign rfl) (by decide) ?_
          refine el_nil ?_
          refine hQ142 _ _ _ ?_
          refine thn_n ?_
          refine cw_ret ?_
          refine hQ106 _ _ _ ?_
          refine thn_r ?_
          refine fin1 rfl rfl ?_
          have hr := Option.some.inj hF
          exact ⟨congrArg (fun (r : Bool) => Ending.returned (.bool r)) hr, hS.below⟩
        · refine cw_cond_f rfl hb141 ?_
          refine cw_skip ?_
          refine hQ106 _ _ _ ?_
          refine thn_n ?_
          refine cw_seq ?_
          refine cw_gen ?_
          intro Q143 hQ143
          refine cw_reg ?_
          refine el_buildSlice1 [.int .i64 0] rfl (by rfl) (by decide) rfl (by decide) hS (by decide) ?_
          intro w144 b146 hS hx145
          replace hS := hS.int 0
          replace hS : Sat w0 w144 [Box b146 3 [.int .i64 0], _, Box b103 30 [u0, u1]] := hS.top 1 rfl
          replace hS := hS.lit1
          refine el_pv (v := (.slice (some ⟨b146, 0, none⟩) 1 1)) (pv_assign rfl) (by decide) ?_
          refine el_nil ?_
          refine hQ143 _ _ _ ?_
          refine thn_n ?_
          refine cw_seq ?_
          refine cw_gen ?_
          intro Q149 hQ149
          refine cw_seq ?_
          refine cw_gen ?_
          intro Q150 hQ150
          refine cw_reg ?_
          refine el_pv (v := .int .i64 1) (pv_assign rfl) (by decide) ?_
          refine el_nil ?_
          refine hQ150 _ _ _ ?_
          refine thn_n ?_
          refine cw_block ?_
          refine cw_gen ?_
          intro Q151 hQ151
          obtain ⟨s152, hL, hK153⟩ := ob hF
          refine cw_loopS (fun k e w => ∃ (v155 : Value), ∃ (x154 : List Int), ∃ (x156 : Int), e 1 = .pointer (some ⟨b103, 0, none⟩) ∧ e 3 = v155 ∧ e 4 = .int .i64 x156 ∧ Sat w0 w [Own (sliceR intR 3) [v155] x154, Box b103 30 [u0, u1]] ∧ spec_IsValidFactorization_L1 N k a0 a1 x154 x156 = some s152) N ?_ ?_ ?_
          · exact ⟨(.slice (some ⟨b146, 0, none⟩) 1 1), [0], 1, rfl, rfl, rfl, hS, hL⟩
          · rintro e w ⟨_, _, _, _, _, _, _, hz⟩; exact nomatch (show none = some _ from hz)
          · rintro k e161 w160 ⟨v155, x154, x156, he157, he158, he159, hS, hF⟩
            refine cw_gen ?_
            intro Q162 hQ162
            refine cw_seq ?_
            refine cw_gen ?_
            intro Q163 hQ163
            refine cw_seq ?_
            refine cw_gen ?_
            intro Q164 hQ164
            refine cw_reg ?_
            refine el_pv (v := .int .i64 x156) (pv_move he159) (by decide) ?_
            refine el_pv (v := .pointer (some ⟨b103, 0 + 1, none⟩)) (pv_fieldAddr he157) (by decide) ?_
            refine el_pv (v := u1) (pv_loadc rfl ((hS.boxAt 1 rfl) 1 _ rfl)) (by decide) ?_
            refine el_pv (v := .int .i64 (a1.length : Int)) (pv_len rfl ha1) (by decide) ?_
            refine el_pv (v := .bool (decide (x156 < (a1.length : Int)))) (pv_lss rfl rfl) (by decide) ?_
            refine el_nil ?_
            refine hQ164 _ _ _ ?_
            refine thn_n ?_
            replace hF := oif hF
            rcases hF with ⟨hb165, hF⟩ | ⟨hb165, hF⟩
            · refine cw_cond_t rfl hb165 ?_
              refine cw_skip ?_
              refine hQ163 _ _ _ ?_
              refine thn_n ?_
              refine cw_seq ?_
              refine cw_gen ?_
              intro Q166 hQ166
              refine cw_block ?_
              refine cw_gen ?_
              intro Q167 hQ167
              refine cw_seq ?_
              refine cw_gen ?_
              intro Q168 hQ168
              refine cw_reg ?_
              refine el_pv (v := .pointer (some ⟨b103, 0 + 1, none⟩)) (pv_fieldAddr he157) (by decide) ?_
              refine el_pv (v := u1) (pv_loadc rfl ((hS.boxAt 1 rfl) 1 _ rfl)) (by decide) ?_
              refine el_pv (v := .int .i64 x156) (pv_move he159) (by decide) ?_
              replace hF := ob hF
              obtain ⟨x169, hx169, hF⟩ := hF
              refine el_index (wA := w0) rfl ha1 rfl (by decide) rfl hx169 (by decide) ?_
              intro b170 of171 c172 hr173 hm174
              obtain ⟨_, _, rfl, hr175, hr176⟩ := hr173
              obtain ⟨v177, rfl⟩ := slice_one hr175
              obtain ⟨v178, rfl⟩ := slice_one hr176
              refine el_pv (v := .agg #[v177, v178]) (pv_loada (cs := [v177, v178]) rfl rfl (cells_up hS.below hm174)) (by decide) ?_
              refine el_alloc hS (by decide) ?_
              intro w179 b180 hS hx181
              refine el_storev (hS.top 0 rfl) rfl [v177, v178] rfl rfl (of_decide_eq_true rfl) (all_cons (oc hr175) (all_cons (oc hr176) rfl)) ?_
              intro w183 hS
              replace hS : Sat w0 w183 [Box b180 57 [v177, v178], Own (sliceR intR 3) [v155] x154, Box b103 30 [u0, u1]] := hS
              refine el_nil ?_
              refine hQ168 _ _ _ ?_
              refine thn_n ?_
              refine cw_seq ?_
              refine cw_gen ?_
              intro Q184 hQ184
              refine cw_seq ?_
              refine cw_gen ?_
              intro Q185 hQ185
              refine cw_reg ?_
              refine el_pv (v := .pointer (some ⟨b180, 0 + 0, none⟩)) (pv_fieldAddr rfl) (by decide) ?_
              refine el_pv (v := v177) (pv_loadc rfl ((hS.boxAt 0 rfl) 0 _ rfl)) (by decide) ?_
              refine el_pv (v := .int .i64 (x169.1.length : Int)) (pv_len rfl hr175) (by decide) ?_
              refine el_pv (v := .pointer (some ⟨b180, 0 + 1, none⟩)) (pv_fieldAddr rfl) (by decide) ?_
              refine el_pv (v := v178) (pv_loadc rfl ((hS.boxAt 0 rfl) 1 _ rfl)) (by decide) ?_
              refine el_pv (v := .int .i64 (x169.2.length : Int)) (pv_len rfl hr176) (by decide) ?_
              refine el_pv (v := .bool ((x169.1.length : Int) != (x169.2.length : Int))) (pv_neq rfl rfl) (by decide) ?_
              refine el_pv (v := .bool ((x169.1.length : Int) != (x169.2.length : Int))) (pv_move rfl) (by decide) ?_
              replace hF := oif hF
              rcases hF with ⟨hb186, hF⟩ | ⟨hb186, hF⟩
              · refine el_off rfl hb186 rfl (by decide) ?_
                refine el_off rfl hb186 rfl (by decide) ?_
                refine el_off rfl hb186 rfl (by decide) ?_
                refine el_off rfl hb186 rfl (by decide) ?_
                refine el_pv (v := .bool true) (pv_pick_t rfl hb186 rfl) (by decide) ?_
                refine el_pv (v := .bool true) (pv_move rfl) (by decide) ?_
                refine el_off rfl rfl rfl (by decide) ?_
                refine el_off rfl rfl rfl (by decide) ?_
                refine el_off rfl rfl rfl (by decide) ?_
                refine el_off rfl rfl rfl (by decide) ?_
                refine el_pv (v := .bool true) (pv_pick_t rfl rfl rfl) (by decide) ?_
                refine el_nil ?_
                refine hQ185 _ _ _ ?_
                refine thn_n ?_
                refine cw_cond_t rfl rfl ?_
                refine cw_seq ?_
                refine cw_gen ?_
                intro Q187 hQ187
                refine cw_reg ?_
                refine el_pv (v := .bool false) (pv_assign rfl) (by decide) ?_
                refine el_nil ?_
                refine hQ187 _ _ _ ?_
                refine thn_n ?_
                refine cw_ret ?_
                refine hQ184 _ _ _ ?_
                refine thn_r ?_
                refine hQ167 _ _ _ ?_
                refine inb_r ?_
                refine hQ166 _ _ _ ?_
                refine thn_r ?_
                refine hQ162 _ _ _ ?_
                refine thn_r ?_
                refine hQ151 _ _ _ ?_
                refine inb_r ?_
                refine hQ149 _ _ _ ?_
                refine thn_r ?_
                replace hF := exL hF hK153
                refine fin1 rfl rfl ?_
                have hr := Option.some.inj hF
                exact ⟨congrArg (fun (r : Bool) => Ending.returned (.bool r)) hr, hS.below⟩
              · refine el_on rfl hb186 ?_
                refine el_pv (v := .pointer (some ⟨b180, 0 + 0, none⟩)) (pv_fieldAddr rfl) (by decide) ?_
                refine el_on rfl hb186 ?_
                refine el_pv (v := v177) (pv_loadc rfl ((hS.boxAt 0 rfl) 0 _ rfl)) (by decide) ?_
                refine el_on rfl hb186 ?_
                replace hF := ob hF
                obtain ⟨r188, hr188, hF⟩ := hF
                refine el_call goes48 (spec_IsStrictlyAscending_ok (hS.up hr175) hr188) (congrArg List.toArray (mapc rfl rfl)) (by decide) ?_
                rintro _ w189 ⟨rfl, hx190⟩
                refine ⟨_, rfl, ?_⟩
                replace hS := hS.ext hx190
                refine el_on rfl hb186 ?_
                refine el_pv (v := .bool (!r188)) (pv_not rfl) (by decide) ?_
                refine el_pv (v := .bool (!r188)) (pv_pick_f rfl hb186 rfl) (by decide) ?_
                refine el_pv (v := .bool (!r188)) (pv_move rfl) (by decide) ?_
                replace hF := oif hF
                rcases hF with ⟨hb191, hF⟩ | ⟨hb191, hF⟩
                · refine el_on rfl (bnot_t hb191) ?_
                  refine el_pv (v := .pointer (some ⟨b180, 0 + 0, none⟩)) (pv_fieldAddr rfl) (by decide) ?_
                  refine el_on rfl (bnot_t hb191) ?_
                  refine el_pv (v := v177) (pv_loadc rfl ((hS.boxAt 0 rfl) 0 _ rfl)) (by decide) ?_
                  refine el_on rfl (bnot_t hb191) ?_
                  replace hF := ob hF
                  obtain ⟨r192, hr192, hF⟩ := hF
                  refine el_call goes49 (spec_AreValidValues_ok (hS.up hr175) hr192) (congrArg List.toArray (mapc rfl rfl)) (by decide) ?_
                  rintro _ w193 ⟨rfl, hx194⟩
                  refine ⟨_, rfl, ?_⟩
                  replace hS := hS.ext hx194
                  refine el_on rfl (bnot_t hb191) ?_
                  refine el_pv (v := .bool (!r192)) (pv_not rfl) (by decide) ?_
                  refine el_pv (v := .bool (!r192)) (pv_pick_f rfl (bnot_t hb191) rfl) (by decide) ?_
                  refine el_nil ?_
                  refine hQ185 _ _ _ ?_
                  refine thn_n ?_
                  replace hF := oif hF
                  rcases hF with ⟨hb195, hF⟩ | ⟨hb195, hF⟩
                  · refine cw_cond_f rfl (bnot_t hb195) ?_
                    refine cw_skip ?_
                    refine hQ184 _ _ _ ?_
                    refine thn_n ?_
                    refine cw_seq ?_
                    refine cw_gen ?_
                    intro Q196 hQ196
                    refine cw_seq ?_
                    refine cw_gen ?_
                    intro Q197 hQ197
                    refine cw_reg ?_
                    refine el_pv (v := .pointer (some ⟨b180, 0 + 0, none⟩)) (pv_fieldAddr rfl) (by decide) ?_
                    refine el_pv (v := v177) (pv_loadc rfl ((hS.boxAt 0 rfl) 0 _ rfl)) (by decide) ?_
                    refine el_pv (v := .int .i64 (x169.1.length : Int)) (pv_len rfl hr175) (by decide) ?_
                    refine el_pv (v := .bool ((x169.1.length : Int) == 0)) (pv_eql rfl rfl) (by decide) ?_
                    refine el_nil ?_
                    refine hQ197 _ _ _ ?_
                    refine thn_n ?_
                    replace hF := oif hF
                    rcases hF with ⟨hb198, hF⟩ | ⟨hb198, hF⟩
                    · refine cw_cond_t rfl hb198 ?_
                      refine cw_seq ?_
                      refine cw_gen ?_
                      intro Q199 hQ199
                      refine cw_seq ?_
                      refine cw_gen ?_
                      intro Q200 hQ200
                      refine cw_reg ?_
                      refine el_pv (v := .int .i64 x156) (pv_move he159) (by decide) ?_
                      refine el_pv (v := .pointer (some ⟨b103, 0 + 1, none⟩)) (pv_fieldAddr he157) (by decide) ?_
                      refine el_pv (v := u1) (pv_loadc rfl ((hS.boxAt 2 rfl) 1 _ rfl)) (by decide) ?_
                      refine el_pv (v := .int .i64 (a1.length : Int)) (pv_len rfl ha1) (by decide) ?_
                      replace hF := ob hF
                      obtain ⟨x201, hx201, hF⟩ := hF
                      refine el_pv (v := .int .i64 x201) (pv_sub rfl rfl hx201) (by decide) ?_
                      refine el_pv (v := .bool (x156 != x201)) (pv_neq rfl rfl) (by decide) ?_
                      refine el_nil ?_
                      refine hQ200 _ _ _ ?_
                      refine thn_n ?_
                      replace hF := oif hF
                      rcases hF with ⟨hb202, hF⟩ | ⟨hb202, hF⟩
                      · refine cw_cond_t rfl hb202 ?_
                        refine cw_seq ?_
                        refine cw_gen ?_
                        intro Q203 hQ203
                        refine cw_reg ?_
                        refine el_pv (v := .bool false) (pv_assign rfl) (by decide) ?_
                        refine el_nil ?_
                        refine hQ203 _ _ _ ?_
                        refine thn_n ?_
                        refine cw_ret ?_
                        refine hQ199 _ _ _ ?_
                        refine thn_r ?_
                        refine hQ196 _ _ _ ?_
                        refine thn_r ?_
                        refine hQ167 _ _ _ ?_
                        refine inb_r ?_
                        refine hQ166 _ _ _ ?_
                        refine thn_r ?_
                        refine hQ162 _ _ _ ?_
                        refine thn_r ?_
                        refine hQ151 _ _ _ ?_
                        refine inb_r ?_
                        refine hQ149 _ _ _ ?_
                        refine thn_r ?_
                        replace hF := exL hF hK153
                        refine fin1 rfl rfl ?_
                        have hr := Option.some.inj hF
                        exact ⟨congrArg (fun (r : Bool) => Ending.returned (.bool r)) hr, hS.below⟩
                      · refine cw_cond_f rfl hb202 ?_
                        refine cw_skip ?_
                        refine hQ199 _ _ _ ?_
                        refine thn_n ?_
                        refine cw_seq ?_
                        refine cw_gen ?_
                        intro Q204 hQ204
                        refine cw_reg ?_
                        refine el_pv (v := v155) (pv_move he158) (by decide) ?_
                        refine el_pv (v := .pointer (some ⟨b103, 0 + 0, none⟩)) (pv_fieldAddr he157) (by decide) ?_
                        refine el_pv (v := u0) (pv_loadc rfl ((hS.boxAt 2 rfl) 0 _ rfl)) (by decide) ?_
                        refine el_pv (v := .int .i64 (a0.length : Int)) (pv_len rfl ha0) (by decide) ?_
                        refine el_buildSlice1 [.int .i64 (a0.length : Int)] rfl (by rfl) (by decide) rfl (by decide) hS (by decide) ?_
                        intro w205 b207 hS hx206
                        replace hF := ob hF
                        obtain ⟨x211, hx211, hF⟩ := hF
                        have hrow212 := hS.boxRow 0 rfl
                        replace hS : Sat w0 w205 [Own (sliceR intR 3) [v155] x154, Box b207 3 [.int .i64 (a0.length : Int)], Box b180 57 [v177, v178], Box b103 30 [u0, u1]] := hS.top 2 rfl
                        replace hS := hS.int (a0.length : Int)
                        replace hS := hS.one
                        refine el_append rfl (by decide) rfl (by decide) hS rfl rfl rfl (by simp) hrow212 hx211 (by decide) ?_
                        intro w209 v210 hS
                        refine el_pv (v := v210) (pv_assign rfl) (by decide) ?_
                        refine el_nil ?_
                        refine hQ204 _ _ _ ?_
                        refine thn_n ?_
                        refine cw_exit ?_
                        refine hQ196 _ _ _ ?_
                        refine thn_x ?_
                        refine hQ167 _ _ _ ?_
                        refine inb_s ?_
                        refine hQ166 _ _ _ ?_
                        refine thn_n ?_
                        refine cw_reg ?_
                        refine el_pv (v := .int .i64 x156) (pv_move he159) (by decide) ?_
                        replace hF := ob hF
                        obtain ⟨x214, hx214, hF⟩ := hF
                        refine el_pv (v := .int .i64 x214) (pv_add rfl rfl hx214) (by decide) ?_
                        refine el_pv (v := .int .i64 x214) (pv_assign rfl) (by decide) ?_
                        refine el_nil ?_
                        refine hQ162 _ _ _ ?_
                        refine thn_n ?_
                        replace hS : Sat w0 w209 [Box b103 30 [u0, u1], Own (sliceR intR 3) [v210] x211, Box b207 3 [.int .i64 (a0.length : Int)], Box b180 57 [v177, v178]] := hS.top 3 rfl
                        replace hS : Sat w0 w209 [Own (sliceR intR 3) [v210] x211, Box b103 30 [u0, u1], Box b207 3 [.int .i64 (a0.length : Int)], Box b180 57 [v177, v178]] := hS.top 1 rfl
                        replace hS := hS.keep 2
                        exact ⟨v210, x211, x214, he157, rfl, rfl, hS, hF⟩
                    · refine cw_cond_f rfl hb198 ?_
                      refine cw_skip ?_
                      refine hQ196 _ _ _ ?_
                      refine thn_n ?_
                      refine cw_seq ?_
                      refine cw_gen ?_
                      intro Q215 hQ215
                      refine cw_seq ?_
                      refine cw_gen ?_
                      intro Q216 hQ216
                      refine cw_reg ?_
                      refine el_pv (v := .int .i64 0) (pv_assign rfl) (by decide) ?_
                      refine el_nil ?_
                      refine hQ216 _ _ _ ?_
                      refine thn_n ?_
                      refine cw_block ?_
                      refine cw_gen ?_
                      intro Q217 hQ217
                      obtain ⟨s218, hL, hK219⟩ := ob hF
                      refine cw_loopS (fun k e w => ∃ (x220 : Int), e 1 = .pointer (some ⟨b103, 0, none⟩) ∧ e 3 = v155 ∧ e 4 = .int .i64 x156 ∧ e 5 = .pointer (some ⟨b180, 0, none⟩) ∧ e 6 = .int .i64 x220 ∧ Sat w0 w [Box b180 57 [v177, v178], Own (sliceR intR 3) [v155] x154, Box b103 30 [u0, u1]] ∧ spec_IsValidFactorization_L2 N k a0 a1 x154 x156 x169.1 x169.2 x220 = some s218) N ?_ ?_ ?_
                      · exact ⟨0, he157, he158, he159, rfl, rfl, hS, hL⟩
                      · rintro e w ⟨_, _, _, _, _, _, _, hz⟩; exact nomatch (show none = some _ from hz)
                      · rintro k e227 w226 ⟨x220, he221, he222, he223, he224, he225, hS, hF⟩
                        refine cw_gen ?_
                        intro Q228 hQ228
                        refine cw_seq ?_
                        refine cw_gen ?_
                        intro Q229 hQ229
                        refine cw_seq ?_
                        refine cw_gen ?_
                        intro Q230 hQ230
                        refine cw_reg ?_
                        refine el_pv (v := .int .i64 x220) (pv_move he225) (by decide) ?_
                        refine el_pv (v := .pointer (some ⟨b180, 0 + 1, none⟩)) (pv_fieldAddr he224) (by decide) ?_
                        refine el_pv (v := v178) (pv_loadc rfl ((hS.boxAt 0 rfl) 1 _ rfl)) (by decide) ?_
                        refine el_pv (v := .int .i64 (x169.2.length : Int)) (pv_len rfl hr176) (by decide) ?_
                        refine el_pv (v := .bool (decide (x220 < (x169.2.length : Int)))) (pv_lss rfl rfl) (by decide) ?_
                        refine el_nil ?_
                        refine hQ230 _ _ _ ?_
                        refine thn_n ?_
                        replace hF := oif hF
                        rcases hF with ⟨hb231, hF⟩ | ⟨hb231, hF⟩
                        · refine cw_cond_t rfl hb231 ?_
                          refine cw_skip ?_
                          refine hQ229 _ _ _ ?_
                          refine thn_n ?_
                          refine cw_seq ?_
                          refine cw_gen ?_
                          intro Q232 hQ232
                          refine cw_block ?_
                          refine cw_gen ?_
                          intro Q233 hQ233
                          refine cw_seq ?_
                          refine cw_gen ?_
                          intro Q234 hQ234
                          refine cw_regq (by kernel_rfl) (by kernel_rfl) ?_
                          refine ql_pv (v := .pointer (some ⟨b180, 0 + 1, none⟩)) (pv_fieldAddr he224) (by decide) ?_
                          refine ql_pv (v := v178) (pv_loadc rfl ((hS.boxAt 0 rfl) 1 _ rfl)) (by decide) ?_
                          refine ql_pv (v := .int .i64 x220) (pv_move he225) (by decide) ?_
                          replace hF := ob hF
                          obtain ⟨x235, hx235, hF⟩ := hF
                          refine ql_index (wA := w0) rfl hr176 rfl (by decide) rfl hx235 (by decide) ?_
                          intro b236 of237 c238 hr239 hm240
                          obtain rfl := hr239
                          refine ql_pv (v := .int .i64 x235) (pv_loadc rfl ((cells_up hS.below hm240) 0 _ rfl)) (by decide) ?_
                          refine ql_pv (v := .int .i64 x156) (pv_move he223) (by decide) ?_
                          replace hF := ob hF
                          obtain ⟨x241, hx241, hF⟩ := hF
                          refine ql_pv (v := .int .i64 x241) (pv_sub rfl rfl hx241) (by decide) ?_
                          replace hF := ob hF
                          obtain ⟨r242, hr242, hF⟩ := hF
                          refine ql_call (.bool r242) goes43 (fun w' hw' => spec_l1In_ok hr242) (congrArg List.toArray (mapc rfl (mapc rfl (mapc rfl rfl)))) (by decide) ?_
                          refine ql_pv (v := .bool (!r242)) (pv_not rfl) (by decide) ?_
                          refine ql_pv (v := .bool (!r242)) (pv_move rfl) (by decide) ?_
                          replace hF := oif hF
                          rcases hF with ⟨hb243, hF⟩ | ⟨hb243, hF⟩
                          · refine ql_on rfl (bnot_t hb243) ?_
                            refine ql_pv (v := v155) (pv_move he222) (by decide) ?_
                            refine ql_on rfl (bnot_t hb243) ?_
                            refine ql_pv (v := .pointer (some ⟨b180, 0 + 1, none⟩)) (pv_fieldAddr he224) (by decide) ?_
                            refine ql_on rfl (bnot_t hb243) ?_
                            refine ql_pv (v := v178) (pv_loadc rfl ((hS.boxAt 0 rfl) 1 _ rfl)) (by decide) ?_
                            refine ql_on rfl (bnot_t hb243) ?_
                            refine ql_pv (v := .int .i64 x220) (pv_move he225) (by decide) ?_
                            refine ql_on rfl (bnot_t hb243) ?_
                            replace hF := ob hF
                            obtain ⟨x244, hx244, hF⟩ := hF
                            refine ql_index (wA := w0) rfl hr176 rfl (by decide) rfl hx244 (by decide) ?_
                            intro b245 of246 c247 hr248 hm249
                            obtain rfl := hr248
                            refine ql_on rfl (bnot_t hb243) ?_
                            refine ql_pv (v := .int .i64 x244) (pv_loadc rfl ((cells_up hS.below hm249) 0 _ rfl)) (by decide) ?_
                            refine ql_on rfl (bnot_t hb243) ?_
                            replace hF := ob hF
                            obtain ⟨x250, hx250, hF⟩ := hF
                            obtain ⟨g251, cap252, hv253⟩ := ownShape 1 hS rfl hx250
                            refine ql_pv (v := .pointer (some ⟨g251, x244.toNat * 1, none⟩)) (pv_indexF (v := v155) rfl hv253 rfl hx250) (by decide) ?_
                            refine ql_on rfl (bnot_t hb243) ?_
                            refine ql_pv (v := .int .i64 x250) (pv_loadc rfl (hS.ownCell 1 rfl hv253 hx250)) (by decide) ?_
                            refine ql_on rfl (bnot_t hb243) ?_
                            refine ql_pv (v := v155) (pv_move he222) (by decide) ?_
                            refine ql_on rfl (bnot_t hb243) ?_
                            refine ql_pv (v := .pointer (some ⟨b180, 0 + 1, none⟩)) (pv_fieldAddr he224) (by decide) ?_
                            refine ql_on rfl (bnot_t hb243) ?_
                            refine ql_pv (v := v178) (pv_loadc rfl ((hS.boxAt 0 rfl) 1 _ rfl)) (by decide) ?_
                            refine ql_on rfl (bnot_t hb243) ?_
                            replace hF := ob hF
                            obtain ⟨x254, hx254, hF⟩ := hF
                            refine ql_index (wA := w0) rfl hr176 rfl (by decide) rfl hx254 (by decide) ?_
                            intro b255 of256 c257 hr258 hm259
                            obtain rfl := hr258
                            refine ql_on rfl (bnot_t hb243) ?_
                            refine ql_pv (v := .int .i64 x254) (pv_loadc rfl ((cells_up hS.below hm259) 0 _ rfl)) (by decide) ?_
                            refine ql_on rfl (bnot_t hb243) ?_
                            replace hF := ob hF
                            obtain ⟨x260, hx260, hF⟩ := hF
                            obtain ⟨g261, cap262, hv263⟩ := ownShape 1 hS rfl hx260
                            refine ql_pv (v := .pointer (some ⟨g261, x254.toNat * 1, none⟩)) (pv_indexF (v := v155) rfl hv263 rfl hx260) (by decide) ?_
                            refine ql_on rfl (bnot_t hb243) ?_
                            refine ql_pv (v := .int .i64 x260) (pv_loadc rfl (hS.ownCell 1 rfl hv263 hx260)) (by decide) ?_
                            refine ql_on rfl (bnot_t hb243) ?_
                            refine ql_pv (v := .bool (x250 != x260)) (pv_neq rfl rfl) (by decide) ?_
                            refine ql_pv (v := .bool (x250 != x260)) (pv_pick_f rfl (bnot_t hb243) rfl) (by decide) ?_
                            refine ql_nil ?_
                            intro w264 hx265
                            replace hS := hS.ext hx265
                            refine hQ234 _ _ _ ?_
                            refine thn_n ?_
                            replace hF := oif hF
                            rcases hF with ⟨hb266, hF⟩ | ⟨hb266, hF⟩
                            · refine cw_cond_t rfl hb266 ?_
                              refine cw_seq ?_
                              refine cw_gen ?_
                              intro Q267 hQ267
                              refine cw_reg ?_
                              refine el_pv (v := .bool false) (pv_assign rfl) (by decide) ?_
                              refine el_nil ?_
                              refine hQ267 _ _ _ ?_
                              refine thn_n ?_
                              refine cw_ret ?_
                              refine hQ233 _ _ _ ?_
                              refine inb_r ?_
                              refine hQ232 _ _ _ ?_
                              refine thn_r ?_
                              refine hQ228 _ _ _ ?_
                              refine thn_r ?_
                              refine hQ217 _ _ _ ?_
                              refine inb_r ?_
                              refine hQ215 _ _ _ ?_
                              refine thn_r ?_
                              refine hQ167 _ _ _ ?_
                              refine inb_r ?_
                              refine hQ166 _ _ _ ?_
                              refine thn_r ?_
                              refine hQ162 _ _ _ ?_
                              refine thn_r ?_
                              refine hQ151 _ _ _ ?_
                              refine inb_r ?_
                              refine hQ149 _ _ _ ?_
                              refine thn_r ?_
                              replace hF := exL hF hK219
                              replace hF := exL hF hK153
                              refine fin1 rfl rfl ?_
                              have hr := Option.some.inj hF
                              exact ⟨congrArg (fun (r : Bool) => Ending.returned (.bool r)) hr, hS.below⟩
                            · refine cw_cond_f rfl hb266 ?_
                              refine cw_skip ?_
                              refine hQ233 _ _ _ ?_
                              refine inb_n ?_
                              refine hQ232 _ _ _ ?_
                              refine thn_n ?_
                              refine cw_reg ?_
                              refine el_pv (v := .int .i64 x220) (pv_move he225) (by decide) ?_
                              replace hF := ob hF
                              obtain ⟨x268, hx268, hF⟩ := hF
                              refine el_pv (v := .int .i64 x268) (pv_add rfl rfl hx268) (by decide) ?_
                              refine el_pv (v := .int .i64 x268) (pv_assign rfl) (by decide) ?_
                              refine el_nil ?_
                              refine hQ228 _ _ _ ?_
                              refine thn_n ?_
                              replace hS : Sat w0 w264 [Box b103 30 [u0, u1], Box b180 57 [v177, v178], Own (sliceR intR 3) [v155] x154] := hS.top 2 rfl
                              replace hS : Sat w0 w264 [Own (sliceR intR 3) [v155] x154, Box b103 30 [u0, u1], Box b180 57 [v177, v178]] := hS.top 2 rfl
                              replace hS : Sat w0 w264 [Box b180 57 [v177, v178], Own (sliceR intR 3) [v155] x154, Box b103 30 [u0, u1]] := hS.top 2 rfl
                              replace hS := hS.keep 3
                              exact ⟨x268, he221, he222, he223, he224, rfl, hS, hF⟩
                          · refine ql_off rfl (bnot_f hb243) rfl (by decide) ?_
                            refine ql_off rfl (bnot_f hb243) rfl (by decide) ?_
                            refine ql_off rfl (bnot_f hb243) rfl (by decide) ?_
                            refine ql_off rfl (bnot_f hb243) rfl (by decide) ?_
                            refine ql_off rfl (bnot_f hb243) rfl (by decide) ?_
                            refine ql_off rfl (bnot_f hb243) rfl (by decide) ?_
                            refine ql_off rfl (bnot_f hb243) rfl (by decide) ?_
                            refine ql_off rfl (bnot_f hb243) rfl (by decide) ?_
                            refine ql_off rfl (bnot_f hb243) rfl (by decide) ?_
                            refine ql_off rfl (bnot_f hb243) rfl (by decide) ?_
                            refine ql_off rfl (bnot_f hb243) rfl (by decide) ?_
                            refine ql_off rfl (bnot_f hb243) rfl (by decide) ?_
                            refine ql_off rfl (bnot_f hb243) rfl (by decide) ?_
                            refine ql_off rfl (bnot_f hb243) rfl (by decide) ?_
                            refine ql_off rfl (bnot_f hb243) rfl (by decide) ?_
                            refine ql_off rfl (bnot_f hb243) rfl (by decide) ?_
                            refine ql_pv (v := .bool true) (pv_pick_t rfl (bnot_f hb243) rfl) (by decide) ?_
                            refine ql_nil ?_
                            intro w269 hx270
                            replace hS := hS.ext hx270
                            refine hQ234 _ _ _ ?_
                            refine thn_n ?_
                            refine cw_cond_t rfl rfl ?_
                            refine cw_seq ?_
                            refine cw_gen ?_
                            intro Q271 hQ271
                            refine cw_reg ?_
                            refine el_pv (v := .bool false) (pv_assign rfl) (by decide) ?_
                            refine el_nil ?_
                            refine hQ271 _ _ _ ?_
                            refine thn_n ?_
                            refine cw_ret ?_
                            refine hQ233 _ _ _ ?_
                            refine inb_r ?_
                            refine hQ232 _ _ _ ?_
                            refine thn_r ?_
                            refine hQ228 _ _ _ ?_
                            refine thn_r ?_
                            refine hQ217 _ _ _ ?_
                            refine inb_r ?_
                            refine hQ215 _ _ _ ?_
                            refine thn_r ?_
                            refine hQ167 _ _ _ ?_
                            refine inb_r ?_
                            refine hQ166 _ _ _ ?_
                            refine thn_r ?_
                            refine hQ162 _ _ _ ?_
                            refine thn_r ?_
                            refine hQ151 _ _ _ ?_
                            refine inb_r ?_
                            refine hQ149 _ _ _ ?_
                            refine thn_r ?_
                            replace hF := exL hF hK219
                            replace hF := exL hF hK153
                            refine fin1 rfl rfl ?_
                            have hr := Option.some.inj hF
                            exact ⟨congrArg (fun (r : Bool) => Ending.returned (.bool r)) hr, hS.below⟩
                        · refine cw_cond_f rfl hb231 ?_
                          refine cw_exit ?_
                          refine hQ229 _ _ _ ?_
                          refine thn_x ?_
                          refine hQ228 _ _ _ ?_
                          refine thn_x ?_
                          replace hF := exA hF hK219
                          refine hQ217 _ _ _ ?_
                          refine inb_s ?_
                          refine hQ215 _ _ _ ?_
                          refine thn_n ?_
                          refine cw_seq ?_
                          refine cw_gen ?_
                          intro Q272 hQ272
                          refine cw_reg ?_
                          refine el_pv (v := v155) (pv_move he222) (by decide) ?_
                          refine el_pv (v := v155) (pv_move he222) (by decide) ?_
                          refine el_pv (v := .pointer (some ⟨b180, 0 + 1, none⟩)) (pv_fieldAddr he224) (by decide) ?_
                          refine el_pv (v := v178) (pv_loadc rfl ((hS.boxAt 0 rfl) 1 _ rfl)) (by decide) ?_
                          replace hF := ob hF
                          obtain ⟨x273, hx273, hF⟩ := hF
                          refine el_index (wA := w0) rfl hr176 rfl (by decide) rfl hx273 (by decide) ?_
                          intro b274 of275 c276 hr277 hm278
                          obtain rfl := hr277
                          refine el_pv (v := .int .i64 x273) (pv_loadc rfl ((cells_up hS.below hm278) 0 _ rfl)) (by decide) ?_
                          replace hF := ob hF
                          obtain ⟨x279, hx279, hF⟩ := hF
                          obtain ⟨g280, cap281, hv282⟩ := ownShape 1 hS rfl hx279
                          refine el_pv (v := .pointer (some ⟨g280, x273.toNat * 1, none⟩)) (pv_indexF (v := v155) rfl hv282 rfl hx279) (by decide) ?_
                          refine el_pv (v := .int .i64 x279) (pv_loadc rfl (hS.ownCell 1 rfl hv282 hx279)) (by decide) ?_
                          replace hF := ob hF
                          obtain ⟨x283, hx283, hF⟩ := hF
                          refine el_pv (v := .int .i64 x283) (pv_add rfl rfl hx283) (by decide) ?_
                          refine el_buildSlice1 [.int .i64 x283] rfl (by rfl) (by decide) rfl (by decide) hS (by decide) ?_
                          intro w284 b286 hS hx285
                          replace hF := ob hF
                          obtain ⟨x290, hx290, hF⟩ := hF
                          have hrow291 := hS.boxRow 0 rfl
                          replace hS : Sat w0 w284 [Own (sliceR intR 3) [v155] x154, Box b286 3 [.int .i64 x283], Box b180 57 [v177, v178], Box b103 30 [u0, u1]] := hS.top 2 rfl
                          replace hS := hS.int x283
                          replace hS := hS.one
                          refine el_append rfl (by decide) rfl (by decide) hS rfl rfl rfl (by simp) hrow291 hx290 (by decide) ?_
                          intro w288 v289 hS
                          refine el_pv (v := v289) (pv_assign rfl) (by decide) ?_
                          refine el_nil ?_
                          refine hQ272 _ _ _ ?_
                          refine thn_n ?_
                          refine cw_seq ?_
                          refine cw_gen ?_
                          intro Q293 hQ293
                          refine cw_reg ?_
                          refine el_pv (v := .int .i64 1) (pv_assign rfl) (by decide) ?_
                          refine el_nil ?_
                          refine hQ293 _ _ _ ?_
                          refine thn_n ?_
                          refine cw_block ?_
                          refine cw_gen ?_
                          intro Q294 hQ294
                          obtain ⟨s295, hL, hK296⟩ := ob hF
                          replace hS : Sat w0 w288 [Own (sliceR intR 3) [v289] x290, Box b180 57 [v177, v178], Box b103 30 [u0, u1]] := hS.rem 1 rfl
                          refine cw_loopS (fun k e w => ∃ (x297 : Int), e 1 = .pointer (some ⟨b103, 0, none⟩) ∧ e 3 = v289 ∧ e 4 = .int .i64 x156 ∧ e 5 = .pointer (some ⟨b180, 0, none⟩) ∧ e 7 = .int .i64 x297 ∧ Sat w0 w [Own (sliceR intR 3) [v289] x290, Box b180 57 [v177, v178], Box b103 30 [u0, u1]] ∧ spec_IsValidFactorization_L3 N k a0 a1 x290 x156 x169.1 x169.2 x297 = some s295) N ?_ ?_ ?_
                          · exact ⟨1, he221, rfl, he223, he224, rfl, hS, hL⟩
                          · rintro e w ⟨_, _, _, _, _, _, _, hz⟩; exact nomatch (show none = some _ from hz)
                          · rintro k e304 w303 ⟨x297, he298, he299, he300, he301, he302, hS, hF⟩
                            refine cw_gen ?_
                            intro Q305 hQ305
                            refine cw_seq ?_
                            refine cw_gen ?_
                            intro Q306 hQ306
                            refine cw_seq ?_
                            refine cw_gen ?_
                            intro Q307 hQ307
                            refine cw_reg ?_
                            refine el_pv (v := .int .i64 x297) (pv_move he302) (by decide) ?_
                            refine el_pv (v := .int .i64 x156) (pv_move he300) (by decide) ?_
                            refine el_pv (v := .bool (decide (x297 < x156))) (pv_lss rfl rfl) (by decide) ?_
                            refine el_nil ?_
                            refine hQ307 _ _ _ ?_
                            refine thn_n ?_
                            replace hF := oif hF
                            rcases hF with ⟨hb308, hF⟩ | ⟨hb308, hF⟩
                            · refine cw_cond_t rfl hb308 ?_
                              refine cw_skip ?_
                              refine hQ306 _ _ _ ?_
                              refine thn_n ?_
                              refine cw_seq ?_
                              refine cw_gen ?_
                              intro Q309 hQ309
                              refine cw_block ?_
                              refine cw_gen ?_
                              intro Q310 hQ310
                              refine cw_seq ?_
                              refine cw_gen ?_
                              intro Q311 hQ311
                              refine cw_regq (by kernel_rfl) (by kernel_rfl) ?_
                              refine ql_pv (v := .pointer (some ⟨b103, 0 + 1, none⟩)) (pv_fieldAddr he298) (by decide) ?_
                              refine ql_pv (v := u1) (pv_loadc rfl ((hS.boxAt 2 rfl) 1 _ rfl)) (by decide) ?_
                              refine ql_pv (v := .int .i64 x297) (pv_move he302) (by decide) ?_
                              replace hF := ob hF
                              obtain ⟨x312, hx312, hF⟩ := hF
                              refine ql_index (wA := w0) rfl ha1 rfl (by decide) rfl hx312 (by decide) ?_
                              intro b313 of314 c315 hr316 hm317
                              obtain ⟨_, _, rfl, hr318, hr319⟩ := hr316
                              obtain ⟨v320, rfl⟩ := slice_one hr318
                              obtain ⟨v321, rfl⟩ := slice_one hr319
                              refine ql_pv (v := .pointer (some ⟨b313, of314 + 0, none⟩)) (pv_fieldAddr rfl) (by decide) ?_
                              refine ql_pv (v := v320) (pv_loadc rfl ((cells_up hS.below hm317) 0 _ rfl)) (by decide) ?_
                              refine ql_pv (v := .pointer (some ⟨b180, 0 + 0, none⟩)) (pv_fieldAddr he301) (by decide) ?_
                              refine ql_pv (v := v177) (pv_loadc rfl ((hS.boxAt 1 rfl) 0 _ rfl)) (by decide) ?_
                              replace hF := ob hF
                              obtain ⟨r322, hr322, hF⟩ := hF
                              refine ql_call (.int .i64 r322) goes50 (fun w' hw' => spec_CompareRows_ok (rd_up (hS.up hr318) hw') (rd_up (hS.up hr175) hw') hr322) (congrArg List.toArray (mapc rfl (mapc rfl rfl))) (by decide) ?_
                              refine ql_pv (v := .bool (r322 == 0)) (pv_eql rfl rfl) (by decide) ?_
                              refine ql_pv (v := .bool (r322 == 0)) (pv_move rfl) (by decide) ?_
                              replace hF := oif hF
                              rcases hF with ⟨hb323, hF⟩ | ⟨hb323, hF⟩
                              · refine ql_on rfl hb323 ?_
                                refine ql_pv (v := .pointer (some ⟨b103, 0 + 1, none⟩)) (pv_fieldAddr he298) (by decide) ?_
                                refine ql_on rfl hb323 ?_
                                refine ql_pv (v := u1) (pv_loadc rfl ((hS.boxAt 2 rfl) 1 _ rfl)) (by decide) ?_
                                refine ql_on rfl hb323 ?_
                                refine ql_pv (v := .int .i64 x297) (pv_move he302) (by decide) ?_
                                refine ql_on rfl hb323 ?_
                                replace hF := ob hF
                                obtain ⟨x324, hx324, hF⟩ := hF
                                refine ql_index (wA := w0) rfl ha1 rfl (by decide) rfl hx324 (by decide) ?_
                                intro b325 of326 c327 hr328 hm329
                                obtain ⟨_, _, rfl, hr330, hr331⟩ := hr328
                                obtain ⟨v332, rfl⟩ := slice_one hr330
                                obtain ⟨v333, rfl⟩ := slice_one hr331
                                refine ql_on rfl hb323 ?_
                                refine ql_pv (v := .pointer (some ⟨b325, of326 + 1, none⟩)) (pv_fieldAddr rfl) (by decide) ?_
                                refine ql_on rfl hb323 ?_
                                refine ql_pv (v := v333) (pv_loadc rfl ((cells_up hS.below hm329) 1 _ rfl)) (by decide) ?_
                                refine ql_on rfl hb323 ?_
                                refine ql_pv (v := .pointer (some ⟨b180, 0 + 1, none⟩)) (pv_fieldAddr he301) (by decide) ?_
                                refine ql_on rfl hb323 ?_
                                refine ql_pv (v := v178) (pv_loadc rfl ((hS.boxAt 1 rfl) 1 _ rfl)) (by decide) ?_
                                refine ql_on rfl hb323 ?_
                                replace hF := ob hF
                                obtain ⟨r334, hr334, hF⟩ := hF
                                refine ql_call (.int .i64 r334) goes50 (fun w' hw' => spec_CompareRows_ok (rd_up (hS.up hr331) hw') (rd_up (hS.up hr176) hw') hr334) (congrArg List.toArray (mapc rfl (mapc rfl rfl))) (by decide) ?_
                                refine ql_on rfl hb323 ?_
                                refine ql_pv (v := .bool (r334 == 0)) (pv_eql rfl rfl) (by decide) ?_
                                refine ql_pv (v := .bool (r334 == 0)) (pv_pick_t rfl hb323 rfl) (by decide) ?_
                                refine ql_nil ?_
                                intro w335 hx336
                                replace hS := hS.ext hx336
                                refine hQ311 _ _ _ ?_
                                refine thn_n ?_
                                replace hF := oif hF
                                rcases hF with ⟨hb337, hF⟩ | ⟨hb337, hF⟩
                                · refine cw_cond_t rfl hb337 ?_
                                  refine cw_seq ?_
                                  refine cw_gen ?_
                                  intro Q338 hQ338
                                  refine cw_reg ?_
                                  refine el_pv (v := .bool false) (pv_assign rfl) (by decide) ?_
                                  refine el_nil ?_
                                  refine hQ338 _ _ _ ?_
                                  refine thn_n ?_
                                  refine cw_ret ?_
                                  refine hQ310 _ _ _ ?_
                                  refine inb_r ?_
                                  refine hQ309 _ _ _ ?_
                                  refine thn_r ?_
                                  refine hQ305 _ _ _ ?_
                                  refine thn_r ?_
                                  refine hQ294 _ _ _ ?_
                                  refine inb_r ?_
                                  refine hQ167 _ _ _ ?_
                                  refine inb_r ?_
                                  refine hQ166 _ _ _ ?_
                                  refine thn_r ?_
                                  refine hQ162 _ _ _ ?_
                                  refine thn_r ?_
                                  refine hQ151 _ _ _ ?_
                                  refine inb_r ?_
                                  refine hQ149 _ _ _ ?_
                                  refine thn_r ?_
                                  replace hF := exL hF hK296
                                  replace hF := exL hF hK153
                                  refine fin1 rfl rfl ?_
                                  have hr := Option.some.inj hF
                                  exact ⟨congrArg (fun (r : Bool) => Ending.returned (.bool r)) hr, hS.below⟩
                                · refine cw_cond_f rfl hb337 ?_
                                  refine cw_skip ?_
                                  refine hQ310 _ _ _ ?_
                                  refine inb_n ?_
                                  refine hQ309 _ _ _ ?_
                                  refine thn_n ?_
                                  refine cw_reg ?_
                                  refine el_pv (v := .int .i64 x297) (pv_move he302) (by decide) ?_
                                  replace hF := ob hF
                                  obtain ⟨x339, hx339, hF⟩ := hF
                                  refine el_pv (v := .int .i64 x339) (pv_add rfl rfl hx339) (by decide) ?_
                                  refine el_pv (v := .int .i64 x339) (pv_assign rfl) (by decide) ?_
                                  refine el_nil ?_
                                  refine hQ305 _ _ _ ?_
                                  refine thn_n ?_
                                  replace hS : Sat w0 w335 [Box b103 30 [u0, u1], Own (sliceR intR 3) [v289] x290, Box b180 57 [v177, v178]] := hS.top 2 rfl
                                  replace hS : Sat w0 w335 [Box b180 57 [v177, v178], Box b103 30 [u0, u1], Own (sliceR intR 3) [v289] x290] := hS.top 2 rfl
                                  replace hS : Sat w0 w335 [Own (sliceR intR 3) [v289] x290, Box b180 57 [v177, v178], Box b103 30 [u0, u1]] := hS.top 2 rfl
                                  replace hS := hS.keep 3
                                  exact ⟨x339, he298, he299, he300, he301, rfl, hS, hF⟩
                              · refine ql_off rfl hb323 rfl (by decide) ?_
                                refine ql_off rfl hb323 rfl (by decide) ?_
                                refine ql_off rfl hb323 rfl (by decide) ?_
                                refine ql_off rfl hb323 rfl (by decide) ?_
                                refine ql_off rfl hb323 rfl (by decide) ?_
                                refine ql_off rfl hb323 rfl (by decide) ?_
                                refine ql_off rfl hb323 rfl (by decide) ?_
                                refine ql_off rfl hb323 rfl (by decide) ?_
                                refine ql_off rfl hb323 rfl (by decide) ?_
                                refine ql_off rfl hb323 rfl (by decide) ?_
                                refine ql_pv (v := .bool false) (pv_pick_f rfl hb323 rfl) (by decide) ?_
                                refine ql_nil ?_
                                intro w340 hx341
                                replace hS := hS.ext hx341
                                refine hQ311 _ _ _ ?_
                                refine thn_n ?_
                                refine cw_cond_f rfl rfl ?_
                                refine cw_skip ?_
                                refine hQ310 _ _ _ ?_
                                refine inb_n ?_
                                refine hQ309 _ _ _ ?_
                                refine thn_n ?_
                                refine cw_reg ?_
                                refine el_pv (v := .int .i64 x297) (pv_move he302) (by decide) ?_
                                replace hF := ob hF
                                obtain ⟨x342, hx342, hF⟩ := hF
                                refine el_pv (v := .int .i64 x342) (pv_add rfl rfl hx342) (by decide) ?_
                                refine el_pv (v := .int .i64 x342) (pv_assign rfl) (by decide) ?_
                                refine el_nil ?_
                                refine hQ305 _ _ _ ?_
                                refine thn_n ?_
                                replace hS : Sat w0 w340 [Box b103 30 [u0, u1], Own (sliceR intR 3) [v289] x290, Box b180 57 [v177, v178]] := hS.top 2 rfl
                                replace hS : Sat w0 w340 [Box b180 57 [v177, v178], Box b103 30 [u0, u1], Own (sliceR intR 3) [v289] x290] := hS.top 2 rfl
                                replace hS : Sat w0 w340 [Own (sliceR intR 3) [v289] x290, Box b180 57 [v177, v178], Box b103 30 [u0, u1]] := hS.top 2 rfl
                                replace hS := hS.keep 3
                                exact ⟨x342, he298, he299, he300, he301, rfl, hS, hF⟩
                            · refine cw_cond_f rfl hb308 ?_
                              refine cw_exit ?_
                              refine hQ306 _ _ _ ?_
                              refine thn_x ?_
                              refine hQ305 _ _ _ ?_
                              refine thn_x ?_
                              replace hF := exA hF hK296
                              refine hQ294 _ _ _ ?_
                              refine inb_s ?_
                              refine hQ167 _ _ _ ?_
                              refine inb_n ?_
                              refine hQ166 _ _ _ ?_
                              refine thn_n ?_
                              refine cw_reg ?_
                              refine el_pv (v := .int .i64 x156) (pv_move he300) (by decide) ?_
                              replace hF := ob hF
                              obtain ⟨x343, hx343, hF⟩ := hF
                              refine el_pv (v := .int .i64 x343) (pv_add rfl rfl hx343) (by decide) ?_
                              refine el_pv (v := .int .i64 x343) (pv_assign rfl) (by decide) ?_
                              refine el_nil ?_
                              refine hQ162 _ _ _ ?_
                              refine thn_n ?_
                              replace hS : Sat w0 w303 [Box b103 30 [u0, u1], Own (sliceR intR 3) [v289] x290, Box b180 57 [v177, v178]] := hS.top 2 rfl
                              replace hS : Sat w0 w303 [Own (sliceR intR 3) [v289] x290, Box b103 30 [u0, u1], Box b180 57 [v177, v178]] := hS.top 1 rfl
                              replace hS := hS.keep 2
                              exact ⟨v289, x290, x343, he298, he299, rfl, hS, hF⟩
                  · refine cw_cond_t rfl (bnot_f hb195) ?_
                    refine cw_seq ?_
                    refine cw_gen ?_
                    intro Q344 hQ344
                    refine cw_reg ?_
                    refine el_pv (v := .bool false) (pv_assign rfl) (by decide) ?_
                    refine el_nil ?_
                    refine hQ344 _ _ _ ?_
                    refine thn_n ?_
                    refine cw_ret ?_
                    refine hQ184 _ _ _ ?_
                    refine thn_r ?_
                    refine hQ167 _ _ _ ?_
                    refine inb_r ?_
                    refine hQ166 _ _ _ ?_
                    refine thn_r ?_
                    refine hQ162 _ _ _ ?_
                    refine thn_r ?_
                    refine hQ151 _ _ _ ?_
                    refine inb_r ?_
                    refine hQ149 _ _ _ ?_
                    refine thn_r ?_
                    replace hF := exL hF hK153
                    refine fin1 rfl rfl ?_
                    have hr := Option.some.inj hF
                    exact ⟨congrArg (fun (r : Bool) => Ending.returned (.bool r)) hr, hS.below⟩
                · refine el_off rfl (bnot_f hb191) rfl (by decide) ?_
                  refine el_off rfl (bnot_f hb191) rfl (by decide) ?_
                  refine el_off rfl (bnot_f hb191) rfl (by decide) ?_
                  refine el_off rfl (bnot_f hb191) rfl (by decide) ?_
                  refine el_pv (v := .bool true) (pv_pick_t rfl (bnot_f hb191) rfl) (by decide) ?_
                  refine el_nil ?_
                  refine hQ185 _ _ _ ?_
                  refine thn_n ?_
                  refine cw_cond_t rfl rfl ?_
                  refine cw_seq ?_
                  refine cw_gen ?_
                  intro Q345 hQ345
                  refine cw_reg ?_
                  refine el_pv (v := .bool false) (pv_assign rfl) (by decide) ?_
                  refine el_nil ?_
                  refine hQ345 _ _ _ ?_
                  refine thn_n ?_
                  refine cw_ret ?_
                  refine hQ184 _ _ _ ?_
                  refine thn_r ?_
                  refine hQ167 _ _ _ ?_
                  refine inb_r ?_
                  refine hQ166 _ _ _ ?_
                  refine thn_r ?_
                  refine hQ162 _ _ _ ?_
                  refine thn_r ?_
                  refine hQ151 _ _ _ ?_
                  refine inb_r ?_
                  refine hQ149 _ _ _ ?_
                  refine thn_r ?_
                  replace hF := exL hF hK153
                  refine fin1 rfl rfl ?_
                  have hr := Option.some.inj hF
                  exact ⟨congrArg (fun (r : Bool) => Ending.returned (.bool r)) hr, hS.below⟩
            · refine cw_cond_f rfl hb165 ?_
              refine cw_exit ?_
              refine hQ163 _ _ _ ?_
              refine thn_x ?_
              refine hQ162 _ _ _ ?_
              refine thn_x ?_
              replace hF := exA hF hK153
              refine hQ151 _ _ _ ?_
              refine inb_s ?_
              refine hQ149 _ _ _ ?_
              refine thn_n ?_
              refine cw_seq ?_
              refine cw_gen ?_
              intro Q346 hQ346
              refine cw_regq (by kernel_rfl) (by kernel_rfl) ?_
              refine ql_pv (v := v155) (pv_move he158) (by decide) ?_
              refine ql_pv (v := v155) (pv_move he158) (by decide) ?_
              refine ql_pv (v := .int .i64 (x154.length : Int)) (pv_len rfl (hS.rdAt (R := (sliceR intR 3)) 0 rfl)) (by decide) ?_
              replace hF := ob hF
              obtain ⟨x347, hx347, hF⟩ := hF
              refine ql_pv (v := .int .i64 x347) (pv_sub rfl rfl hx347) (by decide) ?_
              replace hF := ob hF
              obtain ⟨x348, hx348, hF⟩ := hF
              obtain ⟨g349, cap350, hv351⟩ := ownShape 0 hS rfl hx348
              refine ql_pv (v := .pointer (some ⟨g349, x347.toNat * 1, none⟩)) (pv_indexF (v := v155) rfl hv351 rfl hx348) (by decide) ?_
              refine ql_pv (v := .int .i64 x348) (pv_loadc rfl (hS.ownCell 0 rfl hv351 hx348)) (by decide) ?_
              refine ql_pv (v := .pointer (some ⟨b103, 0 + 0, none⟩)) (pv_fieldAddr he157) (by decide) ?_
              refine ql_pv (v := u0) (pv_loadc rfl ((hS.boxAt 1 rfl) 0 _ rfl)) (by decide) ?_
              refine ql_pv (v := .int .i64 (a0.length : Int)) (pv_len rfl ha0) (by decide) ?_
              refine ql_pv (v := .bool (x348 == (a0.length : Int))) (pv_eql rfl rfl) (by decide) ?_
              refine ql_pv (v := .bool (x348 == (a0.length : Int))) (pv_assign rfl) (by decide) ?_
              refine ql_nil ?_
              intro w352 hx353
              replace hS := hS.ext hx353
              refine hQ346 _ _ _ ?_
              refine thn_n ?_
              refine cw_ret ?_
              refine fin1 rfl rfl ?_
              have hr := Option.some.inj hF
              exact ⟨congrArg (fun (r : Bool) => Ending.returned (.bool r)) hr, hS.below⟩
  · refine ql_off rfl (bnot_f hb109) rfl (by decide) ?_
    refine ql_off rfl (bnot_f hb109) rfl (by decide) ?_
    refine ql_off rfl (bnot_f hb109) rfl (by decide) ?_
    refine ql_off rfl (bnot_f hb109) rfl (by decide) ?_
    refine ql_pv (v := .bool true) (pv_pick_t rfl (bnot_f hb109) rfl) (by decide) ?_
    refine ql_pv (v := .bool true) (pv_move rfl) (by decide) ?_
    refine ql_off rfl rfl rfl (by decide) ?_
    refine ql_off rfl rfl rfl (by decide) ?_
    refine ql_off rfl rfl rfl (by decide) ?_
    refine ql_off rfl rfl rfl (by decide) ?_
    refine ql_pv (v := .bool true) (pv_pick_t rfl rfl rfl) (by decide) ?_
    refine ql_pv (v := .bool true) (pv_move rfl) (by decide) ?_
    refine ql_off rfl rfl rfl (by decide) ?_
    refine ql_off rfl rfl rfl (by decide) ?_
    refine ql_off rfl rfl rfl (by decide) ?_
    refine ql_off rfl rfl rfl (by decide) ?_
    refine ql_off rfl rfl rfl (by decide) ?_
    refine ql_off rfl rfl rfl (by decide) ?_
    refine ql_off rfl rfl rfl (by decide) ?_
    refine ql_off rfl rfl rfl (by decide) ?_
    refine ql_off rfl rfl rfl (by decide) ?_
    refine ql_off rfl rfl rfl (by decide) ?_
    refine ql_off rfl rfl rfl (by decide) ?_
    refine ql_off rfl rfl rfl (by decide) ?_
    refine ql_off rfl rfl rfl (by decide) ?_
    refine ql_off rfl rfl rfl (by decide) ?_
    refine ql_pv (v := .bool true) (pv_pick_t rfl rfl rfl) (by decide) ?_
    refine ql_nil ?_
    intro w354 hx355
    replace hS := hS.ext hx355
    refine hQ107 _ _ _ ?_
    refine thn_n ?_
    refine cw_cond_t rfl rfl ?_
    refine cw_seq ?_
    refine cw_gen ?_
    intro Q356 hQ356
    refine cw_reg ?_
    refine el_pv (v := .bool false) (pv_assign rfl) (by decide) ?_
    refine el_nil ?_
    refine hQ356 _ _ _ ?_
    refine thn_n ?_
    refine cw_ret ?_
    refine hQ106 _ _ _ ?_
    refine thn_r ?_
    refine fin1 rfl rfl ?_
    have hr := Option.some.inj hF
    exact ⟨congrArg (fun (r : Bool) => Ending.returned (.bool r)) hr, hS.below⟩
set_option maxHeartbeats 4000000 in
theorem spec_l23Counts_ok {w0 : World} {u0 : Value} {a0 : List Int} {u1 : Value} {a1 : List (List Int × List Int)} (_ : (sliceR intR 3).rd w0 [u0] a0) (ha1 : (sliceR (pairR (sliceR intR 3) (sliceR intR 3)) 57).rd w0 [u1] a1) {N : Nat} {r : (List Int)} (hF : spec_l23Counts N a0 a1 = some r) :
    Calls Try.prog 35 #[.agg #[u0, u1]] w0 fun e w' => ∃ (q0 : Value), e = .returned (q0) ∧ Sat w0 w' [Own (sliceR intR 3) [q0] r] := by
  unfold spec_l23Counts at hF
  refine calls_E Try.func35 rfl rfl (of_decide_eq_true rfl) ?_
  have hS := Sat.start w0
  refine cw_seq ?_
  refine cw_gen ?_
  intro Q101 hQ101
  refine cw_reg ?_
  refine el_box [u0, u1] rfl hS (by decide) ?_
  intro w102 b103 hS hx104
  refine el_pv (v := (.slice none 0 0)) (pv_assign rfl) (by decide) ?_
  refine el_nil ?_
  refine hQ101 _ _ _ ?_
  refine thn_n ?_
  refine cw_seq ?_
  refine cw_gen ?_
  intro Q106 hQ106
  refine cw_reg ?_
  refine el_buildSlice1 [.int .i64 1] rfl (by rfl) (by decide) rfl (by decide) hS (by decide) ?_
  intro w107 b109 hS hx108
  replace hS := hS.int 1
  replace hS : Sat w0 w107 [Box b109 3 [.int .i64 1], _, Box b103 30 [u0, u1]] := hS.top 1 rfl
  replace hS := hS.lit1
  refine el_pv (v := (.slice (some ⟨b109, 0, none⟩) 1 1)) (pv_assign rfl) (by decide) ?_
  refine el_nil ?_
  refine hQ106 _ _ _ ?_
  refine thn_n ?_
  refine cw_seq ?_
  refine cw_gen ?_
  intro Q112 hQ112
  refine cw_seq ?_
  refine cw_gen ?_
  intro Q113 hQ113
  refine cw_reg ?_
  refine el_pv (v := .int .i64 1) (pv_assign rfl) (by decide) ?_
  refine el_nil ?_
  refine hQ113 _ _ _ ?_
  refine thn_n ?_
  refine cw_block ?_
  refine cw_gen ?_
  intro Q114 hQ114
  obtain ⟨s115, hL, hK116⟩ := ob hF
  refine cw_loopS (fun k e w => ∃ (v118 : Value), ∃ (x117 : List Int), ∃ (x119 : Int), e 1 = .pointer (some ⟨b103, 0, none⟩) ∧ e 3 = v118 ∧ e 4 = .int .i64 x119 ∧ Sat w0 w [Own (sliceR intR 3) [v118] x117, Box b103 30 [u0, u1]] ∧ spec_l23Counts_L1 N k a0 a1 x117 x119 = some s115) N ?_ ?_ ?_
  · exact ⟨(.slice (some ⟨b109, 0, none⟩) 1 1), [1], 1, rfl, rfl, rfl, hS, hL⟩
  · rintro e w ⟨_, _, _, _, _, _, _, hz⟩; exact nomatch (show none = some _ from hz)
  · rintro k e124 w123 ⟨v118, x117, x119, he120, he121, he122, hS, hF⟩
    refine cw_gen ?_
    intro Q125 hQ125
    refine cw_seq ?_
    refine cw_gen ?_
    intro Q126 hQ126
    refine cw_seq ?_
    refine cw_gen ?_
    intro Q127 hQ127
    refine cw_reg ?_
    refine el_pv (v := .int .i64 x119) (pv_move he122) (by decide) ?_
    refine el_pv (v := .pointer (some ⟨b103, 0 + 1, none⟩)) (pv_fieldAddr he120) (by decide) ?_
    refine el_pv (v := u1) (pv_loadc rfl ((hS.boxAt 1 rfl) 1 _ rfl)) (by decide) ?_
    refine el_pv (v := .int .i64 (a1.length : Int)) (pv_len rfl ha1) (by decide) ?_
    refine el_pv (v := .bool (decide (x119 < (a1.length : Int)))) (pv_lss rfl rfl) (by decide) ?_
    refine el_nil ?_
    refine hQ127 _ _ _ ?_
    refine thn_n ?_
    replace hF := oif hF
    rcases hF with ⟨hb128, hF⟩ | ⟨hb128, hF⟩
    · refine cw_cond_t rfl hb128 ?_
      refine cw_skip ?_
      refine hQ126 _ _ _ ?_
      refine thn_n ?_
      refine cw_seq ?_
      refine cw_gen ?_
      intro Q129 hQ129
      refine cw_block ?_
      refine cw_gen ?_
      intro Q130 hQ130
      refine cw_seq ?_
      refine cw_gen ?_
      intro Q131 hQ131
      refine cw_reg ?_
      refine el_pv (v := .int .i64 0) (pv_assign rfl) (by decide) ?_
      refine el_nil ?_
      refine hQ131 _ _ _ ?_
      refine thn_n ?_
      refine cw_seq ?_
      refine cw_gen ?_
      intro Q132 hQ132
      refine cw_seq ?_
      refine cw_gen ?_
      intro Q133 hQ133
      refine cw_reg ?_
      refine el_pv (v := .int .i64 0) (pv_assign rfl) (by decide) ?_
      refine el_nil ?_
      refine hQ133 _ _ _ ?_
      refine thn_n ?_
      refine cw_block ?_
      refine cw_gen ?_
      intro Q134 hQ134
      obtain ⟨s135, hL, hK136⟩ := ob hF
      refine cw_loopS (fun k e w => ∃ (x137 : Int), ∃ (x138 : Int), e 1 = .pointer (some ⟨b103, 0, none⟩) ∧ e 3 = v118 ∧ e 4 = .int .i64 x119 ∧ e 5 = .int .i64 x137 ∧ e 6 = .int .i64 x138 ∧ Sat w0 w [Own (sliceR intR 3) [v118] x117, Box b103 30 [u0, u1]] ∧ spec_l23Counts_L2 N k a0 a1 x117 x119 x137 x138 = some s135) N ?_ ?_ ?_
      · exact ⟨0, 0, he120, he121, he122, rfl, rfl, hS, hL⟩
      · rintro e w ⟨_, _, _, _, _, _, _, _, hz⟩; exact nomatch (show none = some _ from hz)
      · rintro k e145 w144 ⟨x137, x138, he139, he140, he141, he142, he143, hS, hF⟩
        refine cw_gen ?_
        intro Q146 hQ146
        refine cw_seq ?_
        refine cw_gen ?_
        intro Q147 hQ147
        refine cw_seq ?_
        refine cw_gen ?_
        intro Q148 hQ148
        refine cw_reg ?_
        refine el_pv (v := .int .i64 x138) (pv_move he143) (by decide) ?_
        refine el_pv (v := .pointer (some ⟨b103, 0 + 1, none⟩)) (pv_fieldAddr he139) (by decide) ?_
        refine el_pv (v := u1) (pv_loadc rfl ((hS.boxAt 1 rfl) 1 _ rfl)) (by decide) ?_
        refine el_pv (v := .int .i64 x119) (pv_move he141) (by decide) ?_
        replace hF := ob hF
        obtain ⟨x149, hx149, hF⟩ := hF
        refine el_index (wA := w0) rfl ha1 rfl (by decide) rfl hx149 (by decide) ?_
        intro b150 of151 c152 hr153 hm154
        obtain ⟨_, _, rfl, hr155, hr156⟩ := hr153
        obtain ⟨v157, rfl⟩ := slice_one hr155
        obtain ⟨v158, rfl⟩ := slice_one hr156
        refine el_pv (v := .pointer (some ⟨b150, of151 + 1, none⟩)) (pv_fieldAddr rfl) (by decide) ?_
        refine el_pv (v := v158) (pv_loadc rfl ((cells_up hS.below hm154) 1 _ rfl)) (by decide) ?_
        refine el_pv (v := .int .i64 (x149.2.length : Int)) (pv_len rfl hr156) (by decide) ?_
        refine el_pv (v := .bool (decide (x138 < (x149.2.length : Int)))) (pv_lss rfl rfl) (by decide) ?_
        refine el_nil ?_
        refine hQ148 _ _ _ ?_
        refine thn_n ?_
        replace hF := oif hF
        rcases hF with ⟨hb159, hF⟩ | ⟨hb159, hF⟩
        · refine cw_cond_t rfl hb159 ?_
          refine cw_skip ?_
          refine hQ147 _ _ _ ?_
          refine thn_n ?_
          refine cw_seq ?_
          refine cw_gen ?_
          intro Q160 hQ160
          refine cw_block ?_
          refine cw_gen ?_
          intro Q161 hQ161
          refine cw_reg ?_
          refine el_pv (v := .int .i64 x137) (pv_move he142) (by decide) ?_
          refine el_pv (v := v118) (pv_move he140) (by decide) ?_
          refine el_pv (v := .pointer (some ⟨b103, 0 + 1, none⟩)) (pv_fieldAddr he139) (by decide) ?_
          refine el_pv (v := u1) (pv_loadc rfl ((hS.boxAt 1 rfl) 1 _ rfl)) (by decide) ?_
          refine el_pv (v := .int .i64 x119) (pv_move he141) (by decide) ?_
          replace hF := ob hF
          obtain ⟨x162, hx162, hF⟩ := hF
          refine el_index (wA := w0) rfl ha1 rfl (by decide) rfl hx162 (by decide) ?_
          intro b163 of164 c165 hr166 hm167
          obtain ⟨_, _, rfl, hr168, hr169⟩ := hr166
          obtain ⟨v170, rfl⟩ := slice_one hr168
          obtain ⟨v171, rfl⟩ := slice_one hr169
          refine el_pv (v := .pointer (some ⟨b163, of164 + 1, none⟩)) (pv_fieldAddr rfl) (by decide) ?_
          refine el_pv (v := v171) (pv_loadc rfl ((cells_up hS.below hm167) 1 _ rfl)) (by decide) ?_
          refine el_pv (v := .int .i64 x138) (pv_move he143) (by decide) ?_
          replace hF := ob hF
          obtain ⟨x172, hx172, hF⟩ := hF
          refine el_index (wA := w0) rfl hr169 rfl (by decide) rfl hx172 (by decide) ?_
          intro b173 of174 c175 hr176 hm177
          obtain rfl := hr176
          refine el_pv (v := .int .i64 x172) (pv_loadc rfl ((cells_up hS.below hm177) 0 _ rfl)) (by decide) ?_
          replace hF := ob hF
          obtain ⟨x178, hx178, hF⟩ := hF
          obtain ⟨g179, cap180, hv181⟩ := ownShape 0 hS rfl hx178
          refine el_pv (v := .pointer (some ⟨g179, x172.toNat * 1, none⟩)) (pv_indexF (v := v118) rfl hv181 rfl hx178) (by decide) ?_
          refine el_pv (v := .int .i64 x178) (pv_loadc rfl (hS.ownCell 0 rfl hv181 hx178)) (by decide) ?_
          replace hF := ob hF
          obtain ⟨x182, hx182, hF⟩ := hF
          refine el_pv (v := .int .i64 x182) (pv_add rfl rfl hx182) (by decide) ?_
          refine el_pv (v := .int .i64 (imn 1000000000 x182)) (pv_min rfl rfl) (by decide) ?_
          refine el_pv (v := .int .i64 (imn 1000000000 x182)) (pv_assign rfl) (by decide) ?_
          refine el_nil ?_
          refine hQ161 _ _ _ ?_
          refine inb_n ?_
          refine hQ160 _ _ _ ?_
          refine thn_n ?_
          refine cw_reg ?_
          refine el_pv (v := .int .i64 x138) (pv_move he143) (by decide) ?_
          replace hF := ob hF
          obtain ⟨x183, hx183, hF⟩ := hF
          refine el_pv (v := .int .i64 x183) (pv_add rfl rfl hx183) (by decide) ?_
          refine el_pv (v := .int .i64 x183) (pv_assign rfl) (by decide) ?_
          refine el_nil ?_
          refine hQ146 _ _ _ ?_
          refine thn_n ?_
          replace hS : Sat w0 w144 [Box b103 30 [u0, u1], Own (sliceR intR 3) [v118] x117] := hS.top 1 rfl
          replace hS : Sat w0 w144 [Own (sliceR intR 3) [v118] x117, Box b103 30 [u0, u1]] := hS.top 1 rfl
          replace hS := hS.keep 2
          exact ⟨(imn 1000000000 x182), x183, he139, he140, he141, rfl, rfl, hS, hF⟩
        · refine cw_cond_f rfl hb159 ?_
          refine cw_exit ?_
          refine hQ147 _ _ _ ?_
          refine thn_x ?_
          refine hQ146 _ _ _ ?_
          refine thn_x ?_
          replace hF := exB hF hK136
          refine hQ134 _ _ _ ?_
          refine inb_s ?_
          refine hQ132 _ _ _ ?_
          refine thn_n ?_
          refine cw_reg ?_
          refine el_pv (v := v118) (pv_move he140) (by decide) ?_
          refine el_pv (v := .int .i64 x137) (pv_move he142) (by decide) ?_
          refine el_buildSlice1 [.int .i64 x137] rfl (by rfl) (by decide) rfl (by decide) hS (by decide) ?_
          intro w184 b186 hS hx185
          replace hF := ob hF
          obtain ⟨x190, hx190, hF⟩ := hF
          have hrow191 := hS.boxRow 0 rfl
          replace hS : Sat w0 w184 [Own (sliceR intR 3) [v118] x117, Box b186 3 [.int .i64 x137], Box b103 30 [u0, u1]] := hS.top 1 rfl
          replace hS := hS.int x137
          replace hS := hS.one
          refine el_append rfl (by decide) rfl (by decide) hS rfl rfl rfl (by simp) hrow191 hx190 (by decide) ?_
          intro w188 v189 hS
          refine el_pv (v := v189) (pv_assign rfl) (by decide) ?_
          refine el_nil ?_
          refine hQ130 _ _ _ ?_
          refine inb_n ?_
          refine hQ129 _ _ _ ?_
          refine thn_n ?_
          refine cw_reg ?_
          refine el_pv (v := .int .i64 x119) (pv_move he141) (by decide) ?_
          replace hF := ob hF
          obtain ⟨x193, hx193, hF⟩ := hF
          refine el_pv (v := .int .i64 x193) (pv_add rfl rfl hx193) (by decide) ?_
          refine el_pv (v := .int .i64 x193) (pv_assign rfl) (by decide) ?_
          refine el_nil ?_
          refine hQ125 _ _ _ ?_
          refine thn_n ?_
          replace hS : Sat w0 w188 [Box b103 30 [u0, u1], Own (sliceR intR 3) [v189] x190, Box b186 3 [.int .i64 x137]] := hS.top 2 rfl
          replace hS : Sat w0 w188 [Own (sliceR intR 3) [v189] x190, Box b103 30 [u0, u1], Box b186 3 [.int .i64 x137]] := hS.top 1 rfl
          replace hS := hS.keep 2
          exact ⟨v189, x190, x193, he139, rfl, rfl, hS, hF⟩
    · refine cw_cond_f rfl hb128 ?_
      refine cw_exit ?_
      refine hQ126 _ _ _ ?_
      refine thn_x ?_
      refine hQ125 _ _ _ ?_
      refine thn_x ?_
      replace hF := exB hF hK116
      refine hQ114 _ _ _ ?_
      refine inb_s ?_
      refine hQ112 _ _ _ ?_
      refine thn_n ?_
      refine cw_seq ?_
      refine cw_gen ?_
      intro Q194 hQ194
      refine cw_reg ?_
      refine el_pv (v := v118) (pv_move he121) (by decide) ?_
      refine el_pv (v := v118) (pv_assign rfl) (by decide) ?_
      refine el_nil ?_
      refine hQ194 _ _ _ ?_
      refine thn_n ?_
      refine cw_ret ?_
      refine fin1 rfl rfl ?_
      have hr := Option.some.inj hF
      exact ⟨v118, congrArg (fun (r : (List Int)) => Ending.returned (v118)) hr, Eq.mp (congrArg (fun (r : (List Int)) => Sat w0 w123 [Own (sliceR intR 3) [v118] r]) hr) (hS.keep 1)⟩
end Go.Proofs.Ytbjfbfjacchjiaa
