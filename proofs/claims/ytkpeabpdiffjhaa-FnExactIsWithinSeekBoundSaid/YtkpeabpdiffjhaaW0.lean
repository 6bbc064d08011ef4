/- The walks through functions of the program: each hands back what it comes to. No condition but that it comes to something. -/
import Derived.Test.YtkpeabpdiffjhaaGoes
import Derived.Test.YtkpeabpdiffjhaaN
import Derived.Test.YtkpeabpdiffjhaaW0D
namespace Go.Proofs.Ytkpeabpdiffjhaa
open Go.RowKit
set_option maxRecDepth 100000
set_option maxHeartbeats 4000000 in
theorem laws_szIntS_ok {w0 : World} {u0 : Value} {a0 : List Int} {a1 : Int} (ha0 : (sliceR intR 3).rd w0 [u0] a0) {N : Nat} {r : Int} (hF : laws_szIntS N a0 a1 = some r) :
    Calls Try.prog 36 #[u0, .int .i64 a1] w0 fun e w' => e = .returned (.int .i64 r) ∧ Ext w0 w' := by
  unfold laws_szIntS at hF
  refine calls_E Try.func36 rfl rfl (of_decide_eq_true rfl) ?_
  have hS := Sat.start w0
  refine cw_seq ?_
  refine cw_gen ?_
  intro Q101 hQ101
  refine cw_reg ?_
  refine el_pv (v := .int .i64 0) (pv_assign rfl) (by decide) ?_
  refine el_nil ?_
  refine hQ101 _ _ _ ?_
  refine thn_n ?_
  refine cw_seq ?_
  refine cw_gen ?_
  intro Q102 hQ102
  refine cw_reg ?_
  refine el_pv (v := .int .i64 a1) (pv_move rfl) (by decide) ?_
  refine el_pv (v := u0) (pv_move rfl) (by decide) ?_
  refine el_pv (v := .int .i64 (a0.length : Int)) (pv_len rfl ha0) (by decide) ?_
  replace hF := ob hF
  obtain ⟨x103, hx103, hF⟩ := hF
  refine el_pv (v := .int .i64 x103) (pv_sub rfl rfl hx103) (by decide) ?_
  refine el_pv (v := .int .i64 x103) (pv_assign rfl) (by decide) ?_
  refine el_nil ?_
  refine hQ102 _ _ _ ?_
  refine thn_n ?_
  refine cw_seq ?_
  refine cw_gen ?_
  intro Q104 hQ104
  refine cw_seq ?_
  refine cw_gen ?_
  intro Q105 hQ105
  refine cw_reg ?_
  refine el_pv (v := .int .i64 x103) (pv_move rfl) (by decide) ?_
  refine el_pv (v := .bool (decide (x103 < 0))) (pv_lss rfl rfl) (by decide) ?_
  refine el_nil ?_
  refine hQ105 _ _ _ ?_
  refine thn_n ?_
  replace hF := oif hF
  rcases hF with ⟨hb106, hF⟩ | ⟨hb106, hF⟩
  · refine cw_cond_t rfl hb106 ?_
    refine cw_seq ?_
    refine cw_gen ?_
    intro Q107 hQ107
    refine cw_reg ?_
    refine el_pv (v := .int .i64 (-1)) (pv_assign rfl) (by decide) ?_
    refine el_nil ?_
    refine hQ107 _ _ _ ?_
    refine thn_n ?_
    refine cw_ret ?_
    refine hQ104 _ _ _ ?_
    refine thn_r ?_
    refine fin1 rfl rfl ?_
    have hr := Option.some.inj hF
    exact ⟨congrArg (fun (r : Int) => Ending.returned (.int .i64 r)) hr, hS.below⟩
  · refine cw_cond_f rfl hb106 ?_
    refine cw_skip ?_
    refine hQ104 _ _ _ ?_
    refine thn_n ?_
    refine cw_seq ?_
    refine cw_gen ?_
    intro Q108 hQ108
    refine cw_reg ?_
    refine el_pv (v := .int .i64 x103) (pv_move rfl) (by decide) ?_
    refine el_pv (v := .int .i64 x103) (pv_assign rfl) (by decide) ?_
    refine el_nil ?_
    refine hQ108 _ _ _ ?_
    refine thn_n ?_
    refine cw_ret ?_
    refine fin1 rfl rfl ?_
    have hr := Option.some.inj hF
    exact ⟨congrArg (fun (r : Int) => Ending.returned (.int .i64 r)) hr, hS.below⟩
set_option maxHeartbeats 4000000 in
theorem laws_szAtom_ok {w0 : World} {a0 : ByteArray} {u1 : Value} {a1 : List Int} {a2 : Int} (_ : a0.size ≤ 9223372036854775807) (ha1 : (sliceR intR 3).rd w0 [u1] a1) {N : Nat} {r : Int} (hF : laws_szAtom N a0 a1 a2 = some r) :
    Calls Try.prog 76 #[.agg #[.string a0, u1], .int .i64 a2] w0 fun e w' => e = .returned (.int .i64 r) ∧ Ext w0 w' := by
  unfold laws_szAtom at hF
  refine calls_E Try.func76 rfl rfl (of_decide_eq_true rfl) ?_
  have hS := Sat.start w0
  refine cw_seq ?_
  refine cw_gen ?_
  intro Q101 hQ101
  refine cw_reg ?_
  refine el_box [.string a0, u1] rfl hS (by decide) ?_
  intro w102 b103 hS hx104
  refine el_pv (v := .int .i64 0) (pv_assign rfl) (by decide) ?_
  refine el_nil ?_
  refine hQ101 _ _ _ ?_
  refine thn_n ?_
  refine cw_seq ?_
  refine cw_gen ?_
  intro Q106 hQ106
  refine cw_reg ?_
  refine el_pv (v := .int .i64 a2) (pv_move rfl) (by decide) ?_
  refine el_pv (v := .pointer (some ⟨b103, 0 + 0, none⟩)) (pv_fieldAddr rfl) (by decide) ?_
  refine el_pv (v := .string a0) (pv_loadc rfl ((hS.boxAt 0 rfl) 0 _ rfl)) (by decide) ?_
  refine el_pv (v := .int .i64 (a0.size : Int)) (pv_lenS Try.underlying9 rfl) (by decide) ?_
  replace hF := ob hF
  obtain ⟨x107, hx107, hF⟩ := hF
  refine el_pv (v := .int .i64 x107) (pv_sub rfl rfl hx107) (by decide) ?_
  refine el_pv (v := .int .i64 x107) (pv_assign rfl) (by decide) ?_
  refine el_nil ?_
  refine hQ106 _ _ _ ?_
  refine thn_n ?_
  refine cw_seq ?_
  refine cw_gen ?_
  intro Q108 hQ108
  refine cw_seq ?_
  refine cw_gen ?_
  intro Q109 hQ109
  refine cw_reg ?_
  refine el_pv (v := .int .i64 x107) (pv_move rfl) (by decide) ?_
  refine el_pv (v := .bool (decide (x107 < 0))) (pv_lss rfl rfl) (by decide) ?_
  refine el_nil ?_
  refine hQ109 _ _ _ ?_
  refine thn_n ?_
  replace hF := oif hF
  rcases hF with ⟨hb110, hF⟩ | ⟨hb110, hF⟩
  · refine cw_cond_t rfl hb110 ?_
    refine cw_seq ?_
    refine cw_gen ?_
    intro Q111 hQ111
    replace hS : Sat w0 w102 [] := hS.rems 1 [0] rfl
    refine cw_reg ?_
    refine el_pv (v := .int .i64 (-1)) (pv_assign rfl) (by decide) ?_
    refine el_nil ?_
    refine hQ111 _ _ _ ?_
    refine thn_n ?_
    refine cw_ret ?_
    refine hQ108 _ _ _ ?_
    refine thn_r ?_
    refine fin1 rfl rfl ?_
    have hr := Option.some.inj hF
    exact ⟨congrArg (fun (r : Int) => Ending.returned (.int .i64 r)) hr, hS.below⟩
  · refine cw_cond_f rfl hb110 ?_
    refine cw_skip ?_
    refine hQ108 _ _ _ ?_
    refine thn_n ?_
    refine cw_seq ?_
    refine cw_gen ?_
    intro Q112 hQ112
    refine cw_reg ?_
    refine el_pv (v := .pointer (some ⟨b103, 0 + 1, none⟩)) (pv_fieldAddr rfl) (by decide) ?_
    refine el_pv (v := u1) (pv_loadc rfl ((hS.boxAt 0 rfl) 1 _ rfl)) (by decide) ?_
    refine el_pv (v := .int .i64 x107) (pv_move rfl) (by decide) ?_
    replace hF := ob hF
    obtain ⟨r113, hr113, hF⟩ := hF
    refine el_call goes36 (laws_szIntS_ok (hS.up ha1) hr113) (congrArg List.toArray (mapc rfl (mapc rfl rfl))) (by decide) ?_
    rintro _ w114 ⟨rfl, hx115⟩
    refine ⟨_, rfl, ?_⟩
    replace hS := hS.ext hx115
    refine el_pv (v := .int .i64 r113) (pv_assign rfl) (by decide) ?_
    refine el_nil ?_
    refine hQ112 _ _ _ ?_
    refine thn_n ?_
    refine cw_seq ?_
    refine cw_gen ?_
    intro Q116 hQ116
    refine cw_seq ?_
    refine cw_gen ?_
    intro Q117 hQ117
    replace hS : Sat w0 w114 [] := hS.rems 1 [0] rfl
    refine cw_reg ?_
    refine el_pv (v := .int .i64 r113) (pv_move rfl) (by decide) ?_
    refine el_pv (v := .bool (decide (r113 < 0))) (pv_lss rfl rfl) (by decide) ?_
    refine el_nil ?_
    refine hQ117 _ _ _ ?_
    refine thn_n ?_
    replace hF := oif hF
    rcases hF with ⟨hb118, hF⟩ | ⟨hb118, hF⟩
    · refine cw_cond_t rfl hb118 ?_
      refine cw_seq ?_
      refine cw_gen ?_
      intro Q119 hQ119
      refine cw_reg ?_
      refine el_pv (v := .int .i64 (-1)) (pv_assign rfl) (by decide) ?_
      refine el_nil ?_
      refine hQ119 _ _ _ ?_
      refine thn_n ?_
      refine cw_ret ?_
      refine hQ116 _ _ _ ?_
      refine thn_r ?_
      refine fin1 rfl rfl ?_
      have hr := Option.some.inj hF
      exact ⟨congrArg (fun (r : Int) => Ending.returned (.int .i64 r)) hr, hS.below⟩
    · refine cw_cond_f rfl hb118 ?_
      refine cw_skip ?_
      refine hQ116 _ _ _ ?_
      refine thn_n ?_
      refine cw_seq ?_
      refine cw_gen ?_
      intro Q120 hQ120
      refine cw_reg ?_
      refine el_pv (v := .int .i64 r113) (pv_move rfl) (by decide) ?_
      refine el_pv (v := .int .i64 r113) (pv_assign rfl) (by decide) ?_
      refine el_nil ?_
      refine hQ120 _ _ _ ?_
      refine thn_n ?_
      refine cw_ret ?_
      refine fin1 rfl rfl ?_
      have hr := Option.some.inj hF
      exact ⟨congrArg (fun (r : Int) => Ending.returned (.int .i64 r)) hr, hS.below⟩
set_option maxHeartbeats 4000000 in
theorem laws_szAtomS_ok {w0 : World} {u0 : Value} {a0 : List (ByteArray × List Int)} {a1 : Int} (ha0 : (sliceR (pairR strR (sliceR intR 3)) 113).rd w0 [u0] a0) {N : Nat} {r : Int} (hF : laws_szAtomS N a0 a1 = some r) :
    Calls Try.prog 35 #[u0, .int .i64 a1] w0 fun e w' => e = .returned (.int .i64 r) ∧ Ext w0 w' := by
  unfold laws_szAtomS at hF
  refine calls_E Try.func35 rfl rfl (of_decide_eq_true rfl) ?_
  have hS := Sat.start w0
  refine cw_seq ?_
  refine cw_gen ?_
  intro Q101 hQ101
  refine cw_reg ?_
  refine el_pv (v := .int .i64 0) (pv_assign rfl) (by decide) ?_
  refine el_nil ?_
  refine hQ101 _ _ _ ?_
  refine thn_n ?_
  refine cw_seq ?_
  refine cw_gen ?_
  intro Q102 hQ102
  refine cw_reg ?_
  refine el_pv (v := .int .i64 a1) (pv_move rfl) (by decide) ?_
  refine el_pv (v := u0) (pv_move rfl) (by decide) ?_
  refine el_pv (v := .int .i64 (a0.length : Int)) (pv_len rfl ha0) (by decide) ?_
  replace hF := ob hF
  obtain ⟨x103, hx103, hF⟩ := hF
  refine el_pv (v := .int .i64 x103) (pv_sub rfl rfl hx103) (by decide) ?_
  refine el_pv (v := .int .i64 x103) (pv_assign rfl) (by decide) ?_
  refine el_nil ?_
  refine hQ102 _ _ _ ?_
  refine thn_n ?_
  refine cw_seq ?_
  refine cw_gen ?_
  intro Q104 hQ104
  refine cw_seq ?_
  refine cw_gen ?_
  intro Q105 hQ105
  refine cw_reg ?_
  refine el_pv (v := .int .i64 x103) (pv_move rfl) (by decide) ?_
  refine el_pv (v := .bool (decide (x103 < 0))) (pv_lss rfl rfl) (by decide) ?_
  refine el_nil ?_
  refine hQ105 _ _ _ ?_
  refine thn_n ?_
  replace hF := oif hF
  rcases hF with ⟨hb106, hF⟩ | ⟨hb106, hF⟩
  · refine cw_cond_t rfl hb106 ?_
    refine cw_seq ?_
    refine cw_gen ?_
    intro Q107 hQ107
    refine cw_reg ?_
    refine el_pv (v := .int .i64 (-1)) (pv_assign rfl) (by decide) ?_
    refine el_nil ?_
    refine hQ107 _ _ _ ?_
    refine thn_n ?_
    refine cw_ret ?_
    refine hQ104 _ _ _ ?_
    refine thn_r ?_
    refine fin1 rfl rfl ?_
    have hr := Option.some.inj hF
    exact ⟨congrArg (fun (r : Int) => Ending.returned (.int .i64 r)) hr, hS.below⟩
  · refine cw_cond_f rfl hb106 ?_
    refine cw_skip ?_
    refine hQ104 _ _ _ ?_
    refine thn_n ?_
    refine cw_seq ?_
    refine cw_gen ?_
    intro Q108 hQ108
    refine cw_seq ?_
    refine cw_gen ?_
    intro Q109 hQ109
    refine cw_reg ?_
    refine el_pv (v := .int .i64 0) (pv_assign rfl) (by decide) ?_
    refine el_nil ?_
    refine hQ109 _ _ _ ?_
    refine thn_n ?_
    refine cw_block ?_
    refine cw_gen ?_
    intro Q110 hQ110
    obtain ⟨s111, hL, hK112⟩ := ob hF
    refine cw_loopS (fun k e w => ∃ (x113 : Int), ∃ (x114 : Int), e 0 = u0 ∧ e 1 = .int .i64 x113 ∧ e 5 = .int .i64 x114 ∧ Sat w0 w [] ∧ laws_szAtomS_L1 N k a0 x113 x114 = some s111) N ?_ ?_ ?_
    · exact ⟨x103, 0, rfl, rfl, rfl, hS, hL⟩
    · rintro e w ⟨_, _, _, _, _, _, hz⟩; exact nomatch (show none = some _ from hz)
    · rintro k e119 w118 ⟨x113, x114, he115, he116, he117, hS, hF⟩
      refine cw_gen ?_
      intro Q120 hQ120
      refine cw_seq ?_
      refine cw_gen ?_
      intro Q121 hQ121
      refine cw_seq ?_
      refine cw_gen ?_
      intro Q122 hQ122
      refine cw_reg ?_
      refine el_pv (v := .int .i64 x114) (pv_move he117) (by decide) ?_
      refine el_pv (v := u0) (pv_move he115) (by decide) ?_
      refine el_pv (v := .int .i64 (a0.length : Int)) (pv_len rfl ha0) (by decide) ?_
      refine el_pv (v := .bool (decide (x114 < (a0.length : Int)))) (pv_lss rfl rfl) (by decide) ?_
      refine el_nil ?_
      refine hQ122 _ _ _ ?_
      refine thn_n ?_
      replace hF := oif hF
      rcases hF with ⟨hb123, hF⟩ | ⟨hb123, hF⟩
      · refine cw_cond_t rfl hb123 ?_
        refine cw_skip ?_
        refine hQ121 _ _ _ ?_
        refine thn_n ?_
        refine cw_seq ?_
        refine cw_gen ?_
        intro Q124 hQ124
        refine cw_block ?_
        refine cw_gen ?_
        intro Q125 hQ125
        refine cw_seq ?_
        refine cw_gen ?_
        intro Q126 hQ126
        refine cw_reg ?_
        refine el_pv (v := u0) (pv_move he115) (by decide) ?_
        refine el_pv (v := .int .i64 x114) (pv_move he117) (by decide) ?_
        replace hF := ob hF
        obtain ⟨x127, hx127, hF⟩ := hF
        refine el_index (wA := w0) rfl ha0 rfl (by decide) rfl hx127 (by decide) ?_
        intro b128 of129 c130 hr131 hm132
        obtain ⟨_, _, rfl, hr133, hr134⟩ := hr131
        obtain ⟨rfl, hz135⟩ := hr133
        obtain ⟨v136, rfl⟩ := slice_one hr134
        refine el_pv (v := .agg #[.string x127.1, v136]) (pv_loada (cs := [.string x127.1, v136]) rfl rfl (cells_up hS.below hm132)) (by decide) ?_
        refine el_pv (v := .int .i64 x113) (pv_move he116) (by decide) ?_
        replace hF := ob hF
        obtain ⟨r137, hr137, hF⟩ := hF
        refine el_call goes76 (laws_szAtom_ok hz135 (hS.up hr134) hr137) (congrArg List.toArray (mapc rfl (mapc rfl rfl))) (by decide) ?_
        rintro _ w138 ⟨rfl, hx139⟩
        refine ⟨_, rfl, ?_⟩
        replace hS := hS.ext hx139
        refine el_pv (v := .int .i64 r137) (pv_assign rfl) (by decide) ?_
        refine el_nil ?_
        refine hQ126 _ _ _ ?_
        refine thn_n ?_
        refine cw_seq ?_
        refine cw_gen ?_
        intro Q140 hQ140
        refine cw_reg ?_
        refine el_pv (v := .int .i64 r137) (pv_move rfl) (by decide) ?_
        refine el_pv (v := .bool (decide (r137 < 0))) (pv_lss rfl rfl) (by decide) ?_
        refine el_nil ?_
        refine hQ140 _ _ _ ?_
        refine thn_n ?_
        replace hF := oif hF
        rcases hF with ⟨hb141, hF⟩ | ⟨hb141, hF⟩
        · refine cw_cond_t rfl hb141 ?_
          refine cw_seq ?_
          refine cw_gen ?_
          intro Q142 hQ142
          refine cw_reg ?_
          refine el_pv (v := .int .i64 (-1)) (pv_assign rfl) (by decide) ?_
          refine el_nil ?_
          refine hQ142 _ _ _ ?_
          refine thn_n ?_
          refine cw_ret ?_
          refine hQ125 _ _ _ ?_
          refine inb_r ?_
          refine hQ124 _ _ _ ?_
          refine thn_r ?_
          refine hQ120 _ _ _ ?_
          refine thn_r ?_
          refine hQ110 _ _ _ ?_
          refine inb_r ?_
          refine hQ108 _ _ _ ?_
          refine thn_r ?_
          replace hF := exL hF hK112
          refine fin1 rfl rfl ?_
          have hr := Option.some.inj hF
          exact ⟨congrArg (fun (r : Int) => Ending.returned (.int .i64 r)) hr, hS.below⟩
        · refine cw_cond_f rfl hb141 ?_
          refine cw_skip ?_
          refine hQ125 _ _ _ ?_
          refine inb_n ?_
          refine hQ124 _ _ _ ?_
          refine thn_n ?_
          refine cw_reg ?_
          refine el_pv (v := .int .i64 x114) (pv_move he117) (by decide) ?_
          replace hF := ob hF
          obtain ⟨x143, hx143, hF⟩ := hF
          refine el_pv (v := .int .i64 x143) (pv_add rfl rfl hx143) (by decide) ?_
          refine el_pv (v := .int .i64 x143) (pv_assign rfl) (by decide) ?_
          refine el_nil ?_
          refine hQ120 _ _ _ ?_
          refine thn_n ?_
          replace hS := hS.keep 0
          exact ⟨r137, x143, he115, rfl, rfl, hS, hF⟩
      · refine cw_cond_f rfl hb123 ?_
        refine cw_exit ?_
        refine hQ121 _ _ _ ?_
        refine thn_x ?_
        refine hQ120 _ _ _ ?_
        refine thn_x ?_
        replace hF := exA hF hK112
        refine hQ110 _ _ _ ?_
        refine inb_s ?_
        refine hQ108 _ _ _ ?_
        refine thn_n ?_
        refine cw_seq ?_
        refine cw_gen ?_
        intro Q144 hQ144
        refine cw_reg ?_
        refine el_pv (v := .int .i64 x113) (pv_move he116) (by decide) ?_
        refine el_pv (v := .int .i64 x113) (pv_assign rfl) (by decide) ?_
        refine el_nil ?_
        refine hQ144 _ _ _ ?_
        refine thn_n ?_
        refine cw_ret ?_
        refine fin1 rfl rfl ?_
        have hr := Option.some.inj hF
        exact ⟨congrArg (fun (r : Int) => Ending.returned (.int .i64 r)) hr, hS.below⟩
set_option maxHeartbeats 4000000 in
theorem laws_szQuery_ok {w0 : World} {a0 : Int} {u1 : Value} {a1 : List (ByteArray × List Int)} {u2 : Value} {a2 : List Int} {a3 : Int} (ha1 : (sliceR (pairR strR (sliceR intR 3)) 113).rd w0 [u1] a1) (ha2 : (sliceR intR 3).rd w0 [u2] a2) {N : Nat} {r : Int} (hF : laws_szQuery N a0 a1 a2 a3 = some r) :
    Calls Try.prog 7 #[.agg #[.int .i64 a0, u1, u2], .int .i64 a3] w0 fun e w' => e = .returned (.int .i64 r) ∧ Ext w0 w' := by
  unfold laws_szQuery at hF
  refine calls_E Try.func7 rfl rfl (of_decide_eq_true rfl) ?_
  have hS := Sat.start w0
  refine cw_seq ?_
  refine cw_gen ?_
  intro Q101 hQ101
  refine cw_reg ?_
  refine el_box [.int .i64 a0, u1, u2] rfl hS (by decide) ?_
  intro w102 b103 hS hx104
  refine el_pv (v := .int .i64 0) (pv_assign rfl) (by decide) ?_
  refine el_nil ?_
  refine hQ101 _ _ _ ?_
  refine thn_n ?_
  refine cw_seq ?_
  refine cw_gen ?_
  intro Q106 hQ106
  refine cw_reg ?_
  refine el_pv (v := .pointer (some ⟨b103, 0 + 1, none⟩)) (pv_fieldAddr rfl) (by decide) ?_
  refine el_pv (v := u1) (pv_loadc rfl ((hS.boxAt 0 rfl) 1 _ rfl)) (by decide) ?_
  refine el_pv (v := .int .i64 a3) (pv_move rfl) (by decide) ?_
  replace hF := ob hF
  obtain ⟨r107, hr107, hF⟩ := hF
  refine el_call goes35 (laws_szAtomS_ok (hS.up ha1) hr107) (congrArg List.toArray (mapc rfl (mapc rfl rfl))) (by decide) ?_
  rintro _ w108 ⟨rfl, hx109⟩
  refine ⟨_, rfl, ?_⟩
  replace hS := hS.ext hx109
  refine el_pv (v := .int .i64 r107) (pv_assign rfl) (by decide) ?_
  refine el_nil ?_
  refine hQ106 _ _ _ ?_
  refine thn_n ?_
  refine cw_seq ?_
  refine cw_gen ?_
  intro Q110 hQ110
  refine cw_seq ?_
  refine cw_gen ?_
  intro Q111 hQ111
  refine cw_reg ?_
  refine el_pv (v := .int .i64 r107) (pv_move rfl) (by decide) ?_
  refine el_pv (v := .bool (decide (r107 < 0))) (pv_lss rfl rfl) (by decide) ?_
  refine el_nil ?_
  refine hQ111 _ _ _ ?_
  refine thn_n ?_
  replace hF := oif hF
  rcases hF with ⟨hb112, hF⟩ | ⟨hb112, hF⟩
  · refine cw_cond_t rfl hb112 ?_
    refine cw_seq ?_
    refine cw_gen ?_
    intro Q113 hQ113
    replace hS : Sat w0 w108 [] := hS.rems 1 [0] rfl
    refine cw_reg ?_
    refine el_pv (v := .int .i64 (-1)) (pv_assign rfl) (by decide) ?_
    refine el_nil ?_
    refine hQ113 _ _ _ ?_
    refine thn_n ?_
    refine cw_ret ?_
    refine hQ110 _ _ _ ?_
    refine thn_r ?_
    refine fin1 rfl rfl ?_
    have hr := Option.some.inj hF
    exact ⟨congrArg (fun (r : Int) => Ending.returned (.int .i64 r)) hr, hS.below⟩
  · refine cw_cond_f rfl hb112 ?_
    refine cw_skip ?_
    refine hQ110 _ _ _ ?_
    refine thn_n ?_
    refine cw_seq ?_
    refine cw_gen ?_
    intro Q114 hQ114
    refine cw_reg ?_
    refine el_pv (v := .pointer (some ⟨b103, 0 + 2, none⟩)) (pv_fieldAddr rfl) (by decide) ?_
    refine el_pv (v := u2) (pv_loadc rfl ((hS.boxAt 0 rfl) 2 _ rfl)) (by decide) ?_
    refine el_pv (v := .int .i64 r107) (pv_move rfl) (by decide) ?_
    replace hF := ob hF
    obtain ⟨r115, hr115, hF⟩ := hF
    refine el_call goes36 (laws_szIntS_ok (hS.up ha2) hr115) (congrArg List.toArray (mapc rfl (mapc rfl rfl))) (by decide) ?_
    rintro _ w116 ⟨rfl, hx117⟩
    refine ⟨_, rfl, ?_⟩
    replace hS := hS.ext hx117
    refine el_pv (v := .int .i64 r115) (pv_assign rfl) (by decide) ?_
    refine el_nil ?_
    refine hQ114 _ _ _ ?_
    refine thn_n ?_
    refine cw_seq ?_
    refine cw_gen ?_
    intro Q118 hQ118
    refine cw_seq ?_
    refine cw_gen ?_
    intro Q119 hQ119
    replace hS : Sat w0 w116 [] := hS.rems 1 [0] rfl
    refine cw_reg ?_
    refine el_pv (v := .int .i64 r115) (pv_move rfl) (by decide) ?_
    refine el_pv (v := .bool (decide (r115 < 0))) (pv_lss rfl rfl) (by decide) ?_
    refine el_nil ?_
    refine hQ119 _ _ _ ?_
    refine thn_n ?_
    replace hF := oif hF
    rcases hF with ⟨hb120, hF⟩ | ⟨hb120, hF⟩
    · refine cw_cond_t rfl hb120 ?_
      refine cw_seq ?_
      refine cw_gen ?_
      intro Q121 hQ121
      refine cw_reg ?_
      refine el_pv (v := .int .i64 (-1)) (pv_assign rfl) (by decide) ?_
      refine el_nil ?_
      refine hQ121 _ _ _ ?_
      refine thn_n ?_
      refine cw_ret ?_
      refine hQ118 _ _ _ ?_
      refine thn_r ?_
      refine fin1 rfl rfl ?_
      have hr := Option.some.inj hF
      exact ⟨congrArg (fun (r : Int) => Ending.returned (.int .i64 r)) hr, hS.below⟩
    · refine cw_cond_f rfl hb120 ?_
      refine cw_skip ?_
      refine hQ118 _ _ _ ?_
      refine thn_n ?_
      refine cw_seq ?_
      refine cw_gen ?_
      intro Q122 hQ122
      refine cw_reg ?_
      refine el_pv (v := .int .i64 r115) (pv_move rfl) (by decide) ?_
      refine el_pv (v := .int .i64 r115) (pv_assign rfl) (by decide) ?_
      refine el_nil ?_
      refine hQ122 _ _ _ ?_
      refine thn_n ?_
      refine cw_ret ?_
      refine fin1 rfl rfl ?_
      have hr := Option.some.inj hF
      exact ⟨congrArg (fun (r : Int) => Ending.returned (.int .i64 r)) hr, hS.below⟩
set_option maxHeartbeats 4000000 in
theorem spec_l1In_ok {w0 : World} {a0 : Int} {a1 : Int} {a2 : Int}  {N : Nat} {r : Bool} (hF : spec_l1In N a0 a1 a2 = some r) :
    Calls Try.prog 38 #[.int .i64 a0, .int .i64 a1, .int .i64 a2] w0 fun e w' => e = .returned (.bool r) ∧ Ext w0 w' := by
  unfold spec_l1In at hF
  refine calls_E Try.func38 rfl rfl (of_decide_eq_true rfl) ?_
  have hS := Sat.start w0
  refine cw_seq ?_
  refine cw_gen ?_
  intro Q101 hQ101
  refine cw_reg ?_
  refine el_pv (v := .bool false) (pv_assign rfl) (by decide) ?_
  refine el_nil ?_
  refine hQ101 _ _ _ ?_
  refine thn_n ?_
  refine cw_seq ?_
  refine cw_gen ?_
  intro Q102 hQ102
  refine cw_reg ?_
  refine el_pv (v := .int .i64 a0) (pv_move rfl) (by decide) ?_
  refine el_pv (v := .int .i64 a1) (pv_move rfl) (by decide) ?_
  refine el_pv (v := .bool (decide (a1 ≤ a0))) (pv_geq rfl rfl) (by decide) ?_
  refine el_pv (v := .bool (decide (a1 ≤ a0))) (pv_move rfl) (by decide) ?_
  replace hF := oif hF
  rcases hF with ⟨hb103, hF⟩ | ⟨hb103, hF⟩
  · refine el_on rfl hb103 ?_
    refine el_pv (v := .int .i64 a0) (pv_move rfl) (by decide) ?_
    refine el_on rfl hb103 ?_
    refine el_pv (v := .int .i64 a2) (pv_move rfl) (by decide) ?_
    refine el_on rfl hb103 ?_
    refine el_pv (v := .bool (decide (a0 ≤ a2))) (pv_leq rfl rfl) (by decide) ?_
    refine el_pv (v := .bool (decide (a0 ≤ a2))) (pv_pick_t rfl hb103 rfl) (by decide) ?_
    refine el_pv (v := .bool (decide (a0 ≤ a2))) (pv_assign rfl) (by decide) ?_
    refine el_nil ?_
    refine hQ102 _ _ _ ?_
    refine thn_n ?_
    refine cw_ret ?_
    refine fin1 rfl rfl ?_
    have hr := Option.some.inj hF
    exact ⟨congrArg (fun (r : Bool) => Ending.returned (.bool r)) hr, hS.below⟩
  · refine el_off rfl hb103 rfl (by decide) ?_
    refine el_off rfl hb103 rfl (by decide) ?_
    refine el_off rfl hb103 rfl (by decide) ?_
    refine el_pv (v := .bool false) (pv_pick_f rfl hb103 rfl) (by decide) ?_
    refine el_pv (v := .bool false) (pv_assign rfl) (by decide) ?_
    refine el_nil ?_
    refine hQ102 _ _ _ ?_
    refine thn_n ?_
    refine cw_ret ?_
    refine fin1 rfl rfl ?_
    have hr := Option.some.inj hF
    exact ⟨congrArg (fun (r : Bool) => Ending.returned (.bool r)) hr, hS.below⟩
set_option maxHeartbeats 4000000 in
theorem spec_IsValidName_ok {w0 : World} {a0 : ByteArray} (_ : a0.size ≤ 9223372036854775807) {N : Nat} {r : Bool} (hF : spec_IsValidName N a0 = some r) :
    Calls Try.prog 77 #[.string a0] w0 fun e w' => e = .returned (.bool r) ∧ Ext w0 w' := by
  unfold spec_IsValidName at hF
  refine calls_E Try.func77 rfl rfl (of_decide_eq_true rfl) ?_
  have hS := Sat.start w0
  refine cw_seq ?_
  refine cw_gen ?_
  intro Q101 hQ101
  refine cw_reg ?_
  refine el_pv (v := .bool false) (pv_assign rfl) (by decide) ?_
  refine el_nil ?_
  refine hQ101 _ _ _ ?_
  refine thn_n ?_
  refine cw_seq ?_
  refine cw_gen ?_
  intro Q102 hQ102
  refine cw_seq ?_
  refine cw_gen ?_
  intro Q103 hQ103
  refine cw_reg ?_
  refine el_pv (v := .int .i64 0) (pv_assign rfl) (by decide) ?_
  refine el_nil ?_
  refine hQ103 _ _ _ ?_
  refine thn_n ?_
  refine cw_block ?_
  refine cw_gen ?_
  intro Q104 hQ104
  obtain ⟨s105, hL, hK106⟩ := ob hF
  refine cw_loopS (fun k e w => ∃ (x107 : Int), e 0 = .string a0 ∧ e 3 = .int .i64 x107 ∧ Sat w0 w [] ∧ spec_IsValidName_L1 N k a0 x107 = some s105) N ?_ ?_ ?_
  · exact ⟨0, rfl, rfl, hS, hL⟩
  · rintro e w ⟨_, _, _, _, hz⟩; exact nomatch (show none = some _ from hz)
  · rintro k e111 w110 ⟨x107, he108, he109, hS, hF⟩
    refine cw_gen ?_
    intro Q112 hQ112
    refine cw_seq ?_
    refine cw_gen ?_
    intro Q113 hQ113
    refine cw_seq ?_
    refine cw_gen ?_
    intro Q114 hQ114
    refine cw_reg ?_
    refine el_pv (v := .int .i64 x107) (pv_move he109) (by decide) ?_
    refine el_pv (v := .string a0) (pv_move he108) (by decide) ?_
    refine el_pv (v := .int .i64 (a0.size : Int)) (pv_lenS Try.underlying9 rfl) (by decide) ?_
    refine el_pv (v := .bool (decide (x107 < (a0.size : Int)))) (pv_lss rfl rfl) (by decide) ?_
    refine el_nil ?_
    refine hQ114 _ _ _ ?_
    refine thn_n ?_
    replace hF := oif hF
    rcases hF with ⟨hb115, hF⟩ | ⟨hb115, hF⟩
    · refine cw_cond_t rfl hb115 ?_
      refine cw_skip ?_
      refine hQ113 _ _ _ ?_
      refine thn_n ?_
      refine cw_seq ?_
      refine cw_gen ?_
      intro Q116 hQ116
      refine cw_block ?_
      refine cw_gen ?_
      intro Q117 hQ117
      refine cw_seq ?_
      refine cw_gen ?_
      intro Q118 hQ118
      refine cw_reg ?_
      refine el_pv (v := .string a0) (pv_move he108) (by decide) ?_
      refine el_pv (v := .int .i64 x107) (pv_move he109) (by decide) ?_
      replace hF := ob hF
      obtain ⟨x119, hx119, hF⟩ := hF
      refine el_pv (v := .int .u8 x119) (pv_bx Try.underlying9 rfl rfl hx119) (by decide) ?_
      refine el_pv (v := .bool (decide (x119 < 97))) (pv_lss rfl rfl) (by decide) ?_
      refine el_pv (v := .bool (decide (x119 < 97))) (pv_move rfl) (by decide) ?_
      replace hF := oif hF
      rcases hF with ⟨hb120, hF⟩ | ⟨hb120, hF⟩
      · refine el_off rfl hb120 rfl (by decide) ?_
        refine el_off rfl hb120 rfl (by decide) ?_
        refine el_off rfl hb120 rfl (by decide) ?_
        refine el_off rfl hb120 rfl (by decide) ?_
        refine el_pv (v := .bool true) (pv_pick_t rfl hb120 rfl) (by decide) ?_
        refine el_nil ?_
        refine hQ118 _ _ _ ?_
        refine thn_n ?_
        refine cw_cond_t rfl rfl ?_
        refine cw_seq ?_
        refine cw_gen ?_
        intro Q121 hQ121
        refine cw_reg ?_
        refine el_pv (v := .bool false) (pv_assign rfl) (by decide) ?_
        refine el_nil ?_
        refine hQ121 _ _ _ ?_
        refine thn_n ?_
        refine cw_ret ?_
        refine hQ117 _ _ _ ?_
        refine inb_r ?_
        refine hQ116 _ _ _ ?_
        refine thn_r ?_
        refine hQ112 _ _ _ ?_
        refine thn_r ?_
        refine hQ104 _ _ _ ?_
        refine inb_r ?_
        refine hQ102 _ _ _ ?_
        refine thn_r ?_
        replace hF := exL hF hK106
        refine fin1 rfl rfl ?_
        have hr := Option.some.inj hF
        exact ⟨congrArg (fun (r : Bool) => Ending.returned (.bool r)) hr, hS.below⟩
      · refine el_on rfl hb120 ?_
        refine el_pv (v := .string a0) (pv_move he108) (by decide) ?_
        refine el_on rfl hb120 ?_
        refine el_pv (v := .int .i64 x107) (pv_move he109) (by decide) ?_
        refine el_on rfl hb120 ?_
        replace hF := ob hF
        obtain ⟨x122, hx122, hF⟩ := hF
        refine el_pv (v := .int .u8 x122) (pv_bx Try.underlying9 rfl rfl hx122) (by decide) ?_
        refine el_on rfl hb120 ?_
        refine el_pv (v := .bool (decide (122 < x122))) (pv_gtr rfl rfl) (by decide) ?_
        refine el_pv (v := .bool (decide (122 < x122))) (pv_pick_f rfl hb120 rfl) (by decide) ?_
        refine el_nil ?_
        refine hQ118 _ _ _ ?_
        refine thn_n ?_
        replace hF := oif hF
        rcases hF with ⟨hb123, hF⟩ | ⟨hb123, hF⟩
        · refine cw_cond_t rfl hb123 ?_
          refine cw_seq ?_
          refine cw_gen ?_
          intro Q124 hQ124
          refine cw_reg ?_
          refine el_pv (v := .bool false) (pv_assign rfl) (by decide) ?_
          refine el_nil ?_
          refine hQ124 _ _ _ ?_
          refine thn_n ?_
          refine cw_ret ?_
          refine hQ117 _ _ _ ?_
          refine inb_r ?_
          refine hQ116 _ _ _ ?_
          refine thn_r ?_
          refine hQ112 _ _ _ ?_
          refine thn_r ?_
          refine hQ104 _ _ _ ?_
          refine inb_r ?_
          refine hQ102 _ _ _ ?_
          refine thn_r ?_
          replace hF := exL hF hK106
          refine fin1 rfl rfl ?_
          have hr := Option.some.inj hF
          exact ⟨congrArg (fun (r : Bool) => Ending.returned (.bool r)) hr, hS.below⟩
        · refine cw_cond_f rfl hb123 ?_
          refine cw_skip ?_
          refine hQ117 _ _ _ ?_
          refine inb_n ?_
          refine hQ116 _ _ _ ?_
          refine thn_n ?_
          refine cw_reg ?_
          refine el_pv (v := .int .i64 x107) (pv_move he109) (by decide) ?_
          replace hF := ob hF
          obtain ⟨x125, hx125, hF⟩ := hF
          refine el_pv (v := .int .i64 x125) (pv_add rfl rfl hx125) (by decide) ?_
          refine el_pv (v := .int .i64 x125) (pv_assign rfl) (by decide) ?_
          refine el_nil ?_
          refine hQ112 _ _ _ ?_
          refine thn_n ?_
          replace hS := hS.keep 0
          exact ⟨x125, he108, rfl, hS, hF⟩
    · refine cw_cond_f rfl hb115 ?_
      refine cw_exit ?_
      refine hQ113 _ _ _ ?_
      refine thn_x ?_
      refine hQ112 _ _ _ ?_
      refine thn_x ?_
      replace hF := exA hF hK106
      refine hQ104 _ _ _ ?_
      refine inb_s ?_
      refine hQ102 _ _ _ ?_
      refine thn_n ?_
      refine cw_seq ?_
      refine cw_gen ?_
      intro Q126 hQ126
      refine cw_reg ?_
      refine el_pv (v := .string a0) (pv_move he108) (by decide) ?_
      refine el_pv (v := .int .i64 (a0.size : Int)) (pv_lenS Try.underlying9 rfl) (by decide) ?_
      replace hF := ob hF
      obtain ⟨r127, hr127, hF⟩ := hF
      refine el_call goes38 (spec_l1In_ok hr127) (congrArg List.toArray (mapc rfl (mapc rfl (mapc rfl rfl)))) (by decide) ?_
      rintro _ w128 ⟨rfl, hx129⟩
      refine ⟨_, rfl, ?_⟩
      replace hS := hS.ext hx129
      refine el_pv (v := .bool r127) (pv_assign rfl) (by decide) ?_
      refine el_nil ?_
      refine hQ126 _ _ _ ?_
      refine thn_n ?_
      refine cw_ret ?_
      refine fin1 rfl rfl ?_
      have hr := Option.some.inj hF
      exact ⟨congrArg (fun (r : Bool) => Ending.returned (.bool r)) hr, hS.below⟩
set_option maxHeartbeats 4000000 in
theorem spec_ContainsVariable_ok {w0 : World} {a0 : ByteArray} {u1 : Value} {a1 : List Int} {a2 : Int} (_ : a0.size ≤ 9223372036854775807) (ha1 : (sliceR intR 3).rd w0 [u1] a1) {N : Nat} {r : Bool} (hF : spec_ContainsVariable N a0 a1 a2 = some r) :
    Calls Try.prog 78 #[.agg #[.string a0, u1], .int .i64 a2] w0 fun e w' => e = .returned (.bool r) ∧ Ext w0 w' := by
  unfold spec_ContainsVariable at hF
  refine calls_E Try.func78 rfl rfl (of_decide_eq_true rfl) ?_
  have hS := Sat.start w0
  refine cw_seq ?_
  refine cw_gen ?_
  intro Q101 hQ101
  refine cw_reg ?_
  refine el_box [.string a0, u1] rfl hS (by decide) ?_
  intro w102 b103 hS hx104
  refine el_pv (v := .bool false) (pv_assign rfl) (by decide) ?_
  refine el_nil ?_
  refine hQ101 _ _ _ ?_
  refine thn_n ?_
  refine cw_seq ?_
  refine cw_gen ?_
  intro Q106 hQ106
  refine cw_seq ?_
  refine cw_gen ?_
  intro Q107 hQ107
  refine cw_reg ?_
  refine el_pv (v := .int .i64 0) (pv_assign rfl) (by decide) ?_
  refine el_nil ?_
  refine hQ107 _ _ _ ?_
  refine thn_n ?_
  refine cw_block ?_
  refine cw_gen ?_
  intro Q108 hQ108
  obtain ⟨s109, hL, hK110⟩ := ob hF
  refine cw_loopS (fun k e w => ∃ (x111 : Int), e 1 = .int .i64 a2 ∧ e 2 = .pointer (some ⟨b103, 0, none⟩) ∧ e 5 = .int .i64 x111 ∧ Sat w0 w [Box b103 96 [.string a0, u1]] ∧ spec_ContainsVariable_L1 N k a2 a0 a1 x111 = some s109) N ?_ ?_ ?_
  · exact ⟨0, rfl, rfl, rfl, hS, hL⟩
  · rintro e w ⟨_, _, _, _, _, hz⟩; exact nomatch (show none = some _ from hz)
  · rintro k e116 w115 ⟨x111, he112, he113, he114, hS, hF⟩
    refine cw_gen ?_
    intro Q117 hQ117
    refine cw_seq ?_
    refine cw_gen ?_
    intro Q118 hQ118
    refine cw_seq ?_
    refine cw_gen ?_
    intro Q119 hQ119
    refine cw_reg ?_
    refine el_pv (v := .int .i64 x111) (pv_move he114) (by decide) ?_
    refine el_pv (v := .pointer (some ⟨b103, 0 + 1, none⟩)) (pv_fieldAddr he113) (by decide) ?_
    refine el_pv (v := u1) (pv_loadc rfl ((hS.boxAt 0 rfl) 1 _ rfl)) (by decide) ?_
    refine el_pv (v := .int .i64 (a1.length : Int)) (pv_len rfl ha1) (by decide) ?_
    refine el_pv (v := .bool (decide (x111 < (a1.length : Int)))) (pv_lss rfl rfl) (by decide) ?_
    refine el_nil ?_
    refine hQ119 _ _ _ ?_
    refine thn_n ?_
    replace hF := oif hF
    rcases hF with ⟨hb120, hF⟩ | ⟨hb120, hF⟩
    · refine cw_cond_t rfl hb120 ?_
      refine cw_skip ?_
      refine hQ118 _ _ _ ?_
      refine thn_n ?_
      refine cw_seq ?_
      refine cw_gen ?_
      intro Q121 hQ121
      refine cw_block ?_
      refine cw_gen ?_
      intro Q122 hQ122
      refine cw_seq ?_
      refine cw_gen ?_
      intro Q123 hQ123
      refine cw_reg ?_
      refine el_pv (v := .pointer (some ⟨b103, 0 + 1, none⟩)) (pv_fieldAddr he113) (by decide) ?_
      refine el_pv (v := u1) (pv_loadc rfl ((hS.boxAt 0 rfl) 1 _ rfl)) (by decide) ?_
      refine el_pv (v := .int .i64 x111) (pv_move he114) (by decide) ?_
      replace hF := ob hF
      obtain ⟨x124, hx124, hF⟩ := hF
      refine el_index (wA := w0) rfl ha1 rfl (by decide) rfl hx124 (by decide) ?_
      intro b125 of126 c127 hr128 hm129
      obtain rfl := hr128
      refine el_pv (v := .int .i64 x124) (pv_loadc rfl ((cells_up hS.below hm129) 0 _ rfl)) (by decide) ?_
      refine el_pv (v := .int .i64 a2) (pv_move he112) (by decide) ?_
      refine el_pv (v := .bool (x124 == a2)) (pv_eql rfl rfl) (by decide) ?_
      refine el_nil ?_
      refine hQ123 _ _ _ ?_
      refine thn_n ?_
      replace hF := oif hF
      rcases hF with ⟨hb130, hF⟩ | ⟨hb130, hF⟩
      · refine cw_cond_t rfl hb130 ?_
        refine cw_seq ?_
        refine cw_gen ?_
        intro Q131 hQ131
        replace hS : Sat w0 w115 [] := hS.rems 1 [0] rfl
        refine cw_reg ?_
        refine el_pv (v := .bool true) (pv_assign rfl) (by decide) ?_
        refine el_nil ?_
        refine hQ131 _ _ _ ?_
        refine thn_n ?_
        refine cw_ret ?_
        refine hQ122 _ _ _ ?_
        refine inb_r ?_
        refine hQ121 _ _ _ ?_
        refine thn_r ?_
        refine hQ117 _ _ _ ?_
        refine thn_r ?_
        refine hQ108 _ _ _ ?_
        refine inb_r ?_
        refine hQ106 _ _ _ ?_
        refine thn_r ?_
        replace hF := exL hF hK110
        refine fin1 rfl rfl ?_
        have hr := Option.some.inj hF
        exact ⟨congrArg (fun (r : Bool) => Ending.returned (.bool r)) hr, hS.below⟩
      · refine cw_cond_f rfl hb130 ?_
        refine cw_skip ?_
        refine hQ122 _ _ _ ?_
        refine inb_n ?_
        refine hQ121 _ _ _ ?_
        refine thn_n ?_
        refine cw_reg ?_
        refine el_pv (v := .int .i64 x111) (pv_move he114) (by decide) ?_
        replace hF := ob hF
        obtain ⟨x132, hx132, hF⟩ := hF
        refine el_pv (v := .int .i64 x132) (pv_add rfl rfl hx132) (by decide) ?_
        refine el_pv (v := .int .i64 x132) (pv_assign rfl) (by decide) ?_
        refine el_nil ?_
        refine hQ117 _ _ _ ?_
        refine thn_n ?_
        replace hS := hS.keep 1
        exact ⟨x132, he112, he113, rfl, hS, hF⟩
    · refine cw_cond_f rfl hb120 ?_
      refine cw_exit ?_
      refine hQ118 _ _ _ ?_
      refine thn_x ?_
      refine hQ117 _ _ _ ?_
      refine thn_x ?_
      replace hF := exA hF hK110
      refine hQ108 _ _ _ ?_
      refine inb_s ?_
      refine hQ106 _ _ _ ?_
      refine thn_n ?_
      refine cw_seq ?_
      refine cw_gen ?_
      intro Q133 hQ133
      replace hS : Sat w0 w115 [] := hS.rems 1 [0] rfl
      refine cw_reg ?_
      refine el_pv (v := .bool false) (pv_assign rfl) (by decide) ?_
      refine el_nil ?_
      refine hQ133 _ _ _ ?_
      refine thn_n ?_
      refine cw_ret ?_
      refine fin1 rfl rfl ?_
      have hr := Option.some.inj hF
      exact ⟨congrArg (fun (r : Bool) => Ending.returned (.bool r)) hr, hS.below⟩
set_option maxHeartbeats 4000000 in
theorem spec_l7Find_ok {w0 : World} {u0 : Value} {a0 : List Int} {a1 : Int} (ha0 : (sliceR intR 3).rd w0 [u0] a0) {N : Nat} {r : Int} (hF : spec_l7Find N a0 a1 = some r) :
    Calls Try.prog 79 #[u0, .int .i64 a1] w0 fun e w' => e = .returned (.int .i64 r) ∧ Ext w0 w' := by
  unfold spec_l7Find at hF
  refine calls_E Try.func79 rfl rfl (of_decide_eq_true rfl) ?_
  have hS := Sat.start w0
  refine cw_seq ?_
  refine cw_gen ?_
  intro Q101 hQ101
  refine cw_reg ?_
  refine el_pv (v := .int .i64 0) (pv_assign rfl) (by decide) ?_
  refine el_nil ?_
  refine hQ101 _ _ _ ?_
  refine thn_n ?_
  refine cw_seq ?_
  refine cw_gen ?_
  intro Q102 hQ102
  refine cw_seq ?_
  refine cw_gen ?_
  intro Q103 hQ103
  refine cw_reg ?_
  refine el_pv (v := .int .i64 0) (pv_assign rfl) (by decide) ?_
  refine el_nil ?_
  refine hQ103 _ _ _ ?_
  refine thn_n ?_
  refine cw_block ?_
  refine cw_gen ?_
  intro Q104 hQ104
  obtain ⟨s105, hL, hK106⟩ := ob hF
  refine cw_loopS (fun k e w => ∃ (x107 : Int), e 0 = u0 ∧ e 1 = .int .i64 a1 ∧ e 5 = .int .i64 x107 ∧ Sat w0 w [] ∧ spec_l7Find_L1 N k a0 a1 x107 = some s105) N ?_ ?_ ?_
  · exact ⟨0, rfl, rfl, rfl, hS, hL⟩
  · rintro e w ⟨_, _, _, _, _, hz⟩; exact nomatch (show none = some _ from hz)
  · rintro k e112 w111 ⟨x107, he108, he109, he110, hS, hF⟩
    refine cw_gen ?_
    intro Q113 hQ113
    refine cw_seq ?_
    refine cw_gen ?_
    intro Q114 hQ114
    refine cw_seq ?_
    refine cw_gen ?_
    intro Q115 hQ115
    refine cw_reg ?_
    refine el_pv (v := .int .i64 x107) (pv_move he110) (by decide) ?_
    refine el_pv (v := u0) (pv_move he108) (by decide) ?_
    refine el_pv (v := .int .i64 (a0.length : Int)) (pv_len rfl ha0) (by decide) ?_
    refine el_pv (v := .bool (decide (x107 < (a0.length : Int)))) (pv_lss rfl rfl) (by decide) ?_
    refine el_nil ?_
    refine hQ115 _ _ _ ?_
    refine thn_n ?_
    replace hF := oif hF
    rcases hF with ⟨hb116, hF⟩ | ⟨hb116, hF⟩
    · refine cw_cond_t rfl hb116 ?_
      refine cw_skip ?_
      refine hQ114 _ _ _ ?_
      refine thn_n ?_
      refine cw_seq ?_
      refine cw_gen ?_
      intro Q117 hQ117
      refine cw_block ?_
      refine cw_gen ?_
      intro Q118 hQ118
      refine cw_seq ?_
      refine cw_gen ?_
      intro Q119 hQ119
      refine cw_reg ?_
      refine el_pv (v := u0) (pv_move he108) (by decide) ?_
      refine el_pv (v := .int .i64 x107) (pv_move he110) (by decide) ?_
      replace hF := ob hF
      obtain ⟨x120, hx120, hF⟩ := hF
      refine el_index (wA := w0) rfl ha0 rfl (by decide) rfl hx120 (by decide) ?_
      intro b121 of122 c123 hr124 hm125
      obtain rfl := hr124
      refine el_pv (v := .int .i64 x120) (pv_loadc rfl ((cells_up hS.below hm125) 0 _ rfl)) (by decide) ?_
      refine el_pv (v := .int .i64 a1) (pv_move he109) (by decide) ?_
      refine el_pv (v := .bool (x120 == a1)) (pv_eql rfl rfl) (by decide) ?_
      refine el_nil ?_
      refine hQ119 _ _ _ ?_
      refine thn_n ?_
      replace hF := oif hF
      rcases hF with ⟨hb126, hF⟩ | ⟨hb126, hF⟩
      · refine cw_cond_t rfl hb126 ?_
        refine cw_seq ?_
        refine cw_gen ?_
        intro Q127 hQ127
        refine cw_reg ?_
        refine el_pv (v := .int .i64 x107) (pv_move he110) (by decide) ?_
        refine el_pv (v := .int .i64 x107) (pv_assign rfl) (by decide) ?_
        refine el_nil ?_
        refine hQ127 _ _ _ ?_
        refine thn_n ?_
        refine cw_ret ?_
        refine hQ118 _ _ _ ?_
        refine inb_r ?_
        refine hQ117 _ _ _ ?_
        refine thn_r ?_
        refine hQ113 _ _ _ ?_
        refine thn_r ?_
        refine hQ104 _ _ _ ?_
        refine inb_r ?_
        refine hQ102 _ _ _ ?_
        refine thn_r ?_
        replace hF := exL hF hK106
        refine fin1 rfl rfl ?_
        have hr := Option.some.inj hF
        exact ⟨congrArg (fun (r : Int) => Ending.returned (.int .i64 r)) hr, hS.below⟩
      · refine cw_cond_f rfl hb126 ?_
        refine cw_skip ?_
        refine hQ118 _ _ _ ?_
        refine inb_n ?_
        refine hQ117 _ _ _ ?_
        refine thn_n ?_
        refine cw_reg ?_
        refine el_pv (v := .int .i64 x107) (pv_move he110) (by decide) ?_
        replace hF := ob hF
        obtain ⟨x128, hx128, hF⟩ := hF
        refine el_pv (v := .int .i64 x128) (pv_add rfl rfl hx128) (by decide) ?_
        refine el_pv (v := .int .i64 x128) (pv_assign rfl) (by decide) ?_
        refine el_nil ?_
        refine hQ113 _ _ _ ?_
        refine thn_n ?_
        replace hS := hS.keep 0
        exact ⟨x128, he108, he109, rfl, hS, hF⟩
    · refine cw_cond_f rfl hb116 ?_
      refine cw_exit ?_
      refine hQ114 _ _ _ ?_
      refine thn_x ?_
      refine hQ113 _ _ _ ?_
      refine thn_x ?_
      replace hF := exA hF hK106
      refine hQ104 _ _ _ ?_
      refine inb_s ?_
      refine hQ102 _ _ _ ?_
      refine thn_n ?_
      refine cw_seq ?_
      refine cw_gen ?_
      intro Q129 hQ129
      refine cw_reg ?_
      refine el_pv (v := .int .i64 (-1)) (pv_assign rfl) (by decide) ?_
      refine el_nil ?_
      refine hQ129 _ _ _ ?_
      refine thn_n ?_
      refine cw_ret ?_
      refine fin1 rfl rfl ?_
      have hr := Option.some.inj hF
      exact ⟨congrArg (fun (r : Int) => Ending.returned (.int .i64 r)) hr, hS.below⟩
set_option maxHeartbeats 4000000 in
theorem spec_IsValidQuery_ok {w0 : World} {a0 : Int} {u1 : Value} {a1 : List (ByteArray × List Int)} {u2 : Value} {a2 : List Int} (ha1 : (sliceR (pairR strR (sliceR intR 3)) 96).rd w0 [u1] a1) (ha2 : (sliceR intR 3).rd w0 [u2] a2) {N : Nat} {r : Bool} (hF : spec_IsValidQuery N a0 a1 a2 = some r) :
    Calls Try.prog 37 #[.agg #[.int .i64 a0, u1, u2]] w0 fun e w' => e = .returned (.bool r) ∧ Ext w0 w' := by
  unfold spec_IsValidQuery at hF
  refine calls_E Try.func37 rfl rfl (of_decide_eq_true rfl) ?_
  have hS := Sat.start w0
  refine cw_seq ?_
  refine cw_gen ?_
  intro Q101 hQ101
  refine cw_reg ?_
  refine el_box [.int .i64 a0, u1, u2] rfl hS (by decide) ?_
  intro w102 b103 hS hx104
  refine el_pv (v := .bool false) (pv_assign rfl) (by decide) ?_
  refine el_nil ?_
  refine hQ101 _ _ _ ?_
  refine thn_n ?_
  refine cw_seq ?_
  refine cw_gen ?_
  intro Q106 hQ106
  refine cw_seq ?_
  refine cw_gen ?_
  intro Q107 hQ107
  refine cw_reg ?_
  refine el_pv (v := .pointer (some ⟨b103, 0 + 0, none⟩)) (pv_fieldAddr rfl) (by decide) ?_
  refine el_pv (v := .int .i64 a0) (pv_loadc rfl ((hS.boxAt 0 rfl) 0 _ rfl)) (by decide) ?_
  replace hF := ob hF
  obtain ⟨r108, hr108, hF⟩ := hF
  refine el_call goes38 (spec_l1In_ok hr108) (congrArg List.toArray (mapc rfl (mapc rfl (mapc rfl rfl)))) (by decide) ?_
  rintro _ w109 ⟨rfl, hx110⟩
  refine ⟨_, rfl, ?_⟩
  replace hS := hS.ext hx110
  refine el_pv (v := .bool (!r108)) (pv_not rfl) (by decide) ?_
  refine el_pv (v := .bool (!r108)) (pv_move rfl) (by decide) ?_
  replace hF := oif hF
  rcases hF with ⟨hb111, hF⟩ | ⟨hb111, hF⟩
  · refine el_on rfl (bnot_t hb111) ?_
    refine el_pv (v := .pointer (some ⟨b103, 0 + 1, none⟩)) (pv_fieldAddr rfl) (by decide) ?_
    refine el_on rfl (bnot_t hb111) ?_
    refine el_pv (v := u1) (pv_loadc rfl ((hS.boxAt 0 rfl) 1 _ rfl)) (by decide) ?_
    refine el_on rfl (bnot_t hb111) ?_
    refine el_pv (v := .int .i64 (a1.length : Int)) (pv_len rfl ha1) (by decide) ?_
    refine el_on rfl (bnot_t hb111) ?_
    replace hF := ob hF
    obtain ⟨r112, hr112, hF⟩ := hF
    refine el_call goes38 (spec_l1In_ok hr112) (congrArg List.toArray (mapc rfl (mapc rfl (mapc rfl rfl)))) (by decide) ?_
    rintro _ w113 ⟨rfl, hx114⟩
    refine ⟨_, rfl, ?_⟩
    replace hS := hS.ext hx114
    refine el_on rfl (bnot_t hb111) ?_
    refine el_pv (v := .bool (!r112)) (pv_not rfl) (by decide) ?_
    refine el_pv (v := .bool (!r112)) (pv_pick_f rfl (bnot_t hb111) rfl) (by decide) ?_
    refine el_pv (v := .bool (!r112)) (pv_move rfl) (by decide) ?_
    replace hF := oif hF
    rcases hF with ⟨hb115, hF⟩ | ⟨hb115, hF⟩
    · refine el_on rfl (bnot_t hb115) ?_
      refine el_pv (v := .pointer (some ⟨b103, 0 + 2, none⟩)) (pv_fieldAddr rfl) (by decide) ?_
      refine el_on rfl (bnot_t hb115) ?_
      refine el_pv (v := u2) (pv_loadc rfl ((hS.boxAt 0 rfl) 2 _ rfl)) (by decide) ?_
      refine el_on rfl (bnot_t hb115) ?_
      refine el_pv (v := .int .i64 (a2.length : Int)) (pv_len rfl ha2) (by decide) ?_
      refine el_on rfl (bnot_t hb115) ?_
      refine el_pv (v := .pointer (some ⟨b103, 0 + 0, none⟩)) (pv_fieldAddr rfl) (by decide) ?_
      refine el_on rfl (bnot_t hb115) ?_
      refine el_pv (v := .int .i64 a0) (pv_loadc rfl ((hS.boxAt 0 rfl) 0 _ rfl)) (by decide) ?_
      refine el_on rfl (bnot_t hb115) ?_
      refine el_pv (v := .bool (decide (a0 < (a2.length : Int)))) (pv_gtr rfl rfl) (by decide) ?_
      refine el_pv (v := .bool (decide (a0 < (a2.length : Int)))) (pv_pick_f rfl (bnot_t hb115) rfl) (by decide) ?_
      refine el_nil ?_
      refine hQ107 _ _ _ ?_
      refine thn_n ?_
      replace hF := oif hF
      rcases hF with ⟨hb116, hF⟩ | ⟨hb116, hF⟩
      · refine cw_cond_t rfl hb116 ?_
        refine cw_seq ?_
        refine cw_gen ?_
        intro Q117 hQ117
        replace hS : Sat w0 w113 [] := hS.rems 1 [0] rfl
        refine cw_reg ?_
        refine el_pv (v := .bool false) (pv_assign rfl) (by decide) ?_
        refine el_nil ?_
        refine hQ117 _ _ _ ?_
        refine thn_n ?_
        refine cw_ret ?_
        refine hQ106 _ _ _ ?_
        refine thn_r ?_
        refine fin1 rfl rfl ?_
        have hr := Option.some.inj hF
        exact ⟨congrArg (fun (r : Bool) => Ending.returned (.bool r)) hr, hS.below⟩
      · refine cw_cond_f rfl hb116 ?_
        refine cw_skip ?_
        refine hQ106 _ _ _ ?_
        refine thn_n ?_
        refine cw_seq ?_
        refine cw_gen ?_
        intro Q118 hQ118
        refine cw_seq ?_
        refine cw_gen ?_
        intro Q119 hQ119
        refine cw_reg ?_
        refine el_pv (v := .int .i64 0) (pv_assign rfl) (by decide) ?_
        refine el_nil ?_
        refine hQ119 _ _ _ ?_
        refine thn_n ?_
        refine cw_block ?_
        refine cw_gen ?_
        intro Q120 hQ120
        obtain ⟨s121, hL, hK122⟩ := ob hF
        refine cw_loopS (fun k e w => ∃ (x123 : Int), e 1 = .pointer (some ⟨b103, 0, none⟩) ∧ e 3 = .int .i64 x123 ∧ Sat w0 w [Box b103 30 [.int .i64 a0, u1, u2]] ∧ spec_IsValidQuery_L1 N k a0 a1 a2 x123 = some s121) N ?_ ?_ ?_
        · exact ⟨0, rfl, rfl, hS, hL⟩
        · rintro e w ⟨_, _, _, _, hz⟩; exact nomatch (show none = some _ from hz)
        · rintro k e127 w126 ⟨x123, he124, he125, hS, hF⟩
          refine cw_gen ?_
          intro Q128 hQ128
          refine cw_seq ?_
          refine cw_gen ?_
          intro Q129 hQ129
          refine cw_seq ?_
          refine cw_gen ?_
          intro Q130 hQ130
          refine cw_reg ?_
          refine el_pv (v := .int .i64 x123) (pv_move he125) (by decide) ?_
          refine el_pv (v := .pointer (some ⟨b103, 0 + 1, none⟩)) (pv_fieldAddr he124) (by decide) ?_
          refine el_pv (v := u1) (pv_loadc rfl ((hS.boxAt 0 rfl) 1 _ rfl)) (by decide) ?_
          refine el_pv (v := .int .i64 (a1.length : Int)) (pv_len rfl ha1) (by decide) ?_
          refine el_pv (v := .bool (decide (x123 < (a1.length : Int)))) (pv_lss rfl rfl) (by decide) ?_
          refine el_nil ?_
          refine hQ130 _ _ _ ?_
          refine thn_n ?_
          replace hF := oif hF
          rcases hF with ⟨hb131, hF⟩ | ⟨hb131, hF⟩
          · refine cw_cond_t rfl hb131 ?_
            refine cw_skip ?_
            refine hQ129 _ _ _ ?_
            refine thn_n ?_
            refine cw_seq ?_
            refine cw_gen ?_
            intro Q132 hQ132
            refine cw_block ?_
            refine cw_gen ?_
            intro Q133 hQ133
            refine cw_seq ?_
            refine cw_gen ?_
            intro Q134 hQ134
            refine cw_seq ?_
            refine cw_gen ?_
            intro Q135 hQ135
            refine cw_reg ?_
            refine el_pv (v := .pointer (some ⟨b103, 0 + 1, none⟩)) (pv_fieldAddr he124) (by decide) ?_
            refine el_pv (v := u1) (pv_loadc rfl ((hS.boxAt 0 rfl) 1 _ rfl)) (by decide) ?_
            refine el_pv (v := .int .i64 x123) (pv_move he125) (by decide) ?_
            replace hF := ob hF
            obtain ⟨x136, hx136, hF⟩ := hF
            refine el_index (wA := w0) rfl ha1 rfl (by decide) rfl hx136 (by decide) ?_
            intro b137 of138 c139 hr140 hm141
            obtain ⟨_, _, rfl, hr142, hr143⟩ := hr140
            obtain ⟨rfl, hz144⟩ := hr142
            obtain ⟨v145, rfl⟩ := slice_one hr143
            refine el_pv (v := .pointer (some ⟨b137, of138 + 0, none⟩)) (pv_fieldAddr rfl) (by decide) ?_
            refine el_pv (v := .string x136.1) (pv_loadc rfl ((cells_up hS.below hm141) 0 _ rfl)) (by decide) ?_
            replace hF := ob hF
            obtain ⟨r146, hr146, hF⟩ := hF
            refine el_call goes77 (spec_IsValidName_ok hz144 hr146) (congrArg List.toArray (mapc rfl rfl)) (by decide) ?_
            rintro _ w147 ⟨rfl, hx148⟩
            refine ⟨_, rfl, ?_⟩
            replace hS := hS.ext hx148
            refine el_pv (v := .bool (!r146)) (pv_not rfl) (by decide) ?_
            refine el_pv (v := .bool (!r146)) (pv_move rfl) (by decide) ?_
            replace hF := oif hF
            rcases hF with ⟨hb149, hF⟩ | ⟨hb149, hF⟩
            · refine el_on rfl (bnot_t hb149) ?_
              refine el_pv (v := .pointer (some ⟨b103, 0 + 1, none⟩)) (pv_fieldAddr he124) (by decide) ?_
              refine el_on rfl (bnot_t hb149) ?_
              refine el_pv (v := u1) (pv_loadc rfl ((hS.boxAt 0 rfl) 1 _ rfl)) (by decide) ?_
              refine el_on rfl (bnot_t hb149) ?_
              refine el_pv (v := .int .i64 x123) (pv_move he125) (by decide) ?_
              refine el_on rfl (bnot_t hb149) ?_
              replace hF := ob hF
              obtain ⟨x150, hx150, hF⟩ := hF
              refine el_index (wA := w0) rfl ha1 rfl (by decide) rfl hx150 (by decide) ?_
              intro b151 of152 c153 hr154 hm155
              obtain ⟨_, _, rfl, hr156, hr157⟩ := hr154
              obtain ⟨rfl, hz158⟩ := hr156
              obtain ⟨v159, rfl⟩ := slice_one hr157
              refine el_on rfl (bnot_t hb149) ?_
              refine el_pv (v := .pointer (some ⟨b151, of152 + 1, none⟩)) (pv_fieldAddr rfl) (by decide) ?_
              refine el_on rfl (bnot_t hb149) ?_
              refine el_pv (v := v159) (pv_loadc rfl ((cells_up hS.below hm155) 1 _ rfl)) (by decide) ?_
              refine el_on rfl (bnot_t hb149) ?_
              refine el_pv (v := .int .i64 (x150.2.length : Int)) (pv_len rfl hr157) (by decide) ?_
              refine el_on rfl (bnot_t hb149) ?_
              replace hF := ob hF
              obtain ⟨r160, hr160, hF⟩ := hF
              refine el_call goes38 (spec_l1In_ok hr160) (congrArg List.toArray (mapc rfl (mapc rfl (mapc rfl rfl)))) (by decide) ?_
              rintro _ w161 ⟨rfl, hx162⟩
              refine ⟨_, rfl, ?_⟩
              replace hS := hS.ext hx162
              refine el_on rfl (bnot_t hb149) ?_
              refine el_pv (v := .bool (!r160)) (pv_not rfl) (by decide) ?_
              refine el_pv (v := .bool (!r160)) (pv_pick_f rfl (bnot_t hb149) rfl) (by decide) ?_
              refine el_nil ?_
              refine hQ135 _ _ _ ?_
              refine thn_n ?_
              replace hF := oif hF
              rcases hF with ⟨hb163, hF⟩ | ⟨hb163, hF⟩
              · refine cw_cond_f rfl (bnot_t hb163) ?_
                refine cw_skip ?_
                refine hQ134 _ _ _ ?_
                refine thn_n ?_
                refine cw_seq ?_
                refine cw_gen ?_
                intro Q164 hQ164
                refine cw_reg ?_
                refine el_pv (v := .int .i64 0) (pv_assign rfl) (by decide) ?_
                refine el_nil ?_
                refine hQ164 _ _ _ ?_
                refine thn_n ?_
                refine cw_block ?_
                refine cw_gen ?_
                intro Q165 hQ165
                obtain ⟨s166, hL, hK167⟩ := ob hF
                refine cw_loopS (fun k e w => ∃ (x168 : Int), e 1 = .pointer (some ⟨b103, 0, none⟩) ∧ e 3 = .int .i64 x123 ∧ e 4 = .int .i64 x168 ∧ Sat w0 w [Box b103 30 [.int .i64 a0, u1, u2]] ∧ spec_IsValidQuery_L2 N k a0 a1 a2 x123 x168 = some s166) N ?_ ?_ ?_
                · exact ⟨0, he124, he125, rfl, hS, hL⟩
                · rintro e w ⟨_, _, _, _, _, hz⟩; exact nomatch (show none = some _ from hz)
                · rintro k e173 w172 ⟨x168, he169, he170, he171, hS, hF⟩
                  refine cw_gen ?_
                  intro Q174 hQ174
                  refine cw_seq ?_
                  refine cw_gen ?_
                  intro Q175 hQ175
                  refine cw_seq ?_
                  refine cw_gen ?_
                  intro Q176 hQ176
                  refine cw_reg ?_
                  refine el_pv (v := .int .i64 x168) (pv_move he171) (by decide) ?_
                  refine el_pv (v := .pointer (some ⟨b103, 0 + 1, none⟩)) (pv_fieldAddr he169) (by decide) ?_
                  refine el_pv (v := u1) (pv_loadc rfl ((hS.boxAt 0 rfl) 1 _ rfl)) (by decide) ?_
                  refine el_pv (v := .int .i64 x123) (pv_move he170) (by decide) ?_
                  replace hF := ob hF
                  obtain ⟨x177, hx177, hF⟩ := hF
                  refine el_index (wA := w0) rfl ha1 rfl (by decide) rfl hx177 (by decide) ?_
                  intro b178 of179 c180 hr181 hm182
                  obtain ⟨_, _, rfl, hr183, hr184⟩ := hr181
                  obtain ⟨rfl, hz185⟩ := hr183
                  obtain ⟨v186, rfl⟩ := slice_one hr184
                  refine el_pv (v := .pointer (some ⟨b178, of179 + 1, none⟩)) (pv_fieldAddr rfl) (by decide) ?_
                  refine el_pv (v := v186) (pv_loadc rfl ((cells_up hS.below hm182) 1 _ rfl)) (by decide) ?_
                  refine el_pv (v := .int .i64 (x177.2.length : Int)) (pv_len rfl hr184) (by decide) ?_
                  refine el_pv (v := .bool (decide (x168 < (x177.2.length : Int)))) (pv_lss rfl rfl) (by decide) ?_
                  refine el_nil ?_
                  refine hQ176 _ _ _ ?_
                  refine thn_n ?_
                  replace hF := oif hF
                  rcases hF with ⟨hb187, hF⟩ | ⟨hb187, hF⟩
                  · refine cw_cond_t rfl hb187 ?_
                    refine cw_skip ?_
                    refine hQ175 _ _ _ ?_
                    refine thn_n ?_
                    refine cw_seq ?_
                    refine cw_gen ?_
                    intro Q188 hQ188
                    refine cw_block ?_
                    refine cw_gen ?_
                    intro Q189 hQ189
                    refine cw_seq ?_
                    refine cw_gen ?_
                    intro Q190 hQ190
                    refine cw_regq (by kernel_rfl) (by kernel_rfl) ?_
                    refine ql_pv (v := .pointer (some ⟨b103, 0 + 1, none⟩)) (pv_fieldAddr he169) (by decide) ?_
                    refine ql_pv (v := u1) (pv_loadc rfl ((hS.boxAt 0 rfl) 1 _ rfl)) (by decide) ?_
                    refine ql_pv (v := .int .i64 x123) (pv_move he170) (by decide) ?_
                    replace hF := ob hF
                    obtain ⟨x191, hx191, hF⟩ := hF
                    refine ql_index (wA := w0) rfl ha1 rfl (by decide) rfl hx191 (by decide) ?_
                    intro b192 of193 c194 hr195 hm196
                    obtain ⟨_, _, rfl, hr197, hr198⟩ := hr195
                    obtain ⟨rfl, hz199⟩ := hr197
                    obtain ⟨v200, rfl⟩ := slice_one hr198
                    refine ql_pv (v := .pointer (some ⟨b192, of193 + 1, none⟩)) (pv_fieldAddr rfl) (by decide) ?_
                    refine ql_pv (v := v200) (pv_loadc rfl ((cells_up hS.below hm196) 1 _ rfl)) (by decide) ?_
                    refine ql_pv (v := .int .i64 x168) (pv_move he171) (by decide) ?_
                    replace hF := ob hF
                    obtain ⟨x201, hx201, hF⟩ := hF
                    refine ql_index (wA := w0) rfl hr198 rfl (by decide) rfl hx201 (by decide) ?_
                    intro b202 of203 c204 hr205 hm206
                    obtain rfl := hr205
                    refine ql_pv (v := .int .i64 x201) (pv_loadc rfl ((cells_up hS.below hm206) 0 _ rfl)) (by decide) ?_
                    refine ql_pv (v := .pointer (some ⟨b103, 0 + 0, none⟩)) (pv_fieldAddr he169) (by decide) ?_
                    refine ql_pv (v := .int .i64 a0) (pv_loadc rfl ((hS.boxAt 0 rfl) 0 _ rfl)) (by decide) ?_
                    replace hF := ob hF
                    obtain ⟨x207, hx207, hF⟩ := hF
                    refine ql_pv (v := .int .i64 x207) (pv_sub rfl rfl hx207) (by decide) ?_
                    replace hF := ob hF
                    obtain ⟨r208, hr208, hF⟩ := hF
                    refine ql_call (.bool r208) goes38 (fun w' hw' => spec_l1In_ok hr208) (congrArg List.toArray (mapc rfl (mapc rfl (mapc rfl rfl)))) (by decide) ?_
                    refine ql_pv (v := .bool (!r208)) (pv_not rfl) (by decide) ?_
                    refine ql_nil ?_
                    intro w209 hx210
                    replace hS := hS.ext hx210
                    refine hQ190 _ _ _ ?_
                    refine thn_n ?_
                    replace hF := oif hF
                    rcases hF with ⟨hb211, hF⟩ | ⟨hb211, hF⟩
                    · refine cw_cond_f rfl (bnot_t hb211) ?_
                      refine cw_skip ?_
                      refine hQ189 _ _ _ ?_
                      refine inb_n ?_
                      refine hQ188 _ _ _ ?_
                      refine thn_n ?_
                      refine cw_reg ?_
                      refine el_pv (v := .int .i64 x168) (pv_move he171) (by decide) ?_
                      replace hF := ob hF
                      obtain ⟨x212, hx212, hF⟩ := hF
                      refine el_pv (v := .int .i64 x212) (pv_add rfl rfl hx212) (by decide) ?_
                      refine el_pv (v := .int .i64 x212) (pv_assign rfl) (by decide) ?_
                      refine el_nil ?_
                      refine hQ174 _ _ _ ?_
                      refine thn_n ?_
                      replace hS := hS.keep 1
                      exact ⟨x212, he169, he170, rfl, hS, hF⟩
                    · refine cw_cond_t rfl (bnot_f hb211) ?_
                      refine cw_seq ?_
                      refine cw_gen ?_
                      intro Q213 hQ213
                      replace hS : Sat w0 w209 [] := hS.rems 1 [0] rfl
                      refine cw_reg ?_
                      refine el_pv (v := .bool false) (pv_assign rfl) (by decide) ?_
                      refine el_nil ?_
                      refine hQ213 _ _ _ ?_
                      refine thn_n ?_
                      refine cw_ret ?_
                      refine hQ189 _ _ _ ?_
                      refine inb_r ?_
                      refine hQ188 _ _ _ ?_
                      refine thn_r ?_
                      refine hQ174 _ _ _ ?_
                      refine thn_r ?_
                      refine hQ165 _ _ _ ?_
                      refine inb_r ?_
                      refine hQ133 _ _ _ ?_
                      refine inb_r ?_
                      refine hQ132 _ _ _ ?_
                      refine thn_r ?_
                      refine hQ128 _ _ _ ?_
                      refine thn_r ?_
                      refine hQ120 _ _ _ ?_
                      refine inb_r ?_
                      refine hQ118 _ _ _ ?_
                      refine thn_r ?_
                      replace hF := exL hF hK167
                      replace hF := exL hF hK122
                      refine fin1 rfl rfl ?_
                      have hr := Option.some.inj hF
                      exact ⟨congrArg (fun (r : Bool) => Ending.returned (.bool r)) hr, hS.below⟩
                  · refine cw_cond_f rfl hb187 ?_
                    refine cw_exit ?_
                    refine hQ175 _ _ _ ?_
                    refine thn_x ?_
                    refine hQ174 _ _ _ ?_
                    refine thn_x ?_
                    replace hF := exA hF hK167
                    refine hQ165 _ _ _ ?_
                    refine inb_s ?_
                    refine hQ133 _ _ _ ?_
                    refine inb_n ?_
                    refine hQ132 _ _ _ ?_
                    refine thn_n ?_
                    refine cw_reg ?_
                    refine el_pv (v := .int .i64 x123) (pv_move he170) (by decide) ?_
                    replace hF := ob hF
                    obtain ⟨x214, hx214, hF⟩ := hF
                    refine el_pv (v := .int .i64 x214) (pv_add rfl rfl hx214) (by decide) ?_
                    refine el_pv (v := .int .i64 x214) (pv_assign rfl) (by decide) ?_
                    refine el_nil ?_
                    refine hQ128 _ _ _ ?_
                    refine thn_n ?_
                    replace hS := hS.keep 1
                    exact ⟨x214, he169, rfl, hS, hF⟩
              · refine cw_cond_t rfl (bnot_f hb163) ?_
                refine cw_seq ?_
                refine cw_gen ?_
                intro Q215 hQ215
                replace hS : Sat w0 w161 [] := hS.rems 1 [0] rfl
                refine cw_reg ?_
                refine el_pv (v := .bool false) (pv_assign rfl) (by decide) ?_
                refine el_nil ?_
                refine hQ215 _ _ _ ?_
                refine thn_n ?_
                refine cw_ret ?_
                refine hQ134 _ _ _ ?_
                refine thn_r ?_
                refine hQ133 _ _ _ ?_
                refine inb_r ?_
                refine hQ132 _ _ _ ?_
                refine thn_r ?_
                refine hQ128 _ _ _ ?_
                refine thn_r ?_
                refine hQ120 _ _ _ ?_
                refine inb_r ?_
                refine hQ118 _ _ _ ?_
                refine thn_r ?_
                replace hF := exL hF hK122
                refine fin1 rfl rfl ?_
                have hr := Option.some.inj hF
                exact ⟨congrArg (fun (r : Bool) => Ending.returned (.bool r)) hr, hS.below⟩
            · refine el_off rfl (bnot_f hb149) rfl (by decide) ?_
              refine el_off rfl (bnot_f hb149) rfl (by decide) ?_
              refine el_off rfl (bnot_f hb149) rfl (by decide) ?_
              refine el_off rfl (bnot_f hb149) rfl (by decide) ?_
              refine el_off rfl (bnot_f hb149) rfl (by decide) ?_
              refine el_off rfl (bnot_f hb149) rfl (by decide) ?_
              refine el_off rfl (bnot_f hb149) rfl (by decide) ?_
              refine el_off rfl (bnot_f hb149) rfl (by decide) ?_
              refine el_off rfl (bnot_f hb149) rfl (by decide) ?_
              refine el_pv (v := .bool true) (pv_pick_t rfl (bnot_f hb149) rfl) (by decide) ?_
              refine el_nil ?_
              refine hQ135 _ _ _ ?_
              refine thn_n ?_
              refine cw_cond_t rfl rfl ?_
              refine cw_seq ?_
              refine cw_gen ?_
              intro Q216 hQ216
              replace hS : Sat w0 w147 [] := hS.rems 1 [0] rfl
              refine cw_reg ?_
              refine el_pv (v := .bool false) (pv_assign rfl) (by decide) ?_
              refine el_nil ?_
              refine hQ216 _ _ _ ?_
              refine thn_n ?_
              refine cw_ret ?_
              refine hQ134 _ _ _ ?_
              refine thn_r ?_
              refine hQ133 _ _ _ ?_
              refine inb_r ?_
              refine hQ132 _ _ _ ?_
              refine thn_r ?_
              refine hQ128 _ _ _ ?_
              refine thn_r ?_
              refine hQ120 _ _ _ ?_
              refine inb_r ?_
              refine hQ118 _ _ _ ?_
              refine thn_r ?_
              replace hF := exL hF hK122
              refine fin1 rfl rfl ?_
              have hr := Option.some.inj hF
              exact ⟨congrArg (fun (r : Bool) => Ending.returned (.bool r)) hr, hS.below⟩
          · refine cw_cond_f rfl hb131 ?_
            refine cw_exit ?_
            refine hQ129 _ _ _ ?_
            refine thn_x ?_
            refine hQ128 _ _ _ ?_
            refine thn_x ?_
            replace hF := exA hF hK122
            refine hQ120 _ _ _ ?_
            refine inb_s ?_
            refine hQ118 _ _ _ ?_
            refine thn_n ?_
            refine cw_seq ?_
            refine cw_gen ?_
            intro Q217 hQ217
            refine cw_seq ?_
            refine cw_gen ?_
            intro Q218 hQ218
            refine cw_reg ?_
            refine el_pv (v := .int .i64 0) (pv_assign rfl) (by decide) ?_
            refine el_nil ?_
            refine hQ218 _ _ _ ?_
            refine thn_n ?_
            refine cw_block ?_
            refine cw_gen ?_
            intro Q219 hQ219
            obtain ⟨s220, hL, hK221⟩ := ob hF
            refine cw_loopS (fun k e w => ∃ (x222 : Int), e 1 = .pointer (some ⟨b103, 0, none⟩) ∧ e 5 = .int .i64 x222 ∧ Sat w0 w [Box b103 30 [.int .i64 a0, u1, u2]] ∧ spec_IsValidQuery_L3 N k a0 a1 a2 x222 = some s220) N ?_ ?_ ?_
            · exact ⟨0, he124, rfl, hS, hL⟩
            · rintro e w ⟨_, _, _, _, hz⟩; exact nomatch (show none = some _ from hz)
            · rintro k e226 w225 ⟨x222, he223, he224, hS, hF⟩
              refine cw_gen ?_
              intro Q227 hQ227
              refine cw_seq ?_
              refine cw_gen ?_
              intro Q228 hQ228
              refine cw_seq ?_
              refine cw_gen ?_
              intro Q229 hQ229
              refine cw_reg ?_
              refine el_pv (v := .int .i64 x222) (pv_move he224) (by decide) ?_
              refine el_pv (v := .pointer (some ⟨b103, 0 + 0, none⟩)) (pv_fieldAddr he223) (by decide) ?_
              refine el_pv (v := .int .i64 a0) (pv_loadc rfl ((hS.boxAt 0 rfl) 0 _ rfl)) (by decide) ?_
              refine el_pv (v := .bool (decide (x222 < a0))) (pv_lss rfl rfl) (by decide) ?_
              refine el_nil ?_
              refine hQ229 _ _ _ ?_
              refine thn_n ?_
              replace hF := oif hF
              rcases hF with ⟨hb230, hF⟩ | ⟨hb230, hF⟩
              · refine cw_cond_t rfl hb230 ?_
                refine cw_skip ?_
                refine hQ228 _ _ _ ?_
                refine thn_n ?_
                refine cw_seq ?_
                refine cw_gen ?_
                intro Q231 hQ231
                refine cw_block ?_
                refine cw_gen ?_
                intro Q232 hQ232
                refine cw_seq ?_
                refine cw_gen ?_
                intro Q233 hQ233
                refine cw_reg ?_
                refine el_pv (v := .bool false) (pv_assign rfl) (by decide) ?_
                refine el_nil ?_
                refine hQ233 _ _ _ ?_
                refine thn_n ?_
                refine cw_seq ?_
                refine cw_gen ?_
                intro Q234 hQ234
                refine cw_seq ?_
                refine cw_gen ?_
                intro Q235 hQ235
                refine cw_reg ?_
                refine el_pv (v := .int .i64 0) (pv_assign rfl) (by decide) ?_
                refine el_nil ?_
                refine hQ235 _ _ _ ?_
                refine thn_n ?_
                refine cw_block ?_
                refine cw_gen ?_
                intro Q236 hQ236
                obtain ⟨s237, hL, hK238⟩ := ob hF
                refine cw_loopS (fun k e w => ∃ (x239 : Bool), ∃ (x240 : Int), e 1 = .pointer (some ⟨b103, 0, none⟩) ∧ e 5 = .int .i64 x222 ∧ e 6 = .bool x239 ∧ e 7 = .int .i64 x240 ∧ Sat w0 w [Box b103 30 [.int .i64 a0, u1, u2]] ∧ spec_IsValidQuery_L4 N k a0 a1 a2 x222 x239 x240 = some s237) N ?_ ?_ ?_
                · exact ⟨false, 0, he223, he224, rfl, rfl, hS, hL⟩
                · rintro e w ⟨_, _, _, _, _, _, _, hz⟩; exact nomatch (show none = some _ from hz)
                · rintro k e246 w245 ⟨x239, x240, he241, he242, he243, he244, hS, hF⟩
                  refine cw_gen ?_
                  intro Q247 hQ247
                  refine cw_seq ?_
                  refine cw_gen ?_
                  intro Q248 hQ248
                  refine cw_seq ?_
                  refine cw_gen ?_
                  intro Q249 hQ249
                  refine cw_reg ?_
                  refine el_pv (v := .int .i64 x240) (pv_move he244) (by decide) ?_
                  refine el_pv (v := .pointer (some ⟨b103, 0 + 1, none⟩)) (pv_fieldAddr he241) (by decide) ?_
                  refine el_pv (v := u1) (pv_loadc rfl ((hS.boxAt 0 rfl) 1 _ rfl)) (by decide) ?_
                  refine el_pv (v := .int .i64 (a1.length : Int)) (pv_len rfl ha1) (by decide) ?_
                  refine el_pv (v := .bool (decide (x240 < (a1.length : Int)))) (pv_lss rfl rfl) (by decide) ?_
                  refine el_nil ?_
                  refine hQ249 _ _ _ ?_
                  refine thn_n ?_
                  replace hF := oif hF
                  rcases hF with ⟨hb250, hF⟩ | ⟨hb250, hF⟩
                  · refine cw_cond_t rfl hb250 ?_
                    refine cw_skip ?_
                    refine hQ248 _ _ _ ?_
                    refine thn_n ?_
                    refine cw_seq ?_
                    refine cw_gen ?_
                    intro Q251 hQ251
                    refine cw_block ?_
                    refine cw_gen ?_
                    intro Q252 hQ252
                    refine cw_reg ?_
                    refine el_pv (v := .bool x239) (pv_move he243) (by decide) ?_
                    refine el_pv (v := .bool x239) (pv_move rfl) (by decide) ?_
                    replace hF := oif hF
                    rcases hF with ⟨hb253, hF⟩ | ⟨hb253, hF⟩
                    · refine el_off rfl hb253 rfl (by decide) ?_
                      refine el_off rfl hb253 rfl (by decide) ?_
                      refine el_off rfl hb253 rfl (by decide) ?_
                      refine el_off rfl hb253 rfl (by decide) ?_
                      refine el_off rfl hb253 rfl (by decide) ?_
                      refine el_off rfl hb253 rfl (by decide) ?_
                      refine el_off rfl hb253 rfl (by decide) ?_
                      refine el_pv (v := .bool true) (pv_pick_t rfl hb253 rfl) (by decide) ?_
                      refine el_pv (v := .bool true) (pv_assign rfl) (by decide) ?_
                      refine el_nil ?_
                      refine hQ252 _ _ _ ?_
                      refine inb_n ?_
                      refine hQ251 _ _ _ ?_
                      refine thn_n ?_
                      refine cw_reg ?_
                      refine el_pv (v := .int .i64 x240) (pv_move he244) (by decide) ?_
                      replace hF := ob hF
                      obtain ⟨x254, hx254, hF⟩ := hF
                      refine el_pv (v := .int .i64 x254) (pv_add rfl rfl hx254) (by decide) ?_
                      refine el_pv (v := .int .i64 x254) (pv_assign rfl) (by decide) ?_
                      refine el_nil ?_
                      refine hQ247 _ _ _ ?_
                      refine thn_n ?_
                      replace hS := hS.keep 1
                      exact ⟨true, x254, he241, he242, rfl, rfl, hS, hF⟩
                    · refine el_on rfl hb253 ?_
                      refine el_pv (v := .pointer (some ⟨b103, 0 + 1, none⟩)) (pv_fieldAddr he241) (by decide) ?_
                      refine el_on rfl hb253 ?_
                      refine el_pv (v := u1) (pv_loadc rfl ((hS.boxAt 0 rfl) 1 _ rfl)) (by decide) ?_
                      refine el_on rfl hb253 ?_
                      refine el_pv (v := .int .i64 x240) (pv_move he244) (by decide) ?_
                      refine el_on rfl hb253 ?_
                      replace hF := ob hF
                      obtain ⟨x255, hx255, hF⟩ := hF
                      refine el_index (wA := w0) rfl ha1 rfl (by decide) rfl hx255 (by decide) ?_
                      intro b256 of257 c258 hr259 hm260
                      obtain ⟨_, _, rfl, hr261, hr262⟩ := hr259
                      obtain ⟨rfl, hz263⟩ := hr261
                      obtain ⟨v264, rfl⟩ := slice_one hr262
                      refine el_on rfl hb253 ?_
                      refine el_pv (v := .agg #[.string x255.1, v264]) (pv_loada (cs := [.string x255.1, v264]) rfl rfl (cells_up hS.below hm260)) (by decide) ?_
                      refine el_on rfl hb253 ?_
                      refine el_pv (v := .int .i64 x222) (pv_move he242) (by decide) ?_
                      refine el_on rfl hb253 ?_
                      replace hF := ob hF
                      obtain ⟨r265, hr265, hF⟩ := hF
                      refine el_call goes78 (spec_ContainsVariable_ok hz263 (hS.up hr262) hr265) (congrArg List.toArray (mapc rfl (mapc rfl rfl))) (by decide) ?_
                      rintro _ w266 ⟨rfl, hx267⟩
                      refine ⟨_, rfl, ?_⟩
                      replace hS := hS.ext hx267
                      refine el_pv (v := .bool r265) (pv_pick_f rfl hb253 rfl) (by decide) ?_
                      refine el_pv (v := .bool r265) (pv_assign rfl) (by decide) ?_
                      refine el_nil ?_
                      refine hQ252 _ _ _ ?_
                      refine inb_n ?_
                      refine hQ251 _ _ _ ?_
                      refine thn_n ?_
                      refine cw_reg ?_
                      refine el_pv (v := .int .i64 x240) (pv_move he244) (by decide) ?_
                      replace hF := ob hF
                      obtain ⟨x268, hx268, hF⟩ := hF
                      refine el_pv (v := .int .i64 x268) (pv_add rfl rfl hx268) (by decide) ?_
                      refine el_pv (v := .int .i64 x268) (pv_assign rfl) (by decide) ?_
                      refine el_nil ?_
                      refine hQ247 _ _ _ ?_
                      refine thn_n ?_
                      replace hS := hS.keep 1
                      exact ⟨r265, x268, he241, he242, rfl, rfl, hS, hF⟩
                  · refine cw_cond_f rfl hb250 ?_
                    refine cw_exit ?_
                    refine hQ248 _ _ _ ?_
                    refine thn_x ?_
                    refine hQ247 _ _ _ ?_
                    refine thn_x ?_
                    replace hF := exB hF hK238
                    refine hQ236 _ _ _ ?_
                    refine inb_s ?_
                    refine hQ234 _ _ _ ?_
                    refine thn_n ?_
                    refine cw_seq ?_
                    refine cw_gen ?_
                    intro Q269 hQ269
                    refine cw_reg ?_
                    refine el_pv (v := .bool x239) (pv_move he243) (by decide) ?_
                    refine el_pv (v := .bool (!x239)) (pv_not rfl) (by decide) ?_
                    refine el_nil ?_
                    refine hQ269 _ _ _ ?_
                    refine thn_n ?_
                    replace hF := oif hF
                    rcases hF with ⟨hb270, hF⟩ | ⟨hb270, hF⟩
                    · refine cw_cond_f rfl (bnot_t hb270) ?_
                      refine cw_skip ?_
                      refine hQ232 _ _ _ ?_
                      refine inb_n ?_
                      refine hQ231 _ _ _ ?_
                      refine thn_n ?_
                      refine cw_reg ?_
                      refine el_pv (v := .int .i64 x222) (pv_move he242) (by decide) ?_
                      replace hF := ob hF
                      obtain ⟨x271, hx271, hF⟩ := hF
                      refine el_pv (v := .int .i64 x271) (pv_add rfl rfl hx271) (by decide) ?_
                      refine el_pv (v := .int .i64 x271) (pv_assign rfl) (by decide) ?_
                      refine el_nil ?_
                      refine hQ227 _ _ _ ?_
                      refine thn_n ?_
                      replace hS := hS.keep 1
                      exact ⟨x271, he241, rfl, hS, hF⟩
                    · refine cw_cond_t rfl (bnot_f hb270) ?_
                      refine cw_seq ?_
                      refine cw_gen ?_
                      intro Q272 hQ272
                      replace hS : Sat w0 w245 [] := hS.rems 1 [0] rfl
                      refine cw_reg ?_
                      refine el_pv (v := .bool false) (pv_assign rfl) (by decide) ?_
                      refine el_nil ?_
                      refine hQ272 _ _ _ ?_
                      refine thn_n ?_
                      refine cw_ret ?_
                      refine hQ232 _ _ _ ?_
                      refine inb_r ?_
                      refine hQ231 _ _ _ ?_
                      refine thn_r ?_
                      refine hQ227 _ _ _ ?_
                      refine thn_r ?_
                      refine hQ219 _ _ _ ?_
                      refine inb_r ?_
                      refine hQ217 _ _ _ ?_
                      refine thn_r ?_
                      replace hF := exL hF hK221
                      refine fin1 rfl rfl ?_
                      have hr := Option.some.inj hF
                      exact ⟨congrArg (fun (r : Bool) => Ending.returned (.bool r)) hr, hS.below⟩
              · refine cw_cond_f rfl hb230 ?_
                refine cw_exit ?_
                refine hQ228 _ _ _ ?_
                refine thn_x ?_
                refine hQ227 _ _ _ ?_
                refine thn_x ?_
                replace hF := exA hF hK221
                refine hQ219 _ _ _ ?_
                refine inb_s ?_
                refine hQ217 _ _ _ ?_
                refine thn_n ?_
                refine cw_seq ?_
                refine cw_gen ?_
                intro Q273 hQ273
                refine cw_seq ?_
                refine cw_gen ?_
                intro Q274 hQ274
                refine cw_reg ?_
                refine el_pv (v := .int .i64 0) (pv_assign rfl) (by decide) ?_
                refine el_nil ?_
                refine hQ274 _ _ _ ?_
                refine thn_n ?_
                refine cw_block ?_
                refine cw_gen ?_
                intro Q275 hQ275
                obtain ⟨s276, hL, hK277⟩ := ob hF
                refine cw_loopS (fun k e w => ∃ (x278 : Int), e 1 = .pointer (some ⟨b103, 0, none⟩) ∧ e 8 = .int .i64 x278 ∧ Sat w0 w [Box b103 30 [.int .i64 a0, u1, u2]] ∧ spec_IsValidQuery_L5 N k a0 a1 a2 x278 = some s276) N ?_ ?_ ?_
                · exact ⟨0, he223, rfl, hS, hL⟩
                · rintro e w ⟨_, _, _, _, hz⟩; exact nomatch (show none = some _ from hz)
                · rintro k e282 w281 ⟨x278, he279, he280, hS, hF⟩
                  refine cw_gen ?_
                  intro Q283 hQ283
                  refine cw_seq ?_
                  refine cw_gen ?_
                  intro Q284 hQ284
                  refine cw_seq ?_
                  refine cw_gen ?_
                  intro Q285 hQ285
                  refine cw_reg ?_
                  refine el_pv (v := .int .i64 x278) (pv_move he280) (by decide) ?_
                  refine el_pv (v := .pointer (some ⟨b103, 0 + 2, none⟩)) (pv_fieldAddr he279) (by decide) ?_
                  refine el_pv (v := u2) (pv_loadc rfl ((hS.boxAt 0 rfl) 2 _ rfl)) (by decide) ?_
                  refine el_pv (v := .int .i64 (a2.length : Int)) (pv_len rfl ha2) (by decide) ?_
                  refine el_pv (v := .bool (decide (x278 < (a2.length : Int)))) (pv_lss rfl rfl) (by decide) ?_
                  refine el_nil ?_
                  refine hQ285 _ _ _ ?_
                  refine thn_n ?_
                  replace hF := oif hF
                  rcases hF with ⟨hb286, hF⟩ | ⟨hb286, hF⟩
                  · refine cw_cond_t rfl hb286 ?_
                    refine cw_skip ?_
                    refine hQ284 _ _ _ ?_
                    refine thn_n ?_
                    refine cw_seq ?_
                    refine cw_gen ?_
                    intro Q287 hQ287
                    refine cw_block ?_
                    refine cw_gen ?_
                    intro Q288 hQ288
                    refine cw_seq ?_
                    refine cw_gen ?_
                    intro Q289 hQ289
                    refine cw_regq (by kernel_rfl) (by kernel_rfl) ?_
                    refine ql_pv (v := .pointer (some ⟨b103, 0 + 2, none⟩)) (pv_fieldAddr he279) (by decide) ?_
                    refine ql_pv (v := u2) (pv_loadc rfl ((hS.boxAt 0 rfl) 2 _ rfl)) (by decide) ?_
                    refine ql_pv (v := .int .i64 x278) (pv_move he280) (by decide) ?_
                    replace hF := ob hF
                    obtain ⟨x290, hx290, hF⟩ := hF
                    refine ql_index (wA := w0) rfl ha2 rfl (by decide) rfl hx290 (by decide) ?_
                    intro b291 of292 c293 hr294 hm295
                    obtain rfl := hr294
                    refine ql_pv (v := .int .i64 x290) (pv_loadc rfl ((cells_up hS.below hm295) 0 _ rfl)) (by decide) ?_
                    refine ql_pv (v := .pointer (some ⟨b103, 0 + 0, none⟩)) (pv_fieldAddr he279) (by decide) ?_
                    refine ql_pv (v := .int .i64 a0) (pv_loadc rfl ((hS.boxAt 0 rfl) 0 _ rfl)) (by decide) ?_
                    replace hF := ob hF
                    obtain ⟨x296, hx296, hF⟩ := hF
                    refine ql_pv (v := .int .i64 x296) (pv_sub rfl rfl hx296) (by decide) ?_
                    replace hF := ob hF
                    obtain ⟨r297, hr297, hF⟩ := hF
                    refine ql_call (.bool r297) goes38 (fun w' hw' => spec_l1In_ok hr297) (congrArg List.toArray (mapc rfl (mapc rfl (mapc rfl rfl)))) (by decide) ?_
                    refine ql_pv (v := .bool (!r297)) (pv_not rfl) (by decide) ?_
                    refine ql_pv (v := .bool (!r297)) (pv_move rfl) (by decide) ?_
                    replace hF := oif hF
                    rcases hF with ⟨hb298, hF⟩ | ⟨hb298, hF⟩
                    · refine ql_on rfl (bnot_t hb298) ?_
                      refine ql_pv (v := .pointer (some ⟨b103, 0 + 2, none⟩)) (pv_fieldAddr he279) (by decide) ?_
                      refine ql_on rfl (bnot_t hb298) ?_
                      refine ql_pv (v := u2) (pv_loadc rfl ((hS.boxAt 0 rfl) 2 _ rfl)) (by decide) ?_
                      refine ql_on rfl (bnot_t hb298) ?_
                      refine ql_pv (v := .int .i64 x278) (pv_move he280) (by decide) ?_
                      refine ql_on rfl (bnot_t hb298) ?_
                      replace hF := ob hF
                      obtain ⟨x299, hx299, hF⟩ := hF
                      refine ql_slice (wA := w0) rfl rfl ha2 (.inr ⟨rfl, rfl⟩) (.inl (congrArg some rfl)) hx299 (by decide) ?_
                      intro v300 hr301
                      refine ql_on rfl (bnot_t hb298) ?_
                      refine ql_pv (v := .pointer (some ⟨b103, 0 + 2, none⟩)) (pv_fieldAddr he279) (by decide) ?_
                      refine ql_on rfl (bnot_t hb298) ?_
                      refine ql_pv (v := u2) (pv_loadc rfl ((hS.boxAt 0 rfl) 2 _ rfl)) (by decide) ?_
                      refine ql_on rfl (bnot_t hb298) ?_
                      refine ql_pv (v := .int .i64 x278) (pv_move he280) (by decide) ?_
                      refine ql_on rfl (bnot_t hb298) ?_
                      replace hF := ob hF
                      obtain ⟨x302, hx302, hF⟩ := hF
                      refine ql_index (wA := w0) rfl ha2 rfl (by decide) rfl hx302 (by decide) ?_
                      intro b303 of304 c305 hr306 hm307
                      obtain rfl := hr306
                      refine ql_on rfl (bnot_t hb298) ?_
                      refine ql_pv (v := .int .i64 x302) (pv_loadc rfl ((cells_up hS.below hm307) 0 _ rfl)) (by decide) ?_
                      refine ql_on rfl (bnot_t hb298) ?_
                      replace hF := ob hF
                      obtain ⟨r308, hr308, hF⟩ := hF
                      refine ql_call (.int .i64 r308) goes79 (fun w' hw' => spec_l7Find_ok (rd_up (hS.up hr301) hw') hr308) (congrArg List.toArray (mapc rfl (mapc rfl rfl))) (by decide) ?_
                      refine ql_on rfl (bnot_t hb298) ?_
                      refine ql_pv (v := .bool (decide (0 ≤ r308))) (pv_geq rfl rfl) (by decide) ?_
                      refine ql_pv (v := .bool (decide (0 ≤ r308))) (pv_pick_f rfl (bnot_t hb298) rfl) (by decide) ?_
                      refine ql_nil ?_
                      intro w309 hx310
                      replace hS := hS.ext hx310
                      refine hQ289 _ _ _ ?_
                      refine thn_n ?_
                      replace hF := oif hF
                      rcases hF with ⟨hb311, hF⟩ | ⟨hb311, hF⟩
                      · refine cw_cond_t rfl hb311 ?_
                        refine cw_seq ?_
                        refine cw_gen ?_
                        intro Q312 hQ312
                        replace hS : Sat w0 w309 [] := hS.rems 1 [0] rfl
                        refine cw_reg ?_
                        refine el_pv (v := .bool false) (pv_assign rfl) (by decide) ?_
                        refine el_nil ?_
                        refine hQ312 _ _ _ ?_
                        refine thn_n ?_
                        refine cw_ret ?_
                        refine hQ288 _ _ _ ?_
                        refine inb_r ?_
                        refine hQ287 _ _ _ ?_
                        refine thn_r ?_
                        refine hQ283 _ _ _ ?_
                        refine thn_r ?_
                        refine hQ275 _ _ _ ?_
                        refine inb_r ?_
                        refine hQ273 _ _ _ ?_
                        refine thn_r ?_
                        replace hF := exL hF hK277
                        refine fin1 rfl rfl ?_
                        have hr := Option.some.inj hF
                        exact ⟨congrArg (fun (r : Bool) => Ending.returned (.bool r)) hr, hS.below⟩
                      · refine cw_cond_f rfl hb311 ?_
                        refine cw_skip ?_
                        refine hQ288 _ _ _ ?_
                        refine inb_n ?_
                        refine hQ287 _ _ _ ?_
                        refine thn_n ?_
                        refine cw_reg ?_
                        refine el_pv (v := .int .i64 x278) (pv_move he280) (by decide) ?_
                        replace hF := ob hF
                        obtain ⟨x313, hx313, hF⟩ := hF
                        refine el_pv (v := .int .i64 x313) (pv_add rfl rfl hx313) (by decide) ?_
                        refine el_pv (v := .int .i64 x313) (pv_assign rfl) (by decide) ?_
                        refine el_nil ?_
                        refine hQ283 _ _ _ ?_
                        refine thn_n ?_
                        replace hS := hS.keep 1
                        exact ⟨x313, he279, rfl, hS, hF⟩
                    · refine ql_off rfl (bnot_f hb298) rfl (by decide) ?_
                      refine ql_off rfl (bnot_f hb298) rfl (by decide) ?_
                      refine ql_off rfl (bnot_f hb298) rfl (by decide) ?_
                      refine ql_off rfl (bnot_f hb298) rfl (by decide) ?_
                      refine ql_off rfl (bnot_f hb298) rfl (by decide) ?_
                      refine ql_off rfl (bnot_f hb298) rfl (by decide) ?_
                      refine ql_off rfl (bnot_f hb298) rfl (by decide) ?_
                      refine ql_off rfl (bnot_f hb298) rfl (by decide) ?_
                      refine ql_off rfl (bnot_f hb298) rfl (by decide) ?_
                      refine ql_off rfl (bnot_f hb298) rfl (by decide) ?_
                      refine ql_off rfl (bnot_f hb298) rfl (by decide) ?_
                      refine ql_pv (v := .bool true) (pv_pick_t rfl (bnot_f hb298) rfl) (by decide) ?_
                      refine ql_nil ?_
                      intro w314 hx315
                      replace hS := hS.ext hx315
                      refine hQ289 _ _ _ ?_
                      refine thn_n ?_
                      refine cw_cond_t rfl rfl ?_
                      refine cw_seq ?_
                      refine cw_gen ?_
                      intro Q316 hQ316
                      replace hS : Sat w0 w314 [] := hS.rems 1 [0] rfl
                      refine cw_reg ?_
                      refine el_pv (v := .bool false) (pv_assign rfl) (by decide) ?_
                      refine el_nil ?_
                      refine hQ316 _ _ _ ?_
                      refine thn_n ?_
                      refine cw_ret ?_
                      refine hQ288 _ _ _ ?_
                      refine inb_r ?_
                      refine hQ287 _ _ _ ?_
                      refine thn_r ?_
                      refine hQ283 _ _ _ ?_
                      refine thn_r ?_
                      refine hQ275 _ _ _ ?_
                      refine inb_r ?_
                      refine hQ273 _ _ _ ?_
                      refine thn_r ?_
                      replace hF := exL hF hK277
                      refine fin1 rfl rfl ?_
                      have hr := Option.some.inj hF
                      exact ⟨congrArg (fun (r : Bool) => Ending.returned (.bool r)) hr, hS.below⟩
                  · refine cw_cond_f rfl hb286 ?_
                    refine cw_exit ?_
                    refine hQ284 _ _ _ ?_
                    refine thn_x ?_
                    refine hQ283 _ _ _ ?_
                    refine thn_x ?_
                    replace hF := exA hF hK277
                    refine hQ275 _ _ _ ?_
                    refine inb_s ?_
                    refine hQ273 _ _ _ ?_
                    refine thn_n ?_
                    refine cw_seq ?_
                    refine cw_gen ?_
                    intro Q317 hQ317
                    replace hS : Sat w0 w281 [] := hS.rems 1 [0] rfl
                    refine cw_reg ?_
                    refine el_pv (v := .bool true) (pv_assign rfl) (by decide) ?_
                    refine el_nil ?_
                    refine hQ317 _ _ _ ?_
                    refine thn_n ?_
                    refine cw_ret ?_
                    refine fin1 rfl rfl ?_
                    have hr := Option.some.inj hF
                    exact ⟨congrArg (fun (r : Bool) => Ending.returned (.bool r)) hr, hS.below⟩
    · refine el_off rfl (bnot_f hb115) rfl (by decide) ?_
      refine el_off rfl (bnot_f hb115) rfl (by decide) ?_
      refine el_off rfl (bnot_f hb115) rfl (by decide) ?_
      refine el_off rfl (bnot_f hb115) rfl (by decide) ?_
      refine el_off rfl (bnot_f hb115) rfl (by decide) ?_
      refine el_off rfl (bnot_f hb115) rfl (by decide) ?_
      refine el_pv (v := .bool true) (pv_pick_t rfl (bnot_f hb115) rfl) (by decide) ?_
      refine el_nil ?_
      refine hQ107 _ _ _ ?_
      refine thn_n ?_
      refine cw_cond_t rfl rfl ?_
      refine cw_seq ?_
      refine cw_gen ?_
      intro Q318 hQ318
      replace hS : Sat w0 w113 [] := hS.rems 1 [0] rfl
      refine cw_reg ?_
      refine el_pv (v := .bool false) (pv_assign rfl) (by decide) ?_
      refine el_nil ?_
      refine hQ318 _ _ _ ?_
      refine thn_n ?_
      refine cw_ret ?_
      refine hQ106 _ _ _ ?_
      refine thn_r ?_
      refine fin1 rfl rfl ?_
      have hr := Option.some.inj hF
      exact ⟨congrArg (fun (r : Bool) => Ending.returned (.bool r)) hr, hS.below⟩
  · refine el_off rfl (bnot_f hb111) rfl (by decide) ?_
    refine el_off rfl (bnot_f hb111) rfl (by decide) ?_
    refine el_off rfl (bnot_f hb111) rfl (by decide) ?_
    refine el_off rfl (bnot_f hb111) rfl (by decide) ?_
    refine el_off rfl (bnot_f hb111) rfl (by decide) ?_
    refine el_pv (v := .bool true) (pv_pick_t rfl (bnot_f hb111) rfl) (by decide) ?_
    refine el_pv (v := .bool true) (pv_move rfl) (by decide) ?_
    refine el_off rfl rfl rfl (by decide) ?_
    refine el_off rfl rfl rfl (by decide) ?_
    refine el_off rfl rfl rfl (by decide) ?_
    refine el_off rfl rfl rfl (by decide) ?_
    refine el_off rfl rfl rfl (by decide) ?_
    refine el_off rfl rfl rfl (by decide) ?_
    refine el_pv (v := .bool true) (pv_pick_t rfl rfl rfl) (by decide) ?_
    refine el_nil ?_
    refine hQ107 _ _ _ ?_
    refine thn_n ?_
    refine cw_cond_t rfl rfl ?_
    refine cw_seq ?_
    refine cw_gen ?_
    intro Q319 hQ319
    replace hS : Sat w0 w109 [] := hS.rems 1 [0] rfl
    refine cw_reg ?_
    refine el_pv (v := .bool false) (pv_assign rfl) (by decide) ?_
    refine el_nil ?_
    refine hQ319 _ _ _ ?_
    refine thn_n ?_
    refine cw_ret ?_
    refine hQ106 _ _ _ ?_
    refine thn_r ?_
    refine fin1 rfl rfl ?_
    have hr := Option.some.inj hF
    exact ⟨congrArg (fun (r : Bool) => Ending.returned (.bool r)) hr, hS.below⟩
set_option maxHeartbeats 4000000 in
theorem spec_SeekBound_ok {w0 : World} {a0 : Int} {u1 : Value} {a1 : List (ByteArray × List Int)} {u2 : Value} {a2 : List Int} {a3 : Int} (ha1 : (sliceR (pairR strR (sliceR intR 3)) 96).rd w0 [u1] a1) (ha2 : (sliceR intR 3).rd w0 [u2] a2) {N : Nat} {r : Int} (hF : spec_SeekBound N a0 a1 a2 a3 = some r) :
    Calls Try.prog 8 #[.agg #[.int .i64 a0, u1, u2], .int .i64 a3] w0 fun e w' => e = .returned (.int .i64 r) ∧ Ext w0 w' := by
  unfold spec_SeekBound at hF
  refine calls_E Try.func8 rfl rfl (of_decide_eq_true rfl) ?_
  have hS := Sat.start w0
  refine cw_seq ?_
  refine cw_gen ?_
  intro Q101 hQ101
  refine cw_reg ?_
  refine el_box [.int .i64 a0, u1, u2] rfl hS (by decide) ?_
  intro w102 b103 hS hx104
  refine el_pv (v := .int .i64 0) (pv_assign rfl) (by decide) ?_
  refine el_nil ?_
  refine hQ101 _ _ _ ?_
  refine thn_n ?_
  refine cw_seq ?_
  refine cw_gen ?_
  intro Q106 hQ106
  refine cw_seq ?_
  refine cw_gen ?_
  intro Q107 hQ107
  refine cw_reg ?_
  refine el_pv (v := .agg #[.int .i64 a0, u1, u2]) (pv_loada (cs := [.int .i64 a0, u1, u2]) rfl rfl (boxc0 (hS.boxAt 0 rfl))) (by decide) ?_
  replace hF := ob hF
  obtain ⟨r108, hr108, hF⟩ := hF
  refine el_call goes37 (spec_IsValidQuery_ok (hS.up ha1) (hS.up ha2) hr108) (congrArg List.toArray (mapc rfl rfl)) (by decide) ?_
  rintro _ w109 ⟨rfl, hx110⟩
  refine ⟨_, rfl, ?_⟩
  replace hS := hS.ext hx110
  refine el_pv (v := .bool (!r108)) (pv_not rfl) (by decide) ?_
  refine el_pv (v := .bool (!r108)) (pv_move rfl) (by decide) ?_
  replace hF := oif hF
  rcases hF with ⟨hb111, hF⟩ | ⟨hb111, hF⟩
  · refine el_on rfl (bnot_t hb111) ?_
    refine el_pv (v := .int .i64 a3) (pv_move rfl) (by decide) ?_
    refine el_on rfl (bnot_t hb111) ?_
    replace hF := ob hF
    obtain ⟨r112, hr112, hF⟩ := hF
    refine el_call goes38 (spec_l1In_ok hr112) (congrArg List.toArray (mapc rfl (mapc rfl (mapc rfl rfl)))) (by decide) ?_
    rintro _ w113 ⟨rfl, hx114⟩
    refine ⟨_, rfl, ?_⟩
    replace hS := hS.ext hx114
    refine el_on rfl (bnot_t hb111) ?_
    refine el_pv (v := .bool (!r112)) (pv_not rfl) (by decide) ?_
    refine el_pv (v := .bool (!r112)) (pv_pick_f rfl (bnot_t hb111) rfl) (by decide) ?_
    refine el_nil ?_
    refine hQ107 _ _ _ ?_
    refine thn_n ?_
    replace hF := oif hF
    rcases hF with ⟨hb115, hF⟩ | ⟨hb115, hF⟩
    · refine cw_cond_f rfl (bnot_t hb115) ?_
      refine cw_skip ?_
      refine hQ106 _ _ _ ?_
      refine thn_n ?_
      refine cw_seq ?_
      refine cw_gen ?_
      intro Q116 hQ116
      refine cw_reg ?_
      refine el_pv (v := .pointer (some ⟨b103, 0 + 0, none⟩)) (pv_fieldAddr rfl) (by decide) ?_
      refine el_pv (v := .int .i64 a0) (pv_loadc rfl ((hS.boxAt 0 rfl) 0 _ rfl)) (by decide) ?_
      replace hF := ob hF
      obtain ⟨x117, hx117, hF⟩ := hF
      refine el_pv (v := .int .i64 x117) (pv_mul rfl rfl hx117) (by decide) ?_
      refine el_pv (v := .pointer (some ⟨b103, 0 + 1, none⟩)) (pv_fieldAddr rfl) (by decide) ?_
      refine el_pv (v := u1) (pv_loadc rfl ((hS.boxAt 0 rfl) 1 _ rfl)) (by decide) ?_
      refine el_pv (v := .int .i64 (a1.length : Int)) (pv_len rfl ha1) (by decide) ?_
      replace hF := ob hF
      obtain ⟨x118, hx118, hF⟩ := hF
      refine el_pv (v := .int .i64 x118) (pv_mul rfl rfl hx118) (by decide) ?_
      refine el_pv (v := .int .i64 a3) (pv_move rfl) (by decide) ?_
      replace hF := ob hF
      obtain ⟨x119, hx119, hF⟩ := hF
      refine el_pv (v := .int .i64 x119) (pv_mul rfl rfl hx119) (by decide) ?_
      refine el_pv (v := .int .i64 x119) (pv_assign rfl) (by decide) ?_
      refine el_nil ?_
      refine hQ116 _ _ _ ?_
      refine thn_n ?_
      refine cw_ret ?_
      refine fin1 rfl rfl ?_
      have hr := Option.some.inj hF
      exact ⟨congrArg (fun (r : Int) => Ending.returned (.int .i64 r)) hr, hS.below⟩
    · refine cw_cond_t rfl (bnot_f hb115) ?_
      refine cw_seq ?_
      refine cw_gen ?_
      intro Q120 hQ120
      replace hS : Sat w0 w113 [] := hS.rems 1 [0] rfl
      refine cw_reg ?_
      refine el_pv (v := .int .i64 0) (pv_assign rfl) (by decide) ?_
      refine el_nil ?_
      refine hQ120 _ _ _ ?_
      refine thn_n ?_
      refine cw_ret ?_
      refine hQ106 _ _ _ ?_
      refine thn_r ?_
      refine fin1 rfl rfl ?_
      have hr := Option.some.inj hF
      exact ⟨congrArg (fun (r : Int) => Ending.returned (.int .i64 r)) hr, hS.below⟩
  · refine el_off rfl (bnot_f hb111) rfl (by decide) ?_
    refine el_off rfl (bnot_f hb111) rfl (by decide) ?_
    refine el_off rfl (bnot_f hb111) rfl (by decide) ?_
    refine el_pv (v := .bool true) (pv_pick_t rfl (bnot_f hb111) rfl) (by decide) ?_
    refine el_nil ?_
    refine hQ107 _ _ _ ?_
    refine thn_n ?_
    refine cw_cond_t rfl rfl ?_
    refine cw_seq ?_
    refine cw_gen ?_
    intro Q121 hQ121
    replace hS : Sat w0 w109 [] := hS.rems 1 [0] rfl
    refine cw_reg ?_
    refine el_pv (v := .int .i64 0) (pv_assign rfl) (by decide) ?_
    refine el_nil ?_
    refine hQ121 _ _ _ ?_
    refine thn_n ?_
    refine cw_ret ?_
    refine hQ106 _ _ _ ?_
    refine thn_r ?_
    refine fin1 rfl rfl ?_
    have hr := Option.some.inj hF
    exact ⟨congrArg (fun (r : Int) => Ending.returned (.int .i64 r)) hr, hS.below⟩
set_option maxHeartbeats 4000000 in
theorem laws_toIntS_ok {w0 : World} {u0 : Value} {a0 : List Int} (ha0 : (sliceR intR 3).rd w0 [u0] a0) {N : Nat} {r : (List Int)} (hF : laws_toIntS N a0 = some r) :
    Calls Try.prog 14 #[u0] w0 fun e w' => ∃ (q0 : Value), e = .returned (q0) ∧ Sat w0 w' [Own (sliceR intR 3) [q0] r] := by
  unfold laws_toIntS at hF
  refine calls_E Try.func14 rfl rfl (of_decide_eq_true rfl) ?_
  have hS := Sat.start w0
  refine cw_seq ?_
  refine cw_gen ?_
  intro Q101 hQ101
  refine cw_reg ?_
  refine el_pv (v := (.slice none 0 0)) (pv_assign rfl) (by decide) ?_
  refine el_nil ?_
  refine hQ101 _ _ _ ?_
  refine thn_n ?_
  refine cw_seq ?_
  refine cw_gen ?_
  intro Q102 hQ102
  refine cw_reg ?_
  refine el_pv (v := u0) (pv_move rfl) (by decide) ?_
  refine el_pv (v := .int .i64 (a0.length : Int)) (pv_len rfl ha0) (by decide) ?_
  replace hF := ob hF
  obtain ⟨x106, hx106, hF⟩ := hF
  refine el_make (R := intR) (x0 := 0) rfl (by decide) rfl (fun _ => ⟨rfl, rfl⟩) rfl rfl hx106 hS (by decide) ?_
  intro w103 g104 k105 hS hx107 hlx106
  refine el_pv (v := (.slice (some ⟨g104, 0, none⟩) k105 k105)) (pv_assign rfl) (by decide) ?_
  refine el_nil ?_
  refine hQ102 _ _ _ ?_
  refine thn_n ?_
  refine cw_seq ?_
  refine cw_gen ?_
  intro Q109 hQ109
  refine cw_seq ?_
  refine cw_gen ?_
  intro Q110 hQ110
  refine cw_reg ?_
  refine el_pv (v := .int .i64 0) (pv_assign rfl) (by decide) ?_
  refine el_nil ?_
  refine hQ110 _ _ _ ?_
  refine thn_n ?_
  refine cw_block ?_
  refine cw_gen ?_
  intro Q111 hQ111
  obtain ⟨s112, hL, hK113⟩ := ob hF
  refine cw_loopS (fun k e w => ∃ (v115 : Value), ∃ (x114 : List Int), ∃ (x116 : Int), e 0 = u0 ∧ e 3 = v115 ∧ e 4 = .int .i64 x116 ∧ Sat w0 w [Own (sliceR intR 3) [v115] x114] ∧ laws_toIntS_L1 N k a0 x114 x116 = some s112) N ?_ ?_ ?_
  · exact ⟨(.slice (some ⟨g104, 0, none⟩) k105 k105), x106, 0, rfl, rfl, rfl, hS, hL⟩
  · rintro e w ⟨_, _, _, _, _, _, _, hz⟩; exact nomatch (show none = some _ from hz)
  · rintro k e121 w120 ⟨v115, x114, x116, he117, he118, he119, hS, hF⟩
    refine cw_gen ?_
    intro Q122 hQ122
    refine cw_seq ?_
    refine cw_gen ?_
    intro Q123 hQ123
    refine cw_seq ?_
    refine cw_gen ?_
    intro Q124 hQ124
    refine cw_reg ?_
    refine el_pv (v := .int .i64 x116) (pv_move he119) (by decide) ?_
    refine el_pv (v := u0) (pv_move he117) (by decide) ?_
    refine el_pv (v := .int .i64 (a0.length : Int)) (pv_len rfl ha0) (by decide) ?_
    refine el_pv (v := .bool (decide (x116 < (a0.length : Int)))) (pv_lss rfl rfl) (by decide) ?_
    refine el_nil ?_
    refine hQ124 _ _ _ ?_
    refine thn_n ?_
    replace hF := oif hF
    rcases hF with ⟨hb125, hF⟩ | ⟨hb125, hF⟩
    · refine cw_cond_t rfl hb125 ?_
      refine cw_skip ?_
      refine hQ123 _ _ _ ?_
      refine thn_n ?_
      refine cw_seq ?_
      refine cw_gen ?_
      intro Q126 hQ126
      refine cw_block ?_
      refine cw_gen ?_
      intro Q127 hQ127
      refine cw_reg ?_
      refine el_pv (v := v115) (pv_move he118) (by decide) ?_
      refine el_pv (v := .int .i64 x116) (pv_move he119) (by decide) ?_
      refine el_pv (v := u0) (pv_move he117) (by decide) ?_
      refine el_pv (v := .int .i64 x116) (pv_move he119) (by decide) ?_
      replace hF := ob hF
      obtain ⟨x128, hx128, hF⟩ := hF
      refine el_index (wA := w0) rfl ha0 rfl (by decide) rfl hx128 (by decide) ?_
      intro b129 of130 c131 hr132 hm133
      obtain rfl := hr132
      refine el_pv (v := .int .i64 x128) (pv_loadc rfl ((cells_up hS.below hm133) 0 _ rfl)) (by decide) ?_
      replace hF := ob hF
      obtain ⟨x134, hx134, hF⟩ := hF
      obtain ⟨g135, cap136, hv137⟩ := ownShape 0 hS rfl hx134
      refine el_pv (v := .pointer (some ⟨g135, x116.toNat * 1, none⟩)) (pv_indexF (v := v115) rfl hv137 rfl hx134) (by decide) ?_
      replace hF := ob hF
      obtain ⟨x139, hx139, hF⟩ := hF
      replace hS := hS.int x128
      refine el_storeO rfl hv137 hS hx139 rfl rfl ?_
      intro w138 hS
      refine el_nil ?_
      refine hQ127 _ _ _ ?_
      refine inb_n ?_
      refine hQ126 _ _ _ ?_
      refine thn_n ?_
      refine cw_reg ?_
      refine el_pv (v := .int .i64 x116) (pv_move he119) (by decide) ?_
      replace hF := ob hF
      obtain ⟨x140, hx140, hF⟩ := hF
      refine el_pv (v := .int .i64 x140) (pv_add rfl rfl hx140) (by decide) ?_
      refine el_pv (v := .int .i64 x140) (pv_assign rfl) (by decide) ?_
      refine el_nil ?_
      refine hQ122 _ _ _ ?_
      refine thn_n ?_
      replace hS := hS.keep 1
      exact ⟨v115, x139, x140, he117, he118, rfl, hS, hF⟩
    · refine cw_cond_f rfl hb125 ?_
      refine cw_exit ?_
      refine hQ123 _ _ _ ?_
      refine thn_x ?_
      refine hQ122 _ _ _ ?_
      refine thn_x ?_
      replace hF := exB hF hK113
      refine hQ111 _ _ _ ?_
      refine inb_s ?_
      refine hQ109 _ _ _ ?_
      refine thn_n ?_
      refine cw_seq ?_
      refine cw_gen ?_
      intro Q141 hQ141
      refine cw_reg ?_
      refine el_pv (v := v115) (pv_move he118) (by decide) ?_
      refine el_pv (v := v115) (pv_assign rfl) (by decide) ?_
      refine el_nil ?_
      refine hQ141 _ _ _ ?_
      refine thn_n ?_
      refine cw_ret ?_
      refine fin1 rfl rfl ?_
      have hr := Option.some.inj hF
      exact ⟨v115, congrArg (fun (r : (List Int)) => Ending.returned (v115)) hr, Eq.mp (congrArg (fun (r : (List Int)) => Sat w0 w120 [Own (sliceR intR 3) [v115] r]) hr) (hS.keep 1)⟩
set_option maxHeartbeats 4000000 in
theorem laws_toAtom_ok {w0 : World} {a0 : ByteArray} {u1 : Value} {a1 : List Int} (ha0 : a0.size ≤ 9223372036854775807) (ha1 : (sliceR intR 3).rd w0 [u1] a1) {N : Nat} {r : ByteArray × List Int} (hF : laws_toAtom N a0 a1 = some r) :
    Calls Try.prog 80 #[.agg #[.string a0, u1]] w0 fun e w' => ∃ (q0 : Value), e = .returned (.agg #[.string r.1, q0]) ∧ Sat w0 w' [Own (sliceR intR 3) [q0] r.2] ∧ r.1.size ≤ 9223372036854775807 := by
  unfold laws_toAtom at hF
  refine calls_E Try.func80 rfl rfl (of_decide_eq_true rfl) ?_
  have hS := Sat.start w0
  refine cw_seq ?_
  refine cw_gen ?_
  intro Q101 hQ101
  refine cw_reg ?_
  refine el_box [.string a0, u1] rfl hS (by decide) ?_
  intro w102 b103 hS hx104
  refine el_alloc hS (by decide) ?_
  intro w106 b107 hS hx108
  refine el_nil ?_
  refine hQ101 _ _ _ ?_
  refine thn_n ?_
  refine cw_seq ?_
  refine cw_gen ?_
  intro Q110 hQ110
  refine cw_reg ?_
  refine el_alloc hS (by decide) ?_
  intro w111 b112 hS hx113
  refine el_nil ?_
  refine hQ110 _ _ _ ?_
  refine thn_n ?_
  refine cw_seq ?_
  refine cw_gen ?_
  intro Q115 hQ115
  refine cw_reg ?_
  refine el_pv (v := .pointer (some ⟨b103, 0 + 0, none⟩)) (pv_fieldAddr rfl) (by decide) ?_
  refine el_pv (v := .string a0) (pv_loadc rfl ((hS.boxAt 2 rfl) 0 _ rfl)) (by decide) ?_
  refine el_pv (v := .pointer (some ⟨b112, 0 + 0, none⟩)) (pv_fieldAddr rfl) (by decide) ?_
  refine el_storev (hS.top 0 rfl) rfl [.string a0] rfl rfl (of_decide_eq_true rfl) (all_cons rfl rfl) ?_
  intro w116 hS
  replace hS : Sat w0 w116 [Box b112 96 [.string a0, (.slice none 0 0)], Box b107 96 [.string ByteArray.empty, (.slice none 0 0)], Box b103 113 [.string a0, u1]] := hS
  refine el_nil ?_
  refine hQ115 _ _ _ ?_
  refine thn_n ?_
  refine cw_seq ?_
  refine cw_gen ?_
  intro Q117 hQ117
  refine cw_reg ?_
  refine el_pv (v := .pointer (some ⟨b103, 0 + 1, none⟩)) (pv_fieldAddr rfl) (by decide) ?_
  refine el_pv (v := u1) (pv_loadc rfl ((hS.boxAt 2 rfl) 1 _ rfl)) (by decide) ?_
  replace hF := ob hF
  obtain ⟨r118, hr118, hF⟩ := hF
  refine el_call goes14 (laws_toIntS_ok (hS.up ha1) hr118) (congrArg List.toArray (mapc rfl rfl)) (by decide) ?_
  rintro _ w121 ⟨v119, rfl, hS'⟩
  refine ⟨_, rfl, ?_⟩
  have hx122 := hS'.below
  replace hS := hS.call1 hS'
  refine el_pv (v := .pointer (some ⟨b112, 0 + 1, none⟩)) (pv_fieldAddr rfl) (by decide) ?_
  refine el_storev (hS.top 1 rfl) rfl [v119] (cells_of rfl (oc (hS.rdAt (R := (sliceR intR 3)) 0 rfl))) rfl (of_decide_eq_true rfl) (all_cons (oc (hS.rdAt (R := (sliceR intR 3)) 0 rfl)) rfl) ?_
  intro w123 hS
  replace hS : Sat w0 w123 [Box b112 96 [.string a0, v119], Own (sliceR intR 3) [v119] r118, Box b107 96 [.string ByteArray.empty, (.slice none 0 0)], Box b103 113 [.string a0, u1]] := hS
  refine el_nil ?_
  refine hQ117 _ _ _ ?_
  refine thn_n ?_
  refine cw_seq ?_
  refine cw_gen ?_
  intro Q124 hQ124
  replace hS : Sat w0 w123 [Box b112 96 [.string a0, v119], Own (sliceR intR 3) [v119] r118, Box b107 96 [.string ByteArray.empty, (.slice none 0 0)]] := hS.rems 4 [3] rfl
  refine cw_reg ?_
  refine el_pv (v := .agg #[.string a0, v119]) (pv_loada (cs := [.string a0, v119]) rfl rfl (boxc0 (hS.boxAt 0 rfl))) (by decide) ?_
  refine el_storev (hS.top 2 rfl) rfl [.string a0, v119] rfl rfl (of_decide_eq_true rfl) (all_cons rfl (all_cons (oc (hS.rdAt (R := (sliceR intR 3)) 1 rfl)) rfl)) ?_
  intro w125 hS
  replace hS : Sat w0 w125 [Box b107 96 [.string a0, v119], Box b112 96 [.string a0, v119], Own (sliceR intR 3) [v119] r118] := hS
  refine el_nil ?_
  refine hQ124 _ _ _ ?_
  refine thn_n ?_
  refine cw_ret ?_
  refine finC (cs := [.string a0, v119]) rfl rfl rfl (boxc0 (hS.boxAt 0 rfl))  ?_
  replace hS : Sat w0 w125 [Own (sliceR intR 3) [v119] r118, Box b107 96 [.string a0, v119], Box b112 96 [.string a0, v119]] := hS.tops 3 [2] rfl
  have hr := Option.some.inj hF
  exact ⟨v119, congrArg (fun (r : ByteArray × List Int) => Ending.returned (.agg #[.string r.1, v119])) hr, Eq.mp (congrArg (fun (r : ByteArray × List Int) => Sat w0 w125 [Own (sliceR intR 3) [v119] r.2]) hr) (hS.keep 1), Eq.mp (congrArg (fun (r : ByteArray × List Int) => r.1.size ≤ 9223372036854775807) hr) ha0⟩
end Go.Proofs.Ytkpeabpdiffjhaa
