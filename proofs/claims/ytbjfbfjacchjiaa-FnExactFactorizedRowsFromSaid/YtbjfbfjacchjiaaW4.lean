/- The walks through functions of the program: each hands back what it comes to. No condition but that it comes to something. -/
import Derived.Test.YtbjfbfjacchjiaaW3
import Derived.Test.YtbjfbfjacchjiaaW4D
namespace Go.Proofs.Ytbjfbfjacchjiaa
open Go.RowKit
set_option maxRecDepth 100000
set_option maxHeartbeats 4000000 in
theorem laws_markFactorNodeS_ok {w0 : World} {w00 : World} {G0 : List Asn} {u0 : Value} {a0 : List (List Int × List Int)} {a1 : Int} (hS : Sat w00 w0 (Own (sliceR (pairR (sliceR intR 3) (sliceR intR 3)) 57) [u0] a0 :: G0)) {N : Nat} {r : Int × (List (List Int × List Int))} (hF : laws_markFactorNodeS N a0 a1 = some r) :
    Calls Try.prog 45 #[u0, .int .i64 a1] w0 fun e w' => e = .returned (.int .i64 r.1) ∧ Sat w00 w' (Own (sliceR (pairR (sliceR intR 3) (sliceR intR 3)) 57) [u0] r.2 :: G0) := by
  unfold laws_markFactorNodeS at hF
  refine calls_E Try.func45 rfl rfl (of_decide_eq_true rfl) ?_
  refine cw_seq ?_
  refine cw_gen ?_
  intro Q101 hQ101
  refine cw_reg ?_
  refine el_pv (v := .int .i64 0) (pv_assign rfl) (by decide) ?_
  refine el_nil ?_
  refine hQ101 _ _ _ ?_
  refine thn_n ?_
  refine cw_seq ?_
  refine cw_gen ?_
  intro Q102 hQ102
  refine cw_seq ?_
  refine cw_gen ?_
  intro Q103 hQ103
  refine cw_reg ?_
  refine el_pv (v := .int .i64 0) (pv_assign rfl) (by decide) ?_
  refine el_nil ?_
  refine hQ103 _ _ _ ?_
  refine thn_n ?_
  refine cw_block ?_
  refine cw_gen ?_
  intro Q104 hQ104
  obtain ⟨s105, hL, hK106⟩ := ob hF
  refine cw_loopS (fun k e w => ∃ (x107 : List (List Int × List Int)), ∃ (x108 : Int), ∃ (x109 : Int), e 0 = u0 ∧ e 1 = .int .i64 x108 ∧ e 5 = .int .i64 x109 ∧ Sat w00 w (Own (sliceR (pairR (sliceR intR 3) (sliceR intR 3)) 57) [u0] x107 :: G0) ∧ laws_markFactorNodeS_L1 N k x107 x108 x109 = some s105) N ?_ ?_ ?_
  · exact ⟨a0, a1, 0, rfl, rfl, rfl, hS, hL⟩
  · rintro e w ⟨_, _, _, _, _, _, _, hz⟩; exact nomatch (show none = some _ from hz)
  · rintro k e114 w113 ⟨x107, x108, x109, he110, he111, he112, hS, hF⟩
    refine cw_gen ?_
    intro Q115 hQ115
    refine cw_seq ?_
    refine cw_gen ?_
    intro Q116 hQ116
    refine cw_seq ?_
    refine cw_gen ?_
    intro Q117 hQ117
    refine cw_reg ?_
    refine el_pv (v := .int .i64 x109) (pv_move he112) (by decide) ?_
    refine el_pv (v := u0) (pv_move he110) (by decide) ?_
    refine el_pv (v := .int .i64 (x107.length : Int)) (pv_len rfl (hS.rdAt (R := (sliceR (pairR (sliceR intR 3) (sliceR intR 3)) 57)) 0 rfl)) (by decide) ?_
    refine el_pv (v := .bool (decide (x109 < (x107.length : Int)))) (pv_lss rfl rfl) (by decide) ?_
    refine el_nil ?_
    refine hQ117 _ _ _ ?_
    refine thn_n ?_
    replace hF := oif hF
    rcases hF with ⟨hb118, hF⟩ | ⟨hb118, hF⟩
    · refine cw_cond_t rfl hb118 ?_
      refine cw_skip ?_
      refine hQ116 _ _ _ ?_
      refine thn_n ?_
      refine cw_seq ?_
      refine cw_gen ?_
      intro Q119 hQ119
      refine cw_block ?_
      refine cw_gen ?_
      intro Q120 hQ120
      refine cw_seq ?_
      refine cw_gen ?_
      intro Q121 hQ121
      refine cw_reg ?_
      refine el_pv (v := u0) (pv_move he110) (by decide) ?_
      refine el_pv (v := .int .i64 x109) (pv_move he112) (by decide) ?_
      replace hF := ob hF
      obtain ⟨x122, hx122, hF⟩ := hF
      refine el_indexO hS rfl rfl (by decide) rfl hx122 (by decide) ?_
      intro b123 of124 c125 hv128 hr126 hm127
      obtain ⟨_, _, rfl, hr129, hr130⟩ := hr126
      obtain ⟨v131, rfl⟩ := slice_one hr129
      obtain ⟨v132, rfl⟩ := slice_one hr130
      refine el_pv (v := .pointer (some ⟨b123, x109.toNat * 2 + 0, none⟩)) (pv_fieldAddr rfl) (by decide) ?_
      refine el_pv (v := v131) (pv_loadc rfl (hm127 0 _ rfl)) (by decide) ?_
      refine el_pv (v := .int .i64 x108) (pv_move he111) (by decide) ?_
      replace hS := hS.takeOut hv128 hx122 (m := 2) rfl rfl hm127
      replace hS := hS.unpair rfl
      replace hS : Sat w00 w113 (Own (sliceR intR 3) [v131] x122.1 :: Own (sliceR intR 3) [v132] x122.2 :: _ :: G0) := hS
      replace hF := ob hF
      obtain ⟨r135, hr135, hF⟩ := hF
      refine el_call goes25 (laws_markIntS_ok hS hr135) (congrArg List.toArray (mapc rfl (mapc rfl rfl))) (by decide) ?_
      rintro _ w136 ⟨rfl, hS⟩
      refine ⟨_, rfl, ?_⟩
      replace hS : Sat w00 w136 (Own (sliceR intR 3) [v131] r135.2 :: Own (sliceR intR 3) [v132] x122.2 :: _ :: G0) := hS
      replace hS : Sat w00 w136 (Own (sliceR intR 3) [v132] x122.2 :: Own (sliceR intR 3) [v131] r135.2 :: _ :: G0) := hS.top 1 rfl
      replace hS : Sat w00 w136 (Own (sliceR intR 3) [v131] r135.2 :: Own (sliceR intR 3) [v132] x122.2 :: _ :: G0) := hS.top 1 rfl
      replace hS := hS.pair
      replace hF := ob hF
      obtain ⟨x137, hx137, hF⟩ := hF
      replace hS := hS.putBack hx137
      replace hS : Sat w00 w136 (Own (sliceR (pairR (sliceR intR 3) (sliceR intR 3)) 57) [u0] x137 :: G0) := hS
      refine el_pv (v := .int .i64 r135.1) (pv_assign rfl) (by decide) ?_
      refine el_nil ?_
      refine hQ121 _ _ _ ?_
      refine thn_n ?_
      refine cw_reg ?_
      refine el_pv (v := u0) (pv_move he110) (by decide) ?_
      refine el_pv (v := .int .i64 x109) (pv_move he112) (by decide) ?_
      replace hF := ob hF
      obtain ⟨x138, hx138, hF⟩ := hF
      refine el_indexO hS rfl rfl (by decide) rfl hx138 (by decide) ?_
      intro b139 of140 c141 hv144 hr142 hm143
      obtain ⟨_, _, rfl, hr145, hr146⟩ := hr142
      obtain ⟨v147, rfl⟩ := slice_one hr145
      obtain ⟨v148, rfl⟩ := slice_one hr146
      refine el_pv (v := .pointer (some ⟨b139, x109.toNat * 2 + 1, none⟩)) (pv_fieldAddr rfl) (by decide) ?_
      refine el_pv (v := v148) (pv_loadc rfl (hm143 1 _ rfl)) (by decide) ?_
      refine el_pv (v := .int .i64 r135.1) (pv_move rfl) (by decide) ?_
      replace hS := hS.takeOut hv144 hx138 (m := 2) rfl rfl hm143
      replace hS := hS.unpair rfl
      replace hS : Sat w00 w136 (Own (sliceR intR 3) [v147] x138.1 :: Own (sliceR intR 3) [v148] x138.2 :: _ :: G0) := hS
      replace hS : Sat w00 w136 (Own (sliceR intR 3) [v148] x138.2 :: Own (sliceR intR 3) [v147] x138.1 :: _ :: G0) := hS.top 1 rfl
      replace hF := ob hF
      obtain ⟨r151, hr151, hF⟩ := hF
      refine el_call goes25 (laws_markIntS_ok hS hr151) (congrArg List.toArray (mapc rfl (mapc rfl rfl))) (by decide) ?_
      rintro _ w152 ⟨rfl, hS⟩
      refine ⟨_, rfl, ?_⟩
      replace hS : Sat w00 w152 (Own (sliceR intR 3) [v148] r151.2 :: Own (sliceR intR 3) [v147] x138.1 :: _ :: G0) := hS
      replace hS : Sat w00 w152 (Own (sliceR intR 3) [v147] x138.1 :: Own (sliceR intR 3) [v148] r151.2 :: _ :: G0) := hS.top 1 rfl
      replace hS := hS.pair
      replace hF := ob hF
      obtain ⟨x153, hx153, hF⟩ := hF
      replace hS := hS.putBack hx153
      replace hS : Sat w00 w152 (Own (sliceR (pairR (sliceR intR 3) (sliceR intR 3)) 57) [u0] x153 :: G0) := hS
      refine el_pv (v := .int .i64 r151.1) (pv_assign rfl) (by decide) ?_
      refine el_nil ?_
      refine hQ120 _ _ _ ?_
      refine inb_n ?_
      refine hQ119 _ _ _ ?_
      refine thn_n ?_
      refine cw_reg ?_
      refine el_pv (v := .int .i64 x109) (pv_move he112) (by decide) ?_
      replace hF := ob hF
      obtain ⟨x154, hx154, hF⟩ := hF
      refine el_pv (v := .int .i64 x154) (pv_add rfl rfl hx154) (by decide) ?_
      refine el_pv (v := .int .i64 x154) (pv_assign rfl) (by decide) ?_
      refine el_nil ?_
      refine hQ115 _ _ _ ?_
      refine thn_n ?_
      exact ⟨x153, r151.1, x154, he110, rfl, rfl, hS, hF⟩
    · refine cw_cond_f rfl hb118 ?_
      refine cw_exit ?_
      refine hQ116 _ _ _ ?_
      refine thn_x ?_
      refine hQ115 _ _ _ ?_
      refine thn_x ?_
      replace hF := exB hF hK106
      refine hQ104 _ _ _ ?_
      refine inb_s ?_
      refine hQ102 _ _ _ ?_
      refine thn_n ?_
      refine cw_seq ?_
      refine cw_gen ?_
      intro Q155 hQ155
      refine cw_reg ?_
      refine el_pv (v := .int .i64 x108) (pv_move he111) (by decide) ?_
      refine el_pv (v := .int .i64 x108) (pv_assign rfl) (by decide) ?_
      refine el_nil ?_
      refine hQ155 _ _ _ ?_
      refine thn_n ?_
      refine cw_ret ?_
      refine fin1 rfl rfl ?_
      have hr := Option.some.inj hF
      exact ⟨congrArg (fun (r : Int × (List (List Int × List Int))) => Ending.returned (.int .i64 r.1)) hr, Eq.mp (congrArg (fun (r : Int × (List (List Int × List Int))) => Sat w00 w113 (Own (sliceR (pairR (sliceR intR 3) (sliceR intR 3)) 57) [u0] r.2 :: G0)) hr) hS⟩
set_option maxHeartbeats 4000000 in
theorem laws_markFactorization_ok {w0 : World} {w00 : World} {G0 : List Asn} {u0 : Value} {a0 : List Int} {u1 : Value} {a1 : List (List Int × List Int)} {a2 : Int} (hS : Sat w00 w0 (Own (sliceR intR 3) [u0] a0 :: Own (sliceR (pairR (sliceR intR 3) (sliceR intR 3)) 57) [u1] a1 :: G0)) {N : Nat} {r : Int × (List Int) × (List (List Int × List Int))} (hF : laws_markFactorization N a0 a1 a2 = some r) :
    Calls Try.prog 24 #[.agg #[u0, u1], .int .i64 a2] w0 fun e w' => e = .returned (.int .i64 r.1) ∧ Sat w00 w' (Own (sliceR intR 3) [u0] r.2.1 :: Own (sliceR (pairR (sliceR intR 3) (sliceR intR 3)) 57) [u1] r.2.2 :: G0) := by
  unfold laws_markFactorization at hF
  refine calls_E Try.func24 rfl rfl (of_decide_eq_true rfl) ?_
  refine cw_seq ?_
  refine cw_gen ?_
  intro Q101 hQ101
  refine cw_reg ?_
  refine el_box [u0, u1] rfl hS (by decide) ?_
  intro w102 b103 hS hx104
  refine el_pv (v := .int .i64 0) (pv_assign rfl) (by decide) ?_
  refine el_nil ?_
  refine hQ101 _ _ _ ?_
  refine thn_n ?_
  refine cw_seq ?_
  refine cw_gen ?_
  intro Q106 hQ106
  refine cw_reg ?_
  refine el_pv (v := .pointer (some ⟨b103, 0 + 0, none⟩)) (pv_fieldAddr rfl) (by decide) ?_
  refine el_pv (v := u0) (pv_loadc rfl ((hS.boxAt 0 rfl) 0 _ rfl)) (by decide) ?_
  refine el_pv (v := .int .i64 a2) (pv_move rfl) (by decide) ?_
  replace hS : Sat w00 w102 (Own (sliceR intR 3) [u0] a0 :: Box b103 30 [u0, u1] :: Own (sliceR (pairR (sliceR intR 3) (sliceR intR 3)) 57) [u1] a1 :: G0) := hS.top 1 rfl
  replace hF := ob hF
  obtain ⟨r107, hr107, hF⟩ := hF
  refine el_call goes25 (laws_markIntS_ok hS hr107) (congrArg List.toArray (mapc rfl (mapc rfl rfl))) (by decide) ?_
  rintro _ w108 ⟨rfl, hS⟩
  refine ⟨_, rfl, ?_⟩
  replace hS : Sat w00 w108 (Own (sliceR intR 3) [u0] r107.2 :: Box b103 30 [u0, u1] :: Own (sliceR (pairR (sliceR intR 3) (sliceR intR 3)) 57) [u1] a1 :: G0) := hS
  refine el_pv (v := .int .i64 r107.1) (pv_assign rfl) (by decide) ?_
  refine el_nil ?_
  refine hQ106 _ _ _ ?_
  refine thn_n ?_
  refine cw_seq ?_
  refine cw_gen ?_
  intro Q109 hQ109
  refine cw_reg ?_
  refine el_pv (v := .pointer (some ⟨b103, 0 + 1, none⟩)) (pv_fieldAddr rfl) (by decide) ?_
  refine el_pv (v := u1) (pv_loadc rfl ((hS.boxAt 1 rfl) 1 _ rfl)) (by decide) ?_
  refine el_pv (v := .int .i64 r107.1) (pv_move rfl) (by decide) ?_
  replace hS : Sat w00 w108 (Own (sliceR (pairR (sliceR intR 3) (sliceR intR 3)) 57) [u1] a1 :: Own (sliceR intR 3) [u0] r107.2 :: Box b103 30 [u0, u1] :: G0) := hS.top 2 rfl
  replace hF := ob hF
  obtain ⟨r110, hr110, hF⟩ := hF
  refine el_call goes45 (laws_markFactorNodeS_ok hS hr110) (congrArg List.toArray (mapc rfl (mapc rfl rfl))) (by decide) ?_
  rintro _ w111 ⟨rfl, hS⟩
  refine ⟨_, rfl, ?_⟩
  replace hS : Sat w00 w111 (Own (sliceR (pairR (sliceR intR 3) (sliceR intR 3)) 57) [u1] r110.2 :: Own (sliceR intR 3) [u0] r107.2 :: Box b103 30 [u0, u1] :: G0) := hS
  refine el_pv (v := .int .i64 r110.1) (pv_assign rfl) (by decide) ?_
  refine el_nil ?_
  refine hQ109 _ _ _ ?_
  refine thn_n ?_
  refine cw_seq ?_
  refine cw_gen ?_
  intro Q112 hQ112
  refine cw_reg ?_
  refine el_pv (v := .int .i64 r110.1) (pv_move rfl) (by decide) ?_
  refine el_pv (v := .int .i64 r110.1) (pv_assign rfl) (by decide) ?_
  refine el_nil ?_
  refine hQ112 _ _ _ ?_
  refine thn_n ?_
  refine cw_ret ?_
  refine fin1 rfl rfl ?_
  replace hS : Sat w00 w111 (Own (sliceR intR 3) [u0] r107.2 :: Own (sliceR (pairR (sliceR intR 3) (sliceR intR 3)) 57) [u1] r110.2 :: Box b103 30 [u0, u1] :: G0) := hS.top 1 rfl
  have hr := Option.some.inj hF
  replace hS : Sat w00 w111 (Own (sliceR intR 3) [u0] r107.2 :: Own (sliceR (pairR (sliceR intR 3) (sliceR intR 3)) 57) [u1] r110.2 :: G0) := hS.rem 2 rfl
  exact ⟨congrArg (fun (r : Int × (List Int) × (List (List Int × List Int))) => Ending.returned (.int .i64 r.1)) hr, Eq.mp (congrArg (fun (r : Int × (List Int) × (List (List Int × List Int))) => Sat w00 w111 (Own (sliceR intR 3) [u0] r.2.1 :: Own (sliceR (pairR (sliceR intR 3) (sliceR intR 3)) 57) [u1] r.2.2 :: G0)) hr) hS⟩
set_option maxHeartbeats 4000000 in
theorem laws_heldIntS_ok {w0 : World} {u0 : Value} {a0 : List Int} {a1 : Int} (ha0 : (sliceR intR 3).rd w0 [u0] a0) {N : Nat} {r : Int} (hF : laws_heldIntS N a0 a1 = some r) :
    Calls Try.prog 26 #[u0, .int .i64 a1] w0 fun e w' => e = .returned (.int .i64 r) ∧ Ext w0 w' := by
  unfold laws_heldIntS at hF
  refine calls_E Try.func26 rfl rfl (of_decide_eq_true rfl) ?_
  have hS := Sat.start w0
  refine cw_seq ?_
  refine cw_gen ?_
  intro Q101 hQ101
  refine cw_reg ?_
  refine el_pv (v := .int .i64 0) (pv_assign rfl) (by decide) ?_
  refine el_nil ?_
  refine hQ101 _ _ _ ?_
  refine thn_n ?_
  refine cw_seq ?_
  refine cw_gen ?_
  intro Q102 hQ102
  refine cw_seq ?_
  refine cw_gen ?_
  intro Q103 hQ103
  refine cw_reg ?_
  refine el_pv (v := .int .i64 0) (pv_assign rfl) (by decide) ?_
  refine el_nil ?_
  refine hQ103 _ _ _ ?_
  refine thn_n ?_
  refine cw_block ?_
  refine cw_gen ?_
  intro Q104 hQ104
  obtain ⟨s105, hL, hK106⟩ := ob hF
  refine cw_loopS (fun k e w => ∃ (x107 : Int), ∃ (x108 : Int), e 0 = u0 ∧ e 1 = .int .i64 x107 ∧ e 5 = .int .i64 x108 ∧ Sat w0 w [] ∧ laws_heldIntS_L1 N k a0 x107 x108 = some s105) N ?_ ?_ ?_
  · exact ⟨a1, 0, rfl, rfl, rfl, hS, hL⟩
  · rintro e w ⟨_, _, _, _, _, _, hz⟩; exact nomatch (show none = some _ from hz)
  · rintro k e113 w112 ⟨x107, x108, he109, he110, he111, hS, hF⟩
    refine cw_gen ?_
    intro Q114 hQ114
    refine cw_seq ?_
    refine cw_gen ?_
    intro Q115 hQ115
    refine cw_seq ?_
    refine cw_gen ?_
    intro Q116 hQ116
    refine cw_reg ?_
    refine el_pv (v := .int .i64 x108) (pv_move he111) (by decide) ?_
    refine el_pv (v := u0) (pv_move he109) (by decide) ?_
    refine el_pv (v := .int .i64 (a0.length : Int)) (pv_len rfl ha0) (by decide) ?_
    refine el_pv (v := .bool (decide (x108 < (a0.length : Int)))) (pv_lss rfl rfl) (by decide) ?_
    refine el_nil ?_
    refine hQ116 _ _ _ ?_
    refine thn_n ?_
    replace hF := oif hF
    rcases hF with ⟨hb117, hF⟩ | ⟨hb117, hF⟩
    · refine cw_cond_t rfl hb117 ?_
      refine cw_skip ?_
      refine hQ115 _ _ _ ?_
      refine thn_n ?_
      refine cw_seq ?_
      refine cw_gen ?_
      intro Q118 hQ118
      refine cw_block ?_
      refine cw_gen ?_
      intro Q119 hQ119
      refine cw_seq ?_
      refine cw_gen ?_
      intro Q120 hQ120
      refine cw_seq ?_
      refine cw_gen ?_
      intro Q121 hQ121
      refine cw_reg ?_
      refine el_pv (v := u0) (pv_move he109) (by decide) ?_
      refine el_pv (v := .int .i64 x108) (pv_move he111) (by decide) ?_
      replace hF := ob hF
      obtain ⟨x122, hx122, hF⟩ := hF
      refine el_index (wA := w0) rfl ha0 rfl (by decide) rfl hx122 (by decide) ?_
      intro b123 of124 c125 hr126 hm127
      obtain rfl := hr126
      refine el_pv (v := .int .i64 x122) (pv_loadc rfl ((cells_up hS.below hm127) 0 _ rfl)) (by decide) ?_
      refine el_pv (v := .int .i64 x107) (pv_move he110) (by decide) ?_
      refine el_pv (v := .bool (x122 != x107)) (pv_neq rfl rfl) (by decide) ?_
      refine el_nil ?_
      refine hQ121 _ _ _ ?_
      refine thn_n ?_
      replace hF := oif hF
      rcases hF with ⟨hb128, hF⟩ | ⟨hb128, hF⟩
      · refine cw_cond_t rfl hb128 ?_
        refine cw_seq ?_
        refine cw_gen ?_
        intro Q129 hQ129
        refine cw_reg ?_
        refine el_pv (v := .int .i64 (-1)) (pv_assign rfl) (by decide) ?_
        refine el_nil ?_
        refine hQ129 _ _ _ ?_
        refine thn_n ?_
        refine cw_ret ?_
        refine hQ120 _ _ _ ?_
        refine thn_r ?_
        refine hQ119 _ _ _ ?_
        refine inb_r ?_
        refine hQ118 _ _ _ ?_
        refine thn_r ?_
        refine hQ114 _ _ _ ?_
        refine thn_r ?_
        refine hQ104 _ _ _ ?_
        refine inb_r ?_
        refine hQ102 _ _ _ ?_
        refine thn_r ?_
        replace hF := exL hF hK106
        refine fin1 rfl rfl ?_
        have hr := Option.some.inj hF
        exact ⟨congrArg (fun (r : Int) => Ending.returned (.int .i64 r)) hr, hS.below⟩
      · refine cw_cond_f rfl hb128 ?_
        refine cw_skip ?_
        refine hQ120 _ _ _ ?_
        refine thn_n ?_
        refine cw_reg ?_
        refine el_pv (v := .int .i64 x107) (pv_move he110) (by decide) ?_
        replace hF := ob hF
        obtain ⟨x130, hx130, hF⟩ := hF
        refine el_pv (v := .int .i64 x130) (pv_add rfl rfl hx130) (by decide) ?_
        refine el_pv (v := .int .i64 x130) (pv_assign rfl) (by decide) ?_
        refine el_nil ?_
        refine hQ119 _ _ _ ?_
        refine inb_n ?_
        refine hQ118 _ _ _ ?_
        refine thn_n ?_
        refine cw_reg ?_
        refine el_pv (v := .int .i64 x108) (pv_move he111) (by decide) ?_
        replace hF := ob hF
        obtain ⟨x131, hx131, hF⟩ := hF
        refine el_pv (v := .int .i64 x131) (pv_add rfl rfl hx131) (by decide) ?_
        refine el_pv (v := .int .i64 x131) (pv_assign rfl) (by decide) ?_
        refine el_nil ?_
        refine hQ114 _ _ _ ?_
        refine thn_n ?_
        replace hS := hS.keep 0
        exact ⟨x130, x131, he109, rfl, rfl, hS, hF⟩
    · refine cw_cond_f rfl hb117 ?_
      refine cw_exit ?_
      refine hQ115 _ _ _ ?_
      refine thn_x ?_
      refine hQ114 _ _ _ ?_
      refine thn_x ?_
      replace hF := exA hF hK106
      refine hQ104 _ _ _ ?_
      refine inb_s ?_
      refine hQ102 _ _ _ ?_
      refine thn_n ?_
      refine cw_seq ?_
      refine cw_gen ?_
      intro Q132 hQ132
      refine cw_reg ?_
      refine el_pv (v := .int .i64 x107) (pv_move he110) (by decide) ?_
      refine el_pv (v := .int .i64 x107) (pv_assign rfl) (by decide) ?_
      refine el_nil ?_
      refine hQ132 _ _ _ ?_
      refine thn_n ?_
      refine cw_ret ?_
      refine fin1 rfl rfl ?_
      have hr := Option.some.inj hF
      exact ⟨congrArg (fun (r : Int) => Ending.returned (.int .i64 r)) hr, hS.below⟩
set_option maxHeartbeats 4000000 in
theorem laws_FnExactFactorizedRowAt_ok {w0 : World} {u0 : Value} {a0 : List Int} {u1 : Value} {a1 : List (List Int × List Int)} {a2 : Int} (ha0 : (sliceR intR 3).rd w0 [u0] a0) (ha1 : (sliceR (pairR (sliceR intR 3) (sliceR intR 3)) 62).rd w0 [u1] a1) {N : Nat} {r : Bool} (hF : laws_FnExactFactorizedRowAt N a0 a1 a2 = some r) :
    Calls Try.prog 7 #[.agg #[u0, u1], .int .i64 a2] w0 fun e w' => e = .returned (.bool r) ∧ Ext w0 w' := by
  unfold laws_FnExactFactorizedRowAt at hF
  refine calls_E Try.func7 rfl rfl (of_decide_eq_true rfl) ?_
  have hS := Sat.start w0
  refine cw_seq ?_
  refine cw_gen ?_
  intro Q101 hQ101
  refine cw_reg ?_
  refine el_box [u0, u1] rfl hS (by decide) ?_
  intro w102 b103 hS hx104
  refine el_pv (v := .bool false) (pv_assign rfl) (by decide) ?_
  refine el_nil ?_
  refine hQ101 _ _ _ ?_
  refine thn_n ?_
  refine cw_seq ?_
  refine cw_gen ?_
  intro Q106 hQ106
  refine cw_reg ?_
  refine el_pv (v := .int .i64 1048576) (pv_assign rfl) (by decide) ?_
  refine el_nil ?_
  refine hQ106 _ _ _ ?_
  refine thn_n ?_
  refine cw_seq ?_
  refine cw_gen ?_
  intro Q107 hQ107
  refine cw_reg ?_
  refine el_pv (v := .agg #[u0, u1]) (pv_loada (cs := [u0, u1]) rfl rfl (boxc0 (hS.boxAt 0 rfl))) (by decide) ?_
  refine el_pv (v := .int .i64 1048576) (pv_move rfl) (by decide) ?_
  replace hF := ob hF
  obtain ⟨r108, hr108, hF⟩ := hF
  refine el_call goes9 (laws_szFactorization_ok (hS.up ha0) (hS.up ha1) hr108) (congrArg List.toArray (mapc rfl (mapc rfl rfl))) (by decide) ?_
  rintro _ w109 ⟨rfl, hx110⟩
  refine ⟨_, rfl, ?_⟩
  replace hS := hS.ext hx110
  refine el_pv (v := .int .i64 r108) (pv_assign rfl) (by decide) ?_
  refine el_nil ?_
  refine hQ107 _ _ _ ?_
  refine thn_n ?_
  refine cw_seq ?_
  refine cw_gen ?_
  intro Q111 hQ111
  refine cw_seq ?_
  refine cw_gen ?_
  intro Q112 hQ112
  refine cw_reg ?_
  refine el_pv (v := .int .i64 r108) (pv_move rfl) (by decide) ?_
  refine el_pv (v := .bool (decide (r108 < 0))) (pv_lss rfl rfl) (by decide) ?_
  refine el_nil ?_
  refine hQ112 _ _ _ ?_
  refine thn_n ?_
  replace hF := oif hF
  rcases hF with ⟨hb113, hF⟩ | ⟨hb113, hF⟩
  · refine cw_cond_t rfl hb113 ?_
    refine cw_seq ?_
    refine cw_gen ?_
    intro Q114 hQ114
    refine cw_reg ?_
    refine el_pv (v := .bool true) (pv_assign rfl) (by decide) ?_
    refine el_nil ?_
    refine hQ114 _ _ _ ?_
    refine thn_n ?_
    refine cw_ret ?_
    refine hQ111 _ _ _ ?_
    refine thn_r ?_
    refine fin1 rfl rfl ?_
    have hr := Option.some.inj hF
    exact ⟨congrArg (fun (r : Bool) => Ending.returned (.bool r)) hr, hS.below⟩
  · refine cw_cond_f rfl hb113 ?_
    refine cw_skip ?_
    refine hQ111 _ _ _ ?_
    refine thn_n ?_
    refine cw_seq ?_
    refine cw_gen ?_
    intro Q115 hQ115
    refine cw_reg ?_
    refine el_pv (v := .agg #[u0, u1]) (pv_loada (cs := [u0, u1]) rfl rfl (boxc0 (hS.boxAt 0 rfl))) (by decide) ?_
    replace hF := ob hF
    obtain ⟨r116, hr116, hF⟩ := hF
    refine el_call goes11 (laws_toFactorization_ok (hS.up ha0) (hS.up ha1) hr116) (congrArg List.toArray (mapc rfl rfl)) (by decide) ?_
    rintro _ w121 ⟨v117, v118, rfl, hS'⟩
    refine ⟨_, rfl, ?_⟩
    have hx122 := hS'.below
    replace hS := hS.call2 hS'
    refine el_pv (v := .int .i64 a2) (pv_move rfl) (by decide) ?_
    replace hF := ob hF
    obtain ⟨r123, hr123, hF⟩ := hF
    refine el_call goes22 (spec_FactorizedRowAt_ok (hS.rdAt (R := (sliceR intR 3)) 0 rfl) (hS.rdAt (R := (sliceR (pairR (sliceR intR 3) (sliceR intR 3)) 57)) 1 rfl) hr123) (congrArg List.toArray (mapc rfl (mapc rfl rfl))) (by decide) ?_
    rintro _ w126 ⟨v124, rfl, hS'⟩
    refine ⟨_, rfl, ?_⟩
    have hx127 := hS'.below
    replace hS := hS.call1 hS'
    refine el_pv (v := .tuple #[v124, .bool r123.2]) (pv_move rfl) (by decide) ?_
    refine el_pv (v := v124) (pv_extract rfl rfl) (by decide) ?_
    refine el_pv (v := .bool r123.2) (pv_extract rfl rfl) (by decide) ?_
    refine el_pv (v := v124) (pv_assign rfl) (by decide) ?_
    refine el_pv (v := .bool r123.2) (pv_assign rfl) (by decide) ?_
    refine el_nil ?_
    refine hQ115 _ _ _ ?_
    refine thn_n ?_
    refine cw_seq ?_
    refine cw_gen ?_
    intro Q128 hQ128
    refine cw_reg ?_
    refine el_pv (v := .agg #[u0, u1]) (pv_loada (cs := [u0, u1]) rfl rfl (boxc0 (hS.boxAt 3 rfl))) (by decide) ?_
    replace hF := ob hF
    obtain ⟨r129, hr129, hF⟩ := hF
    refine el_call goes11 (laws_toFactorization_ok (hS.up ha0) (hS.up ha1) hr129) (congrArg List.toArray (mapc rfl rfl)) (by decide) ?_
    rintro _ w134 ⟨v130, v131, rfl, hS'⟩
    refine ⟨_, rfl, ?_⟩
    have hx135 := hS'.below
    replace hS := hS.call2 hS'
    refine el_alloc hS (by decide) ?_
    intro w136 b137 hS hx138
    refine el_storev (hS.top 0 rfl) rfl [v130, v131] rfl rfl (of_decide_eq_true rfl) (all_cons (oc (hS.rdAt (R := (sliceR intR 3)) 1 rfl)) (all_cons (oc (hS.rdAt (R := (sliceR (pairR (sliceR intR 3) (sliceR intR 3)) 57)) 2 rfl)) rfl)) ?_
    intro w140 hS
    replace hS : Sat w0 w140 [Box b137 30 [v130, v131], Own (sliceR intR 3) [v130] r129.1, Own (sliceR (pairR (sliceR intR 3) (sliceR intR 3)) 57) [v131] r129.2, Own (sliceR intR 3) [v124] r123.1, Own (sliceR intR 3) [v117] r116.1, Own (sliceR (pairR (sliceR intR 3) (sliceR intR 3)) 57) [v118] r116.2, Box b103 25 [u0, u1]] := hS
    refine el_nil ?_
    refine hQ128 _ _ _ ?_
    refine thn_n ?_
    refine cw_seq ?_
    refine cw_gen ?_
    intro Q141 hQ141
    refine cw_reg ?_
    refine el_pv (v := .agg #[v130, v131]) (pv_loada (cs := [v130, v131]) rfl rfl (boxc0 (hS.boxAt 0 rfl))) (by decide) ?_
    refine el_pv (v := .int .i64 a2) (pv_move rfl) (by decide) ?_
    replace hF := ob hF
    obtain ⟨r142, hr142, hF⟩ := hF
    refine el_call goes23 (impl_FactorizedRowAt_ok (hS.rdAt (R := (sliceR intR 3)) 1 rfl) (hS.rdAt (R := (sliceR (pairR (sliceR intR 3) (sliceR intR 3)) 57)) 2 rfl) hr142) (congrArg List.toArray (mapc rfl (mapc rfl rfl))) (by decide) ?_
    rintro _ w145 ⟨v143, rfl, hS'⟩
    refine ⟨_, rfl, ?_⟩
    have hx146 := hS'.below
    replace hS := hS.call1 hS'
    refine el_pv (v := .tuple #[v143, .bool r142.2]) (pv_move rfl) (by decide) ?_
    refine el_pv (v := v143) (pv_extract rfl rfl) (by decide) ?_
    refine el_pv (v := .bool r142.2) (pv_extract rfl rfl) (by decide) ?_
    refine el_pv (v := v143) (pv_assign rfl) (by decide) ?_
    refine el_pv (v := .bool r142.2) (pv_assign rfl) (by decide) ?_
    refine el_nil ?_
    refine hQ141 _ _ _ ?_
    refine thn_n ?_
    refine cw_seq ?_
    refine cw_gen ?_
    intro Q147 hQ147
    refine cw_seq ?_
    refine cw_gen ?_
    intro Q148 hQ148
    refine cw_reg ?_
    refine el_pv (v := v143) (pv_move rfl) (by decide) ?_
    refine el_pv (v := v124) (pv_move rfl) (by decide) ?_
    replace hF := ob hF
    obtain ⟨r149, hr149, hF⟩ := hF
    refine el_call goes17 (laws_eqIntS_ok (hS.rdAt (R := (sliceR intR 3)) 0 rfl) (hS.rdAt (R := (sliceR intR 3)) 4 rfl) hr149) (congrArg List.toArray (mapc rfl (mapc rfl rfl))) (by decide) ?_
    rintro _ w150 ⟨rfl, hx151⟩
    refine ⟨_, rfl, ?_⟩
    replace hS := hS.ext hx151
    refine el_pv (v := .bool (!r149)) (pv_not rfl) (by decide) ?_
    refine el_pv (v := .bool (!r149)) (pv_move rfl) (by decide) ?_
    replace hF := oif hF
    rcases hF with ⟨hb152, hF⟩ | ⟨hb152, hF⟩
    · refine el_on rfl (bnot_t hb152) ?_
      refine el_pv (v := .bool r142.2) (pv_move rfl) (by decide) ?_
      refine el_on rfl (bnot_t hb152) ?_
      refine el_pv (v := .bool r123.2) (pv_move rfl) (by decide) ?_
      refine el_on rfl (bnot_t hb152) ?_
      refine el_pv (v := .bool (r142.2 != r123.2)) (pv_neqB Try.underlying4 rfl rfl) (by decide) ?_
      refine el_pv (v := .bool (r142.2 != r123.2)) (pv_pick_f rfl (bnot_t hb152) rfl) (by decide) ?_
      refine el_nil ?_
      refine hQ148 _ _ _ ?_
      refine thn_n ?_
      replace hF := oif hF
      rcases hF with ⟨hb153, hF⟩ | ⟨hb153, hF⟩
      · refine cw_cond_t rfl hb153 ?_
        refine cw_seq ?_
        refine cw_gen ?_
        intro Q154 hQ154
        refine cw_reg ?_
        refine el_pv (v := .bool false) (pv_assign rfl) (by decide) ?_
        refine el_nil ?_
        refine hQ154 _ _ _ ?_
        refine thn_n ?_
        refine cw_ret ?_
        refine hQ147 _ _ _ ?_
        refine thn_r ?_
        refine fin1 rfl rfl ?_
        have hr := Option.some.inj hF
        exact ⟨congrArg (fun (r : Bool) => Ending.returned (.bool r)) hr, hS.below⟩
      · refine cw_cond_f rfl hb153 ?_
        refine cw_skip ?_
        refine hQ147 _ _ _ ?_
        refine thn_n ?_
        refine cw_seq ?_
        refine cw_gen ?_
        intro Q155 hQ155
        refine cw_seq ?_
        refine cw_gen ?_
        intro Q156 hQ156
        obtain ⟨C, hCd⟩ : ∃ C : World → Prop, ∀ w, C w ↔ ∃ G, Sat w0 w ([Box b137 30 [v130, v131], Box b103 25 [u0, u1], Own (sliceR intR 3) [v143] r142.1, Own (sliceR intR 3) [v130] r129.1, Own (sliceR (pairR (sliceR intR 3) (sliceR intR 3)) 57) [v131] r129.2, Own (sliceR intR 3) [v124] r123.1, Own (sliceR intR 3) [v117] r116.1, Own (sliceR (pairR (sliceR intR 3) (sliceR intR 3)) 57) [v118] r116.2] ++ G) := ⟨_, fun _ => Iff.rfl⟩
        refine cw_regb [0, 1, 2, 3, 4] C (by kernel_rfl) ?_
        intro w157 hx158
        replace hS := hS.ext hx158
        replace hS : Sat w0 w157 [Own (sliceR (pairR (sliceR intR 3) (sliceR intR 3)) 57) [v118] r116.2, Own (sliceR intR 3) [v143] r142.1, Box b137 30 [v130, v131], Own (sliceR intR 3) [v130] r129.1, Own (sliceR (pairR (sliceR intR 3) (sliceR intR 3)) 57) [v131] r129.2, Own (sliceR intR 3) [v124] r123.1, Own (sliceR intR 3) [v117] r116.1, Box b103 25 [u0, u1]] := hS.top 6 rfl
        replace hS : Sat w0 w157 [Own (sliceR intR 3) [v117] r116.1, Own (sliceR (pairR (sliceR intR 3) (sliceR intR 3)) 57) [v118] r116.2, Own (sliceR intR 3) [v143] r142.1, Box b137 30 [v130, v131], Own (sliceR intR 3) [v130] r129.1, Own (sliceR (pairR (sliceR intR 3) (sliceR intR 3)) 57) [v131] r129.2, Own (sliceR intR 3) [v124] r123.1, Box b103 25 [u0, u1]] := hS.top 6 rfl
        replace hS : Sat w0 w157 [Own (sliceR intR 3) [v124] r123.1, Own (sliceR intR 3) [v117] r116.1, Own (sliceR (pairR (sliceR intR 3) (sliceR intR 3)) 57) [v118] r116.2, Own (sliceR intR 3) [v143] r142.1, Box b137 30 [v130, v131], Own (sliceR intR 3) [v130] r129.1, Own (sliceR (pairR (sliceR intR 3) (sliceR intR 3)) 57) [v131] r129.2, Box b103 25 [u0, u1]] := hS.top 6 rfl
        replace hS : Sat w0 w157 [Own (sliceR (pairR (sliceR intR 3) (sliceR intR 3)) 57) [v131] r129.2, Own (sliceR intR 3) [v124] r123.1, Own (sliceR intR 3) [v117] r116.1, Own (sliceR (pairR (sliceR intR 3) (sliceR intR 3)) 57) [v118] r116.2, Own (sliceR intR 3) [v143] r142.1, Box b137 30 [v130, v131], Own (sliceR intR 3) [v130] r129.1, Box b103 25 [u0, u1]] := hS.top 6 rfl
        replace hS : Sat w0 w157 [Own (sliceR intR 3) [v130] r129.1, Own (sliceR (pairR (sliceR intR 3) (sliceR intR 3)) 57) [v131] r129.2, Own (sliceR intR 3) [v124] r123.1, Own (sliceR intR 3) [v117] r116.1, Own (sliceR (pairR (sliceR intR 3) (sliceR intR 3)) 57) [v118] r116.2, Own (sliceR intR 3) [v143] r142.1, Box b137 30 [v130, v131], Box b103 25 [u0, u1]] := hS.top 6 rfl
        replace hS : Sat w0 w157 [Own (sliceR intR 3) [v143] r142.1, Own (sliceR intR 3) [v130] r129.1, Own (sliceR (pairR (sliceR intR 3) (sliceR intR 3)) 57) [v131] r129.2, Own (sliceR intR 3) [v124] r123.1, Own (sliceR intR 3) [v117] r116.1, Own (sliceR (pairR (sliceR intR 3) (sliceR intR 3)) 57) [v118] r116.2, Box b137 30 [v130, v131], Box b103 25 [u0, u1]] := hS.top 5 rfl
        replace hS : Sat w0 w157 [Box b103 25 [u0, u1], Own (sliceR intR 3) [v143] r142.1, Own (sliceR intR 3) [v130] r129.1, Own (sliceR (pairR (sliceR intR 3) (sliceR intR 3)) 57) [v131] r129.2, Own (sliceR intR 3) [v124] r123.1, Own (sliceR intR 3) [v117] r116.1, Own (sliceR (pairR (sliceR intR 3) (sliceR intR 3)) 57) [v118] r116.2, Box b137 30 [v130, v131]] := hS.top 7 rfl
        replace hS : Sat w0 w157 [Box b137 30 [v130, v131], Box b103 25 [u0, u1], Own (sliceR intR 3) [v143] r142.1, Own (sliceR intR 3) [v130] r129.1, Own (sliceR (pairR (sliceR intR 3) (sliceR intR 3)) 57) [v131] r129.2, Own (sliceR intR 3) [v124] r123.1, Own (sliceR intR 3) [v117] r116.1, Own (sliceR (pairR (sliceR intR 3) (sliceR intR 3)) 57) [v118] r116.2] := hS.top 7 rfl
        have hC := (hCd _).2 ⟨_, hS⟩
        refine al_p (v := .agg #[v130, v131]) (by kernel_rfl) 0 rfl rfl (by decide) hC (by kernel_rfl) (by kernel_rfl) (sv_on rfl (fun w' hw' => by obtain ⟨_, hS⟩ := (hCd _).1 hw'; exact (pv_loada (cs := [v130, v131]) rfl rfl (boxc0 (hS.boxAt 0 rfl))))) ?_
        refine al_p (v := .agg #[u0, u1]) (by kernel_rfl) 1 rfl rfl (by decide) hC (by kernel_rfl) (by kernel_rfl) (sv_on rfl (fun w' hw' => by obtain ⟨_, hS⟩ := (hCd _).1 hw'; exact (pv_loada (cs := [u0, u1]) rfl rfl (boxc0 (hS.boxAt 1 rfl))))) ?_
        refine al_one 2 (by kernel_rfl) rfl ?_
        replace hF := ob hF
        obtain ⟨r159, hr159, hF⟩ := hF
        refine el_call goes11 (laws_toFactorization_ok (hS.up ha0) (hS.up ha1) hr159) (congrArg List.toArray (mapc rfl rfl)) (by decide) ?_
        rintro _ w164 ⟨v160, v161, rfl, hS'⟩
        refine ⟨_, rfl, ?_⟩
        have hx165 := hS'.below
        replace hS := hS.call2 hS'
        refine el_nil ?_
        replace hS : Sat w0 w164 [Own (sliceR (pairR (sliceR intR 3) (sliceR intR 3)) 57) [v118] r116.2, Own (sliceR intR 3) [v160] r159.1, Own (sliceR (pairR (sliceR intR 3) (sliceR intR 3)) 57) [v161] r159.2, Box b137 30 [v130, v131], Box b103 25 [u0, u1], Own (sliceR intR 3) [v143] r142.1, Own (sliceR intR 3) [v130] r129.1, Own (sliceR (pairR (sliceR intR 3) (sliceR intR 3)) 57) [v131] r129.2, Own (sliceR intR 3) [v124] r123.1, Own (sliceR intR 3) [v117] r116.1] := hS.top 9 rfl
        replace hS : Sat w0 w164 [Own (sliceR intR 3) [v117] r116.1, Own (sliceR (pairR (sliceR intR 3) (sliceR intR 3)) 57) [v118] r116.2, Own (sliceR intR 3) [v160] r159.1, Own (sliceR (pairR (sliceR intR 3) (sliceR intR 3)) 57) [v161] r159.2, Box b137 30 [v130, v131], Box b103 25 [u0, u1], Own (sliceR intR 3) [v143] r142.1, Own (sliceR intR 3) [v130] r129.1, Own (sliceR (pairR (sliceR intR 3) (sliceR intR 3)) 57) [v131] r129.2, Own (sliceR intR 3) [v124] r123.1] := hS.top 9 rfl
        replace hS : Sat w0 w164 [Own (sliceR intR 3) [v124] r123.1, Own (sliceR intR 3) [v117] r116.1, Own (sliceR (pairR (sliceR intR 3) (sliceR intR 3)) 57) [v118] r116.2, Own (sliceR intR 3) [v160] r159.1, Own (sliceR (pairR (sliceR intR 3) (sliceR intR 3)) 57) [v161] r159.2, Box b137 30 [v130, v131], Box b103 25 [u0, u1], Own (sliceR intR 3) [v143] r142.1, Own (sliceR intR 3) [v130] r129.1, Own (sliceR (pairR (sliceR intR 3) (sliceR intR 3)) 57) [v131] r129.2] := hS.top 9 rfl
        replace hS : Sat w0 w164 [Own (sliceR (pairR (sliceR intR 3) (sliceR intR 3)) 57) [v131] r129.2, Own (sliceR intR 3) [v124] r123.1, Own (sliceR intR 3) [v117] r116.1, Own (sliceR (pairR (sliceR intR 3) (sliceR intR 3)) 57) [v118] r116.2, Own (sliceR intR 3) [v160] r159.1, Own (sliceR (pairR (sliceR intR 3) (sliceR intR 3)) 57) [v161] r159.2, Box b137 30 [v130, v131], Box b103 25 [u0, u1], Own (sliceR intR 3) [v143] r142.1, Own (sliceR intR 3) [v130] r129.1] := hS.top 9 rfl
        replace hS : Sat w0 w164 [Own (sliceR intR 3) [v130] r129.1, Own (sliceR (pairR (sliceR intR 3) (sliceR intR 3)) 57) [v131] r129.2, Own (sliceR intR 3) [v124] r123.1, Own (sliceR intR 3) [v117] r116.1, Own (sliceR (pairR (sliceR intR 3) (sliceR intR 3)) 57) [v118] r116.2, Own (sliceR intR 3) [v160] r159.1, Own (sliceR (pairR (sliceR intR 3) (sliceR intR 3)) 57) [v161] r159.2, Box b137 30 [v130, v131], Box b103 25 [u0, u1], Own (sliceR intR 3) [v143] r142.1] := hS.top 9 rfl
        replace hS : Sat w0 w164 [Own (sliceR intR 3) [v143] r142.1, Own (sliceR intR 3) [v130] r129.1, Own (sliceR (pairR (sliceR intR 3) (sliceR intR 3)) 57) [v131] r129.2, Own (sliceR intR 3) [v124] r123.1, Own (sliceR intR 3) [v117] r116.1, Own (sliceR (pairR (sliceR intR 3) (sliceR intR 3)) 57) [v118] r116.2, Own (sliceR intR 3) [v160] r159.1, Own (sliceR (pairR (sliceR intR 3) (sliceR intR 3)) 57) [v161] r159.2, Box b137 30 [v130, v131], Box b103 25 [u0, u1]] := hS.top 9 rfl
        replace hS : Sat w0 w164 [Box b103 25 [u0, u1], Own (sliceR intR 3) [v143] r142.1, Own (sliceR intR 3) [v130] r129.1, Own (sliceR (pairR (sliceR intR 3) (sliceR intR 3)) 57) [v131] r129.2, Own (sliceR intR 3) [v124] r123.1, Own (sliceR intR 3) [v117] r116.1, Own (sliceR (pairR (sliceR intR 3) (sliceR intR 3)) 57) [v118] r116.2, Own (sliceR intR 3) [v160] r159.1, Own (sliceR (pairR (sliceR intR 3) (sliceR intR 3)) 57) [v161] r159.2, Box b137 30 [v130, v131]] := hS.top 9 rfl
        replace hS : Sat w0 w164 [Box b137 30 [v130, v131], Box b103 25 [u0, u1], Own (sliceR intR 3) [v143] r142.1, Own (sliceR intR 3) [v130] r129.1, Own (sliceR (pairR (sliceR intR 3) (sliceR intR 3)) 57) [v131] r129.2, Own (sliceR intR 3) [v124] r123.1, Own (sliceR intR 3) [v117] r116.1, Own (sliceR (pairR (sliceR intR 3) (sliceR intR 3)) 57) [v118] r116.2, Own (sliceR intR 3) [v160] r159.1, Own (sliceR (pairR (sliceR intR 3) (sliceR intR 3)) 57) [v161] r159.2] := hS.top 9 rfl
        have hC := (hCd _).2 ⟨_, hS⟩
        have hoc143 := oc (hS.rdAt (R := (sliceR intR 3)) 2 rfl)
        have hoc130 := oc (hS.rdAt (R := (sliceR intR 3)) 3 rfl)
        have hoc131 := oc (hS.rdAt (R := (sliceR (pairR (sliceR intR 3) (sliceR intR 3)) 57)) 4 rfl)
        have hoc124 := oc (hS.rdAt (R := (sliceR intR 3)) 5 rfl)
        have hoc117 := oc (hS.rdAt (R := (sliceR intR 3)) 6 rfl)
        have hoc118 := oc (hS.rdAt (R := (sliceR (pairR (sliceR intR 3) (sliceR intR 3)) 57)) 7 rfl)
        have hoc160 := oc (hS.rdAt (R := (sliceR intR 3)) 8 rfl)
        have hoc161 := oc (hS.rdAt (R := (sliceR (pairR (sliceR intR 3) (sliceR intR 3)) 57)) 9 rfl)
        refine ⟨fun _ => hC, ?_⟩
        refine al_one 3 (by kernel_rfl) rfl ?_
        replace hF := ob hF
        obtain ⟨r166, hr166, hF⟩ := hF
        refine el_call goes13 (laws_eqFactorization_ok (hS.rdAt (R := (sliceR intR 3)) 3 rfl) (hS.rdAt (R := (sliceR (pairR (sliceR intR 3) (sliceR intR 3)) 57)) 4 rfl) (hS.rdAt (R := (sliceR intR 3)) 8 rfl) (hS.rdAt (R := (sliceR (pairR (sliceR intR 3) (sliceR intR 3)) 57)) 9 rfl) hr166) (congrArg List.toArray (mapc rfl (mapc rfl rfl))) (by decide) ?_
        rintro _ w167 ⟨rfl, hx168⟩
        refine ⟨_, rfl, ?_⟩
        replace hS := hS.ext hx168
        refine el_nil ?_
        replace hS : Sat w0 w167 [Own (sliceR (pairR (sliceR intR 3) (sliceR intR 3)) 57) [v118] r116.2, Box b137 30 [v130, v131], Box b103 25 [u0, u1], Own (sliceR intR 3) [v143] r142.1, Own (sliceR intR 3) [v130] r129.1, Own (sliceR (pairR (sliceR intR 3) (sliceR intR 3)) 57) [v131] r129.2, Own (sliceR intR 3) [v124] r123.1, Own (sliceR intR 3) [v117] r116.1, Own (sliceR intR 3) [v160] r159.1, Own (sliceR (pairR (sliceR intR 3) (sliceR intR 3)) 57) [v161] r159.2] := hS.top 7 rfl
        replace hS : Sat w0 w167 [Own (sliceR intR 3) [v117] r116.1, Own (sliceR (pairR (sliceR intR 3) (sliceR intR 3)) 57) [v118] r116.2, Box b137 30 [v130, v131], Box b103 25 [u0, u1], Own (sliceR intR 3) [v143] r142.1, Own (sliceR intR 3) [v130] r129.1, Own (sliceR (pairR (sliceR intR 3) (sliceR intR 3)) 57) [v131] r129.2, Own (sliceR intR 3) [v124] r123.1, Own (sliceR intR 3) [v160] r159.1, Own (sliceR (pairR (sliceR intR 3) (sliceR intR 3)) 57) [v161] r159.2] := hS.top 7 rfl
        replace hS : Sat w0 w167 [Own (sliceR intR 3) [v124] r123.1, Own (sliceR intR 3) [v117] r116.1, Own (sliceR (pairR (sliceR intR 3) (sliceR intR 3)) 57) [v118] r116.2, Box b137 30 [v130, v131], Box b103 25 [u0, u1], Own (sliceR intR 3) [v143] r142.1, Own (sliceR intR 3) [v130] r129.1, Own (sliceR (pairR (sliceR intR 3) (sliceR intR 3)) 57) [v131] r129.2, Own (sliceR intR 3) [v160] r159.1, Own (sliceR (pairR (sliceR intR 3) (sliceR intR 3)) 57) [v161] r159.2] := hS.top 7 rfl
        replace hS : Sat w0 w167 [Own (sliceR (pairR (sliceR intR 3) (sliceR intR 3)) 57) [v131] r129.2, Own (sliceR intR 3) [v124] r123.1, Own (sliceR intR 3) [v117] r116.1, Own (sliceR (pairR (sliceR intR 3) (sliceR intR 3)) 57) [v118] r116.2, Box b137 30 [v130, v131], Box b103 25 [u0, u1], Own (sliceR intR 3) [v143] r142.1, Own (sliceR intR 3) [v130] r129.1, Own (sliceR intR 3) [v160] r159.1, Own (sliceR (pairR (sliceR intR 3) (sliceR intR 3)) 57) [v161] r159.2] := hS.top 7 rfl
        replace hS : Sat w0 w167 [Own (sliceR intR 3) [v130] r129.1, Own (sliceR (pairR (sliceR intR 3) (sliceR intR 3)) 57) [v131] r129.2, Own (sliceR intR 3) [v124] r123.1, Own (sliceR intR 3) [v117] r116.1, Own (sliceR (pairR (sliceR intR 3) (sliceR intR 3)) 57) [v118] r116.2, Box b137 30 [v130, v131], Box b103 25 [u0, u1], Own (sliceR intR 3) [v143] r142.1, Own (sliceR intR 3) [v160] r159.1, Own (sliceR (pairR (sliceR intR 3) (sliceR intR 3)) 57) [v161] r159.2] := hS.top 7 rfl
        replace hS : Sat w0 w167 [Own (sliceR intR 3) [v143] r142.1, Own (sliceR intR 3) [v130] r129.1, Own (sliceR (pairR (sliceR intR 3) (sliceR intR 3)) 57) [v131] r129.2, Own (sliceR intR 3) [v124] r123.1, Own (sliceR intR 3) [v117] r116.1, Own (sliceR (pairR (sliceR intR 3) (sliceR intR 3)) 57) [v118] r116.2, Box b137 30 [v130, v131], Box b103 25 [u0, u1], Own (sliceR intR 3) [v160] r159.1, Own (sliceR (pairR (sliceR intR 3) (sliceR intR 3)) 57) [v161] r159.2] := hS.top 7 rfl
        replace hS : Sat w0 w167 [Box b103 25 [u0, u1], Own (sliceR intR 3) [v143] r142.1, Own (sliceR intR 3) [v130] r129.1, Own (sliceR (pairR (sliceR intR 3) (sliceR intR 3)) 57) [v131] r129.2, Own (sliceR intR 3) [v124] r123.1, Own (sliceR intR 3) [v117] r116.1, Own (sliceR (pairR (sliceR intR 3) (sliceR intR 3)) 57) [v118] r116.2, Box b137 30 [v130, v131], Own (sliceR intR 3) [v160] r159.1, Own (sliceR (pairR (sliceR intR 3) (sliceR intR 3)) 57) [v161] r159.2] := hS.top 7 rfl
        replace hS : Sat w0 w167 [Box b137 30 [v130, v131], Box b103 25 [u0, u1], Own (sliceR intR 3) [v143] r142.1, Own (sliceR intR 3) [v130] r129.1, Own (sliceR (pairR (sliceR intR 3) (sliceR intR 3)) 57) [v131] r129.2, Own (sliceR intR 3) [v124] r123.1, Own (sliceR intR 3) [v117] r116.1, Own (sliceR (pairR (sliceR intR 3) (sliceR intR 3)) 57) [v118] r116.2, Own (sliceR intR 3) [v160] r159.1, Own (sliceR (pairR (sliceR intR 3) (sliceR intR 3)) 57) [v161] r159.2] := hS.top 7 rfl
        have hC := (hCd _).2 ⟨_, hS⟩
        refine ⟨fun _ => hC, ?_⟩
        refine al_p (v := .bool (!r166)) (by kernel_rfl) 4 rfl rfl (by decide) hC (by kernel_rfl) (by kernel_rfl) (sv_on rfl (fun w' hw' => by obtain ⟨_, hS⟩ := (hCd _).1 hw'; exact (pv_not rfl))) ?_
        refine al_nil (by kernel_rfl) ?_
        refine hQ156 _ _ _ ?_
        refine thn_n ?_
        replace hF := oif hF
        rcases hF with ⟨hb169, hF⟩ | ⟨hb169, hF⟩
        · refine cw_cond_f rfl (bnot_t hb169) ?_
          refine cw_skip ?_
          refine hQ155 _ _ _ ?_
          refine thn_n ?_
          refine cw_seq ?_
          refine cw_gen ?_
          intro Q170 hQ170
          refine cw_reg ?_
          refine el_pv (v := .int .i64 1) (pv_assign rfl) (by decide) ?_
          refine el_nil ?_
          refine hQ170 _ _ _ ?_
          refine thn_n ?_
          refine cw_seq ?_
          refine cw_gen ?_
          intro Q171 hQ171
          refine cw_reg ?_
          refine el_pv (v := .agg #[v130, v131]) (pv_loada (cs := [v130, v131]) rfl rfl (boxc0 (hS.boxAt 0 rfl))) (by decide) ?_
          refine el_pv (v := .int .i64 1) (pv_move rfl) (by decide) ?_
          replace hS : Sat w0 w167 [Own (sliceR (pairR (sliceR intR 3) (sliceR intR 3)) 57) [v131] r129.2, Box b137 30 [v130, v131], Box b103 25 [u0, u1], Own (sliceR intR 3) [v143] r142.1, Own (sliceR intR 3) [v130] r129.1, Own (sliceR intR 3) [v124] r123.1, Own (sliceR intR 3) [v117] r116.1, Own (sliceR (pairR (sliceR intR 3) (sliceR intR 3)) 57) [v118] r116.2, Own (sliceR intR 3) [v160] r159.1, Own (sliceR (pairR (sliceR intR 3) (sliceR intR 3)) 57) [v161] r159.2] := hS.top 4 rfl
          replace hS : Sat w0 w167 [Own (sliceR intR 3) [v130] r129.1, Own (sliceR (pairR (sliceR intR 3) (sliceR intR 3)) 57) [v131] r129.2, Box b137 30 [v130, v131], Box b103 25 [u0, u1], Own (sliceR intR 3) [v143] r142.1, Own (sliceR intR 3) [v124] r123.1, Own (sliceR intR 3) [v117] r116.1, Own (sliceR (pairR (sliceR intR 3) (sliceR intR 3)) 57) [v118] r116.2, Own (sliceR intR 3) [v160] r159.1, Own (sliceR (pairR (sliceR intR 3) (sliceR intR 3)) 57) [v161] r159.2] := hS.top 4 rfl
          replace hF := ob hF
          obtain ⟨r172, hr172, hF⟩ := hF
          refine el_call goes24 (laws_markFactorization_ok hS hr172) (congrArg List.toArray (mapc rfl (mapc rfl rfl))) (by decide) ?_
          rintro _ w173 ⟨rfl, hS⟩
          refine ⟨_, rfl, ?_⟩
          replace hS : Sat w0 w173 [Own (sliceR intR 3) [v130] r172.2.1, Own (sliceR (pairR (sliceR intR 3) (sliceR intR 3)) 57) [v131] r172.2.2, Box b137 30 [v130, v131], Box b103 25 [u0, u1], Own (sliceR intR 3) [v143] r142.1, Own (sliceR intR 3) [v124] r123.1, Own (sliceR intR 3) [v117] r116.1, Own (sliceR (pairR (sliceR intR 3) (sliceR intR 3)) 57) [v118] r116.2, Own (sliceR intR 3) [v160] r159.1, Own (sliceR (pairR (sliceR intR 3) (sliceR intR 3)) 57) [v161] r159.2] := hS
          refine el_pv (v := .int .i64 r172.1) (pv_assign rfl) (by decide) ?_
          refine el_nil ?_
          refine hQ171 _ _ _ ?_
          refine thn_n ?_
          refine cw_seq ?_
          refine cw_gen ?_
          intro Q174 hQ174
          refine cw_seq ?_
          refine cw_gen ?_
          intro Q175 hQ175
          refine cw_reg ?_
          refine el_pv (v := .int .i64 r172.1) (pv_move rfl) (by decide) ?_
          refine el_pv (v := .bool (decide (r172.1 < 0))) (pv_lss rfl rfl) (by decide) ?_
          refine el_pv (v := .bool (decide (r172.1 < 0))) (pv_move rfl) (by decide) ?_
          replace hF := oif hF
          rcases hF with ⟨hb176, hF⟩ | ⟨hb176, hF⟩
          · refine el_off rfl hb176 rfl (by decide) ?_
            refine el_off rfl hb176 rfl (by decide) ?_
            refine el_off rfl hb176 rfl (by decide) ?_
            refine el_off rfl hb176 rfl (by decide) ?_
            refine el_pv (v := .bool true) (pv_pick_t rfl hb176 rfl) (by decide) ?_
            refine el_pv (v := .bool true) (pv_move rfl) (by decide) ?_
            refine el_off rfl rfl rfl (by decide) ?_
            refine el_off rfl rfl rfl (by decide) ?_
            refine el_off rfl rfl rfl (by decide) ?_
            refine el_pv (v := .bool true) (pv_pick_t rfl rfl rfl) (by decide) ?_
            refine el_nil ?_
            refine hQ175 _ _ _ ?_
            refine thn_n ?_
            refine cw_cond_t rfl rfl ?_
            refine cw_seq ?_
            refine cw_gen ?_
            intro Q177 hQ177
            refine cw_reg ?_
            refine el_pv (v := .bool false) (pv_assign rfl) (by decide) ?_
            refine el_nil ?_
            refine hQ177 _ _ _ ?_
            refine thn_n ?_
            refine cw_ret ?_
            refine hQ174 _ _ _ ?_
            refine thn_r ?_
            refine fin1 rfl rfl ?_
            have hr := Option.some.inj hF
            exact ⟨congrArg (fun (r : Bool) => Ending.returned (.bool r)) hr, hS.below⟩
          · refine el_on rfl hb176 ?_
            refine el_pv (v := v143) (pv_move rfl) (by decide) ?_
            refine el_on rfl hb176 ?_
            refine el_pv (v := v124) (pv_move rfl) (by decide) ?_
            refine el_on rfl hb176 ?_
            replace hF := ob hF
            obtain ⟨r178, hr178, hF⟩ := hF
            refine el_call goes17 (laws_eqIntS_ok (hS.rdAt (R := (sliceR intR 3)) 4 rfl) (hS.rdAt (R := (sliceR intR 3)) 5 rfl) hr178) (congrArg List.toArray (mapc rfl (mapc rfl rfl))) (by decide) ?_
            rintro _ w179 ⟨rfl, hx180⟩
            refine ⟨_, rfl, ?_⟩
            replace hS := hS.ext hx180
            refine el_on rfl hb176 ?_
            refine el_pv (v := .bool (!r178)) (pv_not rfl) (by decide) ?_
            refine el_pv (v := .bool (!r178)) (pv_pick_f rfl hb176 rfl) (by decide) ?_
            refine el_pv (v := .bool (!r178)) (pv_move rfl) (by decide) ?_
            replace hF := oif hF
            rcases hF with ⟨hb181, hF⟩ | ⟨hb181, hF⟩
            · refine el_on rfl (bnot_t hb181) ?_
              refine el_pv (v := .bool r142.2) (pv_move rfl) (by decide) ?_
              refine el_on rfl (bnot_t hb181) ?_
              refine el_pv (v := .bool r123.2) (pv_move rfl) (by decide) ?_
              refine el_on rfl (bnot_t hb181) ?_
              refine el_pv (v := .bool (r142.2 != r123.2)) (pv_neqB Try.underlying4 rfl rfl) (by decide) ?_
              refine el_pv (v := .bool (r142.2 != r123.2)) (pv_pick_f rfl (bnot_t hb181) rfl) (by decide) ?_
              refine el_nil ?_
              refine hQ175 _ _ _ ?_
              refine thn_n ?_
              refine cw_cond_f rfl hb153 ?_
              refine cw_skip ?_
              refine hQ174 _ _ _ ?_
              refine thn_n ?_
              refine cw_seq ?_
              refine cw_gen ?_
              intro Q182 hQ182
              refine cw_reg ?_
              refine el_pv (v := .int .i64 1) (pv_assign rfl) (by decide) ?_
              refine el_nil ?_
              refine hQ182 _ _ _ ?_
              refine thn_n ?_
              refine cw_seq ?_
              refine cw_gen ?_
              intro Q183 hQ183
              refine cw_reg ?_
              refine el_pv (v := v143) (pv_move rfl) (by decide) ?_
              refine el_pv (v := .int .i64 1) (pv_move rfl) (by decide) ?_
              replace hS : Sat w0 w179 [Own (sliceR intR 3) [v143] r142.1, Own (sliceR intR 3) [v130] r172.2.1, Own (sliceR (pairR (sliceR intR 3) (sliceR intR 3)) 57) [v131] r172.2.2, Box b137 30 [v130, v131], Box b103 25 [u0, u1], Own (sliceR intR 3) [v124] r123.1, Own (sliceR intR 3) [v117] r116.1, Own (sliceR (pairR (sliceR intR 3) (sliceR intR 3)) 57) [v118] r116.2, Own (sliceR intR 3) [v160] r159.1, Own (sliceR (pairR (sliceR intR 3) (sliceR intR 3)) 57) [v161] r159.2] := hS.top 4 rfl
              replace hF := ob hF
              obtain ⟨r184, hr184, hF⟩ := hF
              refine el_call goes25 (laws_markIntS_ok hS hr184) (congrArg List.toArray (mapc rfl (mapc rfl rfl))) (by decide) ?_
              rintro _ w185 ⟨rfl, hS⟩
              refine ⟨_, rfl, ?_⟩
              replace hS : Sat w0 w185 [Own (sliceR intR 3) [v143] r184.2, Own (sliceR intR 3) [v130] r172.2.1, Own (sliceR (pairR (sliceR intR 3) (sliceR intR 3)) 57) [v131] r172.2.2, Box b137 30 [v130, v131], Box b103 25 [u0, u1], Own (sliceR intR 3) [v124] r123.1, Own (sliceR intR 3) [v117] r116.1, Own (sliceR (pairR (sliceR intR 3) (sliceR intR 3)) 57) [v118] r116.2, Own (sliceR intR 3) [v160] r159.1, Own (sliceR (pairR (sliceR intR 3) (sliceR intR 3)) 57) [v161] r159.2] := hS
              refine el_pv (v := .int .i64 r184.1) (pv_assign rfl) (by decide) ?_
              refine el_nil ?_
              refine hQ183 _ _ _ ?_
              refine thn_n ?_
              refine cw_seq ?_
              refine cw_gen ?_
              intro Q186 hQ186
              refine cw_reg ?_
              refine el_pv (v := .int .i64 1) (pv_assign rfl) (by decide) ?_
              refine el_nil ?_
              refine hQ186 _ _ _ ?_
              refine thn_n ?_
              refine cw_seq ?_
              refine cw_gen ?_
              intro Q187 hQ187
              refine cw_reg ?_
              refine el_pv (v := v143) (pv_move rfl) (by decide) ?_
              refine el_pv (v := .int .i64 1) (pv_move rfl) (by decide) ?_
              replace hF := ob hF
              obtain ⟨r188, hr188, hF⟩ := hF
              refine el_call goes26 (laws_heldIntS_ok (hS.rdAt (R := (sliceR intR 3)) 0 rfl) hr188) (congrArg List.toArray (mapc rfl (mapc rfl rfl))) (by decide) ?_
              rintro _ w189 ⟨rfl, hx190⟩
              refine ⟨_, rfl, ?_⟩
              replace hS := hS.ext hx190
              refine el_pv (v := .int .i64 r188) (pv_assign rfl) (by decide) ?_
              refine el_nil ?_
              refine hQ187 _ _ _ ?_
              refine thn_n ?_
              refine cw_seq ?_
              refine cw_gen ?_
              intro Q191 hQ191
              refine cw_seq ?_
              refine cw_gen ?_
              intro Q192 hQ192
              refine cw_reg ?_
              refine el_pv (v := .int .i64 r188) (pv_move rfl) (by decide) ?_
              refine el_pv (v := .bool (decide (r188 < 0))) (pv_lss rfl rfl) (by decide) ?_
              refine el_nil ?_
              refine hQ192 _ _ _ ?_
              refine thn_n ?_
              replace hF := oif hF
              rcases hF with ⟨hb193, hF⟩ | ⟨hb193, hF⟩
              · refine cw_cond_t rfl hb193 ?_
                refine cw_seq ?_
                refine cw_gen ?_
                intro Q194 hQ194
                refine cw_reg ?_
                refine el_pv (v := .bool false) (pv_assign rfl) (by decide) ?_
                refine el_nil ?_
                refine hQ194 _ _ _ ?_
                refine thn_n ?_
                refine cw_ret ?_
                refine hQ191 _ _ _ ?_
                refine thn_r ?_
                refine fin1 rfl rfl ?_
                have hr := Option.some.inj hF
                exact ⟨congrArg (fun (r : Bool) => Ending.returned (.bool r)) hr, hS.below⟩
              · refine cw_cond_f rfl hb193 ?_
                refine cw_skip ?_
                refine hQ191 _ _ _ ?_
                refine thn_n ?_
                refine cw_seq ?_
                refine cw_gen ?_
                intro Q195 hQ195
                refine cw_seq ?_
                refine cw_gen ?_
                intro Q196 hQ196
                refine cw_reg ?_
                refine el_pv (v := .int .i64 r188) (pv_move rfl) (by decide) ?_
                refine el_pv (v := .int .i64 r184.1) (pv_move rfl) (by decide) ?_
                refine el_pv (v := .bool (r188 != r184.1)) (pv_neq rfl rfl) (by decide) ?_
                refine el_nil ?_
                refine hQ196 _ _ _ ?_
                refine thn_n ?_
                replace hF := oif hF
                rcases hF with ⟨hb197, hF⟩ | ⟨hb197, hF⟩
                · refine cw_cond_t rfl hb197 ?_
                  refine cw_seq ?_
                  refine cw_gen ?_
                  intro Q198 hQ198
                  refine cw_reg ?_
                  refine el_pv (v := .bool false) (pv_assign rfl) (by decide) ?_
                  refine el_nil ?_
                  refine hQ198 _ _ _ ?_
                  refine thn_n ?_
                  refine cw_ret ?_
                  refine hQ195 _ _ _ ?_
                  refine thn_r ?_
                  refine fin1 rfl rfl ?_
                  have hr := Option.some.inj hF
                  exact ⟨congrArg (fun (r : Bool) => Ending.returned (.bool r)) hr, hS.below⟩
                · refine cw_cond_f rfl hb197 ?_
                  refine cw_skip ?_
                  refine hQ195 _ _ _ ?_
                  refine thn_n ?_
                  refine cw_seq ?_
                  refine cw_gen ?_
                  intro Q199 hQ199
                  refine cw_reg ?_
                  refine el_pv (v := .agg #[u0, u1]) (pv_loada (cs := [u0, u1]) rfl rfl (boxc0 (hS.boxAt 4 rfl))) (by decide) ?_
                  replace hF := ob hF
                  obtain ⟨r200, hr200, hF⟩ := hF
                  refine el_call goes11 (laws_toFactorization_ok (hS.up ha0) (hS.up ha1) hr200) (congrArg List.toArray (mapc rfl rfl)) (by decide) ?_
                  rintro _ w205 ⟨v201, v202, rfl, hS'⟩
                  refine ⟨_, rfl, ?_⟩
                  have hx206 := hS'.below
                  replace hS := hS.call2 hS'
                  refine el_pv (v := .int .i64 a2) (pv_move rfl) (by decide) ?_
                  replace hF := ob hF
                  obtain ⟨r207, hr207, hF⟩ := hF
                  refine el_call goes23 (impl_FactorizedRowAt_ok (hS.rdAt (R := (sliceR intR 3)) 0 rfl) (hS.rdAt (R := (sliceR (pairR (sliceR intR 3) (sliceR intR 3)) 57)) 1 rfl) hr207) (congrArg List.toArray (mapc rfl (mapc rfl rfl))) (by decide) ?_
                  rintro _ w210 ⟨v208, rfl, hS'⟩
                  refine ⟨_, rfl, ?_⟩
                  have hx211 := hS'.below
                  replace hS := hS.call1 hS'
                  refine el_pv (v := .tuple #[v208, .bool r207.2]) (pv_move rfl) (by decide) ?_
                  refine el_pv (v := v208) (pv_extract rfl rfl) (by decide) ?_
                  refine el_pv (v := .bool r207.2) (pv_extract rfl rfl) (by decide) ?_
                  refine el_pv (v := v208) (pv_assign rfl) (by decide) ?_
                  refine el_pv (v := .bool r207.2) (pv_assign rfl) (by decide) ?_
                  refine el_nil ?_
                  refine hQ199 _ _ _ ?_
                  refine thn_n ?_
                  refine cw_seq ?_
                  refine cw_gen ?_
                  intro Q212 hQ212
                  refine cw_seq ?_
                  refine cw_gen ?_
                  intro Q213 hQ213
                  refine cw_reg ?_
                  refine el_pv (v := v208) (pv_move rfl) (by decide) ?_
                  refine el_pv (v := v124) (pv_move rfl) (by decide) ?_
                  replace hF := ob hF
                  obtain ⟨r214, hr214, hF⟩ := hF
                  refine el_call goes17 (laws_eqIntS_ok (hS.rdAt (R := (sliceR intR 3)) 0 rfl) (hS.rdAt (R := (sliceR intR 3)) 8 rfl) hr214) (congrArg List.toArray (mapc rfl (mapc rfl rfl))) (by decide) ?_
                  rintro _ w215 ⟨rfl, hx216⟩
                  refine ⟨_, rfl, ?_⟩
                  replace hS := hS.ext hx216
                  refine el_pv (v := .bool (!r214)) (pv_not rfl) (by decide) ?_
                  refine el_pv (v := .bool (!r214)) (pv_move rfl) (by decide) ?_
                  replace hF := oif hF
                  rcases hF with ⟨hb217, hF⟩ | ⟨hb217, hF⟩
                  · refine el_on rfl (bnot_t hb217) ?_
                    refine el_pv (v := .bool r207.2) (pv_move rfl) (by decide) ?_
                    refine el_on rfl (bnot_t hb217) ?_
                    refine el_pv (v := .bool r123.2) (pv_move rfl) (by decide) ?_
                    refine el_on rfl (bnot_t hb217) ?_
                    refine el_pv (v := .bool (r207.2 != r123.2)) (pv_neqB Try.underlying4 rfl rfl) (by decide) ?_
                    refine el_pv (v := .bool (r207.2 != r123.2)) (pv_pick_f rfl (bnot_t hb217) rfl) (by decide) ?_
                    refine el_nil ?_
                    refine hQ213 _ _ _ ?_
                    refine thn_n ?_
                    replace hF := oif hF
                    rcases hF with ⟨hb218, hF⟩ | ⟨hb218, hF⟩
                    · refine cw_cond_t rfl hb218 ?_
                      refine cw_seq ?_
                      refine cw_gen ?_
                      intro Q219 hQ219
                      refine cw_reg ?_
                      refine el_pv (v := .bool false) (pv_assign rfl) (by decide) ?_
                      refine el_nil ?_
                      refine hQ219 _ _ _ ?_
                      refine thn_n ?_
                      refine cw_ret ?_
                      refine hQ212 _ _ _ ?_
                      refine thn_r ?_
                      refine fin1 rfl rfl ?_
                      have hr := Option.some.inj hF
                      exact ⟨congrArg (fun (r : Bool) => Ending.returned (.bool r)) hr, hS.below⟩
                    · refine cw_cond_f rfl hb218 ?_
                      refine cw_skip ?_
                      refine hQ212 _ _ _ ?_
                      refine thn_n ?_
                      refine cw_seq ?_
                      refine cw_gen ?_
                      intro Q220 hQ220
                      refine cw_reg ?_
                      refine el_pv (v := .int .i64 1) (pv_assign rfl) (by decide) ?_
                      refine el_nil ?_
                      refine hQ220 _ _ _ ?_
                      refine thn_n ?_
                      refine cw_seq ?_
                      refine cw_gen ?_
                      intro Q221 hQ221
                      refine cw_reg ?_
                      refine el_pv (v := v143) (pv_move rfl) (by decide) ?_
                      refine el_pv (v := .int .i64 1) (pv_move rfl) (by decide) ?_
                      replace hF := ob hF
                      obtain ⟨r222, hr222, hF⟩ := hF
                      refine el_call goes26 (laws_heldIntS_ok (hS.rdAt (R := (sliceR intR 3)) 3 rfl) hr222) (congrArg List.toArray (mapc rfl (mapc rfl rfl))) (by decide) ?_
                      rintro _ w223 ⟨rfl, hx224⟩
                      refine ⟨_, rfl, ?_⟩
                      replace hS := hS.ext hx224
                      refine el_pv (v := .int .i64 r222) (pv_assign rfl) (by decide) ?_
                      refine el_nil ?_
                      refine hQ221 _ _ _ ?_
                      refine thn_n ?_
                      refine cw_seq ?_
                      refine cw_gen ?_
                      intro Q225 hQ225
                      refine cw_seq ?_
                      refine cw_gen ?_
                      intro Q226 hQ226
                      refine cw_reg ?_
                      refine el_pv (v := .int .i64 r222) (pv_move rfl) (by decide) ?_
                      refine el_pv (v := .bool (decide (r222 < 0))) (pv_lss rfl rfl) (by decide) ?_
                      refine el_nil ?_
                      refine hQ226 _ _ _ ?_
                      refine thn_n ?_
                      replace hF := oif hF
                      rcases hF with ⟨hb227, hF⟩ | ⟨hb227, hF⟩
                      · refine cw_cond_t rfl hb227 ?_
                        refine cw_seq ?_
                        refine cw_gen ?_
                        intro Q228 hQ228
                        refine cw_reg ?_
                        refine el_pv (v := .bool false) (pv_assign rfl) (by decide) ?_
                        refine el_nil ?_
                        refine hQ228 _ _ _ ?_
                        refine thn_n ?_
                        refine cw_ret ?_
                        refine hQ225 _ _ _ ?_
                        refine thn_r ?_
                        refine fin1 rfl rfl ?_
                        have hr := Option.some.inj hF
                        exact ⟨congrArg (fun (r : Bool) => Ending.returned (.bool r)) hr, hS.below⟩
                      · refine cw_cond_f rfl hb227 ?_
                        refine cw_skip ?_
                        refine hQ225 _ _ _ ?_
                        refine thn_n ?_
                        refine cw_seq ?_
                        refine cw_gen ?_
                        intro Q229 hQ229
                        refine cw_seq ?_
                        refine cw_gen ?_
                        intro Q230 hQ230
                        refine cw_reg ?_
                        refine el_pv (v := .int .i64 r222) (pv_move rfl) (by decide) ?_
                        refine el_pv (v := .int .i64 r184.1) (pv_move rfl) (by decide) ?_
                        refine el_pv (v := .bool (r222 != r184.1)) (pv_neq rfl rfl) (by decide) ?_
                        refine el_nil ?_
                        refine hQ230 _ _ _ ?_
                        refine thn_n ?_
                        replace hF := oif hF
                        rcases hF with ⟨hb231, hF⟩ | ⟨hb231, hF⟩
                        · refine cw_cond_t rfl hb231 ?_
                          refine cw_seq ?_
                          refine cw_gen ?_
                          intro Q232 hQ232
                          refine cw_reg ?_
                          refine el_pv (v := .bool false) (pv_assign rfl) (by decide) ?_
                          refine el_nil ?_
                          refine hQ232 _ _ _ ?_
                          refine thn_n ?_
                          refine cw_ret ?_
                          refine hQ229 _ _ _ ?_
                          refine thn_r ?_
                          refine fin1 rfl rfl ?_
                          have hr := Option.some.inj hF
                          exact ⟨congrArg (fun (r : Bool) => Ending.returned (.bool r)) hr, hS.below⟩
                        · refine cw_cond_f rfl hb231 ?_
                          refine cw_skip ?_
                          refine hQ229 _ _ _ ?_
                          refine thn_n ?_
                          refine cw_seq ?_
                          refine cw_gen ?_
                          intro Q233 hQ233
                          refine cw_reg ?_
                          refine el_pv (v := .bool true) (pv_assign rfl) (by decide) ?_
                          refine el_nil ?_
                          refine hQ233 _ _ _ ?_
                          refine thn_n ?_
                          refine cw_ret ?_
                          refine fin1 rfl rfl ?_
                          have hr := Option.some.inj hF
                          exact ⟨congrArg (fun (r : Bool) => Ending.returned (.bool r)) hr, hS.below⟩
                  · refine el_off rfl (bnot_f hb217) rfl (by decide) ?_
                    refine el_off rfl (bnot_f hb217) rfl (by decide) ?_
                    refine el_off rfl (bnot_f hb217) rfl (by decide) ?_
                    refine el_pv (v := .bool true) (pv_pick_t rfl (bnot_f hb217) rfl) (by decide) ?_
                    refine el_nil ?_
                    refine hQ213 _ _ _ ?_
                    refine thn_n ?_
                    refine cw_cond_t rfl rfl ?_
                    refine cw_seq ?_
                    refine cw_gen ?_
                    intro Q234 hQ234
                    refine cw_reg ?_
                    refine el_pv (v := .bool false) (pv_assign rfl) (by decide) ?_
                    refine el_nil ?_
                    refine hQ234 _ _ _ ?_
                    refine thn_n ?_
                    refine cw_ret ?_
                    refine hQ212 _ _ _ ?_
                    refine thn_r ?_
                    refine fin1 rfl rfl ?_
                    have hr := Option.some.inj hF
                    exact ⟨congrArg (fun (r : Bool) => Ending.returned (.bool r)) hr, hS.below⟩
            · refine el_off rfl (bnot_f hb181) rfl (by decide) ?_
              refine el_off rfl (bnot_f hb181) rfl (by decide) ?_
              refine el_off rfl (bnot_f hb181) rfl (by decide) ?_
              refine el_pv (v := .bool true) (pv_pick_t rfl (bnot_f hb181) rfl) (by decide) ?_
              refine el_nil ?_
              refine hQ175 _ _ _ ?_
              refine thn_n ?_
              refine cw_cond_t rfl rfl ?_
              refine cw_seq ?_
              refine cw_gen ?_
              intro Q235 hQ235
              refine cw_reg ?_
              refine el_pv (v := .bool false) (pv_assign rfl) (by decide) ?_
              refine el_nil ?_
              refine hQ235 _ _ _ ?_
              refine thn_n ?_
              refine cw_ret ?_
              refine hQ174 _ _ _ ?_
              refine thn_r ?_
              refine fin1 rfl rfl ?_
              have hr := Option.some.inj hF
              exact ⟨congrArg (fun (r : Bool) => Ending.returned (.bool r)) hr, hS.below⟩
        · refine cw_cond_t rfl (bnot_f hb169) ?_
          refine cw_seq ?_
          refine cw_gen ?_
          intro Q236 hQ236
          refine cw_reg ?_
          refine el_pv (v := .bool false) (pv_assign rfl) (by decide) ?_
          refine el_nil ?_
          refine hQ236 _ _ _ ?_
          refine thn_n ?_
          refine cw_ret ?_
          refine hQ155 _ _ _ ?_
          refine thn_r ?_
          refine fin1 rfl rfl ?_
          have hr := Option.some.inj hF
          exact ⟨congrArg (fun (r : Bool) => Ending.returned (.bool r)) hr, hS.below⟩
    · refine el_off rfl (bnot_f hb152) rfl (by decide) ?_
      refine el_off rfl (bnot_f hb152) rfl (by decide) ?_
      refine el_off rfl (bnot_f hb152) rfl (by decide) ?_
      refine el_pv (v := .bool true) (pv_pick_t rfl (bnot_f hb152) rfl) (by decide) ?_
      refine el_nil ?_
      refine hQ148 _ _ _ ?_
      refine thn_n ?_
      refine cw_cond_t rfl rfl ?_
      refine cw_seq ?_
      refine cw_gen ?_
      intro Q237 hQ237
      refine cw_reg ?_
      refine el_pv (v := .bool false) (pv_assign rfl) (by decide) ?_
      refine el_nil ?_
      refine hQ237 _ _ _ ?_
      refine thn_n ?_
      refine cw_ret ?_
      refine hQ147 _ _ _ ?_
      refine thn_r ?_
      refine fin1 rfl rfl ?_
      have hr := Option.some.inj hF
      exact ⟨congrArg (fun (r : Bool) => Ending.returned (.bool r)) hr, hS.below⟩
set_option maxHeartbeats 4000000 in
theorem spec_FactorizedRowsFrom_ok {w0 : World} {u0 : Value} {a0 : List Int} {u1 : Value} {a1 : List (List Int × List Int)} {u2 : Value} {a2 : List Int} {a3 : Int} (ha0 : (sliceR intR 3).rd w0 [u0] a0) (ha1 : (sliceR (pairR (sliceR intR 3) (sliceR intR 3)) 57).rd w0 [u1] a1) (ha2 : (sliceR intR 3).rd w0 [u2] a2) {N : Nat} {r : (List (List Int))} (hF : spec_FactorizedRowsFrom N a0 a1 a2 a3 = some r) :
    Calls Try.prog 27 #[.agg #[u0, u1], u2, .int .i64 a3] w0 fun e w' => ∃ (q0 : Value), e = .returned (q0) ∧ Sat w0 w' [Own (sliceR (sliceR intR 3) 22) [q0] r] := by
  unfold spec_FactorizedRowsFrom at hF
  refine calls_E Try.func27 rfl rfl (of_decide_eq_true rfl) ?_
  have hS := Sat.start w0
  refine cw_seq ?_
  refine cw_gen ?_
  intro Q101 hQ101
  refine cw_reg ?_
  refine el_box [u0, u1] rfl hS (by decide) ?_
  intro w102 b103 hS hx104
  refine el_pv (v := (.slice none 0 0)) (pv_assign rfl) (by decide) ?_
  refine el_nil ?_
  refine hQ101 _ _ _ ?_
  refine thn_n ?_
  refine cw_seq ?_
  refine cw_gen ?_
  intro Q106 hQ106
  refine cw_reg ?_
  refine el_buildSlice0 (sliceR intR 3) hS (by decide) ?_
  intro w107 v109 hS hx108
  refine el_pv (v := v109) (pv_assign rfl) (by decide) ?_
  refine el_nil ?_
  refine hQ106 _ _ _ ?_
  refine thn_n ?_
  refine cw_seq ?_
  refine cw_gen ?_
  intro Q111 hQ111
  refine cw_reg ?_
  refine el_pv (v := .agg #[u0, u1]) (pv_loada (cs := [u0, u1]) rfl rfl (boxc0 (hS.boxAt 1 rfl))) (by decide) ?_
  refine el_pv (v := u2) (pv_move rfl) (by decide) ?_
  replace hF := ob hF
  obtain ⟨r112, hr112, hF⟩ := hF
  refine el_call goes18 (spec_FactorizedRank_ok (hS.up ha0) (hS.up ha1) (hS.up ha2) hr112) (congrArg List.toArray (mapc rfl (mapc rfl rfl))) (by decide) ?_
  rintro _ w113 ⟨rfl, hx114⟩
  refine ⟨_, rfl, ?_⟩
  replace hS := hS.ext hx114
  refine el_pv (v := .tuple #[.int .i64 r112.1, .bool r112.2]) (pv_move rfl) (by decide) ?_
  refine el_pv (v := .int .i64 r112.1) (pv_extract rfl rfl) (by decide) ?_
  refine el_pv (v := .bool r112.2) (pv_extract rfl rfl) (by decide) ?_
  refine el_pv (v := .int .i64 r112.1) (pv_assign rfl) (by decide) ?_
  refine el_pv (v := .bool r112.2) (pv_assign rfl) (by decide) ?_
  refine el_nil ?_
  refine hQ111 _ _ _ ?_
  refine thn_n ?_
  refine cw_seq ?_
  refine cw_gen ?_
  intro Q115 hQ115
  refine cw_block ?_
  refine cw_gen ?_
  intro Q116 hQ116
  obtain ⟨s117, hL, hK118⟩ := ob hF
  refine cw_loopS (fun k e w => ∃ (v120 : Value), ∃ (x119 : List (List Int)), ∃ (x121 : Int), e 1 = u2 ∧ e 2 = .int .i64 a3 ∧ e 3 = .pointer (some ⟨b103, 0, none⟩) ∧ e 7 = v120 ∧ e 8 = .int .i64 x121 ∧ Sat w0 w [Own (sliceR (sliceR intR 3) 22) [v120] x119, Box b103 30 [u0, u1]] ∧ spec_FactorizedRowsFrom_L1 N k a2 a3 a0 a1 x119 x121 = some s117) N ?_ ?_ ?_
  · exact ⟨v109, [], r112.1, rfl, rfl, rfl, rfl, rfl, hS, hL⟩
  · rintro e w ⟨_, _, _, _, _, _, _, _, _, hz⟩; exact nomatch (show none = some _ from hz)
  · rintro k e128 w127 ⟨v120, x119, x121, he122, he123, he124, he125, he126, hS, hF⟩
    refine cw_gen ?_
    intro Q129 hQ129
    refine cw_seq ?_
    refine cw_gen ?_
    intro Q130 hQ130
    refine cw_seq ?_
    refine cw_gen ?_
    intro Q131 hQ131
    refine cw_reg ?_
    refine el_pv (v := v120) (pv_move he125) (by decide) ?_
    refine el_pv (v := .int .i64 (x119.length : Int)) (pv_len rfl (hS.rdAt (R := (sliceR (sliceR intR 3) 22)) 0 rfl)) (by decide) ?_
    refine el_pv (v := .int .i64 a3) (pv_move he123) (by decide) ?_
    refine el_pv (v := .bool (decide ((x119.length : Int) < a3))) (pv_lss rfl rfl) (by decide) ?_
    refine el_pv (v := .bool (decide ((x119.length : Int) < a3))) (pv_move rfl) (by decide) ?_
    replace hF := oif hF
    rcases hF with ⟨hb132, hF⟩ | ⟨hb132, hF⟩
    · refine el_on rfl hb132 ?_
      refine el_pv (v := .agg #[u0, u1]) (pv_loada (cs := [u0, u1]) he124 rfl (boxc0 (hS.boxAt 1 rfl))) (by decide) ?_
      refine el_on rfl hb132 ?_
      replace hF := ob hF
      obtain ⟨r133, hr133, hF⟩ := hF
      refine el_call goes34 (spec_IsValidFactorization_ok (hS.up ha0) (hS.up ha1) hr133) (congrArg List.toArray (mapc rfl rfl)) (by decide) ?_
      rintro _ w134 ⟨rfl, hx135⟩
      refine ⟨_, rfl, ?_⟩
      replace hS := hS.ext hx135
      refine el_pv (v := .bool r133) (pv_pick_t rfl hb132 rfl) (by decide) ?_
      refine el_pv (v := .bool r133) (pv_move rfl) (by decide) ?_
      replace hF := oif hF
      rcases hF with ⟨hb136, hF⟩ | ⟨hb136, hF⟩
      · refine el_on rfl hb136 ?_
        refine el_pv (v := u2) (pv_move he122) (by decide) ?_
        refine el_on rfl hb136 ?_
        refine el_pv (v := .int .i64 (a2.length : Int)) (pv_len rfl ha2) (by decide) ?_
        refine el_on rfl hb136 ?_
        refine el_pv (v := .pointer (some ⟨b103, 0 + 0, none⟩)) (pv_fieldAddr he124) (by decide) ?_
        refine el_on rfl hb136 ?_
        refine el_pv (v := u0) (pv_loadc rfl ((hS.boxAt 1 rfl) 0 _ rfl)) (by decide) ?_
        refine el_on rfl hb136 ?_
        refine el_pv (v := .int .i64 (a0.length : Int)) (pv_len rfl ha0) (by decide) ?_
        refine el_on rfl hb136 ?_
        refine el_pv (v := .bool ((a2.length : Int) == (a0.length : Int))) (pv_eql rfl rfl) (by decide) ?_
        refine el_pv (v := .bool ((a2.length : Int) == (a0.length : Int))) (pv_pick_t rfl hb136 rfl) (by decide) ?_
        refine el_nil ?_
        refine hQ131 _ _ _ ?_
        refine thn_n ?_
        replace hF := oif hF
        rcases hF with ⟨hb137, hF⟩ | ⟨hb137, hF⟩
        · refine cw_cond_t rfl hb137 ?_
          refine cw_skip ?_
          refine hQ130 _ _ _ ?_
          refine thn_n ?_
          refine cw_block ?_
          refine cw_gen ?_
          intro Q138 hQ138
          refine cw_seq ?_
          refine cw_gen ?_
          intro Q139 hQ139
          refine cw_reg ?_
          refine el_pv (v := .agg #[u0, u1]) (pv_loada (cs := [u0, u1]) he124 rfl (boxc0 (hS.boxAt 1 rfl))) (by decide) ?_
          refine el_pv (v := .int .i64 x121) (pv_move he126) (by decide) ?_
          replace hF := ob hF
          obtain ⟨r140, hr140, hF⟩ := hF
          refine el_call goes22 (spec_FactorizedRowAt_ok (hS.up ha0) (hS.up ha1) hr140) (congrArg List.toArray (mapc rfl (mapc rfl rfl))) (by decide) ?_
          rintro _ w143 ⟨v141, rfl, hS'⟩
          refine ⟨_, rfl, ?_⟩
          have hx144 := hS'.below
          replace hS := hS.call1 hS'
          refine el_pv (v := .tuple #[v141, .bool r140.2]) (pv_move rfl) (by decide) ?_
          refine el_pv (v := v141) (pv_extract rfl rfl) (by decide) ?_
          refine el_pv (v := .bool r140.2) (pv_extract rfl rfl) (by decide) ?_
          refine el_pv (v := v141) (pv_assign rfl) (by decide) ?_
          refine el_pv (v := .bool r140.2) (pv_assign rfl) (by decide) ?_
          refine el_nil ?_
          refine hQ139 _ _ _ ?_
          refine thn_n ?_
          refine cw_seq ?_
          refine cw_gen ?_
          intro Q145 hQ145
          refine cw_seq ?_
          refine cw_gen ?_
          intro Q146 hQ146
          refine cw_reg ?_
          refine el_pv (v := .bool r140.2) (pv_move rfl) (by decide) ?_
          refine el_pv (v := .bool (!r140.2)) (pv_not rfl) (by decide) ?_
          refine el_nil ?_
          refine hQ146 _ _ _ ?_
          refine thn_n ?_
          replace hF := oif hF
          rcases hF with ⟨hb147, hF⟩ | ⟨hb147, hF⟩
          · refine cw_cond_f rfl (bnot_t hb147) ?_
            refine cw_skip ?_
            refine hQ145 _ _ _ ?_
            refine thn_n ?_
            refine cw_seq ?_
            refine cw_gen ?_
            intro Q148 hQ148
            refine cw_reg ?_
            refine el_pv (v := v120) (pv_move he125) (by decide) ?_
            refine el_pv (v := v141) (pv_move rfl) (by decide) ?_
            refine el_buildSlice1 [v141] (cells_of rfl (oc (hS.rdAt (R := (sliceR intR 3)) 0 rfl))) (by rfl) (by decide) rfl (by decide) hS (by decide) ?_
            intro w149 b151 hS hx150
            replace hF := ob hF
            obtain ⟨x155, hx155, hF⟩ := hF
            have hrow156 := hS.boxRow 0 rfl
            replace hS : Sat w0 w149 [Own (sliceR (sliceR intR 3) 22) [v120] x119, Box b151 22 [v141], Own (sliceR intR 3) [v141] r140.1, Box b103 30 [u0, u1]] := hS.top 2 rfl
            replace hS : Sat w0 w149 [Own (sliceR intR 3) [v141] r140.1, Own (sliceR (sliceR intR 3) 22) [v120] x119, Box b151 22 [v141], Box b103 30 [u0, u1]] := hS.top 2 rfl
            replace hS := hS.one
            refine el_append rfl (by decide) rfl (by decide) hS rfl rfl rfl (by simp) hrow156 hx155 (by decide) ?_
            intro w153 v154 hS
            refine el_pv (v := v154) (pv_assign rfl) (by decide) ?_
            refine el_nil ?_
            refine hQ148 _ _ _ ?_
            refine thn_n ?_
            refine cw_reg ?_
            refine el_pv (v := .int .i64 x121) (pv_move he126) (by decide) ?_
            replace hF := ob hF
            obtain ⟨x158, hx158, hF⟩ := hF
            refine el_pv (v := .int .i64 x158) (pv_add rfl rfl hx158) (by decide) ?_
            refine el_pv (v := .int .i64 x158) (pv_assign rfl) (by decide) ?_
            refine el_nil ?_
            refine hQ138 _ _ _ ?_
            refine inb_n ?_
            refine hQ129 _ _ _ ?_
            refine thn_n ?_
            replace hS : Sat w0 w153 [Box b103 30 [u0, u1], Own (sliceR (sliceR intR 3) 22) [v154] x155, Box b151 22 [v141]] := hS.top 2 rfl
            replace hS : Sat w0 w153 [Own (sliceR (sliceR intR 3) 22) [v154] x155, Box b103 30 [u0, u1], Box b151 22 [v141]] := hS.top 1 rfl
            replace hS := hS.keep 2
            exact ⟨v154, x155, x158, he122, he123, he124, rfl, rfl, hS, hF⟩
          · refine cw_cond_t rfl (bnot_f hb147) ?_
            refine cw_exit ?_
            refine hQ145 _ _ _ ?_
            refine thn_x ?_
            refine hQ138 _ _ _ ?_
            refine inb_d rfl ?_
            refine hQ129 _ _ _ ?_
            refine thn_x ?_
            replace hF := exB hF hK118
            refine hQ116 _ _ _ ?_
            refine inb_s ?_
            refine hQ115 _ _ _ ?_
            refine thn_n ?_
            refine cw_seq ?_
            refine cw_gen ?_
            intro Q159 hQ159
            refine cw_reg ?_
            refine el_pv (v := v120) (pv_move he125) (by decide) ?_
            refine el_pv (v := v120) (pv_assign rfl) (by decide) ?_
            refine el_nil ?_
            refine hQ159 _ _ _ ?_
            refine thn_n ?_
            refine cw_ret ?_
            refine fin1 rfl rfl ?_
            replace hS : Sat w0 w143 [Own (sliceR (sliceR intR 3) 22) [v120] x119, Own (sliceR intR 3) [v141] r140.1, Box b103 30 [u0, u1]] := hS.top 1 rfl
            have hr := Option.some.inj hF
            exact ⟨v120, congrArg (fun (r : (List (List Int))) => Ending.returned (v120)) hr, Eq.mp (congrArg (fun (r : (List (List Int))) => Sat w0 w143 [Own (sliceR (sliceR intR 3) 22) [v120] r]) hr) (hS.keep 1)⟩
        · refine cw_cond_f rfl hb137 ?_
          refine cw_exit ?_
          refine hQ130 _ _ _ ?_
          refine thn_x ?_
          refine hQ129 _ _ _ ?_
          refine thn_x ?_
          replace hF := exB hF hK118
          refine hQ116 _ _ _ ?_
          refine inb_s ?_
          refine hQ115 _ _ _ ?_
          refine thn_n ?_
          refine cw_seq ?_
          refine cw_gen ?_
          intro Q160 hQ160
          refine cw_reg ?_
          refine el_pv (v := v120) (pv_move he125) (by decide) ?_
          refine el_pv (v := v120) (pv_assign rfl) (by decide) ?_
          refine el_nil ?_
          refine hQ160 _ _ _ ?_
          refine thn_n ?_
          refine cw_ret ?_
          refine fin1 rfl rfl ?_
          have hr := Option.some.inj hF
          exact ⟨v120, congrArg (fun (r : (List (List Int))) => Ending.returned (v120)) hr, Eq.mp (congrArg (fun (r : (List (List Int))) => Sat w0 w134 [Own (sliceR (sliceR intR 3) 22) [v120] r]) hr) (hS.keep 1)⟩
      · refine el_off rfl hb136 rfl (by decide) ?_
        refine el_off rfl hb136 rfl (by decide) ?_
        refine el_off rfl hb136 rfl (by decide) ?_
        refine el_off rfl hb136 rfl (by decide) ?_
        refine el_off rfl hb136 rfl (by decide) ?_
        refine el_off rfl hb136 rfl (by decide) ?_
        refine el_pv (v := .bool false) (pv_pick_f rfl hb136 rfl) (by decide) ?_
        refine el_nil ?_
        refine hQ131 _ _ _ ?_
        refine thn_n ?_
        refine cw_cond_f rfl rfl ?_
        refine cw_exit ?_
        refine hQ130 _ _ _ ?_
        refine thn_x ?_
        refine hQ129 _ _ _ ?_
        refine thn_x ?_
        replace hF := exB hF hK118
        refine hQ116 _ _ _ ?_
        refine inb_s ?_
        refine hQ115 _ _ _ ?_
        refine thn_n ?_
        refine cw_seq ?_
        refine cw_gen ?_
        intro Q161 hQ161
        refine cw_reg ?_
        refine el_pv (v := v120) (pv_move he125) (by decide) ?_
        refine el_pv (v := v120) (pv_assign rfl) (by decide) ?_
        refine el_nil ?_
        refine hQ161 _ _ _ ?_
        refine thn_n ?_
        refine cw_ret ?_
        refine fin1 rfl rfl ?_
        have hr := Option.some.inj hF
        exact ⟨v120, congrArg (fun (r : (List (List Int))) => Ending.returned (v120)) hr, Eq.mp (congrArg (fun (r : (List (List Int))) => Sat w0 w134 [Own (sliceR (sliceR intR 3) 22) [v120] r]) hr) (hS.keep 1)⟩
    · refine el_off rfl hb132 rfl (by decide) ?_
      refine el_off rfl hb132 rfl (by decide) ?_
      refine el_pv (v := .bool false) (pv_pick_f rfl hb132 rfl) (by decide) ?_
      refine el_pv (v := .bool false) (pv_move rfl) (by decide) ?_
      refine el_off rfl rfl rfl (by decide) ?_
      refine el_off rfl rfl rfl (by decide) ?_
      refine el_off rfl rfl rfl (by decide) ?_
      refine el_off rfl rfl rfl (by decide) ?_
      refine el_off rfl rfl rfl (by decide) ?_
      refine el_off rfl rfl rfl (by decide) ?_
      refine el_pv (v := .bool false) (pv_pick_f rfl rfl rfl) (by decide) ?_
      refine el_nil ?_
      refine hQ131 _ _ _ ?_
      refine thn_n ?_
      refine cw_cond_f rfl rfl ?_
      refine cw_exit ?_
      refine hQ130 _ _ _ ?_
      refine thn_x ?_
      refine hQ129 _ _ _ ?_
      refine thn_x ?_
      replace hF := exB hF hK118
      refine hQ116 _ _ _ ?_
      refine inb_s ?_
      refine hQ115 _ _ _ ?_
      refine thn_n ?_
      refine cw_seq ?_
      refine cw_gen ?_
      intro Q162 hQ162
      refine cw_reg ?_
      refine el_pv (v := v120) (pv_move he125) (by decide) ?_
      refine el_pv (v := v120) (pv_assign rfl) (by decide) ?_
      refine el_nil ?_
      refine hQ162 _ _ _ ?_
      refine thn_n ?_
      refine cw_ret ?_
      refine fin1 rfl rfl ?_
      have hr := Option.some.inj hF
      exact ⟨v120, congrArg (fun (r : (List (List Int))) => Ending.returned (v120)) hr, Eq.mp (congrArg (fun (r : (List (List Int))) => Sat w0 w127 [Own (sliceR (sliceR intR 3) 22) [v120] r]) hr) (hS.keep 1)⟩
set_option maxHeartbeats 4000000 in
theorem impl_FactorizedRowsFrom_ok {w0 : World} {u0 : Value} {a0 : List Int} {u1 : Value} {a1 : List (List Int × List Int)} {u2 : Value} {a2 : List Int} {a3 : Int} (ha0 : (sliceR intR 3).rd w0 [u0] a0) (ha1 : (sliceR (pairR (sliceR intR 3) (sliceR intR 3)) 57).rd w0 [u1] a1) (ha2 : (sliceR intR 3).rd w0 [u2] a2) {N : Nat} {r : (List (List Int))} (hF : impl_FactorizedRowsFrom N a0 a1 a2 a3 = some r) :
    Calls Try.prog 28 #[.agg #[u0, u1], u2, .int .i64 a3] w0 fun e w' => ∃ (q0 : Value), e = .returned (q0) ∧ Sat w0 w' [Own (sliceR (sliceR intR 3) 22) [q0] r] := by
  unfold impl_FactorizedRowsFrom at hF
  refine calls_E Try.func28 rfl rfl (of_decide_eq_true rfl) ?_
  have hS := Sat.start w0
  refine cw_seq ?_
  refine cw_gen ?_
  intro Q101 hQ101
  refine cw_reg ?_
  refine el_box [u0, u1] rfl hS (by decide) ?_
  intro w102 b103 hS hx104
  refine el_pv (v := (.slice none 0 0)) (pv_assign rfl) (by decide) ?_
  refine el_nil ?_
  refine hQ101 _ _ _ ?_
  refine thn_n ?_
  refine cw_seq ?_
  refine cw_gen ?_
  intro Q106 hQ106
  refine cw_seq ?_
  refine cw_gen ?_
  intro Q107 hQ107
  refine cw_reg ?_
  refine el_pv (v := .agg #[u0, u1]) (pv_loada (cs := [u0, u1]) rfl rfl (boxc0 (hS.boxAt 0 rfl))) (by decide) ?_
  replace hF := ob hF
  obtain ⟨r108, hr108, hF⟩ := hF
  refine el_call goes37 (impl_IsValidFactorization_ok (hS.up ha0) (hS.up ha1) hr108) (congrArg List.toArray (mapc rfl rfl)) (by decide) ?_
  rintro _ w109 ⟨rfl, hx110⟩
  refine ⟨_, rfl, ?_⟩
  replace hS := hS.ext hx110
  refine el_pv (v := .bool (!r108)) (pv_not rfl) (by decide) ?_
  refine el_pv (v := .bool (!r108)) (pv_move rfl) (by decide) ?_
  replace hF := oif hF
  rcases hF with ⟨hb111, hF⟩ | ⟨hb111, hF⟩
  · refine el_on rfl (bnot_t hb111) ?_
    refine el_pv (v := u2) (pv_move rfl) (by decide) ?_
    refine el_on rfl (bnot_t hb111) ?_
    refine el_pv (v := .int .i64 (a2.length : Int)) (pv_len rfl ha2) (by decide) ?_
    refine el_on rfl (bnot_t hb111) ?_
    refine el_pv (v := .pointer (some ⟨b103, 0 + 0, none⟩)) (pv_fieldAddr rfl) (by decide) ?_
    refine el_on rfl (bnot_t hb111) ?_
    refine el_pv (v := u0) (pv_loadc rfl ((hS.boxAt 0 rfl) 0 _ rfl)) (by decide) ?_
    refine el_on rfl (bnot_t hb111) ?_
    refine el_pv (v := .int .i64 (a0.length : Int)) (pv_len rfl ha0) (by decide) ?_
    refine el_on rfl (bnot_t hb111) ?_
    refine el_pv (v := .bool ((a2.length : Int) != (a0.length : Int))) (pv_neq rfl rfl) (by decide) ?_
    refine el_pv (v := .bool ((a2.length : Int) != (a0.length : Int))) (pv_pick_f rfl (bnot_t hb111) rfl) (by decide) ?_
    refine el_nil ?_
    refine hQ107 _ _ _ ?_
    refine thn_n ?_
    replace hF := oif hF
    rcases hF with ⟨hb112, hF⟩ | ⟨hb112, hF⟩
    · refine cw_cond_t rfl hb112 ?_
      refine cw_seq ?_
      refine cw_gen ?_
      intro Q113 hQ113
      refine cw_reg ?_
      refine el_pv (v := (.slice none 0 0)) (pv_assign rfl) (by decide) ?_
      refine el_nil ?_
      refine hQ113 _ _ _ ?_
      refine thn_n ?_
      refine cw_ret ?_
      refine hQ106 _ _ _ ?_
      refine thn_r ?_
      replace hS := hS.nil (sliceR intR 3) 22
      refine fin1 rfl rfl ?_
      have hr := Option.some.inj hF
      exact ⟨(.slice none 0 0), congrArg (fun (r : (List (List Int))) => Ending.returned ((.slice none 0 0))) hr, Eq.mp (congrArg (fun (r : (List (List Int))) => Sat w0 w109 [Own (sliceR (sliceR intR 3) 22) [(.slice none 0 0)] r]) hr) (hS.keep 1)⟩
    · refine cw_cond_f rfl hb112 ?_
      refine cw_skip ?_
      refine hQ106 _ _ _ ?_
      refine thn_n ?_
      refine cw_seq ?_
      refine cw_gen ?_
      intro Q115 hQ115
      refine cw_reg ?_
      refine el_pv (v := .agg #[u0, u1]) (pv_loada (cs := [u0, u1]) rfl rfl (boxc0 (hS.boxAt 0 rfl))) (by decide) ?_
      refine el_pv (v := u2) (pv_move rfl) (by decide) ?_
      replace hF := ob hF
      obtain ⟨r116, hr116, hF⟩ := hF
      refine el_call goes19 (impl_FactorizedRank_ok (hS.up ha0) (hS.up ha1) (hS.up ha2) hr116) (congrArg List.toArray (mapc rfl (mapc rfl rfl))) (by decide) ?_
      rintro _ w117 ⟨rfl, hx118⟩
      refine ⟨_, rfl, ?_⟩
      replace hS := hS.ext hx118
      refine el_pv (v := .tuple #[.int .i64 r116.1, .bool r116.2]) (pv_move rfl) (by decide) ?_
      refine el_pv (v := .int .i64 r116.1) (pv_extract rfl rfl) (by decide) ?_
      refine el_pv (v := .bool r116.2) (pv_extract rfl rfl) (by decide) ?_
      refine el_pv (v := .int .i64 r116.1) (pv_assign rfl) (by decide) ?_
      refine el_pv (v := .bool r116.2) (pv_assign rfl) (by decide) ?_
      refine el_nil ?_
      refine hQ115 _ _ _ ?_
      refine thn_n ?_
      refine cw_seq ?_
      refine cw_gen ?_
      intro Q119 hQ119
      refine cw_reg ?_
      refine el_pv (v := (.slice none 0 0)) (pv_assign rfl) (by decide) ?_
      refine el_nil ?_
      refine hQ119 _ _ _ ?_
      refine thn_n ?_
      refine cw_seq ?_
      refine cw_gen ?_
      intro Q120 hQ120
      refine cw_block ?_
      refine cw_gen ?_
      intro Q121 hQ121
      replace hS := hS.nil (sliceR intR 3) 22
      obtain ⟨s123, hL, hK124⟩ := ob hF
      refine cw_loopS (fun k e w => ∃ (v126 : Value), ∃ (x125 : List (List Int)), e 2 = .int .i64 a3 ∧ e 3 = .pointer (some ⟨b103, 0, none⟩) ∧ e 7 = .int .i64 r116.1 ∧ e 9 = v126 ∧ Sat w0 w [Own (sliceR (sliceR intR 3) 22) [v126] x125, Box b103 30 [u0, u1]] ∧ impl_FactorizedRowsFrom_L1 N k a3 a0 a1 r116.1 x125 = some s123) N ?_ ?_ ?_
      · exact ⟨(.slice none 0 0), [], rfl, rfl, rfl, rfl, hS, hL⟩
      · rintro e w ⟨_, _, _, _, _, _, _, hz⟩; exact nomatch (show none = some _ from hz)
      · rintro k e132 w131 ⟨v126, x125, he127, he128, he129, he130, hS, hF⟩
        refine cw_gen ?_
        intro Q133 hQ133
        refine cw_seq ?_
        refine cw_gen ?_
        intro Q134 hQ134
        refine cw_seq ?_
        refine cw_gen ?_
        intro Q135 hQ135
        refine cw_reg ?_
        refine el_pv (v := v126) (pv_move he130) (by decide) ?_
        refine el_pv (v := .int .i64 (x125.length : Int)) (pv_len rfl (hS.rdAt (R := (sliceR (sliceR intR 3) 22)) 0 rfl)) (by decide) ?_
        refine el_pv (v := .int .i64 a3) (pv_move he127) (by decide) ?_
        refine el_pv (v := .bool (decide ((x125.length : Int) < a3))) (pv_lss rfl rfl) (by decide) ?_
        refine el_nil ?_
        refine hQ135 _ _ _ ?_
        refine thn_n ?_
        replace hF := oif hF
        rcases hF with ⟨hb136, hF⟩ | ⟨hb136, hF⟩
        · refine cw_cond_t rfl hb136 ?_
          refine cw_skip ?_
          refine hQ134 _ _ _ ?_
          refine thn_n ?_
          refine cw_block ?_
          refine cw_gen ?_
          intro Q137 hQ137
          refine cw_seq ?_
          refine cw_gen ?_
          intro Q138 hQ138
          refine cw_reg ?_
          refine el_pv (v := .agg #[u0, u1]) (pv_loada (cs := [u0, u1]) he128 rfl (boxc0 (hS.boxAt 1 rfl))) (by decide) ?_
          refine el_pv (v := .int .i64 r116.1) (pv_move he129) (by decide) ?_
          refine el_pv (v := v126) (pv_move he130) (by decide) ?_
          refine el_pv (v := .int .i64 (x125.length : Int)) (pv_len rfl (hS.rdAt (R := (sliceR (sliceR intR 3) 22)) 0 rfl)) (by decide) ?_
          replace hF := ob hF
          obtain ⟨x139, hx139, hF⟩ := hF
          refine el_pv (v := .int .i64 x139) (pv_add rfl rfl hx139) (by decide) ?_
          replace hF := ob hF
          obtain ⟨r140, hr140, hF⟩ := hF
          refine el_call goes23 (impl_FactorizedRowAt_ok (hS.up ha0) (hS.up ha1) hr140) (congrArg List.toArray (mapc rfl (mapc rfl rfl))) (by decide) ?_
          rintro _ w143 ⟨v141, rfl, hS'⟩
          refine ⟨_, rfl, ?_⟩
          have hx144 := hS'.below
          replace hS := hS.call1 hS'
          refine el_pv (v := .tuple #[v141, .bool r140.2]) (pv_move rfl) (by decide) ?_
          refine el_pv (v := v141) (pv_extract rfl rfl) (by decide) ?_
          refine el_pv (v := .bool r140.2) (pv_extract rfl rfl) (by decide) ?_
          refine el_pv (v := v141) (pv_assign rfl) (by decide) ?_
          refine el_pv (v := .bool r140.2) (pv_assign rfl) (by decide) ?_
          refine el_nil ?_
          refine hQ138 _ _ _ ?_
          refine thn_n ?_
          refine cw_seq ?_
          refine cw_gen ?_
          intro Q145 hQ145
          refine cw_seq ?_
          refine cw_gen ?_
          intro Q146 hQ146
          refine cw_reg ?_
          refine el_pv (v := .bool r140.2) (pv_move rfl) (by decide) ?_
          refine el_pv (v := .bool (!r140.2)) (pv_not rfl) (by decide) ?_
          refine el_nil ?_
          refine hQ146 _ _ _ ?_
          refine thn_n ?_
          replace hF := oif hF
          rcases hF with ⟨hb147, hF⟩ | ⟨hb147, hF⟩
          · refine cw_cond_f rfl (bnot_t hb147) ?_
            refine cw_skip ?_
            refine hQ145 _ _ _ ?_
            refine thn_n ?_
            refine cw_reg ?_
            refine el_pv (v := v126) (pv_move he130) (by decide) ?_
            refine el_pv (v := v141) (pv_move rfl) (by decide) ?_
            refine el_buildSlice1 [v141] (cells_of rfl (oc (hS.rdAt (R := (sliceR intR 3)) 0 rfl))) (by rfl) (by decide) rfl (by decide) hS (by decide) ?_
            intro w148 b150 hS hx149
            replace hF := ob hF
            obtain ⟨x154, hx154, hF⟩ := hF
            have hrow155 := hS.boxRow 0 rfl
            replace hS : Sat w0 w148 [Own (sliceR (sliceR intR 3) 22) [v126] x125, Box b150 22 [v141], Own (sliceR intR 3) [v141] r140.1, Box b103 30 [u0, u1]] := hS.top 2 rfl
            replace hS : Sat w0 w148 [Own (sliceR intR 3) [v141] r140.1, Own (sliceR (sliceR intR 3) 22) [v126] x125, Box b150 22 [v141], Box b103 30 [u0, u1]] := hS.top 2 rfl
            replace hS := hS.one
            refine el_append rfl (by decide) rfl (by decide) hS rfl rfl rfl (by simp) hrow155 hx154 (by decide) ?_
            intro w152 v153 hS
            refine el_pv (v := v153) (pv_assign rfl) (by decide) ?_
            refine el_nil ?_
            refine hQ137 _ _ _ ?_
            refine inb_n ?_
            refine hQ133 _ _ _ ?_
            refine thn_n ?_
            replace hS : Sat w0 w152 [Box b103 30 [u0, u1], Own (sliceR (sliceR intR 3) 22) [v153] x154, Box b150 22 [v141]] := hS.top 2 rfl
            replace hS : Sat w0 w152 [Own (sliceR (sliceR intR 3) 22) [v153] x154, Box b103 30 [u0, u1], Box b150 22 [v141]] := hS.top 1 rfl
            replace hS := hS.keep 2
            exact ⟨v153, x154, he127, he128, he129, rfl, hS, hF⟩
          · refine cw_cond_t rfl (bnot_f hb147) ?_
            refine cw_exit ?_
            refine hQ145 _ _ _ ?_
            refine thn_x ?_
            refine hQ137 _ _ _ ?_
            refine inb_d rfl ?_
            refine hQ133 _ _ _ ?_
            refine thn_x ?_
            replace hF := exB hF hK124
            refine hQ121 _ _ _ ?_
            refine inb_s ?_
            refine hQ120 _ _ _ ?_
            refine thn_n ?_
            refine cw_seq ?_
            refine cw_gen ?_
            intro Q157 hQ157
            refine cw_reg ?_
            refine el_pv (v := v126) (pv_move he130) (by decide) ?_
            refine el_pv (v := v126) (pv_assign rfl) (by decide) ?_
            refine el_nil ?_
            refine hQ157 _ _ _ ?_
            refine thn_n ?_
            refine cw_ret ?_
            refine fin1 rfl rfl ?_
            replace hS : Sat w0 w143 [Own (sliceR (sliceR intR 3) 22) [v126] x125, Own (sliceR intR 3) [v141] r140.1, Box b103 30 [u0, u1]] := hS.top 1 rfl
            have hr := Option.some.inj hF
            exact ⟨v126, congrArg (fun (r : (List (List Int))) => Ending.returned (v126)) hr, Eq.mp (congrArg (fun (r : (List (List Int))) => Sat w0 w143 [Own (sliceR (sliceR intR 3) 22) [v126] r]) hr) (hS.keep 1)⟩
        · refine cw_cond_f rfl hb136 ?_
          refine cw_exit ?_
          refine hQ134 _ _ _ ?_
          refine thn_x ?_
          refine hQ133 _ _ _ ?_
          refine thn_x ?_
          replace hF := exB hF hK124
          refine hQ121 _ _ _ ?_
          refine inb_s ?_
          refine hQ120 _ _ _ ?_
          refine thn_n ?_
          refine cw_seq ?_
          refine cw_gen ?_
          intro Q158 hQ158
          refine cw_reg ?_
          refine el_pv (v := v126) (pv_move he130) (by decide) ?_
          refine el_pv (v := v126) (pv_assign rfl) (by decide) ?_
          refine el_nil ?_
          refine hQ158 _ _ _ ?_
          refine thn_n ?_
          refine cw_ret ?_
          refine fin1 rfl rfl ?_
          have hr := Option.some.inj hF
          exact ⟨v126, congrArg (fun (r : (List (List Int))) => Ending.returned (v126)) hr, Eq.mp (congrArg (fun (r : (List (List Int))) => Sat w0 w131 [Own (sliceR (sliceR intR 3) 22) [v126] r]) hr) (hS.keep 1)⟩
  · refine el_off rfl (bnot_f hb111) rfl (by decide) ?_
    refine el_off rfl (bnot_f hb111) rfl (by decide) ?_
    refine el_off rfl (bnot_f hb111) rfl (by decide) ?_
    refine el_off rfl (bnot_f hb111) rfl (by decide) ?_
    refine el_off rfl (bnot_f hb111) rfl (by decide) ?_
    refine el_off rfl (bnot_f hb111) rfl (by decide) ?_
    refine el_pv (v := .bool true) (pv_pick_t rfl (bnot_f hb111) rfl) (by decide) ?_
    refine el_nil ?_
    refine hQ107 _ _ _ ?_
    refine thn_n ?_
    refine cw_cond_t rfl rfl ?_
    refine cw_seq ?_
    refine cw_gen ?_
    intro Q159 hQ159
    refine cw_reg ?_
    refine el_pv (v := (.slice none 0 0)) (pv_assign rfl) (by decide) ?_
    refine el_nil ?_
    refine hQ159 _ _ _ ?_
    refine thn_n ?_
    refine cw_ret ?_
    refine hQ106 _ _ _ ?_
    refine thn_r ?_
    replace hS := hS.nil (sliceR intR 3) 22
    refine fin1 rfl rfl ?_
    have hr := Option.some.inj hF
    exact ⟨(.slice none 0 0), congrArg (fun (r : (List (List Int))) => Ending.returned ((.slice none 0 0))) hr, Eq.mp (congrArg (fun (r : (List (List Int))) => Sat w0 w109 [Own (sliceR (sliceR intR 3) 22) [(.slice none 0 0)] r]) hr) (hS.keep 1)⟩
set_option maxHeartbeats 4000000 in
theorem laws_eqIntSS_ok {w0 : World} {u0 : Value} {a0 : List (List Int)} {u1 : Value} {a1 : List (List Int)} (ha0 : (sliceR (sliceR intR 3) 22).rd w0 [u0] a0) (ha1 : (sliceR (sliceR intR 3) 22).rd w0 [u1] a1) {N : Nat} {r : Bool} (hF : laws_eqIntSS N a0 a1 = some r) :
    Calls Try.prog 29 #[u0, u1] w0 fun e w' => e = .returned (.bool r) ∧ Ext w0 w' := by
  unfold laws_eqIntSS at hF
  refine calls_E Try.func29 rfl rfl (of_decide_eq_true rfl) ?_
  have hS := Sat.start w0
  refine cw_seq ?_
  refine cw_gen ?_
  intro Q101 hQ101
  refine cw_reg ?_
  refine el_pv (v := .bool false) (pv_assign rfl) (by decide) ?_
  refine el_nil ?_
  refine hQ101 _ _ _ ?_
  refine thn_n ?_
  refine cw_seq ?_
  refine cw_gen ?_
  intro Q102 hQ102
  refine cw_seq ?_
  refine cw_gen ?_
  intro Q103 hQ103
  refine cw_reg ?_
  refine el_pv (v := u0) (pv_move rfl) (by decide) ?_
  refine el_pv (v := .int .i64 (a0.length : Int)) (pv_len rfl ha0) (by decide) ?_
  refine el_pv (v := u1) (pv_move rfl) (by decide) ?_
  refine el_pv (v := .int .i64 (a1.length : Int)) (pv_len rfl ha1) (by decide) ?_
  refine el_pv (v := .bool ((a0.length : Int) != (a1.length : Int))) (pv_neq rfl rfl) (by decide) ?_
  refine el_nil ?_
  refine hQ103 _ _ _ ?_
  refine thn_n ?_
  replace hF := oif hF
  rcases hF with ⟨hb104, hF⟩ | ⟨hb104, hF⟩
  · refine cw_cond_t rfl hb104 ?_
    refine cw_seq ?_
    refine cw_gen ?_
    intro Q105 hQ105
    refine cw_reg ?_
    refine el_pv (v := .bool false) (pv_assign rfl) (by decide) ?_
    refine el_nil ?_
    refine hQ105 _ _ _ ?_
    refine thn_n ?_
    refine cw_ret ?_
    refine hQ102 _ _ _ ?_
    refine thn_r ?_
    refine fin1 rfl rfl ?_
    have hr := Option.some.inj hF
    exact ⟨congrArg (fun (r : Bool) => Ending.returned (.bool r)) hr, hS.below⟩
  · refine cw_cond_f rfl hb104 ?_
    refine cw_skip ?_
    refine hQ102 _ _ _ ?_
    refine thn_n ?_
    refine cw_seq ?_
    refine cw_gen ?_
    intro Q106 hQ106
    refine cw_seq ?_
    refine cw_gen ?_
    intro Q107 hQ107
    refine cw_reg ?_
    refine el_pv (v := .int .i64 0) (pv_assign rfl) (by decide) ?_
    refine el_nil ?_
    refine hQ107 _ _ _ ?_
    refine thn_n ?_
    refine cw_block ?_
    refine cw_gen ?_
    intro Q108 hQ108
    obtain ⟨s109, hL, hK110⟩ := ob hF
    refine cw_loopS (fun k e w => ∃ (x111 : Int), e 0 = u0 ∧ e 1 = u1 ∧ e 5 = .int .i64 x111 ∧ Sat w0 w [] ∧ laws_eqIntSS_L1 N k a0 a1 x111 = some s109) N ?_ ?_ ?_
    · exact ⟨0, rfl, rfl, rfl, hS, hL⟩
    · rintro e w ⟨_, _, _, _, _, hz⟩; exact nomatch (show none = some _ from hz)
    · rintro k e116 w115 ⟨x111, he112, he113, he114, hS, hF⟩
      refine cw_gen ?_
      intro Q117 hQ117
      refine cw_seq ?_
      refine cw_gen ?_
      intro Q118 hQ118
      refine cw_seq ?_
      refine cw_gen ?_
      intro Q119 hQ119
      refine cw_reg ?_
      refine el_pv (v := .int .i64 x111) (pv_move he114) (by decide) ?_
      refine el_pv (v := u0) (pv_move he112) (by decide) ?_
      refine el_pv (v := .int .i64 (a0.length : Int)) (pv_len rfl ha0) (by decide) ?_
      refine el_pv (v := .bool (decide (x111 < (a0.length : Int)))) (pv_lss rfl rfl) (by decide) ?_
      refine el_nil ?_
      refine hQ119 _ _ _ ?_
      refine thn_n ?_
      replace hF := oif hF
      rcases hF with ⟨hb120, hF⟩ | ⟨hb120, hF⟩
      · refine cw_cond_t rfl hb120 ?_
        refine cw_skip ?_
        refine hQ118 _ _ _ ?_
        refine thn_n ?_
        refine cw_seq ?_
        refine cw_gen ?_
        intro Q121 hQ121
        refine cw_block ?_
        refine cw_gen ?_
        intro Q122 hQ122
        refine cw_seq ?_
        refine cw_gen ?_
        intro Q123 hQ123
        refine cw_regq (by kernel_rfl) (by kernel_rfl) ?_
        refine ql_pv (v := u0) (pv_move he112) (by decide) ?_
        refine ql_pv (v := .int .i64 x111) (pv_move he114) (by decide) ?_
        replace hF := ob hF
        obtain ⟨x124, hx124, hF⟩ := hF
        refine ql_index (wA := w0) rfl ha0 rfl (by decide) rfl hx124 (by decide) ?_
        intro b125 of126 c127 hr128 hm129
        obtain ⟨v130, rfl⟩ := slice_one hr128
        refine ql_pv (v := v130) (pv_loadc rfl ((cells_up hS.below hm129) 0 _ rfl)) (by decide) ?_
        refine ql_pv (v := u1) (pv_move he113) (by decide) ?_
        refine ql_pv (v := .int .i64 x111) (pv_move he114) (by decide) ?_
        replace hF := ob hF
        obtain ⟨x131, hx131, hF⟩ := hF
        refine ql_index (wA := w0) rfl ha1 rfl (by decide) rfl hx131 (by decide) ?_
        intro b132 of133 c134 hr135 hm136
        obtain ⟨v137, rfl⟩ := slice_one hr135
        refine ql_pv (v := v137) (pv_loadc rfl ((cells_up hS.below hm136) 0 _ rfl)) (by decide) ?_
        replace hF := ob hF
        obtain ⟨r138, hr138, hF⟩ := hF
        refine ql_call (.bool r138) goes17 (fun w' hw' => laws_eqIntS_ok (rd_up (hS.up hr128) hw') (rd_up (hS.up hr135) hw') hr138) (congrArg List.toArray (mapc rfl (mapc rfl rfl))) (by decide) ?_
        refine ql_pv (v := .bool (!r138)) (pv_not rfl) (by decide) ?_
        refine ql_nil ?_
        intro w139 hx140
        replace hS := hS.ext hx140
        refine hQ123 _ _ _ ?_
        refine thn_n ?_
        replace hF := oif hF
        rcases hF with ⟨hb141, hF⟩ | ⟨hb141, hF⟩
        · refine cw_cond_f rfl (bnot_t hb141) ?_
          refine cw_skip ?_
          refine hQ122 _ _ _ ?_
          refine inb_n ?_
          refine hQ121 _ _ _ ?_
          refine thn_n ?_
          refine cw_reg ?_
          refine el_pv (v := .int .i64 x111) (pv_move he114) (by decide) ?_
          replace hF := ob hF
          obtain ⟨x142, hx142, hF⟩ := hF
          refine el_pv (v := .int .i64 x142) (pv_add rfl rfl hx142) (by decide) ?_
          refine el_pv (v := .int .i64 x142) (pv_assign rfl) (by decide) ?_
          refine el_nil ?_
          refine hQ117 _ _ _ ?_
          refine thn_n ?_
          replace hS := hS.keep 0
          exact ⟨x142, he112, he113, rfl, hS, hF⟩
        · refine cw_cond_t rfl (bnot_f hb141) ?_
          refine cw_seq ?_
          refine cw_gen ?_
          intro Q143 hQ143
          refine cw_reg ?_
          refine el_pv (v := .bool false) (pv_assign rfl) (by decide) ?_
          refine el_nil ?_
          refine hQ143 _ _ _ ?_
          refine thn_n ?_
          refine cw_ret ?_
          refine hQ122 _ _ _ ?_
          refine inb_r ?_
          refine hQ121 _ _ _ ?_
          refine thn_r ?_
          refine hQ117 _ _ _ ?_
          refine thn_r ?_
          refine hQ108 _ _ _ ?_
          refine inb_r ?_
          refine hQ106 _ _ _ ?_
          refine thn_r ?_
          replace hF := exL hF hK110
          refine fin1 rfl rfl ?_
          have hr := Option.some.inj hF
          exact ⟨congrArg (fun (r : Bool) => Ending.returned (.bool r)) hr, hS.below⟩
      · refine cw_cond_f rfl hb120 ?_
        refine cw_exit ?_
        refine hQ118 _ _ _ ?_
        refine thn_x ?_
        refine hQ117 _ _ _ ?_
        refine thn_x ?_
        replace hF := exA hF hK110
        refine hQ108 _ _ _ ?_
        refine inb_s ?_
        refine hQ106 _ _ _ ?_
        refine thn_n ?_
        refine cw_seq ?_
        refine cw_gen ?_
        intro Q144 hQ144
        refine cw_reg ?_
        refine el_pv (v := .bool true) (pv_assign rfl) (by decide) ?_
        refine el_nil ?_
        refine hQ144 _ _ _ ?_
        refine thn_n ?_
        refine cw_ret ?_
        refine fin1 rfl rfl ?_
        have hr := Option.some.inj hF
        exact ⟨congrArg (fun (r : Bool) => Ending.returned (.bool r)) hr, hS.below⟩
set_option maxHeartbeats 4000000 in
theorem laws_markIntSS_ok {w0 : World} {w00 : World} {G0 : List Asn} {u0 : Value} {a0 : List (List Int)} {a1 : Int} (hS : Sat w00 w0 (Own (sliceR (sliceR intR 3) 22) [u0] a0 :: G0)) {N : Nat} {r : Int × (List (List Int))} (hF : laws_markIntSS N a0 a1 = some r) :
    Calls Try.prog 30 #[u0, .int .i64 a1] w0 fun e w' => e = .returned (.int .i64 r.1) ∧ Sat w00 w' (Own (sliceR (sliceR intR 3) 22) [u0] r.2 :: G0) := by
  unfold laws_markIntSS at hF
  refine calls_E Try.func30 rfl rfl (of_decide_eq_true rfl) ?_
  refine cw_seq ?_
  refine cw_gen ?_
  intro Q101 hQ101
  refine cw_reg ?_
  refine el_pv (v := .int .i64 0) (pv_assign rfl) (by decide) ?_
  refine el_nil ?_
  refine hQ101 _ _ _ ?_
  refine thn_n ?_
  refine cw_seq ?_
  refine cw_gen ?_
  intro Q102 hQ102
  refine cw_seq ?_
  refine cw_gen ?_
  intro Q103 hQ103
  refine cw_reg ?_
  refine el_pv (v := .int .i64 0) (pv_assign rfl) (by decide) ?_
  refine el_nil ?_
  refine hQ103 _ _ _ ?_
  refine thn_n ?_
  refine cw_block ?_
  refine cw_gen ?_
  intro Q104 hQ104
  obtain ⟨s105, hL, hK106⟩ := ob hF
  refine cw_loopS (fun k e w => ∃ (x107 : List (List Int)), ∃ (x108 : Int), ∃ (x109 : Int), e 0 = u0 ∧ e 1 = .int .i64 x108 ∧ e 5 = .int .i64 x109 ∧ Sat w00 w (Own (sliceR (sliceR intR 3) 22) [u0] x107 :: G0) ∧ laws_markIntSS_L1 N k x107 x108 x109 = some s105) N ?_ ?_ ?_
  · exact ⟨a0, a1, 0, rfl, rfl, rfl, hS, hL⟩
  · rintro e w ⟨_, _, _, _, _, _, _, hz⟩; exact nomatch (show none = some _ from hz)
  · rintro k e114 w113 ⟨x107, x108, x109, he110, he111, he112, hS, hF⟩
    refine cw_gen ?_
    intro Q115 hQ115
    refine cw_seq ?_
    refine cw_gen ?_
    intro Q116 hQ116
    refine cw_seq ?_
    refine cw_gen ?_
    intro Q117 hQ117
    refine cw_reg ?_
    refine el_pv (v := .int .i64 x109) (pv_move he112) (by decide) ?_
    refine el_pv (v := u0) (pv_move he110) (by decide) ?_
    refine el_pv (v := .int .i64 (x107.length : Int)) (pv_len rfl (hS.rdAt (R := (sliceR (sliceR intR 3) 22)) 0 rfl)) (by decide) ?_
    refine el_pv (v := .bool (decide (x109 < (x107.length : Int)))) (pv_lss rfl rfl) (by decide) ?_
    refine el_nil ?_
    refine hQ117 _ _ _ ?_
    refine thn_n ?_
    replace hF := oif hF
    rcases hF with ⟨hb118, hF⟩ | ⟨hb118, hF⟩
    · refine cw_cond_t rfl hb118 ?_
      refine cw_skip ?_
      refine hQ116 _ _ _ ?_
      refine thn_n ?_
      refine cw_seq ?_
      refine cw_gen ?_
      intro Q119 hQ119
      refine cw_block ?_
      refine cw_gen ?_
      intro Q120 hQ120
      refine cw_reg ?_
      refine el_pv (v := u0) (pv_move he110) (by decide) ?_
      refine el_pv (v := .int .i64 x109) (pv_move he112) (by decide) ?_
      replace hF := ob hF
      obtain ⟨x121, hx121, hF⟩ := hF
      refine el_indexO hS rfl rfl (by decide) rfl hx121 (by decide) ?_
      intro b122 of123 c124 hv127 hr125 hm126
      obtain ⟨v128, rfl⟩ := slice_one hr125
      refine el_pv (v := v128) (pv_loadc rfl (hm126 0 _ rfl)) (by decide) ?_
      refine el_pv (v := .int .i64 x108) (pv_move he111) (by decide) ?_
      replace hS := hS.takeOut hv127 hx121 (m := 1) rfl rfl hm126
      replace hS : Sat w00 w113 (Own (sliceR intR 3) [v128] x121 :: _ :: G0) := hS
      replace hF := ob hF
      obtain ⟨r130, hr130, hF⟩ := hF
      refine el_call goes25 (laws_markIntS_ok hS hr130) (congrArg List.toArray (mapc rfl (mapc rfl rfl))) (by decide) ?_
      rintro _ w131 ⟨rfl, hS⟩
      refine ⟨_, rfl, ?_⟩
      replace hS : Sat w00 w131 (Own (sliceR intR 3) [v128] r130.2 :: _ :: G0) := hS
      replace hF := ob hF
      obtain ⟨x132, hx132, hF⟩ := hF
      replace hS := hS.putBack hx132
      replace hS : Sat w00 w131 (Own (sliceR (sliceR intR 3) 22) [u0] x132 :: G0) := hS
      refine el_pv (v := .int .i64 r130.1) (pv_assign rfl) (by decide) ?_
      refine el_nil ?_
      refine hQ120 _ _ _ ?_
      refine inb_n ?_
      refine hQ119 _ _ _ ?_
      refine thn_n ?_
      refine cw_reg ?_
      refine el_pv (v := .int .i64 x109) (pv_move he112) (by decide) ?_
      replace hF := ob hF
      obtain ⟨x133, hx133, hF⟩ := hF
      refine el_pv (v := .int .i64 x133) (pv_add rfl rfl hx133) (by decide) ?_
      refine el_pv (v := .int .i64 x133) (pv_assign rfl) (by decide) ?_
      refine el_nil ?_
      refine hQ115 _ _ _ ?_
      refine thn_n ?_
      exact ⟨x132, r130.1, x133, he110, rfl, rfl, hS, hF⟩
    · refine cw_cond_f rfl hb118 ?_
      refine cw_exit ?_
      refine hQ116 _ _ _ ?_
      refine thn_x ?_
      refine hQ115 _ _ _ ?_
      refine thn_x ?_
      replace hF := exB hF hK106
      refine hQ104 _ _ _ ?_
      refine inb_s ?_
      refine hQ102 _ _ _ ?_
      refine thn_n ?_
      refine cw_seq ?_
      refine cw_gen ?_
      intro Q134 hQ134
      refine cw_reg ?_
      refine el_pv (v := .int .i64 x108) (pv_move he111) (by decide) ?_
      refine el_pv (v := .int .i64 x108) (pv_assign rfl) (by decide) ?_
      refine el_nil ?_
      refine hQ134 _ _ _ ?_
      refine thn_n ?_
      refine cw_ret ?_
      refine fin1 rfl rfl ?_
      have hr := Option.some.inj hF
      exact ⟨congrArg (fun (r : Int × (List (List Int))) => Ending.returned (.int .i64 r.1)) hr, Eq.mp (congrArg (fun (r : Int × (List (List Int))) => Sat w00 w113 (Own (sliceR (sliceR intR 3) 22) [u0] r.2 :: G0)) hr) hS⟩
set_option maxHeartbeats 4000000 in
theorem laws_heldIntSS_ok {w0 : World} {u0 : Value} {a0 : List (List Int)} {a1 : Int} (ha0 : (sliceR (sliceR intR 3) 22).rd w0 [u0] a0) {N : Nat} {r : Int} (hF : laws_heldIntSS N a0 a1 = some r) :
    Calls Try.prog 31 #[u0, .int .i64 a1] w0 fun e w' => e = .returned (.int .i64 r) ∧ Ext w0 w' := by
  unfold laws_heldIntSS at hF
  refine calls_E Try.func31 rfl rfl (of_decide_eq_true rfl) ?_
  have hS := Sat.start w0
  refine cw_seq ?_
  refine cw_gen ?_
  intro Q101 hQ101
  refine cw_reg ?_
  refine el_pv (v := .int .i64 0) (pv_assign rfl) (by decide) ?_
  refine el_nil ?_
  refine hQ101 _ _ _ ?_
  refine thn_n ?_
  refine cw_seq ?_
  refine cw_gen ?_
  intro Q102 hQ102
  refine cw_seq ?_
  refine cw_gen ?_
  intro Q103 hQ103
  refine cw_reg ?_
  refine el_pv (v := .int .i64 0) (pv_assign rfl) (by decide) ?_
  refine el_nil ?_
  refine hQ103 _ _ _ ?_
  refine thn_n ?_
  refine cw_block ?_
  refine cw_gen ?_
  intro Q104 hQ104
  obtain ⟨s105, hL, hK106⟩ := ob hF
  refine cw_loopS (fun k e w => ∃ (x107 : Int), ∃ (x108 : Int), e 0 = u0 ∧ e 1 = .int .i64 x107 ∧ e 5 = .int .i64 x108 ∧ Sat w0 w [] ∧ laws_heldIntSS_L1 N k a0 x107 x108 = some s105) N ?_ ?_ ?_
  · exact ⟨a1, 0, rfl, rfl, rfl, hS, hL⟩
  · rintro e w ⟨_, _, _, _, _, _, hz⟩; exact nomatch (show none = some _ from hz)
  · rintro k e113 w112 ⟨x107, x108, he109, he110, he111, hS, hF⟩
    refine cw_gen ?_
    intro Q114 hQ114
    refine cw_seq ?_
    refine cw_gen ?_
    intro Q115 hQ115
    refine cw_seq ?_
    refine cw_gen ?_
    intro Q116 hQ116
    refine cw_reg ?_
    refine el_pv (v := .int .i64 x108) (pv_move he111) (by decide) ?_
    refine el_pv (v := u0) (pv_move he109) (by decide) ?_
    refine el_pv (v := .int .i64 (a0.length : Int)) (pv_len rfl ha0) (by decide) ?_
    refine el_pv (v := .bool (decide (x108 < (a0.length : Int)))) (pv_lss rfl rfl) (by decide) ?_
    refine el_nil ?_
    refine hQ116 _ _ _ ?_
    refine thn_n ?_
    replace hF := oif hF
    rcases hF with ⟨hb117, hF⟩ | ⟨hb117, hF⟩
    · refine cw_cond_t rfl hb117 ?_
      refine cw_skip ?_
      refine hQ115 _ _ _ ?_
      refine thn_n ?_
      refine cw_seq ?_
      refine cw_gen ?_
      intro Q118 hQ118
      refine cw_block ?_
      refine cw_gen ?_
      intro Q119 hQ119
      refine cw_seq ?_
      refine cw_gen ?_
      intro Q120 hQ120
      refine cw_reg ?_
      refine el_pv (v := u0) (pv_move he109) (by decide) ?_
      refine el_pv (v := .int .i64 x108) (pv_move he111) (by decide) ?_
      replace hF := ob hF
      obtain ⟨x121, hx121, hF⟩ := hF
      refine el_index (wA := w0) rfl ha0 rfl (by decide) rfl hx121 (by decide) ?_
      intro b122 of123 c124 hr125 hm126
      obtain ⟨v127, rfl⟩ := slice_one hr125
      refine el_pv (v := v127) (pv_loadc rfl ((cells_up hS.below hm126) 0 _ rfl)) (by decide) ?_
      refine el_pv (v := .int .i64 x107) (pv_move he110) (by decide) ?_
      replace hF := ob hF
      obtain ⟨r128, hr128, hF⟩ := hF
      refine el_call goes26 (laws_heldIntS_ok (hS.up hr125) hr128) (congrArg List.toArray (mapc rfl (mapc rfl rfl))) (by decide) ?_
      rintro _ w129 ⟨rfl, hx130⟩
      refine ⟨_, rfl, ?_⟩
      replace hS := hS.ext hx130
      refine el_pv (v := .int .i64 r128) (pv_assign rfl) (by decide) ?_
      refine el_nil ?_
      refine hQ120 _ _ _ ?_
      refine thn_n ?_
      refine cw_seq ?_
      refine cw_gen ?_
      intro Q131 hQ131
      refine cw_reg ?_
      refine el_pv (v := .int .i64 r128) (pv_move rfl) (by decide) ?_
      refine el_pv (v := .bool (decide (r128 < 0))) (pv_lss rfl rfl) (by decide) ?_
      refine el_nil ?_
      refine hQ131 _ _ _ ?_
      refine thn_n ?_
      replace hF := oif hF
      rcases hF with ⟨hb132, hF⟩ | ⟨hb132, hF⟩
      · refine cw_cond_t rfl hb132 ?_
        refine cw_seq ?_
        refine cw_gen ?_
        intro Q133 hQ133
        refine cw_reg ?_
        refine el_pv (v := .int .i64 (-1)) (pv_assign rfl) (by decide) ?_
        refine el_nil ?_
        refine hQ133 _ _ _ ?_
        refine thn_n ?_
        refine cw_ret ?_
        refine hQ119 _ _ _ ?_
        refine inb_r ?_
        refine hQ118 _ _ _ ?_
        refine thn_r ?_
        refine hQ114 _ _ _ ?_
        refine thn_r ?_
        refine hQ104 _ _ _ ?_
        refine inb_r ?_
        refine hQ102 _ _ _ ?_
        refine thn_r ?_
        replace hF := exL hF hK106
        refine fin1 rfl rfl ?_
        have hr := Option.some.inj hF
        exact ⟨congrArg (fun (r : Int) => Ending.returned (.int .i64 r)) hr, hS.below⟩
      · refine cw_cond_f rfl hb132 ?_
        refine cw_skip ?_
        refine hQ119 _ _ _ ?_
        refine inb_n ?_
        refine hQ118 _ _ _ ?_
        refine thn_n ?_
        refine cw_reg ?_
        refine el_pv (v := .int .i64 x108) (pv_move he111) (by decide) ?_
        replace hF := ob hF
        obtain ⟨x134, hx134, hF⟩ := hF
        refine el_pv (v := .int .i64 x134) (pv_add rfl rfl hx134) (by decide) ?_
        refine el_pv (v := .int .i64 x134) (pv_assign rfl) (by decide) ?_
        refine el_nil ?_
        refine hQ114 _ _ _ ?_
        refine thn_n ?_
        replace hS := hS.keep 0
        exact ⟨r128, x134, he109, rfl, rfl, hS, hF⟩
    · refine cw_cond_f rfl hb117 ?_
      refine cw_exit ?_
      refine hQ115 _ _ _ ?_
      refine thn_x ?_
      refine hQ114 _ _ _ ?_
      refine thn_x ?_
      replace hF := exA hF hK106
      refine hQ104 _ _ _ ?_
      refine inb_s ?_
      refine hQ102 _ _ _ ?_
      refine thn_n ?_
      refine cw_seq ?_
      refine cw_gen ?_
      intro Q135 hQ135
      refine cw_reg ?_
      refine el_pv (v := .int .i64 x107) (pv_move he110) (by decide) ?_
      refine el_pv (v := .int .i64 x107) (pv_assign rfl) (by decide) ?_
      refine el_nil ?_
      refine hQ135 _ _ _ ?_
      refine thn_n ?_
      refine cw_ret ?_
      refine fin1 rfl rfl ?_
      have hr := Option.some.inj hF
      exact ⟨congrArg (fun (r : Int) => Ending.returned (.int .i64 r)) hr, hS.below⟩
set_option maxHeartbeats 4000000 in
theorem laws_FnExactFactorizedRowsFrom_ok {w0 : World} {u0 : Value} {a0 : List Int} {u1 : Value} {a1 : List (List Int × List Int)} {u2 : Value} {a2 : List Int} {a3 : Int} (ha0 : (sliceR intR 3).rd w0 [u0] a0) (ha1 : (sliceR (pairR (sliceR intR 3) (sliceR intR 3)) 62).rd w0 [u1] a1) (ha2 : (sliceR intR 3).rd w0 [u2] a2) {N : Nat} {r : Bool} (hF : laws_FnExactFactorizedRowsFrom N a0 a1 a2 a3 = some r) :
    Calls Try.prog 8 #[.agg #[u0, u1], u2, .int .i64 a3] w0 fun e w' => e = .returned (.bool r) ∧ Ext w0 w' := by
  unfold laws_FnExactFactorizedRowsFrom at hF
  refine calls_E Try.func8 rfl rfl (of_decide_eq_true rfl) ?_
  have hS := Sat.start w0
  refine cw_seq ?_
  refine cw_gen ?_
  intro Q101 hQ101
  refine cw_reg ?_
  refine el_box [u0, u1] rfl hS (by decide) ?_
  intro w102 b103 hS hx104
  refine el_pv (v := .bool false) (pv_assign rfl) (by decide) ?_
  refine el_nil ?_
  refine hQ101 _ _ _ ?_
  refine thn_n ?_
  refine cw_seq ?_
  refine cw_gen ?_
  intro Q106 hQ106
  refine cw_seq ?_
  refine cw_gen ?_
  intro Q107 hQ107
  refine cw_reg ?_
  refine el_pv (v := u2) (pv_move rfl) (by decide) ?_
  refine el_pv (v := .int .i64 (a2.length : Int)) (pv_len rfl ha2) (by decide) ?_
  refine el_pv (v := .bool (decide (1048576 < (a2.length : Int)))) (pv_gtr rfl rfl) (by decide) ?_
  refine el_nil ?_
  refine hQ107 _ _ _ ?_
  refine thn_n ?_
  replace hF := oif hF
  rcases hF with ⟨hb108, hF⟩ | ⟨hb108, hF⟩
  · refine cw_cond_t rfl hb108 ?_
    refine cw_seq ?_
    refine cw_gen ?_
    intro Q109 hQ109
    refine cw_reg ?_
    refine el_pv (v := .bool true) (pv_assign rfl) (by decide) ?_
    refine el_nil ?_
    refine hQ109 _ _ _ ?_
    refine thn_n ?_
    refine cw_ret ?_
    refine hQ106 _ _ _ ?_
    refine thn_r ?_
    refine fin1 rfl rfl ?_
    have hr := Option.some.inj hF
    exact ⟨congrArg (fun (r : Bool) => Ending.returned (.bool r)) hr, hS.below⟩
  · refine cw_cond_f rfl hb108 ?_
    refine cw_skip ?_
    refine hQ106 _ _ _ ?_
    refine thn_n ?_
    refine cw_seq ?_
    refine cw_gen ?_
    intro Q110 hQ110
    refine cw_reg ?_
    refine el_pv (v := .int .i64 1048576) (pv_assign rfl) (by decide) ?_
    refine el_nil ?_
    refine hQ110 _ _ _ ?_
    refine thn_n ?_
    refine cw_seq ?_
    refine cw_gen ?_
    intro Q111 hQ111
    refine cw_reg ?_
    refine el_pv (v := .agg #[u0, u1]) (pv_loada (cs := [u0, u1]) rfl rfl (boxc0 (hS.boxAt 0 rfl))) (by decide) ?_
    refine el_pv (v := .int .i64 1048576) (pv_move rfl) (by decide) ?_
    replace hF := ob hF
    obtain ⟨r112, hr112, hF⟩ := hF
    refine el_call goes9 (laws_szFactorization_ok (hS.up ha0) (hS.up ha1) hr112) (congrArg List.toArray (mapc rfl (mapc rfl rfl))) (by decide) ?_
    rintro _ w113 ⟨rfl, hx114⟩
    refine ⟨_, rfl, ?_⟩
    replace hS := hS.ext hx114
    refine el_pv (v := .int .i64 r112) (pv_assign rfl) (by decide) ?_
    refine el_nil ?_
    refine hQ111 _ _ _ ?_
    refine thn_n ?_
    refine cw_seq ?_
    refine cw_gen ?_
    intro Q115 hQ115
    refine cw_seq ?_
    refine cw_gen ?_
    intro Q116 hQ116
    refine cw_reg ?_
    refine el_pv (v := .int .i64 r112) (pv_move rfl) (by decide) ?_
    refine el_pv (v := .bool (decide (r112 < 0))) (pv_lss rfl rfl) (by decide) ?_
    refine el_nil ?_
    refine hQ116 _ _ _ ?_
    refine thn_n ?_
    replace hF := oif hF
    rcases hF with ⟨hb117, hF⟩ | ⟨hb117, hF⟩
    · refine cw_cond_t rfl hb117 ?_
      refine cw_seq ?_
      refine cw_gen ?_
      intro Q118 hQ118
      refine cw_reg ?_
      refine el_pv (v := .bool true) (pv_assign rfl) (by decide) ?_
      refine el_nil ?_
      refine hQ118 _ _ _ ?_
      refine thn_n ?_
      refine cw_ret ?_
      refine hQ115 _ _ _ ?_
      refine thn_r ?_
      refine fin1 rfl rfl ?_
      have hr := Option.some.inj hF
      exact ⟨congrArg (fun (r : Bool) => Ending.returned (.bool r)) hr, hS.below⟩
    · refine cw_cond_f rfl hb117 ?_
      refine cw_skip ?_
      refine hQ115 _ _ _ ?_
      refine thn_n ?_
      refine cw_seq ?_
      refine cw_gen ?_
      intro Q119 hQ119
      refine cw_reg ?_
      refine el_pv (v := .agg #[u0, u1]) (pv_loada (cs := [u0, u1]) rfl rfl (boxc0 (hS.boxAt 0 rfl))) (by decide) ?_
      replace hF := ob hF
      obtain ⟨r120, hr120, hF⟩ := hF
      refine el_call goes11 (laws_toFactorization_ok (hS.up ha0) (hS.up ha1) hr120) (congrArg List.toArray (mapc rfl rfl)) (by decide) ?_
      rintro _ w125 ⟨v121, v122, rfl, hS'⟩
      refine ⟨_, rfl, ?_⟩
      have hx126 := hS'.below
      replace hS := hS.call2 hS'
      refine el_pv (v := u2) (pv_move rfl) (by decide) ?_
      replace hF := ob hF
      obtain ⟨r127, hr127, hF⟩ := hF
      refine el_call goes15 (laws_toIntS_ok (hS.up ha2) hr127) (congrArg List.toArray (mapc rfl rfl)) (by decide) ?_
      rintro _ w130 ⟨v128, rfl, hS'⟩
      refine ⟨_, rfl, ?_⟩
      have hx131 := hS'.below
      replace hS := hS.call1 hS'
      refine el_pv (v := .int .i64 a3) (pv_move rfl) (by decide) ?_
      replace hF := ob hF
      obtain ⟨r132, hr132, hF⟩ := hF
      refine el_call goes27 (spec_FactorizedRowsFrom_ok (hS.rdAt (R := (sliceR intR 3)) 1 rfl) (hS.rdAt (R := (sliceR (pairR (sliceR intR 3) (sliceR intR 3)) 57)) 2 rfl) (hS.rdAt (R := (sliceR intR 3)) 0 rfl) hr132) (congrArg List.toArray (mapc rfl (mapc rfl (mapc rfl rfl)))) (by decide) ?_
      rintro _ w135 ⟨v133, rfl, hS'⟩
      refine ⟨_, rfl, ?_⟩
      have hx136 := hS'.below
      replace hS := hS.call1 hS'
      refine el_pv (v := v133) (pv_assign rfl) (by decide) ?_
      refine el_nil ?_
      refine hQ119 _ _ _ ?_
      refine thn_n ?_
      refine cw_seq ?_
      refine cw_gen ?_
      intro Q137 hQ137
      refine cw_reg ?_
      refine el_pv (v := .agg #[u0, u1]) (pv_loada (cs := [u0, u1]) rfl rfl (boxc0 (hS.boxAt 4 rfl))) (by decide) ?_
      replace hF := ob hF
      obtain ⟨r138, hr138, hF⟩ := hF
      refine el_call goes11 (laws_toFactorization_ok (hS.up ha0) (hS.up ha1) hr138) (congrArg List.toArray (mapc rfl rfl)) (by decide) ?_
      rintro _ w143 ⟨v139, v140, rfl, hS'⟩
      refine ⟨_, rfl, ?_⟩
      have hx144 := hS'.below
      replace hS := hS.call2 hS'
      refine el_alloc hS (by decide) ?_
      intro w145 b146 hS hx147
      refine el_storev (hS.top 0 rfl) rfl [v139, v140] rfl rfl (of_decide_eq_true rfl) (all_cons (oc (hS.rdAt (R := (sliceR intR 3)) 1 rfl)) (all_cons (oc (hS.rdAt (R := (sliceR (pairR (sliceR intR 3) (sliceR intR 3)) 57)) 2 rfl)) rfl)) ?_
      intro w149 hS
      replace hS : Sat w0 w149 [Box b146 30 [v139, v140], Own (sliceR intR 3) [v139] r138.1, Own (sliceR (pairR (sliceR intR 3) (sliceR intR 3)) 57) [v140] r138.2, Own (sliceR (sliceR intR 3) 22) [v133] r132, Own (sliceR intR 3) [v128] r127, Own (sliceR intR 3) [v121] r120.1, Own (sliceR (pairR (sliceR intR 3) (sliceR intR 3)) 57) [v122] r120.2, Box b103 25 [u0, u1]] := hS
      refine el_nil ?_
      refine hQ137 _ _ _ ?_
      refine thn_n ?_
      refine cw_seq ?_
      refine cw_gen ?_
      intro Q150 hQ150
      refine cw_reg ?_
      refine el_pv (v := u2) (pv_move rfl) (by decide) ?_
      replace hF := ob hF
      obtain ⟨r151, hr151, hF⟩ := hF
      refine el_call goes15 (laws_toIntS_ok (hS.up ha2) hr151) (congrArg List.toArray (mapc rfl rfl)) (by decide) ?_
      rintro _ w154 ⟨v152, rfl, hS'⟩
      refine ⟨_, rfl, ?_⟩
      have hx155 := hS'.below
      replace hS := hS.call1 hS'
      refine el_pv (v := v152) (pv_assign rfl) (by decide) ?_
      refine el_nil ?_
      refine hQ150 _ _ _ ?_
      refine thn_n ?_
      refine cw_seq ?_
      refine cw_gen ?_
      intro Q156 hQ156
      refine cw_reg ?_
      refine el_pv (v := .agg #[v139, v140]) (pv_loada (cs := [v139, v140]) rfl rfl (boxc0 (hS.boxAt 1 rfl))) (by decide) ?_
      refine el_pv (v := v152) (pv_move rfl) (by decide) ?_
      refine el_pv (v := .int .i64 a3) (pv_move rfl) (by decide) ?_
      replace hF := ob hF
      obtain ⟨r157, hr157, hF⟩ := hF
      refine el_call goes28 (impl_FactorizedRowsFrom_ok (hS.rdAt (R := (sliceR intR 3)) 2 rfl) (hS.rdAt (R := (sliceR (pairR (sliceR intR 3) (sliceR intR 3)) 57)) 3 rfl) (hS.rdAt (R := (sliceR intR 3)) 0 rfl) hr157) (congrArg List.toArray (mapc rfl (mapc rfl (mapc rfl rfl)))) (by decide) ?_
      rintro _ w160 ⟨v158, rfl, hS'⟩
      refine ⟨_, rfl, ?_⟩
      have hx161 := hS'.below
      replace hS := hS.call1 hS'
      refine el_pv (v := v158) (pv_assign rfl) (by decide) ?_
      refine el_nil ?_
      refine hQ156 _ _ _ ?_
      refine thn_n ?_
      refine cw_seq ?_
      refine cw_gen ?_
      intro Q162 hQ162
      refine cw_seq ?_
      refine cw_gen ?_
      intro Q163 hQ163
      refine cw_reg ?_
      refine el_pv (v := v158) (pv_move rfl) (by decide) ?_
      refine el_pv (v := v133) (pv_move rfl) (by decide) ?_
      replace hF := ob hF
      obtain ⟨r164, hr164, hF⟩ := hF
      refine el_call goes29 (laws_eqIntSS_ok (hS.rdAt (R := (sliceR (sliceR intR 3) 22)) 0 rfl) (hS.rdAt (R := (sliceR (sliceR intR 3) 22)) 5 rfl) hr164) (congrArg List.toArray (mapc rfl (mapc rfl rfl))) (by decide) ?_
      rintro _ w165 ⟨rfl, hx166⟩
      refine ⟨_, rfl, ?_⟩
      replace hS := hS.ext hx166
      refine el_pv (v := .bool (!r164)) (pv_not rfl) (by decide) ?_
      refine el_nil ?_
      refine hQ163 _ _ _ ?_
      refine thn_n ?_
      replace hF := oif hF
      rcases hF with ⟨hb167, hF⟩ | ⟨hb167, hF⟩
      · refine cw_cond_f rfl (bnot_t hb167) ?_
        refine cw_skip ?_
        refine hQ162 _ _ _ ?_
        refine thn_n ?_
        refine cw_seq ?_
        refine cw_gen ?_
        intro Q168 hQ168
        refine cw_seq ?_
        refine cw_gen ?_
        intro Q169 hQ169
        obtain ⟨C, hCd⟩ : ∃ C : World → Prop, ∀ w, C w ↔ ∃ G, Sat w0 w ([Box b146 30 [v139, v140], Box b103 25 [u0, u1], Own (sliceR (sliceR intR 3) 22) [v158] r157, Own (sliceR intR 3) [v152] r151, Own (sliceR intR 3) [v139] r138.1, Own (sliceR (pairR (sliceR intR 3) (sliceR intR 3)) 57) [v140] r138.2, Own (sliceR (sliceR intR 3) 22) [v133] r132, Own (sliceR intR 3) [v128] r127, Own (sliceR intR 3) [v121] r120.1, Own (sliceR (pairR (sliceR intR 3) (sliceR intR 3)) 57) [v122] r120.2] ++ G) := ⟨_, fun _ => Iff.rfl⟩
        refine cw_regb [0, 1, 2, 3, 4] C (by kernel_rfl) ?_
        intro w170 hx171
        replace hS := hS.ext hx171
        replace hS : Sat w0 w170 [Own (sliceR (pairR (sliceR intR 3) (sliceR intR 3)) 57) [v122] r120.2, Own (sliceR (sliceR intR 3) 22) [v158] r157, Own (sliceR intR 3) [v152] r151, Box b146 30 [v139, v140], Own (sliceR intR 3) [v139] r138.1, Own (sliceR (pairR (sliceR intR 3) (sliceR intR 3)) 57) [v140] r138.2, Own (sliceR (sliceR intR 3) 22) [v133] r132, Own (sliceR intR 3) [v128] r127, Own (sliceR intR 3) [v121] r120.1, Box b103 25 [u0, u1]] := hS.top 8 rfl
        replace hS : Sat w0 w170 [Own (sliceR intR 3) [v121] r120.1, Own (sliceR (pairR (sliceR intR 3) (sliceR intR 3)) 57) [v122] r120.2, Own (sliceR (sliceR intR 3) 22) [v158] r157, Own (sliceR intR 3) [v152] r151, Box b146 30 [v139, v140], Own (sliceR intR 3) [v139] r138.1, Own (sliceR (pairR (sliceR intR 3) (sliceR intR 3)) 57) [v140] r138.2, Own (sliceR (sliceR intR 3) 22) [v133] r132, Own (sliceR intR 3) [v128] r127, Box b103 25 [u0, u1]] := hS.top 8 rfl
        replace hS : Sat w0 w170 [Own (sliceR intR 3) [v128] r127, Own (sliceR intR 3) [v121] r120.1, Own (sliceR (pairR (sliceR intR 3) (sliceR intR 3)) 57) [v122] r120.2, Own (sliceR (sliceR intR 3) 22) [v158] r157, Own (sliceR intR 3) [v152] r151, Box b146 30 [v139, v140], Own (sliceR intR 3) [v139] r138.1, Own (sliceR (pairR (sliceR intR 3) (sliceR intR 3)) 57) [v140] r138.2, Own (sliceR (sliceR intR 3) 22) [v133] r132, Box b103 25 [u0, u1]] := hS.top 8 rfl
        replace hS : Sat w0 w170 [Own (sliceR (sliceR intR 3) 22) [v133] r132, Own (sliceR intR 3) [v128] r127, Own (sliceR intR 3) [v121] r120.1, Own (sliceR (pairR (sliceR intR 3) (sliceR intR 3)) 57) [v122] r120.2, Own (sliceR (sliceR intR 3) 22) [v158] r157, Own (sliceR intR 3) [v152] r151, Box b146 30 [v139, v140], Own (sliceR intR 3) [v139] r138.1, Own (sliceR (pairR (sliceR intR 3) (sliceR intR 3)) 57) [v140] r138.2, Box b103 25 [u0, u1]] := hS.top 8 rfl
        replace hS : Sat w0 w170 [Own (sliceR (pairR (sliceR intR 3) (sliceR intR 3)) 57) [v140] r138.2, Own (sliceR (sliceR intR 3) 22) [v133] r132, Own (sliceR intR 3) [v128] r127, Own (sliceR intR 3) [v121] r120.1, Own (sliceR (pairR (sliceR intR 3) (sliceR intR 3)) 57) [v122] r120.2, Own (sliceR (sliceR intR 3) 22) [v158] r157, Own (sliceR intR 3) [v152] r151, Box b146 30 [v139, v140], Own (sliceR intR 3) [v139] r138.1, Box b103 25 [u0, u1]] := hS.top 8 rfl
        replace hS : Sat w0 w170 [Own (sliceR intR 3) [v139] r138.1, Own (sliceR (pairR (sliceR intR 3) (sliceR intR 3)) 57) [v140] r138.2, Own (sliceR (sliceR intR 3) 22) [v133] r132, Own (sliceR intR 3) [v128] r127, Own (sliceR intR 3) [v121] r120.1, Own (sliceR (pairR (sliceR intR 3) (sliceR intR 3)) 57) [v122] r120.2, Own (sliceR (sliceR intR 3) 22) [v158] r157, Own (sliceR intR 3) [v152] r151, Box b146 30 [v139, v140], Box b103 25 [u0, u1]] := hS.top 8 rfl
        replace hS : Sat w0 w170 [Own (sliceR intR 3) [v152] r151, Own (sliceR intR 3) [v139] r138.1, Own (sliceR (pairR (sliceR intR 3) (sliceR intR 3)) 57) [v140] r138.2, Own (sliceR (sliceR intR 3) 22) [v133] r132, Own (sliceR intR 3) [v128] r127, Own (sliceR intR 3) [v121] r120.1, Own (sliceR (pairR (sliceR intR 3) (sliceR intR 3)) 57) [v122] r120.2, Own (sliceR (sliceR intR 3) 22) [v158] r157, Box b146 30 [v139, v140], Box b103 25 [u0, u1]] := hS.top 7 rfl
        replace hS : Sat w0 w170 [Own (sliceR (sliceR intR 3) 22) [v158] r157, Own (sliceR intR 3) [v152] r151, Own (sliceR intR 3) [v139] r138.1, Own (sliceR (pairR (sliceR intR 3) (sliceR intR 3)) 57) [v140] r138.2, Own (sliceR (sliceR intR 3) 22) [v133] r132, Own (sliceR intR 3) [v128] r127, Own (sliceR intR 3) [v121] r120.1, Own (sliceR (pairR (sliceR intR 3) (sliceR intR 3)) 57) [v122] r120.2, Box b146 30 [v139, v140], Box b103 25 [u0, u1]] := hS.top 7 rfl
        replace hS : Sat w0 w170 [Box b103 25 [u0, u1], Own (sliceR (sliceR intR 3) 22) [v158] r157, Own (sliceR intR 3) [v152] r151, Own (sliceR intR 3) [v139] r138.1, Own (sliceR (pairR (sliceR intR 3) (sliceR intR 3)) 57) [v140] r138.2, Own (sliceR (sliceR intR 3) 22) [v133] r132, Own (sliceR intR 3) [v128] r127, Own (sliceR intR 3) [v121] r120.1, Own (sliceR (pairR (sliceR intR 3) (sliceR intR 3)) 57) [v122] r120.2, Box b146 30 [v139, v140]] := hS.top 9 rfl
        replace hS : Sat w0 w170 [Box b146 30 [v139, v140], Box b103 25 [u0, u1], Own (sliceR (sliceR intR 3) 22) [v158] r157, Own (sliceR intR 3) [v152] r151, Own (sliceR intR 3) [v139] r138.1, Own (sliceR (pairR (sliceR intR 3) (sliceR intR 3)) 57) [v140] r138.2, Own (sliceR (sliceR intR 3) 22) [v133] r132, Own (sliceR intR 3) [v128] r127, Own (sliceR intR 3) [v121] r120.1, Own (sliceR (pairR (sliceR intR 3) (sliceR intR 3)) 57) [v122] r120.2] := hS.top 9 rfl
        have hC := (hCd _).2 ⟨_, hS⟩
        refine al_p (v := .agg #[v139, v140]) (by kernel_rfl) 0 rfl rfl (by decide) hC (by kernel_rfl) (by kernel_rfl) (sv_on rfl (fun w' hw' => by obtain ⟨_, hS⟩ := (hCd _).1 hw'; exact (pv_loada (cs := [v139, v140]) rfl rfl (boxc0 (hS.boxAt 0 rfl))))) ?_
        refine al_p (v := .agg #[u0, u1]) (by kernel_rfl) 1 rfl rfl (by decide) hC (by kernel_rfl) (by kernel_rfl) (sv_on rfl (fun w' hw' => by obtain ⟨_, hS⟩ := (hCd _).1 hw'; exact (pv_loada (cs := [u0, u1]) rfl rfl (boxc0 (hS.boxAt 1 rfl))))) ?_
        refine al_one 2 (by kernel_rfl) rfl ?_
        replace hF := ob hF
        obtain ⟨r172, hr172, hF⟩ := hF
        refine el_call goes11 (laws_toFactorization_ok (hS.up ha0) (hS.up ha1) hr172) (congrArg List.toArray (mapc rfl rfl)) (by decide) ?_
        rintro _ w177 ⟨v173, v174, rfl, hS'⟩
        refine ⟨_, rfl, ?_⟩
        have hx178 := hS'.below
        replace hS := hS.call2 hS'
        refine el_nil ?_
        replace hS : Sat w0 w177 [Own (sliceR (pairR (sliceR intR 3) (sliceR intR 3)) 57) [v122] r120.2, Own (sliceR intR 3) [v173] r172.1, Own (sliceR (pairR (sliceR intR 3) (sliceR intR 3)) 57) [v174] r172.2, Box b146 30 [v139, v140], Box b103 25 [u0, u1], Own (sliceR (sliceR intR 3) 22) [v158] r157, Own (sliceR intR 3) [v152] r151, Own (sliceR intR 3) [v139] r138.1, Own (sliceR (pairR (sliceR intR 3) (sliceR intR 3)) 57) [v140] r138.2, Own (sliceR (sliceR intR 3) 22) [v133] r132, Own (sliceR intR 3) [v128] r127, Own (sliceR intR 3) [v121] r120.1] := hS.top 11 rfl
        replace hS : Sat w0 w177 [Own (sliceR intR 3) [v121] r120.1, Own (sliceR (pairR (sliceR intR 3) (sliceR intR 3)) 57) [v122] r120.2, Own (sliceR intR 3) [v173] r172.1, Own (sliceR (pairR (sliceR intR 3) (sliceR intR 3)) 57) [v174] r172.2, Box b146 30 [v139, v140], Box b103 25 [u0, u1], Own (sliceR (sliceR intR 3) 22) [v158] r157, Own (sliceR intR 3) [v152] r151, Own (sliceR intR 3) [v139] r138.1, Own (sliceR (pairR (sliceR intR 3) (sliceR intR 3)) 57) [v140] r138.2, Own (sliceR (sliceR intR 3) 22) [v133] r132, Own (sliceR intR 3) [v128] r127] := hS.top 11 rfl
        replace hS : Sat w0 w177 [Own (sliceR intR 3) [v128] r127, Own (sliceR intR 3) [v121] r120.1, Own (sliceR (pairR (sliceR intR 3) (sliceR intR 3)) 57) [v122] r120.2, Own (sliceR intR 3) [v173] r172.1, Own (sliceR (pairR (sliceR intR 3) (sliceR intR 3)) 57) [v174] r172.2, Box b146 30 [v139, v140], Box b103 25 [u0, u1], Own (sliceR (sliceR intR 3) 22) [v158] r157, Own (sliceR intR 3) [v152] r151, Own (sliceR intR 3) [v139] r138.1, Own (sliceR (pairR (sliceR intR 3) (sliceR intR 3)) 57) [v140] r138.2, Own (sliceR (sliceR intR 3) 22) [v133] r132] := hS.top 11 rfl
        replace hS : Sat w0 w177 [Own (sliceR (sliceR intR 3) 22) [v133] r132, Own (sliceR intR 3) [v128] r127, Own (sliceR intR 3) [v121] r120.1, Own (sliceR (pairR (sliceR intR 3) (sliceR intR 3)) 57) [v122] r120.2, Own (sliceR intR 3) [v173] r172.1, Own (sliceR (pairR (sliceR intR 3) (sliceR intR 3)) 57) [v174] r172.2, Box b146 30 [v139, v140], Box b103 25 [u0, u1], Own (sliceR (sliceR intR 3) 22) [v158] r157, Own (sliceR intR 3) [v152] r151, Own (sliceR intR 3) [v139] r138.1, Own (sliceR (pairR (sliceR intR 3) (sliceR intR 3)) 57) [v140] r138.2] := hS.top 11 rfl
        replace hS : Sat w0 w177 [Own (sliceR (pairR (sliceR intR 3) (sliceR intR 3)) 57) [v140] r138.2, Own (sliceR (sliceR intR 3) 22) [v133] r132, Own (sliceR intR 3) [v128] r127, Own (sliceR intR 3) [v121] r120.1, Own (sliceR (pairR (sliceR intR 3) (sliceR intR 3)) 57) [v122] r120.2, Own (sliceR intR 3) [v173] r172.1, Own (sliceR (pairR (sliceR intR 3) (sliceR intR 3)) 57) [v174] r172.2, Box b146 30 [v139, v140], Box b103 25 [u0, u1], Own (sliceR (sliceR intR 3) 22) [v158] r157, Own (sliceR intR 3) [v152] r151, Own (sliceR intR 3) [v139] r138.1] := hS.top 11 rfl
        replace hS : Sat w0 w177 [Own (sliceR intR 3) [v139] r138.1, Own (sliceR (pairR (sliceR intR 3) (sliceR intR 3)) 57) [v140] r138.2, Own (sliceR (sliceR intR 3) 22) [v133] r132, Own (sliceR intR 3) [v128] r127, Own (sliceR intR 3) [v121] r120.1, Own (sliceR (pairR (sliceR intR 3) (sliceR intR 3)) 57) [v122] r120.2, Own (sliceR intR 3) [v173] r172.1, Own (sliceR (pairR (sliceR intR 3) (sliceR intR 3)) 57) [v174] r172.2, Box b146 30 [v139, v140], Box b103 25 [u0, u1], Own (sliceR (sliceR intR 3) 22) [v158] r157, Own (sliceR intR 3) [v152] r151] := hS.top 11 rfl
        replace hS : Sat w0 w177 [Own (sliceR intR 3) [v152] r151, Own (sliceR intR 3) [v139] r138.1, Own (sliceR (pairR (sliceR intR 3) (sliceR intR 3)) 57) [v140] r138.2, Own (sliceR (sliceR intR 3) 22) [v133] r132, Own (sliceR intR 3) [v128] r127, Own (sliceR intR 3) [v121] r120.1, Own (sliceR (pairR (sliceR intR 3) (sliceR intR 3)) 57) [v122] r120.2, Own (sliceR intR 3) [v173] r172.1, Own (sliceR (pairR (sliceR intR 3) (sliceR intR 3)) 57) [v174] r172.2, Box b146 30 [v139, v140], Box b103 25 [u0, u1], Own (sliceR (sliceR intR 3) 22) [v158] r157] := hS.top 11 rfl
        replace hS : Sat w0 w177 [Own (sliceR (sliceR intR 3) 22) [v158] r157, Own (sliceR intR 3) [v152] r151, Own (sliceR intR 3) [v139] r138.1, Own (sliceR (pairR (sliceR intR 3) (sliceR intR 3)) 57) [v140] r138.2, Own (sliceR (sliceR intR 3) 22) [v133] r132, Own (sliceR intR 3) [v128] r127, Own (sliceR intR 3) [v121] r120.1, Own (sliceR (pairR (sliceR intR 3) (sliceR intR 3)) 57) [v122] r120.2, Own (sliceR intR 3) [v173] r172.1, Own (sliceR (pairR (sliceR intR 3) (sliceR intR 3)) 57) [v174] r172.2, Box b146 30 [v139, v140], Box b103 25 [u0, u1]] := hS.top 11 rfl
        replace hS : Sat w0 w177 [Box b103 25 [u0, u1], Own (sliceR (sliceR intR 3) 22) [v158] r157, Own (sliceR intR 3) [v152] r151, Own (sliceR intR 3) [v139] r138.1, Own (sliceR (pairR (sliceR intR 3) (sliceR intR 3)) 57) [v140] r138.2, Own (sliceR (sliceR intR 3) 22) [v133] r132, Own (sliceR intR 3) [v128] r127, Own (sliceR intR 3) [v121] r120.1, Own (sliceR (pairR (sliceR intR 3) (sliceR intR 3)) 57) [v122] r120.2, Own (sliceR intR 3) [v173] r172.1, Own (sliceR (pairR (sliceR intR 3) (sliceR intR 3)) 57) [v174] r172.2, Box b146 30 [v139, v140]] := hS.top 11 rfl
        replace hS : Sat w0 w177 [Box b146 30 [v139, v140], Box b103 25 [u0, u1], Own (sliceR (sliceR intR 3) 22) [v158] r157, Own (sliceR intR 3) [v152] r151, Own (sliceR intR 3) [v139] r138.1, Own (sliceR (pairR (sliceR intR 3) (sliceR intR 3)) 57) [v140] r138.2, Own (sliceR (sliceR intR 3) 22) [v133] r132, Own (sliceR intR 3) [v128] r127, Own (sliceR intR 3) [v121] r120.1, Own (sliceR (pairR (sliceR intR 3) (sliceR intR 3)) 57) [v122] r120.2, Own (sliceR intR 3) [v173] r172.1, Own (sliceR (pairR (sliceR intR 3) (sliceR intR 3)) 57) [v174] r172.2] := hS.top 11 rfl
        have hC := (hCd _).2 ⟨_, hS⟩
        have hoc158 := oc (hS.rdAt (R := (sliceR (sliceR intR 3) 22)) 2 rfl)
        have hoc152 := oc (hS.rdAt (R := (sliceR intR 3)) 3 rfl)
        have hoc139 := oc (hS.rdAt (R := (sliceR intR 3)) 4 rfl)
        have hoc140 := oc (hS.rdAt (R := (sliceR (pairR (sliceR intR 3) (sliceR intR 3)) 57)) 5 rfl)
        have hoc133 := oc (hS.rdAt (R := (sliceR (sliceR intR 3) 22)) 6 rfl)
        have hoc128 := oc (hS.rdAt (R := (sliceR intR 3)) 7 rfl)
        have hoc121 := oc (hS.rdAt (R := (sliceR intR 3)) 8 rfl)
        have hoc122 := oc (hS.rdAt (R := (sliceR (pairR (sliceR intR 3) (sliceR intR 3)) 57)) 9 rfl)
        have hoc173 := oc (hS.rdAt (R := (sliceR intR 3)) 10 rfl)
        have hoc174 := oc (hS.rdAt (R := (sliceR (pairR (sliceR intR 3) (sliceR intR 3)) 57)) 11 rfl)
        refine ⟨fun _ => hC, ?_⟩
        refine al_one 3 (by kernel_rfl) rfl ?_
        replace hF := ob hF
        obtain ⟨r179, hr179, hF⟩ := hF
        refine el_call goes13 (laws_eqFactorization_ok (hS.rdAt (R := (sliceR intR 3)) 4 rfl) (hS.rdAt (R := (sliceR (pairR (sliceR intR 3) (sliceR intR 3)) 57)) 5 rfl) (hS.rdAt (R := (sliceR intR 3)) 10 rfl) (hS.rdAt (R := (sliceR (pairR (sliceR intR 3) (sliceR intR 3)) 57)) 11 rfl) hr179) (congrArg List.toArray (mapc rfl (mapc rfl rfl))) (by decide) ?_
        rintro _ w180 ⟨rfl, hx181⟩
        refine ⟨_, rfl, ?_⟩
        replace hS := hS.ext hx181
        refine el_nil ?_
        replace hS : Sat w0 w180 [Own (sliceR (pairR (sliceR intR 3) (sliceR intR 3)) 57) [v122] r120.2, Box b146 30 [v139, v140], Box b103 25 [u0, u1], Own (sliceR (sliceR intR 3) 22) [v158] r157, Own (sliceR intR 3) [v152] r151, Own (sliceR intR 3) [v139] r138.1, Own (sliceR (pairR (sliceR intR 3) (sliceR intR 3)) 57) [v140] r138.2, Own (sliceR (sliceR intR 3) 22) [v133] r132, Own (sliceR intR 3) [v128] r127, Own (sliceR intR 3) [v121] r120.1, Own (sliceR intR 3) [v173] r172.1, Own (sliceR (pairR (sliceR intR 3) (sliceR intR 3)) 57) [v174] r172.2] := hS.top 9 rfl
        replace hS : Sat w0 w180 [Own (sliceR intR 3) [v121] r120.1, Own (sliceR (pairR (sliceR intR 3) (sliceR intR 3)) 57) [v122] r120.2, Box b146 30 [v139, v140], Box b103 25 [u0, u1], Own (sliceR (sliceR intR 3) 22) [v158] r157, Own (sliceR intR 3) [v152] r151, Own (sliceR intR 3) [v139] r138.1, Own (sliceR (pairR (sliceR intR 3) (sliceR intR 3)) 57) [v140] r138.2, Own (sliceR (sliceR intR 3) 22) [v133] r132, Own (sliceR intR 3) [v128] r127, Own (sliceR intR 3) [v173] r172.1, Own (sliceR (pairR (sliceR intR 3) (sliceR intR 3)) 57) [v174] r172.2] := hS.top 9 rfl
        replace hS : Sat w0 w180 [Own (sliceR intR 3) [v128] r127, Own (sliceR intR 3) [v121] r120.1, Own (sliceR (pairR (sliceR intR 3) (sliceR intR 3)) 57) [v122] r120.2, Box b146 30 [v139, v140], Box b103 25 [u0, u1], Own (sliceR (sliceR intR 3) 22) [v158] r157, Own (sliceR intR 3) [v152] r151, Own (sliceR intR 3) [v139] r138.1, Own (sliceR (pairR (sliceR intR 3) (sliceR intR 3)) 57) [v140] r138.2, Own (sliceR (sliceR intR 3) 22) [v133] r132, Own (sliceR intR 3) [v173] r172.1, Own (sliceR (pairR (sliceR intR 3) (sliceR intR 3)) 57) [v174] r172.2] := hS.top 9 rfl
        replace hS : Sat w0 w180 [Own (sliceR (sliceR intR 3) 22) [v133] r132, Own (sliceR intR 3) [v128] r127, Own (sliceR intR 3) [v121] r120.1, Own (sliceR (pairR (sliceR intR 3) (sliceR intR 3)) 57) [v122] r120.2, Box b146 30 [v139, v140], Box b103 25 [u0, u1], Own (sliceR (sliceR intR 3) 22) [v158] r157, Own (sliceR intR 3) [v152] r151, Own (sliceR intR 3) [v139] r138.1, Own (sliceR (pairR (sliceR intR 3) (sliceR intR 3)) 57) [v140] r138.2, Own (sliceR intR 3) [v173] r172.1, Own (sliceR (pairR (sliceR intR 3) (sliceR intR 3)) 57) [v174] r172.2] := hS.top 9 rfl
        replace hS : Sat w0 w180 [Own (sliceR (pairR (sliceR intR 3) (sliceR intR 3)) 57) [v140] r138.2, Own (sliceR (sliceR intR 3) 22) [v133] r132, Own (sliceR intR 3) [v128] r127, Own (sliceR intR 3) [v121] r120.1, Own (sliceR (pairR (sliceR intR 3) (sliceR intR 3)) 57) [v122] r120.2, Box b146 30 [v139, v140], Box b103 25 [u0, u1], Own (sliceR (sliceR intR 3) 22) [v158] r157, Own (sliceR intR 3) [v152] r151, Own (sliceR intR 3) [v139] r138.1, Own (sliceR intR 3) [v173] r172.1, Own (sliceR (pairR (sliceR intR 3) (sliceR intR 3)) 57) [v174] r172.2] := hS.top 9 rfl
        replace hS : Sat w0 w180 [Own (sliceR intR 3) [v139] r138.1, Own (sliceR (pairR (sliceR intR 3) (sliceR intR 3)) 57) [v140] r138.2, Own (sliceR (sliceR intR 3) 22) [v133] r132, Own (sliceR intR 3) [v128] r127, Own (sliceR intR 3) [v121] r120.1, Own (sliceR (pairR (sliceR intR 3) (sliceR intR 3)) 57) [v122] r120.2, Box b146 30 [v139, v140], Box b103 25 [u0, u1], Own (sliceR (sliceR intR 3) 22) [v158] r157, Own (sliceR intR 3) [v152] r151, Own (sliceR intR 3) [v173] r172.1, Own (sliceR (pairR (sliceR intR 3) (sliceR intR 3)) 57) [v174] r172.2] := hS.top 9 rfl
        replace hS : Sat w0 w180 [Own (sliceR intR 3) [v152] r151, Own (sliceR intR 3) [v139] r138.1, Own (sliceR (pairR (sliceR intR 3) (sliceR intR 3)) 57) [v140] r138.2, Own (sliceR (sliceR intR 3) 22) [v133] r132, Own (sliceR intR 3) [v128] r127, Own (sliceR intR 3) [v121] r120.1, Own (sliceR (pairR (sliceR intR 3) (sliceR intR 3)) 57) [v122] r120.2, Box b146 30 [v139, v140], Box b103 25 [u0, u1], Own (sliceR (sliceR intR 3) 22) [v158] r157, Own (sliceR intR 3) [v173] r172.1, Own (sliceR (pairR (sliceR intR 3) (sliceR intR 3)) 57) [v174] r172.2] := hS.top 9 rfl
        replace hS : Sat w0 w180 [Own (sliceR (sliceR intR 3) 22) [v158] r157, Own (sliceR intR 3) [v152] r151, Own (sliceR intR 3) [v139] r138.1, Own (sliceR (pairR (sliceR intR 3) (sliceR intR 3)) 57) [v140] r138.2, Own (sliceR (sliceR intR 3) 22) [v133] r132, Own (sliceR intR 3) [v128] r127, Own (sliceR intR 3) [v121] r120.1, Own (sliceR (pairR (sliceR intR 3) (sliceR intR 3)) 57) [v122] r120.2, Box b146 30 [v139, v140], Box b103 25 [u0, u1], Own (sliceR intR 3) [v173] r172.1, Own (sliceR (pairR (sliceR intR 3) (sliceR intR 3)) 57) [v174] r172.2] := hS.top 9 rfl
        replace hS : Sat w0 w180 [Box b103 25 [u0, u1], Own (sliceR (sliceR intR 3) 22) [v158] r157, Own (sliceR intR 3) [v152] r151, Own (sliceR intR 3) [v139] r138.1, Own (sliceR (pairR (sliceR intR 3) (sliceR intR 3)) 57) [v140] r138.2, Own (sliceR (sliceR intR 3) 22) [v133] r132, Own (sliceR intR 3) [v128] r127, Own (sliceR intR 3) [v121] r120.1, Own (sliceR (pairR (sliceR intR 3) (sliceR intR 3)) 57) [v122] r120.2, Box b146 30 [v139, v140], Own (sliceR intR 3) [v173] r172.1, Own (sliceR (pairR (sliceR intR 3) (sliceR intR 3)) 57) [v174] r172.2] := hS.top 9 rfl
        replace hS : Sat w0 w180 [Box b146 30 [v139, v140], Box b103 25 [u0, u1], Own (sliceR (sliceR intR 3) 22) [v158] r157, Own (sliceR intR 3) [v152] r151, Own (sliceR intR 3) [v139] r138.1, Own (sliceR (pairR (sliceR intR 3) (sliceR intR 3)) 57) [v140] r138.2, Own (sliceR (sliceR intR 3) 22) [v133] r132, Own (sliceR intR 3) [v128] r127, Own (sliceR intR 3) [v121] r120.1, Own (sliceR (pairR (sliceR intR 3) (sliceR intR 3)) 57) [v122] r120.2, Own (sliceR intR 3) [v173] r172.1, Own (sliceR (pairR (sliceR intR 3) (sliceR intR 3)) 57) [v174] r172.2] := hS.top 9 rfl
        have hC := (hCd _).2 ⟨_, hS⟩
        refine ⟨fun _ => hC, ?_⟩
        refine al_p (v := .bool (!r179)) (by kernel_rfl) 4 rfl rfl (by decide) hC (by kernel_rfl) (by kernel_rfl) (sv_on rfl (fun w' hw' => by obtain ⟨_, hS⟩ := (hCd _).1 hw'; exact (pv_not rfl))) ?_
        refine al_nil (by kernel_rfl) ?_
        refine hQ169 _ _ _ ?_
        refine thn_n ?_
        replace hF := oif hF
        rcases hF with ⟨hb182, hF⟩ | ⟨hb182, hF⟩
        · refine cw_cond_f rfl (bnot_t hb182) ?_
          refine cw_skip ?_
          refine hQ168 _ _ _ ?_
          refine thn_n ?_
          refine cw_seq ?_
          refine cw_gen ?_
          intro Q183 hQ183
          refine cw_seq ?_
          refine cw_gen ?_
          intro Q184 hQ184
          refine cw_reg ?_
          refine el_pv (v := v152) (pv_move rfl) (by decide) ?_
          refine el_pv (v := u2) (pv_move rfl) (by decide) ?_
          replace hF := ob hF
          obtain ⟨r185, hr185, hF⟩ := hF
          refine el_call goes15 (laws_toIntS_ok (hS.up ha2) hr185) (congrArg List.toArray (mapc rfl rfl)) (by decide) ?_
          rintro _ w188 ⟨v186, rfl, hS'⟩
          refine ⟨_, rfl, ?_⟩
          have hx189 := hS'.below
          replace hS := hS.call1 hS'
          replace hF := ob hF
          obtain ⟨r190, hr190, hF⟩ := hF
          refine el_call goes17 (laws_eqIntS_ok (hS.rdAt (R := (sliceR intR 3)) 4 rfl) (hS.rdAt (R := (sliceR intR 3)) 0 rfl) hr190) (congrArg List.toArray (mapc rfl (mapc rfl rfl))) (by decide) ?_
          rintro _ w191 ⟨rfl, hx192⟩
          refine ⟨_, rfl, ?_⟩
          replace hS := hS.ext hx192
          refine el_pv (v := .bool (!r190)) (pv_not rfl) (by decide) ?_
          refine el_nil ?_
          refine hQ184 _ _ _ ?_
          refine thn_n ?_
          replace hF := oif hF
          rcases hF with ⟨hb193, hF⟩ | ⟨hb193, hF⟩
          · refine cw_cond_f rfl (bnot_t hb193) ?_
            refine cw_skip ?_
            refine hQ183 _ _ _ ?_
            refine thn_n ?_
            refine cw_seq ?_
            refine cw_gen ?_
            intro Q194 hQ194
            refine cw_reg ?_
            refine el_pv (v := .int .i64 1) (pv_assign rfl) (by decide) ?_
            refine el_nil ?_
            refine hQ194 _ _ _ ?_
            refine thn_n ?_
            refine cw_seq ?_
            refine cw_gen ?_
            intro Q195 hQ195
            refine cw_reg ?_
            refine el_pv (v := .agg #[v139, v140]) (pv_loada (cs := [v139, v140]) rfl rfl (boxc0 (hS.boxAt 1 rfl))) (by decide) ?_
            refine el_pv (v := .int .i64 1) (pv_move rfl) (by decide) ?_
            replace hS : Sat w0 w191 [Own (sliceR (pairR (sliceR intR 3) (sliceR intR 3)) 57) [v140] r138.2, Own (sliceR intR 3) [v186] r185, Box b146 30 [v139, v140], Box b103 25 [u0, u1], Own (sliceR (sliceR intR 3) 22) [v158] r157, Own (sliceR intR 3) [v152] r151, Own (sliceR intR 3) [v139] r138.1, Own (sliceR (sliceR intR 3) 22) [v133] r132, Own (sliceR intR 3) [v128] r127, Own (sliceR intR 3) [v121] r120.1, Own (sliceR (pairR (sliceR intR 3) (sliceR intR 3)) 57) [v122] r120.2, Own (sliceR intR 3) [v173] r172.1, Own (sliceR (pairR (sliceR intR 3) (sliceR intR 3)) 57) [v174] r172.2] := hS.top 6 rfl
            replace hS : Sat w0 w191 [Own (sliceR intR 3) [v139] r138.1, Own (sliceR (pairR (sliceR intR 3) (sliceR intR 3)) 57) [v140] r138.2, Own (sliceR intR 3) [v186] r185, Box b146 30 [v139, v140], Box b103 25 [u0, u1], Own (sliceR (sliceR intR 3) 22) [v158] r157, Own (sliceR intR 3) [v152] r151, Own (sliceR (sliceR intR 3) 22) [v133] r132, Own (sliceR intR 3) [v128] r127, Own (sliceR intR 3) [v121] r120.1, Own (sliceR (pairR (sliceR intR 3) (sliceR intR 3)) 57) [v122] r120.2, Own (sliceR intR 3) [v173] r172.1, Own (sliceR (pairR (sliceR intR 3) (sliceR intR 3)) 57) [v174] r172.2] := hS.top 6 rfl
            replace hF := ob hF
            obtain ⟨r196, hr196, hF⟩ := hF
            refine el_call goes24 (laws_markFactorization_ok hS hr196) (congrArg List.toArray (mapc rfl (mapc rfl rfl))) (by decide) ?_
            rintro _ w197 ⟨rfl, hS⟩
            refine ⟨_, rfl, ?_⟩
            replace hS : Sat w0 w197 [Own (sliceR intR 3) [v139] r196.2.1, Own (sliceR (pairR (sliceR intR 3) (sliceR intR 3)) 57) [v140] r196.2.2, Own (sliceR intR 3) [v186] r185, Box b146 30 [v139, v140], Box b103 25 [u0, u1], Own (sliceR (sliceR intR 3) 22) [v158] r157, Own (sliceR intR 3) [v152] r151, Own (sliceR (sliceR intR 3) 22) [v133] r132, Own (sliceR intR 3) [v128] r127, Own (sliceR intR 3) [v121] r120.1, Own (sliceR (pairR (sliceR intR 3) (sliceR intR 3)) 57) [v122] r120.2, Own (sliceR intR 3) [v173] r172.1, Own (sliceR (pairR (sliceR intR 3) (sliceR intR 3)) 57) [v174] r172.2] := hS
            refine el_pv (v := .int .i64 r196.1) (pv_assign rfl) (by decide) ?_
            refine el_nil ?_
            refine hQ195 _ _ _ ?_
            refine thn_n ?_
            refine cw_seq ?_
            refine cw_gen ?_
            intro Q198 hQ198
            refine cw_reg ?_
            refine el_pv (v := v152) (pv_move rfl) (by decide) ?_
            refine el_pv (v := .int .i64 r196.1) (pv_move rfl) (by decide) ?_
            replace hS : Sat w0 w197 [Own (sliceR intR 3) [v152] r151, Own (sliceR intR 3) [v139] r196.2.1, Own (sliceR (pairR (sliceR intR 3) (sliceR intR 3)) 57) [v140] r196.2.2, Own (sliceR intR 3) [v186] r185, Box b146 30 [v139, v140], Box b103 25 [u0, u1], Own (sliceR (sliceR intR 3) 22) [v158] r157, Own (sliceR (sliceR intR 3) 22) [v133] r132, Own (sliceR intR 3) [v128] r127, Own (sliceR intR 3) [v121] r120.1, Own (sliceR (pairR (sliceR intR 3) (sliceR intR 3)) 57) [v122] r120.2, Own (sliceR intR 3) [v173] r172.1, Own (sliceR (pairR (sliceR intR 3) (sliceR intR 3)) 57) [v174] r172.2] := hS.top 6 rfl
            replace hF := ob hF
            obtain ⟨r199, hr199, hF⟩ := hF
            refine el_call goes25 (laws_markIntS_ok hS hr199) (congrArg List.toArray (mapc rfl (mapc rfl rfl))) (by decide) ?_
            rintro _ w200 ⟨rfl, hS⟩
            refine ⟨_, rfl, ?_⟩
            replace hS : Sat w0 w200 [Own (sliceR intR 3) [v152] r199.2, Own (sliceR intR 3) [v139] r196.2.1, Own (sliceR (pairR (sliceR intR 3) (sliceR intR 3)) 57) [v140] r196.2.2, Own (sliceR intR 3) [v186] r185, Box b146 30 [v139, v140], Box b103 25 [u0, u1], Own (sliceR (sliceR intR 3) 22) [v158] r157, Own (sliceR (sliceR intR 3) 22) [v133] r132, Own (sliceR intR 3) [v128] r127, Own (sliceR intR 3) [v121] r120.1, Own (sliceR (pairR (sliceR intR 3) (sliceR intR 3)) 57) [v122] r120.2, Own (sliceR intR 3) [v173] r172.1, Own (sliceR (pairR (sliceR intR 3) (sliceR intR 3)) 57) [v174] r172.2] := hS
            refine el_pv (v := .int .i64 r199.1) (pv_assign rfl) (by decide) ?_
            refine el_nil ?_
            refine hQ198 _ _ _ ?_
            refine thn_n ?_
            refine cw_seq ?_
            refine cw_gen ?_
            intro Q201 hQ201
            refine cw_seq ?_
            refine cw_gen ?_
            intro Q202 hQ202
            refine cw_reg ?_
            refine el_pv (v := .int .i64 r199.1) (pv_move rfl) (by decide) ?_
            refine el_pv (v := .bool (decide (r199.1 < 0))) (pv_lss rfl rfl) (by decide) ?_
            refine el_pv (v := .bool (decide (r199.1 < 0))) (pv_move rfl) (by decide) ?_
            replace hF := oif hF
            rcases hF with ⟨hb203, hF⟩ | ⟨hb203, hF⟩
            · refine el_off rfl hb203 rfl (by decide) ?_
              refine el_off rfl hb203 rfl (by decide) ?_
              refine el_off rfl hb203 rfl (by decide) ?_
              refine el_off rfl hb203 rfl (by decide) ?_
              refine el_pv (v := .bool true) (pv_pick_t rfl hb203 rfl) (by decide) ?_
              refine el_nil ?_
              refine hQ202 _ _ _ ?_
              refine thn_n ?_
              refine cw_cond_t rfl rfl ?_
              refine cw_seq ?_
              refine cw_gen ?_
              intro Q204 hQ204
              refine cw_reg ?_
              refine el_pv (v := .bool false) (pv_assign rfl) (by decide) ?_
              refine el_nil ?_
              refine hQ204 _ _ _ ?_
              refine thn_n ?_
              refine cw_ret ?_
              refine hQ201 _ _ _ ?_
              refine thn_r ?_
              refine fin1 rfl rfl ?_
              have hr := Option.some.inj hF
              exact ⟨congrArg (fun (r : Bool) => Ending.returned (.bool r)) hr, hS.below⟩
            · refine el_on rfl hb203 ?_
              refine el_pv (v := v158) (pv_move rfl) (by decide) ?_
              refine el_on rfl hb203 ?_
              refine el_pv (v := v133) (pv_move rfl) (by decide) ?_
              refine el_on rfl hb203 ?_
              replace hF := ob hF
              obtain ⟨r205, hr205, hF⟩ := hF
              refine el_call goes29 (laws_eqIntSS_ok (hS.rdAt (R := (sliceR (sliceR intR 3) 22)) 6 rfl) (hS.rdAt (R := (sliceR (sliceR intR 3) 22)) 7 rfl) hr205) (congrArg List.toArray (mapc rfl (mapc rfl rfl))) (by decide) ?_
              rintro _ w206 ⟨rfl, hx207⟩
              refine ⟨_, rfl, ?_⟩
              replace hS := hS.ext hx207
              refine el_on rfl hb203 ?_
              refine el_pv (v := .bool (!r205)) (pv_not rfl) (by decide) ?_
              refine el_pv (v := .bool (!r205)) (pv_pick_f rfl hb203 rfl) (by decide) ?_
              refine el_nil ?_
              refine hQ202 _ _ _ ?_
              refine thn_n ?_
              replace hF := oif hF
              rcases hF with ⟨hb208, hF⟩ | ⟨hb208, hF⟩
              · refine cw_cond_f rfl (bnot_t hb208) ?_
                refine cw_skip ?_
                refine hQ201 _ _ _ ?_
                refine thn_n ?_
                refine cw_seq ?_
                refine cw_gen ?_
                intro Q209 hQ209
                refine cw_reg ?_
                refine el_pv (v := .int .i64 1) (pv_assign rfl) (by decide) ?_
                refine el_nil ?_
                refine hQ209 _ _ _ ?_
                refine thn_n ?_
                refine cw_seq ?_
                refine cw_gen ?_
                intro Q210 hQ210
                refine cw_reg ?_
                refine el_pv (v := v158) (pv_move rfl) (by decide) ?_
                refine el_pv (v := .int .i64 1) (pv_move rfl) (by decide) ?_
                replace hS : Sat w0 w206 [Own (sliceR (sliceR intR 3) 22) [v158] r157, Own (sliceR intR 3) [v152] r199.2, Own (sliceR intR 3) [v139] r196.2.1, Own (sliceR (pairR (sliceR intR 3) (sliceR intR 3)) 57) [v140] r196.2.2, Own (sliceR intR 3) [v186] r185, Box b146 30 [v139, v140], Box b103 25 [u0, u1], Own (sliceR (sliceR intR 3) 22) [v133] r132, Own (sliceR intR 3) [v128] r127, Own (sliceR intR 3) [v121] r120.1, Own (sliceR (pairR (sliceR intR 3) (sliceR intR 3)) 57) [v122] r120.2, Own (sliceR intR 3) [v173] r172.1, Own (sliceR (pairR (sliceR intR 3) (sliceR intR 3)) 57) [v174] r172.2] := hS.top 6 rfl
                replace hF := ob hF
                obtain ⟨r211, hr211, hF⟩ := hF
                refine el_call goes30 (laws_markIntSS_ok hS hr211) (congrArg List.toArray (mapc rfl (mapc rfl rfl))) (by decide) ?_
                rintro _ w212 ⟨rfl, hS⟩
                refine ⟨_, rfl, ?_⟩
                replace hS : Sat w0 w212 [Own (sliceR (sliceR intR 3) 22) [v158] r211.2, Own (sliceR intR 3) [v152] r199.2, Own (sliceR intR 3) [v139] r196.2.1, Own (sliceR (pairR (sliceR intR 3) (sliceR intR 3)) 57) [v140] r196.2.2, Own (sliceR intR 3) [v186] r185, Box b146 30 [v139, v140], Box b103 25 [u0, u1], Own (sliceR (sliceR intR 3) 22) [v133] r132, Own (sliceR intR 3) [v128] r127, Own (sliceR intR 3) [v121] r120.1, Own (sliceR (pairR (sliceR intR 3) (sliceR intR 3)) 57) [v122] r120.2, Own (sliceR intR 3) [v173] r172.1, Own (sliceR (pairR (sliceR intR 3) (sliceR intR 3)) 57) [v174] r172.2] := hS
                refine el_pv (v := .int .i64 r211.1) (pv_assign rfl) (by decide) ?_
                refine el_nil ?_
                refine hQ210 _ _ _ ?_
                refine thn_n ?_
                refine cw_seq ?_
                refine cw_gen ?_
                intro Q213 hQ213
                refine cw_reg ?_
                refine el_pv (v := .int .i64 1) (pv_assign rfl) (by decide) ?_
                refine el_nil ?_
                refine hQ213 _ _ _ ?_
                refine thn_n ?_
                refine cw_seq ?_
                refine cw_gen ?_
                intro Q214 hQ214
                refine cw_reg ?_
                refine el_pv (v := v158) (pv_move rfl) (by decide) ?_
                refine el_pv (v := .int .i64 1) (pv_move rfl) (by decide) ?_
                replace hF := ob hF
                obtain ⟨r215, hr215, hF⟩ := hF
                refine el_call goes31 (laws_heldIntSS_ok (hS.rdAt (R := (sliceR (sliceR intR 3) 22)) 0 rfl) hr215) (congrArg List.toArray (mapc rfl (mapc rfl rfl))) (by decide) ?_
                rintro _ w216 ⟨rfl, hx217⟩
                refine ⟨_, rfl, ?_⟩
                replace hS := hS.ext hx217
                refine el_pv (v := .int .i64 r215) (pv_assign rfl) (by decide) ?_
                refine el_nil ?_
                refine hQ214 _ _ _ ?_
                refine thn_n ?_
                refine cw_seq ?_
                refine cw_gen ?_
                intro Q218 hQ218
                refine cw_seq ?_
                refine cw_gen ?_
                intro Q219 hQ219
                refine cw_reg ?_
                refine el_pv (v := .int .i64 r215) (pv_move rfl) (by decide) ?_
                refine el_pv (v := .bool (decide (r215 < 0))) (pv_lss rfl rfl) (by decide) ?_
                refine el_nil ?_
                refine hQ219 _ _ _ ?_
                refine thn_n ?_
                replace hF := oif hF
                rcases hF with ⟨hb220, hF⟩ | ⟨hb220, hF⟩
                · refine cw_cond_t rfl hb220 ?_
                  refine cw_seq ?_
                  refine cw_gen ?_
                  intro Q221 hQ221
                  refine cw_reg ?_
                  refine el_pv (v := .bool false) (pv_assign rfl) (by decide) ?_
                  refine el_nil ?_
                  refine hQ221 _ _ _ ?_
                  refine thn_n ?_
                  refine cw_ret ?_
                  refine hQ218 _ _ _ ?_
                  refine thn_r ?_
                  refine fin1 rfl rfl ?_
                  have hr := Option.some.inj hF
                  exact ⟨congrArg (fun (r : Bool) => Ending.returned (.bool r)) hr, hS.below⟩
                · refine cw_cond_f rfl hb220 ?_
                  refine cw_skip ?_
                  refine hQ218 _ _ _ ?_
                  refine thn_n ?_
                  refine cw_seq ?_
                  refine cw_gen ?_
                  intro Q222 hQ222
                  refine cw_seq ?_
                  refine cw_gen ?_
                  intro Q223 hQ223
                  refine cw_reg ?_
                  refine el_pv (v := .int .i64 r215) (pv_move rfl) (by decide) ?_
                  refine el_pv (v := .int .i64 r211.1) (pv_move rfl) (by decide) ?_
                  refine el_pv (v := .bool (r215 != r211.1)) (pv_neq rfl rfl) (by decide) ?_
                  refine el_nil ?_
                  refine hQ223 _ _ _ ?_
                  refine thn_n ?_
                  replace hF := oif hF
                  rcases hF with ⟨hb224, hF⟩ | ⟨hb224, hF⟩
                  · refine cw_cond_t rfl hb224 ?_
                    refine cw_seq ?_
                    refine cw_gen ?_
                    intro Q225 hQ225
                    refine cw_reg ?_
                    refine el_pv (v := .bool false) (pv_assign rfl) (by decide) ?_
                    refine el_nil ?_
                    refine hQ225 _ _ _ ?_
                    refine thn_n ?_
                    refine cw_ret ?_
                    refine hQ222 _ _ _ ?_
                    refine thn_r ?_
                    refine fin1 rfl rfl ?_
                    have hr := Option.some.inj hF
                    exact ⟨congrArg (fun (r : Bool) => Ending.returned (.bool r)) hr, hS.below⟩
                  · refine cw_cond_f rfl hb224 ?_
                    refine cw_skip ?_
                    refine hQ222 _ _ _ ?_
                    refine thn_n ?_
                    refine cw_seq ?_
                    refine cw_gen ?_
                    intro Q226 hQ226
                    refine cw_reg ?_
                    refine el_pv (v := .agg #[u0, u1]) (pv_loada (cs := [u0, u1]) rfl rfl (boxc0 (hS.boxAt 6 rfl))) (by decide) ?_
                    replace hF := ob hF
                    obtain ⟨r227, hr227, hF⟩ := hF
                    refine el_call goes11 (laws_toFactorization_ok (hS.up ha0) (hS.up ha1) hr227) (congrArg List.toArray (mapc rfl rfl)) (by decide) ?_
                    rintro _ w232 ⟨v228, v229, rfl, hS'⟩
                    refine ⟨_, rfl, ?_⟩
                    have hx233 := hS'.below
                    replace hS := hS.call2 hS'
                    refine el_pv (v := u2) (pv_move rfl) (by decide) ?_
                    replace hF := ob hF
                    obtain ⟨r234, hr234, hF⟩ := hF
                    refine el_call goes15 (laws_toIntS_ok (hS.up ha2) hr234) (congrArg List.toArray (mapc rfl rfl)) (by decide) ?_
                    rintro _ w237 ⟨v235, rfl, hS'⟩
                    refine ⟨_, rfl, ?_⟩
                    have hx238 := hS'.below
                    replace hS := hS.call1 hS'
                    refine el_pv (v := .int .i64 a3) (pv_move rfl) (by decide) ?_
                    replace hF := ob hF
                    obtain ⟨r239, hr239, hF⟩ := hF
                    refine el_call goes28 (impl_FactorizedRowsFrom_ok (hS.rdAt (R := (sliceR intR 3)) 1 rfl) (hS.rdAt (R := (sliceR (pairR (sliceR intR 3) (sliceR intR 3)) 57)) 2 rfl) (hS.rdAt (R := (sliceR intR 3)) 0 rfl) hr239) (congrArg List.toArray (mapc rfl (mapc rfl (mapc rfl rfl)))) (by decide) ?_
                    rintro _ w242 ⟨v240, rfl, hS'⟩
                    refine ⟨_, rfl, ?_⟩
                    have hx243 := hS'.below
                    replace hS := hS.call1 hS'
                    refine el_pv (v := v240) (pv_assign rfl) (by decide) ?_
                    refine el_nil ?_
                    refine hQ226 _ _ _ ?_
                    refine thn_n ?_
                    refine cw_seq ?_
                    refine cw_gen ?_
                    intro Q244 hQ244
                    refine cw_seq ?_
                    refine cw_gen ?_
                    intro Q245 hQ245
                    refine cw_reg ?_
                    refine el_pv (v := v240) (pv_move rfl) (by decide) ?_
                    refine el_pv (v := v133) (pv_move rfl) (by decide) ?_
                    replace hF := ob hF
                    obtain ⟨r246, hr246, hF⟩ := hF
                    refine el_call goes29 (laws_eqIntSS_ok (hS.rdAt (R := (sliceR (sliceR intR 3) 22)) 0 rfl) (hS.rdAt (R := (sliceR (sliceR intR 3) 22)) 11 rfl) hr246) (congrArg List.toArray (mapc rfl (mapc rfl rfl))) (by decide) ?_
                    rintro _ w247 ⟨rfl, hx248⟩
                    refine ⟨_, rfl, ?_⟩
                    replace hS := hS.ext hx248
                    refine el_pv (v := .bool (!r246)) (pv_not rfl) (by decide) ?_
                    refine el_nil ?_
                    refine hQ245 _ _ _ ?_
                    refine thn_n ?_
                    replace hF := oif hF
                    rcases hF with ⟨hb249, hF⟩ | ⟨hb249, hF⟩
                    · refine cw_cond_f rfl (bnot_t hb249) ?_
                      refine cw_skip ?_
                      refine hQ244 _ _ _ ?_
                      refine thn_n ?_
                      refine cw_seq ?_
                      refine cw_gen ?_
                      intro Q250 hQ250
                      refine cw_reg ?_
                      refine el_pv (v := .int .i64 1) (pv_assign rfl) (by decide) ?_
                      refine el_nil ?_
                      refine hQ250 _ _ _ ?_
                      refine thn_n ?_
                      refine cw_seq ?_
                      refine cw_gen ?_
                      intro Q251 hQ251
                      refine cw_reg ?_
                      refine el_pv (v := v158) (pv_move rfl) (by decide) ?_
                      refine el_pv (v := .int .i64 1) (pv_move rfl) (by decide) ?_
                      replace hF := ob hF
                      obtain ⟨r252, hr252, hF⟩ := hF
                      refine el_call goes31 (laws_heldIntSS_ok (hS.rdAt (R := (sliceR (sliceR intR 3) 22)) 4 rfl) hr252) (congrArg List.toArray (mapc rfl (mapc rfl rfl))) (by decide) ?_
                      rintro _ w253 ⟨rfl, hx254⟩
                      refine ⟨_, rfl, ?_⟩
                      replace hS := hS.ext hx254
                      refine el_pv (v := .int .i64 r252) (pv_assign rfl) (by decide) ?_
                      refine el_nil ?_
                      refine hQ251 _ _ _ ?_
                      refine thn_n ?_
                      refine cw_seq ?_
                      refine cw_gen ?_
                      intro Q255 hQ255
                      refine cw_seq ?_
                      refine cw_gen ?_
                      intro Q256 hQ256
                      refine cw_reg ?_
                      refine el_pv (v := .int .i64 r252) (pv_move rfl) (by decide) ?_
                      refine el_pv (v := .bool (decide (r252 < 0))) (pv_lss rfl rfl) (by decide) ?_
                      refine el_nil ?_
                      refine hQ256 _ _ _ ?_
                      refine thn_n ?_
                      replace hF := oif hF
                      rcases hF with ⟨hb257, hF⟩ | ⟨hb257, hF⟩
                      · refine cw_cond_t rfl hb257 ?_
                        refine cw_seq ?_
                        refine cw_gen ?_
                        intro Q258 hQ258
                        refine cw_reg ?_
                        refine el_pv (v := .bool false) (pv_assign rfl) (by decide) ?_
                        refine el_nil ?_
                        refine hQ258 _ _ _ ?_
                        refine thn_n ?_
                        refine cw_ret ?_
                        refine hQ255 _ _ _ ?_
                        refine thn_r ?_
                        refine fin1 rfl rfl ?_
                        have hr := Option.some.inj hF
                        exact ⟨congrArg (fun (r : Bool) => Ending.returned (.bool r)) hr, hS.below⟩
                      · refine cw_cond_f rfl hb257 ?_
                        refine cw_skip ?_
                        refine hQ255 _ _ _ ?_
                        refine thn_n ?_
                        refine cw_seq ?_
                        refine cw_gen ?_
                        intro Q259 hQ259
                        refine cw_seq ?_
                        refine cw_gen ?_
                        intro Q260 hQ260
                        refine cw_reg ?_
                        refine el_pv (v := .int .i64 r252) (pv_move rfl) (by decide) ?_
                        refine el_pv (v := .int .i64 r211.1) (pv_move rfl) (by decide) ?_
                        refine el_pv (v := .bool (r252 != r211.1)) (pv_neq rfl rfl) (by decide) ?_
                        refine el_nil ?_
                        refine hQ260 _ _ _ ?_
                        refine thn_n ?_
                        replace hF := oif hF
                        rcases hF with ⟨hb261, hF⟩ | ⟨hb261, hF⟩
                        · refine cw_cond_t rfl hb261 ?_
                          refine cw_seq ?_
                          refine cw_gen ?_
                          intro Q262 hQ262
                          refine cw_reg ?_
                          refine el_pv (v := .bool false) (pv_assign rfl) (by decide) ?_
                          refine el_nil ?_
                          refine hQ262 _ _ _ ?_
                          refine thn_n ?_
                          refine cw_ret ?_
                          refine hQ259 _ _ _ ?_
                          refine thn_r ?_
                          refine fin1 rfl rfl ?_
                          have hr := Option.some.inj hF
                          exact ⟨congrArg (fun (r : Bool) => Ending.returned (.bool r)) hr, hS.below⟩
                        · refine cw_cond_f rfl hb261 ?_
                          refine cw_skip ?_
                          refine hQ259 _ _ _ ?_
                          refine thn_n ?_
                          refine cw_seq ?_
                          refine cw_gen ?_
                          intro Q263 hQ263
                          refine cw_reg ?_
                          refine el_pv (v := .bool true) (pv_assign rfl) (by decide) ?_
                          refine el_nil ?_
                          refine hQ263 _ _ _ ?_
                          refine thn_n ?_
                          refine cw_ret ?_
                          refine fin1 rfl rfl ?_
                          have hr := Option.some.inj hF
                          exact ⟨congrArg (fun (r : Bool) => Ending.returned (.bool r)) hr, hS.below⟩
                    · refine cw_cond_t rfl (bnot_f hb249) ?_
                      refine cw_seq ?_
                      refine cw_gen ?_
                      intro Q264 hQ264
                      refine cw_reg ?_
                      refine el_pv (v := .bool false) (pv_assign rfl) (by decide) ?_
                      refine el_nil ?_
                      refine hQ264 _ _ _ ?_
                      refine thn_n ?_
                      refine cw_ret ?_
                      refine hQ244 _ _ _ ?_
                      refine thn_r ?_
                      refine fin1 rfl rfl ?_
                      have hr := Option.some.inj hF
                      exact ⟨congrArg (fun (r : Bool) => Ending.returned (.bool r)) hr, hS.below⟩
              · refine cw_cond_t rfl (bnot_f hb208) ?_
                refine cw_seq ?_
                refine cw_gen ?_
                intro Q265 hQ265
                refine cw_reg ?_
                refine el_pv (v := .bool false) (pv_assign rfl) (by decide) ?_
                refine el_nil ?_
                refine hQ265 _ _ _ ?_
                refine thn_n ?_
                refine cw_ret ?_
                refine hQ201 _ _ _ ?_
                refine thn_r ?_
                refine fin1 rfl rfl ?_
                have hr := Option.some.inj hF
                exact ⟨congrArg (fun (r : Bool) => Ending.returned (.bool r)) hr, hS.below⟩
          · refine cw_cond_t rfl (bnot_f hb193) ?_
            refine cw_seq ?_
            refine cw_gen ?_
            intro Q266 hQ266
            refine cw_reg ?_
            refine el_pv (v := .bool false) (pv_assign rfl) (by decide) ?_
            refine el_nil ?_
            refine hQ266 _ _ _ ?_
            refine thn_n ?_
            refine cw_ret ?_
            refine hQ183 _ _ _ ?_
            refine thn_r ?_
            refine fin1 rfl rfl ?_
            have hr := Option.some.inj hF
            exact ⟨congrArg (fun (r : Bool) => Ending.returned (.bool r)) hr, hS.below⟩
        · refine cw_cond_t rfl (bnot_f hb182) ?_
          refine cw_seq ?_
          refine cw_gen ?_
          intro Q267 hQ267
          refine cw_reg ?_
          refine el_pv (v := .bool false) (pv_assign rfl) (by decide) ?_
          refine el_nil ?_
          refine hQ267 _ _ _ ?_
          refine thn_n ?_
          refine cw_ret ?_
          refine hQ168 _ _ _ ?_
          refine thn_r ?_
          refine fin1 rfl rfl ?_
          have hr := Option.some.inj hF
          exact ⟨congrArg (fun (r : Bool) => Ending.returned (.bool r)) hr, hS.below⟩
      · refine cw_cond_t rfl (bnot_f hb167) ?_
        refine cw_seq ?_
        refine cw_gen ?_
        intro Q268 hQ268
        refine cw_reg ?_
        refine el_pv (v := .bool false) (pv_assign rfl) (by decide) ?_
        refine el_nil ?_
        refine hQ268 _ _ _ ?_
        refine thn_n ?_
        refine cw_ret ?_
        refine hQ162 _ _ _ ?_
        refine thn_r ?_
        refine fin1 rfl rfl ?_
        have hr := Option.some.inj hF
        exact ⟨congrArg (fun (r : Bool) => Ending.returned (.bool r)) hr, hS.below⟩
end Go.Proofs.Ytbjfbfjacchjiaa
