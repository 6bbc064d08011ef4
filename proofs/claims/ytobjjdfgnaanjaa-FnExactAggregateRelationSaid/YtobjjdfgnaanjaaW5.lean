/- The walks through functions of the program: each hands back what it comes to. No condition but that it comes to something. -/
import Derived.Test.YtobjjdfgnaanjaaW4
import Derived.Test.YtobjjdfgnaanjaaW5D
namespace Go.Proofs.Ytobjjdfgnaanjaa
open Go.RowKit
set_option maxRecDepth 100000
theorem spec_SemiringAdd_ok {w0 : World} {a0 : Int} {a1 : Int} {a2 : Int}  {N : Nat} {r : Int} (hF : spec_SemiringAdd N a0 a1 a2 = some r) :
    Calls Try.prog 36 #[.int .i64 a0, .int .i64 a1, .int .i64 a2] w0 fun e w' => e = .returned (.int .i64 r) ∧ Ext w0 w' := by
  unfold spec_SemiringAdd at hF
  refine calls_E Try.func36 rfl rfl (of_decide_eq_true rfl) ?_
  have hS := Sat.start w0
  refine cw_seq ?_
  refine cw_reg ?_
  refine el_pv (pv_assign rfl) (by decide) ?_
  refine el_nil ?_
  refine thn_n ?_
  refine cw_seq ?_
  refine cw_reg ?_
  refine el_pv (pv_move rfl) (by decide) ?_
  obtain ⟨r101, hr101, hF⟩ := ob hF
  refine el_call goes78 (spec_l25Clip_ok hr101) (congrArg List.toArray (mapc rfl rfl)) (by decide) ?_
  rintro _ w102 ⟨rfl, hx103⟩
  refine ⟨_, rfl, ?_⟩
  have hS := hS.ext hx103
  refine el_pv (pv_assign rfl) (by decide) ?_
  refine el_nil ?_
  refine thn_n ?_
  refine cw_seq ?_
  refine cw_reg ?_
  refine el_pv (pv_move rfl) (by decide) ?_
  obtain ⟨r104, hr104, hF⟩ := ob hF
  refine el_call goes78 (spec_l25Clip_ok hr104) (congrArg List.toArray (mapc rfl rfl)) (by decide) ?_
  rintro _ w105 ⟨rfl, hx106⟩
  refine ⟨_, rfl, ?_⟩
  have hS := hS.ext hx106
  refine el_pv (pv_assign rfl) (by decide) ?_
  refine el_nil ?_
  refine thn_n ?_
  refine cw_seq ?_
  refine cw_seq ?_
  refine cw_reg ?_
  refine el_pv (pv_move rfl) (by decide) ?_
  refine el_nil ?_
  refine thn_n ?_
  refine cw_block ?_
  refine cw_seq ?_
  refine cw_reg ?_
  refine el_pv (pv_eql rfl rfl) (by decide) ?_
  refine el_pv (pv_assign rfl) (by decide) ?_
  refine el_nil ?_
  refine thn_n ?_
  rcases oif hF with ⟨hb107, hF⟩ | ⟨hb107, hF⟩
  · refine cw_cond_t rfl hb107 ?_
    refine cw_seq ?_
    refine cw_reg ?_
    refine el_pv (pv_move rfl) (by decide) ?_
    refine el_pv (pv_move rfl) (by decide) ?_
    obtain ⟨x108, hx108, hF⟩ := ob hF
    refine el_pv (pv_add rfl rfl hx108) (by decide) ?_
    obtain ⟨r109, hr109, hF⟩ := ob hF
    refine el_call goes78 (spec_l25Clip_ok hr109) (congrArg List.toArray (mapc rfl rfl)) (by decide) ?_
    rintro _ w110 ⟨rfl, hx111⟩
    refine ⟨_, rfl, ?_⟩
    have hS := hS.ext hx111
    refine el_pv (pv_assign rfl) (by decide) ?_
    refine el_nil ?_
    refine thn_n ?_
    refine cw_ret ?_
    refine inb_r ?_
    refine thn_r ?_
    obtain rfl := Option.some.inj hF
    refine fin1 rfl rfl ?_
    exact ⟨rfl, hS.below⟩
  · refine cw_cond_f rfl hb107 ?_
    refine cw_seq ?_
    refine cw_reg ?_
    refine el_pv (pv_eql rfl rfl) (by decide) ?_
    refine el_pv (pv_assign rfl) (by decide) ?_
    refine el_nil ?_
    refine thn_n ?_
    rcases oif hF with ⟨hb112, hF⟩ | ⟨hb112, hF⟩
    · refine cw_cond_t rfl hb112 ?_
      refine cw_seq ?_
      refine cw_reg ?_
      refine el_pv (pv_move rfl) (by decide) ?_
      refine el_pv (pv_move rfl) (by decide) ?_
      refine el_pv (pv_min rfl rfl) (by decide) ?_
      refine el_pv (pv_assign rfl) (by decide) ?_
      refine el_nil ?_
      refine thn_n ?_
      refine cw_ret ?_
      refine inb_r ?_
      refine thn_r ?_
      obtain rfl := Option.some.inj hF
      refine fin1 rfl rfl ?_
      exact ⟨rfl, hS.below⟩
    · refine cw_cond_f rfl hb112 ?_
      refine cw_seq ?_
      refine cw_reg ?_
      refine el_pv (pv_eql rfl rfl) (by decide) ?_
      refine el_pv (pv_assign rfl) (by decide) ?_
      refine el_nil ?_
      refine thn_n ?_
      rcases oif hF with ⟨hb113, hF⟩ | ⟨hb113, hF⟩
      · refine cw_cond_t rfl hb113 ?_
        refine cw_seq ?_
        refine cw_reg ?_
        refine el_pv (pv_move rfl) (by decide) ?_
        refine el_pv (pv_move rfl) (by decide) ?_
        obtain ⟨x114, hx114, hF⟩ := ob hF
        refine el_pv (pv_add rfl rfl hx114) (by decide) ?_
        refine el_pv (pv_min rfl rfl) (by decide) ?_
        refine el_pv (pv_assign rfl) (by decide) ?_
        refine el_nil ?_
        refine thn_n ?_
        refine cw_ret ?_
        refine inb_r ?_
        refine thn_r ?_
        obtain rfl := Option.some.inj hF
        refine fin1 rfl rfl ?_
        exact ⟨rfl, hS.below⟩
      · refine cw_cond_f rfl hb113 ?_
        refine cw_seq ?_
        refine cw_reg ?_
        refine el_pv (pv_eql rfl rfl) (by decide) ?_
        refine el_pv (pv_assign rfl) (by decide) ?_
        refine el_nil ?_
        refine thn_n ?_
        rcases oif hF with ⟨hb115, hF⟩ | ⟨hb115, hF⟩
        · refine cw_cond_t rfl hb115 ?_
          refine cw_seq ?_
          refine cw_reg ?_
          refine el_pv (pv_move rfl) (by decide) ?_
          refine el_pv (pv_move rfl) (by decide) ?_
          refine el_pv (pv_max rfl rfl) (by decide) ?_
          refine el_pv (pv_assign rfl) (by decide) ?_
          refine el_nil ?_
          refine thn_n ?_
          refine cw_ret ?_
          refine inb_r ?_
          refine thn_r ?_
          obtain rfl := Option.some.inj hF
          refine fin1 rfl rfl ?_
          exact ⟨rfl, hS.below⟩
        · refine cw_cond_f rfl hb115 ?_
          refine cw_skip ?_
          refine inb_n ?_
          refine thn_n ?_
          refine cw_seq ?_
          refine cw_reg ?_
          refine el_pv (pv_assign rfl) (by decide) ?_
          refine el_nil ?_
          refine thn_n ?_
          refine cw_ret ?_
          obtain rfl := Option.some.inj hF
          refine fin1 rfl rfl ?_
          exact ⟨rfl, hS.below⟩
theorem spec_IsValidSemiring_ok {w0 : World} {a0 : Int}  {N : Nat} {r : Bool} (hF : spec_IsValidSemiring N a0 = some r) :
    Calls Try.prog 39 #[.int .i64 a0] w0 fun e w' => e = .returned (.bool r) ∧ Ext w0 w' := by
  unfold spec_IsValidSemiring at hF
  refine calls_E Try.func39 rfl rfl (of_decide_eq_true rfl) ?_
  have hS := Sat.start w0
  refine cw_seq ?_
  refine cw_reg ?_
  refine el_pv (pv_assign rfl) (by decide) ?_
  refine el_nil ?_
  refine thn_n ?_
  refine cw_seq ?_
  refine cw_reg ?_
  refine el_pv (pv_move rfl) (by decide) ?_
  obtain ⟨r101, hr101, hF⟩ := ob hF
  refine el_call goes62 (spec_l1In_ok hr101) (congrArg List.toArray (mapc rfl (mapc rfl (mapc rfl rfl)))) (by decide) ?_
  rintro _ w102 ⟨rfl, hx103⟩
  refine ⟨_, rfl, ?_⟩
  have hS := hS.ext hx103
  refine el_pv (pv_assign rfl) (by decide) ?_
  refine el_nil ?_
  refine thn_n ?_
  refine cw_ret ?_
  obtain rfl := Option.some.inj hF
  refine fin1 rfl rfl ?_
  exact ⟨rfl, hS.below⟩
theorem spec_SemiringZero_ok {w0 : World} {a0 : Int}  {N : Nat} {r : Int} (hF : spec_SemiringZero N a0 = some r) :
    Calls Try.prog 42 #[.int .i64 a0] w0 fun e w' => e = .returned (.int .i64 r) ∧ Ext w0 w' := by
  unfold spec_SemiringZero at hF
  refine calls_E Try.func42 rfl rfl (of_decide_eq_true rfl) ?_
  have hS := Sat.start w0
  refine cw_seq ?_
  refine cw_reg ?_
  refine el_pv (pv_assign rfl) (by decide) ?_
  refine el_nil ?_
  refine thn_n ?_
  refine cw_seq ?_
  refine cw_seq ?_
  refine cw_reg ?_
  refine el_pv (pv_move rfl) (by decide) ?_
  refine el_pv (pv_eql rfl rfl) (by decide) ?_
  refine el_nil ?_
  refine thn_n ?_
  rcases oif hF with ⟨hb101, hF⟩ | ⟨hb101, hF⟩
  · refine cw_cond_t rfl hb101 ?_
    refine cw_seq ?_
    refine cw_reg ?_
    refine el_pv (pv_assign rfl) (by decide) ?_
    refine el_nil ?_
    refine thn_n ?_
    refine cw_ret ?_
    refine thn_r ?_
    obtain rfl := Option.some.inj hF
    refine fin1 rfl rfl ?_
    exact ⟨rfl, hS.below⟩
  · refine cw_cond_f rfl hb101 ?_
    refine cw_skip ?_
    refine thn_n ?_
    refine cw_seq ?_
    refine cw_reg ?_
    refine el_pv (pv_assign rfl) (by decide) ?_
    refine el_nil ?_
    refine thn_n ?_
    refine cw_ret ?_
    obtain rfl := Option.some.inj hF
    refine fin1 rfl rfl ?_
    exact ⟨rfl, hS.below⟩
theorem spec_IsValidRelation_ok {w0 : World} {a0 : Int} {u1 : Value} {a1 : List (List Int)} (ha1 : (sliceR (sliceR intR 3) 22).rd w0 [u1] a1) {N : Nat} {r : Bool} (hF : spec_IsValidRelation N a0 a1 = some r) :
    Calls Try.prog 67 #[.agg #[.int .i64 a0, u1]] w0 fun e w' => e = .returned (.bool r) ∧ Ext w0 w' := by
  unfold spec_IsValidRelation at hF
  refine calls_E Try.func67 rfl rfl (of_decide_eq_true rfl) ?_
  have hS := Sat.start w0
  refine cw_seq ?_
  refine cw_reg ?_
  refine el_box [.int .i64 a0, u1] rfl hS (by decide) ?_
  intro w101 b102 hS hx103
  refine el_pv (pv_assign rfl) (by decide) ?_
  refine el_nil ?_
  refine thn_n ?_
  refine cw_seq ?_
  refine cw_seq ?_
  refine cw_reg ?_
  refine el_pv (pv_fieldAddr rfl) (by decide) ?_
  refine el_pv (pv_loadc rfl ((hS.boxAt 0 rfl) 0 _ rfl)) (by decide) ?_
  obtain ⟨r105, hr105, hF⟩ := ob hF
  refine el_call goes62 (spec_l1In_ok hr105) (congrArg List.toArray (mapc rfl (mapc rfl (mapc rfl rfl)))) (by decide) ?_
  rintro _ w106 ⟨rfl, hx107⟩
  refine ⟨_, rfl, ?_⟩
  have hS := hS.ext hx107
  refine el_pv (pv_not rfl) (by decide) ?_
  refine el_pv (pv_move rfl) (by decide) ?_
  rcases oif hF with ⟨hb108, hF⟩ | ⟨hb108, hF⟩
  · refine el_on rfl (bnot_t hb108) ?_
    refine el_pv (pv_fieldAddr rfl) (by decide) ?_
    refine el_on rfl (bnot_t hb108) ?_
    refine el_pv (pv_loadc rfl ((hS.boxAt 0 rfl) 1 _ rfl)) (by decide) ?_
    refine el_on rfl (bnot_t hb108) ?_
    refine el_pv (pv_len rfl ha1) (by decide) ?_
    refine el_on rfl (bnot_t hb108) ?_
    refine el_pv (pv_gtr rfl rfl) (by decide) ?_
    refine el_pv (pv_pick_f rfl (bnot_t hb108) rfl) (by decide) ?_
    refine el_nil ?_
    refine thn_n ?_
    rcases oif hF with ⟨hb109, hF⟩ | ⟨hb109, hF⟩
    · refine cw_cond_t rfl hb109 ?_
      refine cw_seq ?_
      refine cw_reg ?_
      refine el_pv (pv_assign rfl) (by decide) ?_
      refine el_nil ?_
      refine thn_n ?_
      refine cw_ret ?_
      refine thn_r ?_
      obtain rfl := Option.some.inj hF
      refine fin1 rfl rfl ?_
      exact ⟨rfl, hS.below⟩
    · refine cw_cond_f rfl hb109 ?_
      refine cw_skip ?_
      refine thn_n ?_
      refine cw_seq ?_
      refine cw_seq ?_
      refine cw_reg ?_
      refine el_pv (pv_assign rfl) (by decide) ?_
      refine el_nil ?_
      refine thn_n ?_
      refine cw_block ?_
      obtain ⟨s110, hL, hK111⟩ := ob hF
      refine cw_loopS (fun k e w => ∃ (x112 : Int), e 1 = .pointer (some ⟨b102, 0, none⟩) ∧ e 3 = .int .i64 x112 ∧ Sat w0 w [Box b102 40 [.int .i64 a0, u1]] ∧ spec_IsValidRelation_L1 N k a0 a1 x112 = some s110) N ?_ ?_ ?_
      · exact ⟨0, rfl, rfl, hS, hL⟩
      · rintro e w ⟨_, _, _, _, hz⟩; exact nomatch (show none = some _ from hz)
      · rintro k e116 w115 ⟨x112, he113, he114, hS, hF⟩
        refine cw_seq ?_
        refine cw_seq ?_
        refine cw_reg ?_
        refine el_pv (pv_move he114) (by decide) ?_
        refine el_pv (pv_fieldAddr he113) (by decide) ?_
        refine el_pv (pv_loadc rfl ((hS.boxAt 0 rfl) 1 _ rfl)) (by decide) ?_
        refine el_pv (pv_len rfl ha1) (by decide) ?_
        refine el_pv (pv_lss rfl rfl) (by decide) ?_
        refine el_nil ?_
        refine thn_n ?_
        rcases oif hF with ⟨hb117, hF⟩ | ⟨hb117, hF⟩
        · refine cw_cond_t rfl hb117 ?_
          refine cw_skip ?_
          refine thn_n ?_
          refine cw_seq ?_
          refine cw_block ?_
          refine cw_seq ?_
          refine cw_regq (by kernel_rfl) (by kernel_rfl) ?_
          refine ql_pv (pv_fieldAddr he113) (by decide) ?_
          refine ql_pv (pv_loadc rfl ((hS.boxAt 0 rfl) 1 _ rfl)) (by decide) ?_
          refine ql_pv (pv_move he114) (by decide) ?_
          obtain ⟨x118, hx118, hF⟩ := ob hF
          refine ql_index (wA := w0) rfl ha1 rfl (by decide) rfl hx118 (by decide) ?_
          intro b119 of120 c121 hr122 hm123
          obtain ⟨v124, rfl⟩ := slice_one hr122
          refine ql_pv (pv_loadc rfl ((cells_up hS.below hm123) 0 _ rfl)) (by decide) ?_
          refine ql_pv (pv_len rfl hr122) (by decide) ?_
          refine ql_pv (pv_fieldAddr he113) (by decide) ?_
          refine ql_pv (pv_loadc rfl ((hS.boxAt 0 rfl) 0 _ rfl)) (by decide) ?_
          refine ql_pv (pv_neq rfl rfl) (by decide) ?_
          refine ql_pv (pv_move rfl) (by decide) ?_
          rcases oif hF with ⟨hb125, hF⟩ | ⟨hb125, hF⟩
          · refine ql_off rfl hb125 rfl (by decide) ?_
            refine ql_off rfl hb125 rfl (by decide) ?_
            refine ql_off rfl hb125 rfl (by decide) ?_
            refine ql_off rfl hb125 rfl (by decide) ?_
            refine ql_off rfl hb125 rfl (by decide) ?_
            refine ql_off rfl hb125 rfl (by decide) ?_
            refine ql_off rfl hb125 rfl (by decide) ?_
            refine ql_pv (pv_pick_t rfl hb125 rfl) (by decide) ?_
            refine ql_pv (pv_move rfl) (by decide) ?_
            refine ql_off rfl rfl rfl (by decide) ?_
            refine ql_off rfl rfl rfl (by decide) ?_
            refine ql_off rfl rfl rfl (by decide) ?_
            refine ql_offu rfl (by decide) ?_
            refine ql_offu rfl (by decide) ?_
            refine ql_offu rfl (by decide) ?_
            refine ql_offu rfl (by decide) ?_
            refine ql_offu rfl (by decide) ?_
            refine ql_offu rfl (by decide) ?_
            refine ql_offu rfl (by decide) ?_
            refine ql_offu rfl (by decide) ?_
            refine ql_offu rfl (by decide) ?_
            refine ql_offu rfl (by decide) ?_
            refine ql_offu rfl (by decide) ?_
            refine ql_offu rfl (by decide) ?_
            refine ql_offu rfl (by decide) ?_
            refine ql_off rfl rfl rfl (by decide) ?_
            refine ql_pv (pv_pick_t rfl rfl rfl) (by decide) ?_
            refine ql_nil ?_
            intro w126 hx127
            have hS := hS.ext hx127
            refine thn_n ?_
            refine cw_cond_t rfl rfl ?_
            refine cw_seq ?_
            refine cw_reg ?_
            refine el_pv (pv_assign rfl) (by decide) ?_
            refine el_nil ?_
            refine thn_n ?_
            refine cw_ret ?_
            refine inb_r ?_
            refine thn_r ?_
            refine thn_r ?_
            refine inb_r ?_
            refine thn_r ?_
            obtain rfl := Option.some.inj hF
            have hF := hK111
            obtain rfl := Option.some.inj hF
            refine fin1 rfl rfl ?_
            exact ⟨rfl, hS.below⟩
          · refine ql_on rfl hb125 ?_
            refine ql_pv (pv_fieldAddr he113) (by decide) ?_
            refine ql_on rfl hb125 ?_
            refine ql_pv (pv_loadc rfl ((hS.boxAt 0 rfl) 1 _ rfl)) (by decide) ?_
            refine ql_on rfl hb125 ?_
            refine ql_pv (pv_move he114) (by decide) ?_
            refine ql_on rfl hb125 ?_
            obtain ⟨x128, hx128, hF⟩ := ob hF
            refine ql_index (wA := w0) rfl ha1 rfl (by decide) rfl hx128 (by decide) ?_
            intro b129 of130 c131 hr132 hm133
            obtain ⟨v134, rfl⟩ := slice_one hr132
            refine ql_on rfl hb125 ?_
            refine ql_pv (pv_loadc rfl ((cells_up hS.below hm133) 0 _ rfl)) (by decide) ?_
            refine ql_on rfl hb125 ?_
            obtain ⟨r135, hr135, hF⟩ := ob hF
            refine ql_call (.bool r135) goes61 (fun w' hw' => spec_AreValidValues_ok (rd_up (hS.up hr132) hw') hr135) (congrArg List.toArray (mapc rfl rfl)) (by decide) ?_
            refine ql_on rfl hb125 ?_
            refine ql_pv (pv_not rfl) (by decide) ?_
            refine ql_pv (pv_pick_f rfl hb125 rfl) (by decide) ?_
            refine ql_pv (pv_move rfl) (by decide) ?_
            rcases oif hF with ⟨hb136, hF⟩ | ⟨hb136, hF⟩
            · refine ql_on rfl (bnot_t hb136) ?_
              refine ql_pv (pv_move he114) (by decide) ?_
              refine ql_on rfl (bnot_t hb136) ?_
              refine ql_pv (pv_gtr rfl rfl) (by decide) ?_
              refine ql_on rfl (bnot_t hb136) ?_
              refine ql_pv (pv_move rfl) (by decide) ?_
              rcases oif hF with ⟨hb137, hF⟩ | ⟨hb137, hF⟩
              · refine ql_on rfl hb137 ?_
                refine ql_pv (pv_fieldAddr he113) (by decide) ?_
                refine ql_on rfl hb137 ?_
                refine ql_pv (pv_loadc rfl ((hS.boxAt 0 rfl) 1 _ rfl)) (by decide) ?_
                refine ql_on rfl hb137 ?_
                refine ql_pv (pv_move he114) (by decide) ?_
                refine ql_on rfl hb137 ?_
                obtain ⟨x138, hx138, hF⟩ := ob hF
                refine ql_pv (pv_sub rfl rfl hx138) (by decide) ?_
                refine ql_on rfl hb137 ?_
                obtain ⟨x139, hx139, hF⟩ := ob hF
                refine ql_index (wA := w0) rfl ha1 rfl (by decide) rfl hx139 (by decide) ?_
                intro b140 of141 c142 hr143 hm144
                obtain ⟨v145, rfl⟩ := slice_one hr143
                refine ql_on rfl hb137 ?_
                refine ql_pv (pv_loadc rfl ((cells_up hS.below hm144) 0 _ rfl)) (by decide) ?_
                refine ql_on rfl hb137 ?_
                refine ql_pv (pv_fieldAddr he113) (by decide) ?_
                refine ql_on rfl hb137 ?_
                refine ql_pv (pv_loadc rfl ((hS.boxAt 0 rfl) 1 _ rfl)) (by decide) ?_
                refine ql_on rfl hb137 ?_
                refine ql_pv (pv_move he114) (by decide) ?_
                refine ql_on rfl hb137 ?_
                obtain ⟨x146, hx146, hF⟩ := ob hF
                refine ql_index (wA := w0) rfl ha1 rfl (by decide) rfl hx146 (by decide) ?_
                intro b147 of148 c149 hr150 hm151
                obtain ⟨v152, rfl⟩ := slice_one hr150
                refine ql_on rfl hb137 ?_
                refine ql_pv (pv_loadc rfl ((cells_up hS.below hm151) 0 _ rfl)) (by decide) ?_
                refine ql_on rfl hb137 ?_
                obtain ⟨r153, hr153, hF⟩ := ob hF
                refine ql_call (.int .i64 r153) goes46 (fun w' hw' => spec_CompareRows_ok (rd_up (hS.up hr143) hw') (rd_up (hS.up hr150) hw') hr153) (congrArg List.toArray (mapc rfl (mapc rfl rfl))) (by decide) ?_
                refine ql_on rfl hb137 ?_
                refine ql_pv (pv_geq rfl rfl) (by decide) ?_
                refine ql_on rfl (bnot_t hb136) ?_
                refine ql_pv (pv_pick_t rfl hb137 rfl) (by decide) ?_
                refine ql_pv (pv_pick_f rfl (bnot_t hb136) rfl) (by decide) ?_
                refine ql_nil ?_
                intro w154 hx155
                have hS := hS.ext hx155
                refine thn_n ?_
                rcases oif hF with ⟨hb156, hF⟩ | ⟨hb156, hF⟩
                · refine cw_cond_t rfl hb156 ?_
                  refine cw_seq ?_
                  refine cw_reg ?_
                  refine el_pv (pv_assign rfl) (by decide) ?_
                  refine el_nil ?_
                  refine thn_n ?_
                  refine cw_ret ?_
                  refine inb_r ?_
                  refine thn_r ?_
                  refine thn_r ?_
                  refine inb_r ?_
                  refine thn_r ?_
                  obtain rfl := Option.some.inj hF
                  have hF := hK111
                  obtain rfl := Option.some.inj hF
                  refine fin1 rfl rfl ?_
                  exact ⟨rfl, hS.below⟩
                · refine cw_cond_f rfl hb156 ?_
                  refine cw_skip ?_
                  refine inb_n ?_
                  refine thn_n ?_
                  refine cw_reg ?_
                  refine el_pv (pv_move he114) (by decide) ?_
                  obtain ⟨x157, hx157, hF⟩ := ob hF
                  refine el_pv (pv_add rfl rfl hx157) (by decide) ?_
                  refine el_pv (pv_assign rfl) (by decide) ?_
                  refine el_nil ?_
                  refine thn_n ?_
                  have hS := hS.keep 1
                  exact ⟨x157, he113, rfl, hS, hF⟩
              · refine ql_off rfl hb137 rfl (by decide) ?_
                refine ql_off rfl hb137 rfl (by decide) ?_
                refine ql_off rfl hb137 rfl (by decide) ?_
                refine ql_off rfl hb137 rfl (by decide) ?_
                refine ql_off rfl hb137 rfl (by decide) ?_
                refine ql_off rfl hb137 rfl (by decide) ?_
                refine ql_off rfl hb137 rfl (by decide) ?_
                refine ql_off rfl hb137 rfl (by decide) ?_
                refine ql_off rfl hb137 rfl (by decide) ?_
                refine ql_off rfl hb137 rfl (by decide) ?_
                refine ql_off rfl hb137 rfl (by decide) ?_
                refine ql_off rfl hb137 rfl (by decide) ?_
                refine ql_off rfl hb137 rfl (by decide) ?_
                refine ql_on rfl (bnot_t hb136) ?_
                refine ql_pv (pv_pick_f rfl hb137 rfl) (by decide) ?_
                refine ql_pv (pv_pick_f rfl (bnot_t hb136) rfl) (by decide) ?_
                refine ql_nil ?_
                intro w158 hx159
                have hS := hS.ext hx159
                refine thn_n ?_
                refine cw_cond_f rfl rfl ?_
                refine cw_skip ?_
                refine inb_n ?_
                refine thn_n ?_
                refine cw_reg ?_
                refine el_pv (pv_move he114) (by decide) ?_
                obtain ⟨x160, hx160, hF⟩ := ob hF
                refine el_pv (pv_add rfl rfl hx160) (by decide) ?_
                refine el_pv (pv_assign rfl) (by decide) ?_
                refine el_nil ?_
                refine thn_n ?_
                have hS := hS.keep 1
                exact ⟨x160, he113, rfl, hS, hF⟩
            · refine ql_off rfl (bnot_f hb136) rfl (by decide) ?_
              refine ql_off rfl (bnot_f hb136) rfl (by decide) ?_
              refine ql_off rfl (bnot_f hb136) rfl (by decide) ?_
              refine ql_offu rfl (by decide) ?_
              refine ql_offu rfl (by decide) ?_
              refine ql_offu rfl (by decide) ?_
              refine ql_offu rfl (by decide) ?_
              refine ql_offu rfl (by decide) ?_
              refine ql_offu rfl (by decide) ?_
              refine ql_offu rfl (by decide) ?_
              refine ql_offu rfl (by decide) ?_
              refine ql_offu rfl (by decide) ?_
              refine ql_offu rfl (by decide) ?_
              refine ql_offu rfl (by decide) ?_
              refine ql_offu rfl (by decide) ?_
              refine ql_offu rfl (by decide) ?_
              refine ql_off rfl (bnot_f hb136) rfl (by decide) ?_
              refine ql_pv (pv_pick_t rfl (bnot_f hb136) rfl) (by decide) ?_
              refine ql_nil ?_
              intro w161 hx162
              have hS := hS.ext hx162
              refine thn_n ?_
              refine cw_cond_t rfl rfl ?_
              refine cw_seq ?_
              refine cw_reg ?_
              refine el_pv (pv_assign rfl) (by decide) ?_
              refine el_nil ?_
              refine thn_n ?_
              refine cw_ret ?_
              refine inb_r ?_
              refine thn_r ?_
              refine thn_r ?_
              refine inb_r ?_
              refine thn_r ?_
              obtain rfl := Option.some.inj hF
              have hF := hK111
              obtain rfl := Option.some.inj hF
              refine fin1 rfl rfl ?_
              exact ⟨rfl, hS.below⟩
        · refine cw_cond_f rfl hb117 ?_
          refine cw_exit ?_
          refine thn_x ?_
          refine thn_x ?_
          obtain rfl := Option.some.inj hF
          have hF := hK111
          refine inb_s ?_
          refine thn_n ?_
          refine cw_seq ?_
          refine cw_reg ?_
          refine el_pv (pv_assign rfl) (by decide) ?_
          refine el_nil ?_
          refine thn_n ?_
          refine cw_ret ?_
          obtain rfl := Option.some.inj hF
          refine fin1 rfl rfl ?_
          exact ⟨rfl, hS.below⟩
  · refine el_off rfl (bnot_f hb108) rfl (by decide) ?_
    refine el_off rfl (bnot_f hb108) rfl (by decide) ?_
    refine el_off rfl (bnot_f hb108) rfl (by decide) ?_
    refine el_off rfl (bnot_f hb108) rfl (by decide) ?_
    refine el_pv (pv_pick_t rfl (bnot_f hb108) rfl) (by decide) ?_
    refine el_nil ?_
    refine thn_n ?_
    refine cw_cond_t rfl rfl ?_
    refine cw_seq ?_
    refine cw_reg ?_
    refine el_pv (pv_assign rfl) (by decide) ?_
    refine el_nil ?_
    refine thn_n ?_
    refine cw_ret ?_
    refine thn_r ?_
    obtain rfl := Option.some.inj hF
    refine fin1 rfl rfl ?_
    exact ⟨rfl, hS.below⟩
theorem spec_SemiringMul_ok {w0 : World} {a0 : Int} {a1 : Int} {a2 : Int}  {N : Nat} {r : Int} (hF : spec_SemiringMul N a0 a1 a2 = some r) :
    Calls Try.prog 37 #[.int .i64 a0, .int .i64 a1, .int .i64 a2] w0 fun e w' => e = .returned (.int .i64 r) ∧ Ext w0 w' := by
  unfold spec_SemiringMul at hF
  refine calls_E Try.func37 rfl rfl (of_decide_eq_true rfl) ?_
  have hS := Sat.start w0
  refine cw_seq ?_
  refine cw_reg ?_
  refine el_pv (pv_assign rfl) (by decide) ?_
  refine el_nil ?_
  refine thn_n ?_
  refine cw_seq ?_
  refine cw_reg ?_
  refine el_pv (pv_move rfl) (by decide) ?_
  obtain ⟨r101, hr101, hF⟩ := ob hF
  refine el_call goes78 (spec_l25Clip_ok hr101) (congrArg List.toArray (mapc rfl rfl)) (by decide) ?_
  rintro _ w102 ⟨rfl, hx103⟩
  refine ⟨_, rfl, ?_⟩
  have hS := hS.ext hx103
  refine el_pv (pv_assign rfl) (by decide) ?_
  refine el_nil ?_
  refine thn_n ?_
  refine cw_seq ?_
  refine cw_reg ?_
  refine el_pv (pv_move rfl) (by decide) ?_
  obtain ⟨r104, hr104, hF⟩ := ob hF
  refine el_call goes78 (spec_l25Clip_ok hr104) (congrArg List.toArray (mapc rfl rfl)) (by decide) ?_
  rintro _ w105 ⟨rfl, hx106⟩
  refine ⟨_, rfl, ?_⟩
  have hS := hS.ext hx106
  refine el_pv (pv_assign rfl) (by decide) ?_
  refine el_nil ?_
  refine thn_n ?_
  refine cw_seq ?_
  refine cw_seq ?_
  refine cw_reg ?_
  refine el_pv (pv_move rfl) (by decide) ?_
  refine el_nil ?_
  refine thn_n ?_
  refine cw_block ?_
  refine cw_seq ?_
  refine cw_seq ?_
  refine cw_reg ?_
  refine el_pv (pv_eql rfl rfl) (by decide) ?_
  refine el_pv (pv_assign rfl) (by decide) ?_
  refine el_nil ?_
  refine thn_n ?_
  rcases oif hF with ⟨hb107, hF⟩ | ⟨hb107, hF⟩
  · refine cw_cond_t rfl hb107 ?_
    refine cw_skip ?_
    refine thn_n ?_
    refine cw_cond_t rfl hb107 ?_
    refine cw_seq ?_
    refine cw_reg ?_
    refine el_pv (pv_move rfl) (by decide) ?_
    refine el_pv (pv_move rfl) (by decide) ?_
    obtain ⟨x108, hx108, hF⟩ := ob hF
    refine el_pv (pv_mul rfl rfl hx108) (by decide) ?_
    obtain ⟨r109, hr109, hF⟩ := ob hF
    refine el_call goes78 (spec_l25Clip_ok hr109) (congrArg List.toArray (mapc rfl rfl)) (by decide) ?_
    rintro _ w110 ⟨rfl, hx111⟩
    refine ⟨_, rfl, ?_⟩
    have hS := hS.ext hx111
    refine el_pv (pv_assign rfl) (by decide) ?_
    refine el_nil ?_
    refine thn_n ?_
    refine cw_ret ?_
    refine inb_r ?_
    refine thn_r ?_
    obtain rfl := Option.some.inj hF
    refine fin1 rfl rfl ?_
    exact ⟨rfl, hS.below⟩
  · refine cw_cond_f rfl hb107 ?_
    refine cw_reg ?_
    refine el_pv (pv_eql rfl rfl) (by decide) ?_
    refine el_pv (pv_assign rfl) (by decide) ?_
    refine el_nil ?_
    refine thn_n ?_
    rcases oif hF with ⟨hb112, hF⟩ | ⟨hb112, hF⟩
    · refine cw_cond_t rfl hb112 ?_
      refine cw_seq ?_
      refine cw_reg ?_
      refine el_pv (pv_move rfl) (by decide) ?_
      refine el_pv (pv_move rfl) (by decide) ?_
      obtain ⟨x113, hx113, hF⟩ := ob hF
      refine el_pv (pv_mul rfl rfl hx113) (by decide) ?_
      obtain ⟨r114, hr114, hF⟩ := ob hF
      refine el_call goes78 (spec_l25Clip_ok hr114) (congrArg List.toArray (mapc rfl rfl)) (by decide) ?_
      rintro _ w115 ⟨rfl, hx116⟩
      refine ⟨_, rfl, ?_⟩
      have hS := hS.ext hx116
      refine el_pv (pv_assign rfl) (by decide) ?_
      refine el_nil ?_
      refine thn_n ?_
      refine cw_ret ?_
      refine inb_r ?_
      refine thn_r ?_
      obtain rfl := Option.some.inj hF
      refine fin1 rfl rfl ?_
      exact ⟨rfl, hS.below⟩
    · refine cw_cond_f rfl hb112 ?_
      refine cw_seq ?_
      refine cw_reg ?_
      refine el_pv (pv_eql rfl rfl) (by decide) ?_
      refine el_pv (pv_assign rfl) (by decide) ?_
      refine el_nil ?_
      refine thn_n ?_
      rcases oif hF with ⟨hb117, hF⟩ | ⟨hb117, hF⟩
      · refine cw_cond_t rfl hb117 ?_
        refine cw_seq ?_
        refine cw_reg ?_
        refine el_pv (pv_move rfl) (by decide) ?_
        refine el_pv (pv_move rfl) (by decide) ?_
        obtain ⟨x118, hx118, hF⟩ := ob hF
        refine el_pv (pv_add rfl rfl hx118) (by decide) ?_
        obtain ⟨r119, hr119, hF⟩ := ob hF
        refine el_call goes78 (spec_l25Clip_ok hr119) (congrArg List.toArray (mapc rfl rfl)) (by decide) ?_
        rintro _ w120 ⟨rfl, hx121⟩
        refine ⟨_, rfl, ?_⟩
        have hS := hS.ext hx121
        refine el_pv (pv_assign rfl) (by decide) ?_
        refine el_nil ?_
        refine thn_n ?_
        refine cw_ret ?_
        refine inb_r ?_
        refine thn_r ?_
        obtain rfl := Option.some.inj hF
        refine fin1 rfl rfl ?_
        exact ⟨rfl, hS.below⟩
      · refine cw_cond_f rfl hb117 ?_
        refine cw_seq ?_
        refine cw_reg ?_
        refine el_pv (pv_eql rfl rfl) (by decide) ?_
        refine el_pv (pv_assign rfl) (by decide) ?_
        refine el_nil ?_
        refine thn_n ?_
        rcases oif hF with ⟨hb122, hF⟩ | ⟨hb122, hF⟩
        · refine cw_cond_t rfl hb122 ?_
          refine cw_seq ?_
          refine cw_reg ?_
          refine el_pv (pv_move rfl) (by decide) ?_
          refine el_pv (pv_min rfl rfl) (by decide) ?_
          refine el_pv (pv_move rfl) (by decide) ?_
          refine el_pv (pv_min rfl rfl) (by decide) ?_
          obtain ⟨x123, hx123, hF⟩ := ob hF
          refine el_pv (pv_mul rfl rfl hx123) (by decide) ?_
          refine el_pv (pv_assign rfl) (by decide) ?_
          refine el_nil ?_
          refine thn_n ?_
          refine cw_ret ?_
          refine inb_r ?_
          refine thn_r ?_
          obtain rfl := Option.some.inj hF
          refine fin1 rfl rfl ?_
          exact ⟨rfl, hS.below⟩
        · refine cw_cond_f rfl hb122 ?_
          refine cw_skip ?_
          refine inb_n ?_
          refine thn_n ?_
          refine cw_seq ?_
          refine cw_reg ?_
          refine el_pv (pv_assign rfl) (by decide) ?_
          refine el_nil ?_
          refine thn_n ?_
          refine cw_ret ?_
          obtain rfl := Option.some.inj hF
          refine fin1 rfl rfl ?_
          exact ⟨rfl, hS.below⟩
theorem spec_SemiringOne_ok {w0 : World} {a0 : Int}  {N : Nat} {r : Int} (hF : spec_SemiringOne N a0 = some r) :
    Calls Try.prog 43 #[.int .i64 a0] w0 fun e w' => e = .returned (.int .i64 r) ∧ Ext w0 w' := by
  unfold spec_SemiringOne at hF
  refine calls_E Try.func43 rfl rfl (of_decide_eq_true rfl) ?_
  have hS := Sat.start w0
  refine cw_seq ?_
  refine cw_reg ?_
  refine el_pv (pv_assign rfl) (by decide) ?_
  refine el_nil ?_
  refine thn_n ?_
  refine cw_seq ?_
  refine cw_seq ?_
  refine cw_reg ?_
  refine el_pv (pv_move rfl) (by decide) ?_
  refine el_pv (pv_eql rfl rfl) (by decide) ?_
  refine el_pv (pv_move rfl) (by decide) ?_
  rcases oif hF with ⟨hb101, hF⟩ | ⟨hb101, hF⟩
  · refine el_off rfl hb101 rfl (by decide) ?_
    refine el_off rfl hb101 rfl (by decide) ?_
    refine el_off rfl hb101 rfl (by decide) ?_
    refine el_pv (pv_pick_t rfl hb101 rfl) (by decide) ?_
    refine el_nil ?_
    refine thn_n ?_
    refine cw_cond_t rfl rfl ?_
    refine cw_seq ?_
    refine cw_reg ?_
    refine el_pv (pv_assign rfl) (by decide) ?_
    refine el_nil ?_
    refine thn_n ?_
    refine cw_ret ?_
    refine thn_r ?_
    obtain rfl := Option.some.inj hF
    refine fin1 rfl rfl ?_
    exact ⟨rfl, hS.below⟩
  · refine el_on rfl hb101 ?_
    refine el_pv (pv_move rfl) (by decide) ?_
    refine el_on rfl hb101 ?_
    obtain ⟨r102, hr102, hF⟩ := ob hF
    refine el_call goes39 (spec_IsValidSemiring_ok hr102) (congrArg List.toArray (mapc rfl rfl)) (by decide) ?_
    rintro _ w103 ⟨rfl, hx104⟩
    refine ⟨_, rfl, ?_⟩
    have hS := hS.ext hx104
    refine el_on rfl hb101 ?_
    refine el_pv (pv_not rfl) (by decide) ?_
    refine el_pv (pv_pick_f rfl hb101 rfl) (by decide) ?_
    refine el_nil ?_
    refine thn_n ?_
    rcases oif hF with ⟨hb105, hF⟩ | ⟨hb105, hF⟩
    · refine cw_cond_f rfl (bnot_t hb105) ?_
      refine cw_skip ?_
      refine thn_n ?_
      refine cw_seq ?_
      refine cw_reg ?_
      refine el_pv (pv_assign rfl) (by decide) ?_
      refine el_nil ?_
      refine thn_n ?_
      refine cw_ret ?_
      obtain rfl := Option.some.inj hF
      refine fin1 rfl rfl ?_
      exact ⟨rfl, hS.below⟩
    · refine cw_cond_t rfl (bnot_f hb105) ?_
      refine cw_seq ?_
      refine cw_reg ?_
      refine el_pv (pv_assign rfl) (by decide) ?_
      refine el_nil ?_
      refine thn_n ?_
      refine cw_ret ?_
      refine thn_r ?_
      obtain rfl := Option.some.inj hF
      refine fin1 rfl rfl ?_
      exact ⟨rfl, hS.below⟩
theorem spec_ValueWeight_ok {w0 : World} {a0 : Int} {a1 : Int} {a2 : Int}  {N : Nat} {r : Int} (hF : spec_ValueWeight N a0 a1 a2 = some r) :
    Calls Try.prog 90 #[.int .i64 a0, .int .i64 a1, .int .i64 a2] w0 fun e w' => e = .returned (.int .i64 r) ∧ Ext w0 w' := by
  unfold spec_ValueWeight at hF
  refine calls_E Try.func90 rfl rfl (of_decide_eq_true rfl) ?_
  have hS := Sat.start w0
  refine cw_seq ?_
  refine cw_reg ?_
  refine el_pv (pv_assign rfl) (by decide) ?_
  refine el_nil ?_
  refine thn_n ?_
  refine cw_seq ?_
  refine cw_seq ?_
  refine cw_reg ?_
  refine el_pv (pv_move rfl) (by decide) ?_
  obtain ⟨r101, hr101, hF⟩ := ob hF
  refine el_call goes39 (spec_IsValidSemiring_ok hr101) (congrArg List.toArray (mapc rfl rfl)) (by decide) ?_
  rintro _ w102 ⟨rfl, hx103⟩
  refine ⟨_, rfl, ?_⟩
  have hS := hS.ext hx103
  refine el_pv (pv_not rfl) (by decide) ?_
  refine el_pv (pv_move rfl) (by decide) ?_
  rcases oif hF with ⟨hb104, hF⟩ | ⟨hb104, hF⟩
  · refine el_on rfl (bnot_t hb104) ?_
    refine el_pv (pv_move rfl) (by decide) ?_
    refine el_on rfl (bnot_t hb104) ?_
    obtain ⟨r105, hr105, hF⟩ := ob hF
    refine el_call goes62 (spec_l1In_ok hr105) (congrArg List.toArray (mapc rfl (mapc rfl (mapc rfl rfl)))) (by decide) ?_
    rintro _ w106 ⟨rfl, hx107⟩
    refine ⟨_, rfl, ?_⟩
    have hS := hS.ext hx107
    refine el_on rfl (bnot_t hb104) ?_
    refine el_pv (pv_not rfl) (by decide) ?_
    refine el_pv (pv_pick_f rfl (bnot_t hb104) rfl) (by decide) ?_
    refine el_pv (pv_move rfl) (by decide) ?_
    rcases oif hF with ⟨hb108, hF⟩ | ⟨hb108, hF⟩
    · refine el_on rfl (bnot_t hb108) ?_
      refine el_pv (pv_move rfl) (by decide) ?_
      refine el_on rfl (bnot_t hb108) ?_
      obtain ⟨r109, hr109, hF⟩ := ob hF
      refine el_call goes62 (spec_l1In_ok hr109) (congrArg List.toArray (mapc rfl (mapc rfl (mapc rfl rfl)))) (by decide) ?_
      rintro _ w110 ⟨rfl, hx111⟩
      refine ⟨_, rfl, ?_⟩
      have hS := hS.ext hx111
      refine el_on rfl (bnot_t hb108) ?_
      refine el_pv (pv_not rfl) (by decide) ?_
      refine el_pv (pv_pick_f rfl (bnot_t hb108) rfl) (by decide) ?_
      refine el_nil ?_
      refine thn_n ?_
      rcases oif hF with ⟨hb112, hF⟩ | ⟨hb112, hF⟩
      · refine cw_cond_f rfl (bnot_t hb112) ?_
        refine cw_skip ?_
        refine thn_n ?_
        refine cw_seq ?_
        refine cw_seq ?_
        refine cw_reg ?_
        refine el_pv (pv_move rfl) (by decide) ?_
        refine el_nil ?_
        refine thn_n ?_
        refine cw_block ?_
        refine cw_seq ?_
        refine cw_reg ?_
        refine el_pv (pv_eql rfl rfl) (by decide) ?_
        refine el_pv (pv_assign rfl) (by decide) ?_
        refine el_nil ?_
        refine thn_n ?_
        rcases oif hF with ⟨hb113, hF⟩ | ⟨hb113, hF⟩
        · refine cw_cond_t rfl hb113 ?_
          refine cw_seq ?_
          refine cw_reg ?_
          refine el_pv (pv_move rfl) (by decide) ?_
          refine el_pv (pv_move rfl) (by decide) ?_
          obtain ⟨x114, hx114, hF⟩ := ob hF
          refine el_pv (pv_add rfl rfl hx114) (by decide) ?_
          obtain ⟨x115, hx115, hF⟩ := ob hF
          refine el_pv (pv_rem rfl rfl hx115) (by decide) ?_
          obtain ⟨x116, hx116, hF⟩ := ob hF
          refine el_pv (pv_add rfl rfl hx116) (by decide) ?_
          refine el_pv (pv_assign rfl) (by decide) ?_
          refine el_nil ?_
          refine thn_n ?_
          refine cw_ret ?_
          refine inb_r ?_
          refine thn_r ?_
          obtain rfl := Option.some.inj hF
          refine fin1 rfl rfl ?_
          exact ⟨rfl, hS.below⟩
        · refine cw_cond_f rfl hb113 ?_
          refine cw_seq ?_
          refine cw_reg ?_
          refine el_pv (pv_eql rfl rfl) (by decide) ?_
          refine el_pv (pv_assign rfl) (by decide) ?_
          refine el_nil ?_
          refine thn_n ?_
          rcases oif hF with ⟨hb117, hF⟩ | ⟨hb117, hF⟩
          · refine cw_cond_t rfl hb117 ?_
            refine cw_seq ?_
            refine cw_reg ?_
            refine el_pv (pv_move rfl) (by decide) ?_
            refine el_pv (pv_move rfl) (by decide) ?_
            obtain ⟨x118, hx118, hF⟩ := ob hF
            refine el_pv (pv_add rfl rfl hx118) (by decide) ?_
            obtain ⟨x119, hx119, hF⟩ := ob hF
            refine el_pv (pv_rem rfl rfl hx119) (by decide) ?_
            refine el_pv (pv_min rfl rfl) (by decide) ?_
            refine el_pv (pv_assign rfl) (by decide) ?_
            refine el_nil ?_
            refine thn_n ?_
            refine cw_ret ?_
            refine inb_r ?_
            refine thn_r ?_
            obtain rfl := Option.some.inj hF
            refine fin1 rfl rfl ?_
            exact ⟨rfl, hS.below⟩
          · refine cw_cond_f rfl hb117 ?_
            refine cw_skip ?_
            refine inb_n ?_
            refine thn_n ?_
            refine cw_seq ?_
            refine cw_reg ?_
            refine el_pv (pv_move rfl) (by decide) ?_
            obtain ⟨x120, hx120, hF⟩ := ob hF
            refine el_pv (pv_mul rfl rfl hx120) (by decide) ?_
            refine el_pv (pv_move rfl) (by decide) ?_
            obtain ⟨x121, hx121, hF⟩ := ob hF
            refine el_pv (pv_add rfl rfl hx121) (by decide) ?_
            obtain ⟨x122, hx122, hF⟩ := ob hF
            refine el_pv (pv_rem rfl rfl hx122) (by decide) ?_
            obtain ⟨x123, hx123, hF⟩ := ob hF
            refine el_pv (pv_add rfl rfl hx123) (by decide) ?_
            refine el_pv (pv_assign rfl) (by decide) ?_
            refine el_nil ?_
            refine thn_n ?_
            refine cw_ret ?_
            obtain rfl := Option.some.inj hF
            refine fin1 rfl rfl ?_
            exact ⟨rfl, hS.below⟩
      · refine cw_cond_t rfl (bnot_f hb112) ?_
        refine cw_seq ?_
        refine cw_reg ?_
        refine el_pv (pv_assign rfl) (by decide) ?_
        refine el_nil ?_
        refine thn_n ?_
        refine cw_ret ?_
        refine thn_r ?_
        obtain rfl := Option.some.inj hF
        refine fin1 rfl rfl ?_
        exact ⟨rfl, hS.below⟩
    · refine el_off rfl (bnot_f hb108) rfl (by decide) ?_
      refine el_off rfl (bnot_f hb108) rfl (by decide) ?_
      refine el_off rfl (bnot_f hb108) rfl (by decide) ?_
      refine el_pv (pv_pick_t rfl (bnot_f hb108) rfl) (by decide) ?_
      refine el_nil ?_
      refine thn_n ?_
      refine cw_cond_t rfl rfl ?_
      refine cw_seq ?_
      refine cw_reg ?_
      refine el_pv (pv_assign rfl) (by decide) ?_
      refine el_nil ?_
      refine thn_n ?_
      refine cw_ret ?_
      refine thn_r ?_
      obtain rfl := Option.some.inj hF
      refine fin1 rfl rfl ?_
      exact ⟨rfl, hS.below⟩
  · refine el_off rfl (bnot_f hb104) rfl (by decide) ?_
    refine el_off rfl (bnot_f hb104) rfl (by decide) ?_
    refine el_off rfl (bnot_f hb104) rfl (by decide) ?_
    refine el_pv (pv_pick_t rfl (bnot_f hb104) rfl) (by decide) ?_
    refine el_pv (pv_move rfl) (by decide) ?_
    refine el_off rfl rfl rfl (by decide) ?_
    refine el_off rfl rfl rfl (by decide) ?_
    refine el_off rfl rfl rfl (by decide) ?_
    refine el_pv (pv_pick_t rfl rfl rfl) (by decide) ?_
    refine el_nil ?_
    refine thn_n ?_
    refine cw_cond_t rfl rfl ?_
    refine cw_seq ?_
    refine cw_reg ?_
    refine el_pv (pv_assign rfl) (by decide) ?_
    refine el_nil ?_
    refine thn_n ?_
    refine cw_ret ?_
    refine thn_r ?_
    obtain rfl := Option.some.inj hF
    refine fin1 rfl rfl ?_
    exact ⟨rfl, hS.below⟩
theorem spec_l25Row_ok {w0 : World} {a0 : Int} {u1 : Value} {a1 : List Int} {u2 : Value} {a2 : List Int} (ha1 : (sliceR intR 3).rd w0 [u1] a1) (ha2 : (sliceR intR 3).rd w0 [u2] a2) {N : Nat} {r : Int} (hF : spec_l25Row N a0 a1 a2 = some r) :
    Calls Try.prog 68 #[.int .i64 a0, u1, u2] w0 fun e w' => e = .returned (.int .i64 r) ∧ Ext w0 w' := by
  unfold spec_l25Row at hF
  refine calls_E Try.func68 rfl rfl (of_decide_eq_true rfl) ?_
  have hS := Sat.start w0
  refine cw_seq ?_
  refine cw_reg ?_
  refine el_pv (pv_assign rfl) (by decide) ?_
  refine el_nil ?_
  refine thn_n ?_
  refine cw_seq ?_
  refine cw_reg ?_
  refine el_pv (pv_move rfl) (by decide) ?_
  obtain ⟨r101, hr101, hF⟩ := ob hF
  refine el_call goes43 (spec_SemiringOne_ok hr101) (congrArg List.toArray (mapc rfl rfl)) (by decide) ?_
  rintro _ w102 ⟨rfl, hx103⟩
  refine ⟨_, rfl, ?_⟩
  have hS := hS.ext hx103
  refine el_pv (pv_assign rfl) (by decide) ?_
  refine el_nil ?_
  refine thn_n ?_
  refine cw_seq ?_
  refine cw_seq ?_
  refine cw_reg ?_
  refine el_pv (pv_assign rfl) (by decide) ?_
  refine el_nil ?_
  refine thn_n ?_
  refine cw_block ?_
  obtain ⟨s104, hL, hK105⟩ := ob hF
  refine cw_loopS (fun k e w => ∃ (x106 : Int), ∃ (x107 : Int), e 0 = .int .i64 a0 ∧ e 1 = u1 ∧ e 2 = u2 ∧ e 7 = .int .i64 x106 ∧ e 8 = .int .i64 x107 ∧ Sat w0 w [] ∧ spec_l25Row_L1 N k a0 a1 a2 x106 x107 = some s104) N ?_ ?_ ?_
  · exact ⟨r101, 0, rfl, rfl, rfl, rfl, rfl, hS, hL⟩
  · rintro e w ⟨_, _, _, _, _, _, _, _, hz⟩; exact nomatch (show none = some _ from hz)
  · rintro k e114 w113 ⟨x106, x107, he108, he109, he110, he111, he112, hS, hF⟩
    refine cw_seq ?_
    refine cw_seq ?_
    refine cw_reg ?_
    refine el_pv (pv_move he112) (by decide) ?_
    refine el_pv (pv_move he110) (by decide) ?_
    refine el_pv (pv_len rfl ha2) (by decide) ?_
    refine el_pv (pv_lss rfl rfl) (by decide) ?_
    refine el_nil ?_
    refine thn_n ?_
    rcases oif hF with ⟨hb115, hF⟩ | ⟨hb115, hF⟩
    · refine cw_cond_t rfl hb115 ?_
      refine cw_skip ?_
      refine thn_n ?_
      refine cw_seq ?_
      refine cw_block ?_
      refine cw_regq (by kernel_rfl) (by kernel_rfl) ?_
      refine ql_pv (pv_move he108) (by decide) ?_
      refine ql_pv (pv_move he111) (by decide) ?_
      refine ql_pv (pv_move he108) (by decide) ?_
      refine ql_pv (pv_move he109) (by decide) ?_
      refine ql_pv (pv_move he112) (by decide) ?_
      obtain ⟨x116, hx116, hF⟩ := ob hF
      refine ql_index (wA := w0) rfl ha1 rfl (by decide) rfl hx116 (by decide) ?_
      intro b117 of118 c119 hr120 hm121
      obtain rfl := hr120
      refine ql_pv (pv_loadc rfl ((cells_up hS.below hm121) 0 _ rfl)) (by decide) ?_
      refine ql_pv (pv_move he110) (by decide) ?_
      refine ql_pv (pv_move he112) (by decide) ?_
      obtain ⟨x122, hx122, hF⟩ := ob hF
      refine ql_index (wA := w0) rfl ha2 rfl (by decide) rfl hx122 (by decide) ?_
      intro b123 of124 c125 hr126 hm127
      obtain rfl := hr126
      refine ql_pv (pv_loadc rfl ((cells_up hS.below hm127) 0 _ rfl)) (by decide) ?_
      obtain ⟨r128, hr128, hF⟩ := ob hF
      refine ql_call (.int .i64 r128) goes90 (fun w' hw' => spec_ValueWeight_ok hr128) (congrArg List.toArray (mapc rfl (mapc rfl (mapc rfl rfl)))) (by decide) ?_
      obtain ⟨r129, hr129, hF⟩ := ob hF
      refine ql_call (.int .i64 r129) goes37 (fun w' hw' => spec_SemiringMul_ok hr129) (congrArg List.toArray (mapc rfl (mapc rfl (mapc rfl rfl)))) (by decide) ?_
      refine ql_pv (pv_assign rfl) (by decide) ?_
      refine ql_nil ?_
      intro w130 hx131
      have hS := hS.ext hx131
      refine inb_n ?_
      refine thn_n ?_
      refine cw_reg ?_
      refine el_pv (pv_move he112) (by decide) ?_
      obtain ⟨x132, hx132, hF⟩ := ob hF
      refine el_pv (pv_add rfl rfl hx132) (by decide) ?_
      refine el_pv (pv_assign rfl) (by decide) ?_
      refine el_nil ?_
      refine thn_n ?_
      have hS := hS.keep 0
      exact ⟨r129, x132, he108, he109, he110, rfl, rfl, hS, hF⟩
    · refine cw_cond_f rfl hb115 ?_
      refine cw_exit ?_
      refine thn_x ?_
      refine thn_x ?_
      obtain rfl := Option.some.inj hF
      have hF := hK105
      refine inb_s ?_
      refine thn_n ?_
      refine cw_seq ?_
      refine cw_reg ?_
      refine el_pv (pv_move he111) (by decide) ?_
      refine el_pv (pv_assign rfl) (by decide) ?_
      refine el_nil ?_
      refine thn_n ?_
      refine cw_ret ?_
      obtain rfl := Option.some.inj hF
      refine fin1 rfl rfl ?_
      exact ⟨rfl, hS.below⟩
theorem spec_AggregateRelation_ok {w0 : World} {a0 : Int} {a1 : Int} {u2 : Value} {a2 : List (List Int)} (ha2 : (sliceR (sliceR intR 3) 22).rd w0 [u2] a2) {N : Nat} {r : Int} (hF : spec_AggregateRelation N a0 a1 a2 = some r) :
    Calls Try.prog 26 #[.int .i64 a0, .agg #[.int .i64 a1, u2]] w0 fun e w' => e = .returned (.int .i64 r) ∧ Ext w0 w' := by
  unfold spec_AggregateRelation at hF
  refine calls_E Try.func26 rfl rfl (of_decide_eq_true rfl) ?_
  have hS := Sat.start w0
  refine cw_seq ?_
  refine cw_reg ?_
  refine el_box [.int .i64 a1, u2] rfl hS (by decide) ?_
  intro w101 b102 hS hx103
  refine el_pv (pv_assign rfl) (by decide) ?_
  refine el_nil ?_
  refine thn_n ?_
  refine cw_seq ?_
  refine cw_reg ?_
  refine el_pv (pv_move rfl) (by decide) ?_
  obtain ⟨r105, hr105, hF⟩ := ob hF
  refine el_call goes42 (spec_SemiringZero_ok hr105) (congrArg List.toArray (mapc rfl rfl)) (by decide) ?_
  rintro _ w106 ⟨rfl, hx107⟩
  refine ⟨_, rfl, ?_⟩
  have hS := hS.ext hx107
  refine el_pv (pv_assign rfl) (by decide) ?_
  refine el_nil ?_
  refine thn_n ?_
  refine cw_seq ?_
  refine cw_seq ?_
  refine cw_reg ?_
  refine el_pv (pv_move rfl) (by decide) ?_
  obtain ⟨r108, hr108, hF⟩ := ob hF
  refine el_call goes39 (spec_IsValidSemiring_ok hr108) (congrArg List.toArray (mapc rfl rfl)) (by decide) ?_
  rintro _ w109 ⟨rfl, hx110⟩
  refine ⟨_, rfl, ?_⟩
  have hS := hS.ext hx110
  refine el_pv (pv_not rfl) (by decide) ?_
  refine el_pv (pv_move rfl) (by decide) ?_
  rcases oif hF with ⟨hb111, hF⟩ | ⟨hb111, hF⟩
  · refine el_on rfl (bnot_t hb111) ?_
    refine el_pv (pv_loada (cs := [.int .i64 a1, u2]) rfl rfl (boxc0 (hS.boxAt 0 rfl))) (by decide) ?_
    refine el_on rfl (bnot_t hb111) ?_
    obtain ⟨r112, hr112, hF⟩ := ob hF
    refine el_call goes67 (spec_IsValidRelation_ok (hS.up ha2) hr112) (congrArg List.toArray (mapc rfl rfl)) (by decide) ?_
    rintro _ w113 ⟨rfl, hx114⟩
    refine ⟨_, rfl, ?_⟩
    have hS := hS.ext hx114
    refine el_on rfl (bnot_t hb111) ?_
    refine el_pv (pv_not rfl) (by decide) ?_
    refine el_pv (pv_pick_f rfl (bnot_t hb111) rfl) (by decide) ?_
    refine el_nil ?_
    refine thn_n ?_
    rcases oif hF with ⟨hb115, hF⟩ | ⟨hb115, hF⟩
    · refine cw_cond_f rfl (bnot_t hb115) ?_
      refine cw_skip ?_
      refine thn_n ?_
      refine cw_seq ?_
      refine cw_reg ?_
      refine el_buildSlice0 intR hS (by decide) ?_
      intro w116 v118 hS hx117
      refine el_pv (pv_assign rfl) (by decide) ?_
      refine el_nil ?_
      refine thn_n ?_
      refine cw_seq ?_
      refine cw_block ?_
      obtain ⟨s120, hL, hK121⟩ := ob hF
      refine cw_loopS (fun k e w => ∃ (v123 : Value), ∃ (x122 : List Int), e 0 = .int .i64 a0 ∧ e 3 = .pointer (some ⟨b102, 0, none⟩) ∧ e 5 = .int .i64 r105 ∧ e 6 = v123 ∧ Sat w0 w [Own (sliceR intR 3) [v123] x122, Box b102 40 [.int .i64 a1, u2]] ∧ spec_AggregateRelation_L1 N k a0 a1 a2 r105 x122 = some s120) N ?_ ?_ ?_
      · exact ⟨v118, [], rfl, rfl, rfl, rfl, hS, hL⟩
      · rintro e w ⟨_, _, _, _, _, _, _, hz⟩; exact nomatch (show none = some _ from hz)
      · rintro k e129 w128 ⟨v123, x122, he124, he125, he126, he127, hS, hF⟩
        refine cw_seq ?_
        refine cw_seq ?_
        refine cw_reg ?_
        refine el_pv (pv_move he127) (by decide) ?_
        refine el_pv (pv_len rfl (hS.rdAt (R := (sliceR intR 3)) 0 rfl)) (by decide) ?_
        refine el_pv (pv_fieldAddr he125) (by decide) ?_
        refine el_pv (pv_loadc rfl ((hS.boxAt 1 rfl) 0 _ rfl)) (by decide) ?_
        refine el_pv (pv_lss rfl rfl) (by decide) ?_
        refine el_nil ?_
        refine thn_n ?_
        rcases oif hF with ⟨hb130, hF⟩ | ⟨hb130, hF⟩
        · refine cw_cond_t rfl hb130 ?_
          refine cw_skip ?_
          refine thn_n ?_
          refine cw_block ?_
          refine cw_reg ?_
          refine el_pv (pv_move he127) (by decide) ?_
          refine el_pv (pv_move he127) (by decide) ?_
          refine el_pv (pv_len rfl (hS.rdAt (R := (sliceR intR 3)) 0 rfl)) (by decide) ?_
          refine el_buildSlice1 [.int .i64 (x122.length : Int)] rfl (by rfl) (by decide) rfl (by decide) hS (by decide) ?_
          intro w131 b133 hS hx132
          obtain ⟨x137, hx137, hF⟩ := ob hF
          have hrow138 := hS.boxRow 0 rfl
          have hS := hS.top 1 rfl
          have hS := hS.int (x122.length : Int)
          have hS := hS.one
          refine el_append rfl (by decide) rfl (by decide) hS rfl rfl rfl (by simp) hrow138 hx137 (by decide) ?_
          intro w135 v136 hS
          refine el_pv (pv_assign rfl) (by decide) ?_
          refine el_nil ?_
          refine inb_n ?_
          refine thn_n ?_
          have hS := hS.top 2 rfl
          have hS := hS.top 1 rfl
          have hS := hS.keep 2
          exact ⟨v136, x137, he124, he125, he126, rfl, hS, hF⟩
        · refine cw_cond_f rfl hb130 ?_
          refine cw_exit ?_
          refine thn_x ?_
          refine thn_x ?_
          obtain rfl := Option.some.inj hF
          have hF := hK121
          refine inb_s ?_
          refine thn_n ?_
          refine cw_seq ?_
          refine cw_seq ?_
          refine cw_reg ?_
          refine el_pv (pv_assign rfl) (by decide) ?_
          refine el_nil ?_
          refine thn_n ?_
          refine cw_block ?_
          obtain ⟨s140, hL, hK141⟩ := ob hF
          refine cw_loopS (fun k e w => ∃ (x142 : Int), ∃ (x143 : Int), e 0 = .int .i64 a0 ∧ e 3 = .pointer (some ⟨b102, 0, none⟩) ∧ e 5 = .int .i64 x142 ∧ e 6 = v123 ∧ e 7 = .int .i64 x143 ∧ Sat w0 w [Own (sliceR intR 3) [v123] x122, Box b102 40 [.int .i64 a1, u2]] ∧ spec_AggregateRelation_L2 N k a0 a1 a2 x142 x122 x143 = some s140) N ?_ ?_ ?_
          · exact ⟨r105, 0, he124, he125, he126, he127, rfl, hS, hL⟩
          · rintro e w ⟨_, _, _, _, _, _, _, _, hz⟩; exact nomatch (show none = some _ from hz)
          · rintro k e150 w149 ⟨x142, x143, he144, he145, he146, he147, he148, hS, hF⟩
            refine cw_seq ?_
            refine cw_seq ?_
            refine cw_reg ?_
            refine el_pv (pv_move he148) (by decide) ?_
            refine el_pv (pv_fieldAddr he145) (by decide) ?_
            refine el_pv (pv_loadc rfl ((hS.boxAt 1 rfl) 1 _ rfl)) (by decide) ?_
            refine el_pv (pv_len rfl ha2) (by decide) ?_
            refine el_pv (pv_lss rfl rfl) (by decide) ?_
            refine el_nil ?_
            refine thn_n ?_
            rcases oif hF with ⟨hb151, hF⟩ | ⟨hb151, hF⟩
            · refine cw_cond_t rfl hb151 ?_
              refine cw_skip ?_
              refine thn_n ?_
              refine cw_seq ?_
              refine cw_block ?_
              refine cw_reg ?_
              refine el_pv (pv_move he144) (by decide) ?_
              refine el_pv (pv_move he146) (by decide) ?_
              refine el_pv (pv_move he144) (by decide) ?_
              refine el_pv (pv_move he147) (by decide) ?_
              refine el_pv (pv_fieldAddr he145) (by decide) ?_
              refine el_pv (pv_loadc rfl ((hS.boxAt 1 rfl) 1 _ rfl)) (by decide) ?_
              refine el_pv (pv_move he148) (by decide) ?_
              obtain ⟨x152, hx152, hF⟩ := ob hF
              refine el_index (wA := w0) rfl ha2 rfl (by decide) rfl hx152 (by decide) ?_
              intro b153 of154 c155 hr156 hm157
              obtain ⟨v158, rfl⟩ := slice_one hr156
              refine el_pv (pv_loadc rfl ((cells_up hS.below hm157) 0 _ rfl)) (by decide) ?_
              obtain ⟨r159, hr159, hF⟩ := ob hF
              refine el_call goes68 (spec_l25Row_ok (hS.rdAt (R := (sliceR intR 3)) 0 rfl) (hS.up hr156) hr159) (congrArg List.toArray (mapc rfl (mapc rfl (mapc rfl rfl)))) (by decide) ?_
              rintro _ w160 ⟨rfl, hx161⟩
              refine ⟨_, rfl, ?_⟩
              have hS := hS.ext hx161
              obtain ⟨r162, hr162, hF⟩ := ob hF
              refine el_call goes36 (spec_SemiringAdd_ok hr162) (congrArg List.toArray (mapc rfl (mapc rfl (mapc rfl rfl)))) (by decide) ?_
              rintro _ w163 ⟨rfl, hx164⟩
              refine ⟨_, rfl, ?_⟩
              have hS := hS.ext hx164
              refine el_pv (pv_assign rfl) (by decide) ?_
              refine el_nil ?_
              refine inb_n ?_
              refine thn_n ?_
              refine cw_reg ?_
              refine el_pv (pv_move he148) (by decide) ?_
              obtain ⟨x165, hx165, hF⟩ := ob hF
              refine el_pv (pv_add rfl rfl hx165) (by decide) ?_
              refine el_pv (pv_assign rfl) (by decide) ?_
              refine el_nil ?_
              refine thn_n ?_
              have hS := hS.top 1 rfl
              have hS := hS.top 1 rfl
              have hS := hS.keep 2
              exact ⟨r162, x165, he144, he145, rfl, he147, rfl, hS, hF⟩
            · refine cw_cond_f rfl hb151 ?_
              refine cw_exit ?_
              refine thn_x ?_
              refine thn_x ?_
              obtain rfl := Option.some.inj hF
              have hF := hK141
              refine inb_s ?_
              refine thn_n ?_
              refine cw_seq ?_
              refine cw_reg ?_
              refine el_pv (pv_move he146) (by decide) ?_
              refine el_pv (pv_assign rfl) (by decide) ?_
              refine el_nil ?_
              refine thn_n ?_
              refine cw_ret ?_
              obtain rfl := Option.some.inj hF
              refine fin1 rfl rfl ?_
              exact ⟨rfl, hS.below⟩
    · refine cw_cond_t rfl (bnot_f hb115) ?_
      refine cw_seq ?_
      refine cw_reg ?_
      refine el_pv (pv_move rfl) (by decide) ?_
      refine el_pv (pv_assign rfl) (by decide) ?_
      refine el_nil ?_
      refine thn_n ?_
      refine cw_ret ?_
      refine thn_r ?_
      obtain rfl := Option.some.inj hF
      refine fin1 rfl rfl ?_
      exact ⟨rfl, hS.below⟩
  · refine el_off rfl (bnot_f hb111) rfl (by decide) ?_
    refine el_off rfl (bnot_f hb111) rfl (by decide) ?_
    refine el_off rfl (bnot_f hb111) rfl (by decide) ?_
    refine el_pv (pv_pick_t rfl (bnot_f hb111) rfl) (by decide) ?_
    refine el_nil ?_
    refine thn_n ?_
    refine cw_cond_t rfl rfl ?_
    refine cw_seq ?_
    refine cw_reg ?_
    refine el_pv (pv_move rfl) (by decide) ?_
    refine el_pv (pv_assign rfl) (by decide) ?_
    refine el_nil ?_
    refine thn_n ?_
    refine cw_ret ?_
    refine thn_r ?_
    obtain rfl := Option.some.inj hF
    refine fin1 rfl rfl ?_
    exact ⟨rfl, hS.below⟩
theorem impl_clip_ok {w0 : World} {a0 : Int}  {N : Nat} {r : Int} (hF : impl_clip N a0 = some r) :
    Calls Try.prog 76 #[.int .i64 a0] w0 fun e w' => e = .returned (.int .i64 r) ∧ Ext w0 w' := by
  unfold impl_clip at hF
  refine calls_E Try.func76 rfl rfl (of_decide_eq_true rfl) ?_
  have hS := Sat.start w0
  refine cw_seq ?_
  refine cw_reg ?_
  refine el_pv (pv_assign rfl) (by decide) ?_
  refine el_nil ?_
  refine thn_n ?_
  refine cw_seq ?_
  refine cw_reg ?_
  refine el_pv (pv_move rfl) (by decide) ?_
  refine el_pv (pv_min rfl rfl) (by decide) ?_
  refine el_pv (pv_max rfl rfl) (by decide) ?_
  refine el_pv (pv_assign rfl) (by decide) ?_
  refine el_nil ?_
  refine thn_n ?_
  refine cw_ret ?_
  obtain rfl := Option.some.inj hF
  refine fin1 rfl rfl ?_
  exact ⟨rfl, hS.below⟩
theorem impl_bit_ok {w0 : World} {a0 : Bool}  {N : Nat} {r : Int} (hF : impl_bit N a0 = some r) :
    Calls Try.prog 77 #[.bool a0] w0 fun e w' => e = .returned (.int .i64 r) ∧ Ext w0 w' := by
  unfold impl_bit at hF
  refine calls_E Try.func77 rfl rfl (of_decide_eq_true rfl) ?_
  have hS := Sat.start w0
  refine cw_seq ?_
  refine cw_reg ?_
  refine el_pv (pv_assign rfl) (by decide) ?_
  refine el_nil ?_
  refine thn_n ?_
  refine cw_seq ?_
  refine cw_seq ?_
  refine cw_reg ?_
  refine el_pv (pv_move rfl) (by decide) ?_
  refine el_nil ?_
  refine thn_n ?_
  rcases oif hF with ⟨hb101, hF⟩ | ⟨hb101, hF⟩
  · refine cw_cond_t rfl hb101 ?_
    refine cw_seq ?_
    refine cw_reg ?_
    refine el_pv (pv_assign rfl) (by decide) ?_
    refine el_nil ?_
    refine thn_n ?_
    refine cw_ret ?_
    refine thn_r ?_
    obtain rfl := Option.some.inj hF
    refine fin1 rfl rfl ?_
    exact ⟨rfl, hS.below⟩
  · refine cw_cond_f rfl hb101 ?_
    refine cw_skip ?_
    refine thn_n ?_
    refine cw_seq ?_
    refine cw_reg ?_
    refine el_pv (pv_assign rfl) (by decide) ?_
    refine el_nil ?_
    refine thn_n ?_
    refine cw_ret ?_
    obtain rfl := Option.some.inj hF
    refine fin1 rfl rfl ?_
    exact ⟨rfl, hS.below⟩
theorem impl_SemiringAdd_ok {w0 : World} {a0 : Int} {a1 : Int} {a2 : Int}  {N : Nat} {r : Int} (hF : impl_SemiringAdd N a0 a1 a2 = some r) :
    Calls Try.prog 34 #[.int .i64 a0, .int .i64 a1, .int .i64 a2] w0 fun e w' => e = .returned (.int .i64 r) ∧ Ext w0 w' := by
  unfold impl_SemiringAdd at hF
  refine calls_E Try.func34 rfl rfl (of_decide_eq_true rfl) ?_
  have hS := Sat.start w0
  refine cw_seq ?_
  refine cw_reg ?_
  refine el_pv (pv_assign rfl) (by decide) ?_
  refine el_nil ?_
  refine thn_n ?_
  refine cw_seq ?_
  refine cw_reg ?_
  refine el_pv (pv_move rfl) (by decide) ?_
  obtain ⟨r101, hr101, hF⟩ := ob hF
  refine el_call goes76 (impl_clip_ok hr101) (congrArg List.toArray (mapc rfl rfl)) (by decide) ?_
  rintro _ w102 ⟨rfl, hx103⟩
  refine ⟨_, rfl, ?_⟩
  have hS := hS.ext hx103
  refine el_pv (pv_move rfl) (by decide) ?_
  obtain ⟨r104, hr104, hF⟩ := ob hF
  refine el_call goes76 (impl_clip_ok hr104) (congrArg List.toArray (mapc rfl rfl)) (by decide) ?_
  rintro _ w105 ⟨rfl, hx106⟩
  refine ⟨_, rfl, ?_⟩
  have hS := hS.ext hx106
  refine el_pv (pv_assign rfl) (by decide) ?_
  refine el_pv (pv_assign rfl) (by decide) ?_
  refine el_nil ?_
  refine thn_n ?_
  refine cw_seq ?_
  refine cw_seq ?_
  refine cw_reg ?_
  refine el_pv (pv_move rfl) (by decide) ?_
  refine el_nil ?_
  refine thn_n ?_
  refine cw_block ?_
  refine cw_seq ?_
  refine cw_reg ?_
  refine el_pv (pv_eql rfl rfl) (by decide) ?_
  refine el_pv (pv_assign rfl) (by decide) ?_
  refine el_nil ?_
  refine thn_n ?_
  rcases oif hF with ⟨hb107, hF⟩ | ⟨hb107, hF⟩
  · refine cw_cond_t rfl hb107 ?_
    refine cw_seq ?_
    refine cw_reg ?_
    refine el_pv (pv_move rfl) (by decide) ?_
    refine el_pv (pv_move rfl) (by decide) ?_
    obtain ⟨x108, hx108, hF⟩ := ob hF
    refine el_pv (pv_add rfl rfl hx108) (by decide) ?_
    obtain ⟨r109, hr109, hF⟩ := ob hF
    refine el_call goes76 (impl_clip_ok hr109) (congrArg List.toArray (mapc rfl rfl)) (by decide) ?_
    rintro _ w110 ⟨rfl, hx111⟩
    refine ⟨_, rfl, ?_⟩
    have hS := hS.ext hx111
    refine el_pv (pv_assign rfl) (by decide) ?_
    refine el_nil ?_
    refine thn_n ?_
    refine cw_ret ?_
    refine inb_r ?_
    refine thn_r ?_
    obtain rfl := Option.some.inj hF
    refine fin1 rfl rfl ?_
    exact ⟨rfl, hS.below⟩
  · refine cw_cond_f rfl hb107 ?_
    refine cw_seq ?_
    refine cw_reg ?_
    refine el_pv (pv_eql rfl rfl) (by decide) ?_
    refine el_pv (pv_assign rfl) (by decide) ?_
    refine el_nil ?_
    refine thn_n ?_
    rcases oif hF with ⟨hb112, hF⟩ | ⟨hb112, hF⟩
    · refine cw_cond_t rfl hb112 ?_
      refine cw_seq ?_
      refine cw_reg ?_
      refine el_pv (pv_move rfl) (by decide) ?_
      refine el_pv (pv_move rfl) (by decide) ?_
      refine el_pv (pv_min rfl rfl) (by decide) ?_
      refine el_pv (pv_assign rfl) (by decide) ?_
      refine el_nil ?_
      refine thn_n ?_
      refine cw_ret ?_
      refine inb_r ?_
      refine thn_r ?_
      obtain rfl := Option.some.inj hF
      refine fin1 rfl rfl ?_
      exact ⟨rfl, hS.below⟩
    · refine cw_cond_f rfl hb112 ?_
      refine cw_seq ?_
      refine cw_reg ?_
      refine el_pv (pv_eql rfl rfl) (by decide) ?_
      refine el_pv (pv_assign rfl) (by decide) ?_
      refine el_nil ?_
      refine thn_n ?_
      rcases oif hF with ⟨hb113, hF⟩ | ⟨hb113, hF⟩
      · refine cw_cond_t rfl hb113 ?_
        refine cw_seq ?_
        refine cw_reg ?_
        refine el_pv (pv_move rfl) (by decide) ?_
        refine el_pv (pv_gtr rfl rfl) (by decide) ?_
        refine el_pv (pv_move rfl) (by decide) ?_
        rcases oif hF with ⟨hb114, hF⟩ | ⟨hb114, hF⟩
        · refine el_off rfl hb114 rfl (by decide) ?_
          refine el_off rfl hb114 rfl (by decide) ?_
          refine el_pv (pv_pick_t rfl hb114 rfl) (by decide) ?_
          obtain ⟨r115, hr115, hF⟩ := ob hF
          refine el_call goes77 (impl_bit_ok hr115) (congrArg List.toArray (mapc rfl rfl)) (by decide) ?_
          rintro _ w116 ⟨rfl, hx117⟩
          refine ⟨_, rfl, ?_⟩
          have hS := hS.ext hx117
          refine el_pv (pv_assign rfl) (by decide) ?_
          refine el_nil ?_
          refine thn_n ?_
          refine cw_ret ?_
          refine inb_r ?_
          refine thn_r ?_
          obtain rfl := Option.some.inj hF
          refine fin1 rfl rfl ?_
          exact ⟨rfl, hS.below⟩
        · refine el_on rfl hb114 ?_
          refine el_pv (pv_move rfl) (by decide) ?_
          refine el_on rfl hb114 ?_
          refine el_pv (pv_gtr rfl rfl) (by decide) ?_
          refine el_pv (pv_pick_f rfl hb114 rfl) (by decide) ?_
          obtain ⟨r118, hr118, hF⟩ := ob hF
          refine el_call goes77 (impl_bit_ok hr118) (congrArg List.toArray (mapc rfl rfl)) (by decide) ?_
          rintro _ w119 ⟨rfl, hx120⟩
          refine ⟨_, rfl, ?_⟩
          have hS := hS.ext hx120
          refine el_pv (pv_assign rfl) (by decide) ?_
          refine el_nil ?_
          refine thn_n ?_
          refine cw_ret ?_
          refine inb_r ?_
          refine thn_r ?_
          obtain rfl := Option.some.inj hF
          refine fin1 rfl rfl ?_
          exact ⟨rfl, hS.below⟩
      · refine cw_cond_f rfl hb113 ?_
        refine cw_seq ?_
        refine cw_reg ?_
        refine el_pv (pv_eql rfl rfl) (by decide) ?_
        refine el_pv (pv_assign rfl) (by decide) ?_
        refine el_nil ?_
        refine thn_n ?_
        rcases oif hF with ⟨hb121, hF⟩ | ⟨hb121, hF⟩
        · refine cw_cond_t rfl hb121 ?_
          refine cw_seq ?_
          refine cw_reg ?_
          refine el_pv (pv_move rfl) (by decide) ?_
          refine el_pv (pv_move rfl) (by decide) ?_
          refine el_pv (pv_max rfl rfl) (by decide) ?_
          refine el_pv (pv_assign rfl) (by decide) ?_
          refine el_nil ?_
          refine thn_n ?_
          refine cw_ret ?_
          refine inb_r ?_
          refine thn_r ?_
          obtain rfl := Option.some.inj hF
          refine fin1 rfl rfl ?_
          exact ⟨rfl, hS.below⟩
        · refine cw_cond_f rfl hb121 ?_
          refine cw_skip ?_
          refine inb_n ?_
          refine thn_n ?_
          refine cw_seq ?_
          refine cw_reg ?_
          refine el_pv (pv_assign rfl) (by decide) ?_
          refine el_nil ?_
          refine thn_n ?_
          refine cw_ret ?_
          obtain rfl := Option.some.inj hF
          refine fin1 rfl rfl ?_
          exact ⟨rfl, hS.below⟩
end Go.Proofs.Ytobjjdfgnaanjaa
