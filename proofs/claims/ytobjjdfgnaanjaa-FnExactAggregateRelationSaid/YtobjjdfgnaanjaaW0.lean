/- The walks through functions of the program: each hands back what it comes to. No condition but that it comes to something. -/
import Derived.Test.YtobjjdfgnaanjaaGoes
import Derived.Test.YtobjjdfgnaanjaaW0D
namespace Go.Proofs.Ytobjjdfgnaanjaa
open Go.RowKit
set_option maxRecDepth 100000
theorem laws_szIntS_ok {w0 : World} {u0 : Value} {a0 : List Int} {a1 : Int} (ha0 : (sliceR intR 3).rd w0 [u0] a0) {N : Nat} {r : Int} (hF : laws_szIntS N a0 a1 = some r) :
    Calls Try.prog 44 #[u0, .int .i64 a1] w0 fun e w' => e = .returned (.int .i64 r) ∧ Ext w0 w' := by
  unfold laws_szIntS at hF
  refine calls_E Try.func44 rfl rfl (of_decide_eq_true rfl) ?_
  have hS := Sat.start w0
  refine cw_seq ?_
  refine cw_reg ?_
  refine el_pv (pv_assign rfl) (by decide) ?_
  refine el_nil ?_
  refine thn_n ?_
  refine cw_seq ?_
  refine cw_reg ?_
  refine el_pv (pv_move rfl) (by decide) ?_
  refine el_pv (pv_move rfl) (by decide) ?_
  refine el_pv (pv_len rfl ha0) (by decide) ?_
  obtain ⟨x101, hx101, hF⟩ := ob hF
  refine el_pv (pv_sub rfl rfl hx101) (by decide) ?_
  refine el_pv (pv_assign rfl) (by decide) ?_
  refine el_nil ?_
  refine thn_n ?_
  refine cw_seq ?_
  refine cw_seq ?_
  refine cw_reg ?_
  refine el_pv (pv_move rfl) (by decide) ?_
  refine el_pv (pv_lss rfl rfl) (by decide) ?_
  refine el_nil ?_
  refine thn_n ?_
  rcases oif hF with ⟨hb102, hF⟩ | ⟨hb102, hF⟩
  · refine cw_cond_t rfl hb102 ?_
    refine cw_seq ?_
    refine cw_reg ?_
    refine el_pv (pv_assign rfl) (by decide) ?_
    refine el_nil ?_
    refine thn_n ?_
    refine cw_ret ?_
    refine thn_r ?_
    obtain rfl := Option.some.inj hF
    refine fin1 rfl rfl ?_
    exact ⟨rfl, hS.below⟩
  · refine cw_cond_f rfl hb102 ?_
    refine cw_skip ?_
    refine thn_n ?_
    refine cw_seq ?_
    refine cw_reg ?_
    refine el_pv (pv_move rfl) (by decide) ?_
    refine el_pv (pv_assign rfl) (by decide) ?_
    refine el_nil ?_
    refine thn_n ?_
    refine cw_ret ?_
    obtain rfl := Option.some.inj hF
    refine fin1 rfl rfl ?_
    exact ⟨rfl, hS.below⟩
theorem laws_szFactorNode_ok {w0 : World} {u0 : Value} {a0 : List Int} {u1 : Value} {a1 : List Int} {a2 : Int} (ha0 : (sliceR intR 3).rd w0 [u0] a0) (ha1 : (sliceR intR 3).rd w0 [u1] a1) {N : Nat} {r : Int} (hF : laws_szFactorNode N a0 a1 a2 = some r) :
    Calls Try.prog 79 #[.agg #[u0, u1], .int .i64 a2] w0 fun e w' => e = .returned (.int .i64 r) ∧ Ext w0 w' := by
  unfold laws_szFactorNode at hF
  refine calls_E Try.func79 rfl rfl (of_decide_eq_true rfl) ?_
  have hS := Sat.start w0
  refine cw_seq ?_
  refine cw_reg ?_
  refine el_box [u0, u1] rfl hS (by decide) ?_
  intro w101 b102 hS hx103
  refine el_pv (pv_assign rfl) (by decide) ?_
  refine el_nil ?_
  refine thn_n ?_
  refine cw_seq ?_
  refine cw_reg ?_
  refine el_pv (pv_fieldAddr rfl) (by decide) ?_
  refine el_pv (pv_loadc rfl ((hS.boxAt 0 rfl) 0 _ rfl)) (by decide) ?_
  refine el_pv (pv_move rfl) (by decide) ?_
  obtain ⟨r105, hr105, hF⟩ := ob hF
  refine el_call goes44 (laws_szIntS_ok (hS.up ha0) hr105) (congrArg List.toArray (mapc rfl (mapc rfl rfl))) (by decide) ?_
  rintro _ w106 ⟨rfl, hx107⟩
  refine ⟨_, rfl, ?_⟩
  have hS := hS.ext hx107
  refine el_pv (pv_assign rfl) (by decide) ?_
  refine el_nil ?_
  refine thn_n ?_
  refine cw_seq ?_
  refine cw_seq ?_
  refine cw_reg ?_
  refine el_pv (pv_move rfl) (by decide) ?_
  refine el_pv (pv_lss rfl rfl) (by decide) ?_
  refine el_nil ?_
  refine thn_n ?_
  rcases oif hF with ⟨hb108, hF⟩ | ⟨hb108, hF⟩
  · refine cw_cond_t rfl hb108 ?_
    refine cw_seq ?_
    refine cw_reg ?_
    refine el_pv (pv_assign rfl) (by decide) ?_
    refine el_nil ?_
    refine thn_n ?_
    refine cw_ret ?_
    refine thn_r ?_
    obtain rfl := Option.some.inj hF
    refine fin1 rfl rfl ?_
    exact ⟨rfl, hS.below⟩
  · refine cw_cond_f rfl hb108 ?_
    refine cw_skip ?_
    refine thn_n ?_
    refine cw_seq ?_
    refine cw_reg ?_
    refine el_pv (pv_fieldAddr rfl) (by decide) ?_
    refine el_pv (pv_loadc rfl ((hS.boxAt 0 rfl) 1 _ rfl)) (by decide) ?_
    refine el_pv (pv_move rfl) (by decide) ?_
    obtain ⟨r109, hr109, hF⟩ := ob hF
    refine el_call goes44 (laws_szIntS_ok (hS.up ha1) hr109) (congrArg List.toArray (mapc rfl (mapc rfl rfl))) (by decide) ?_
    rintro _ w110 ⟨rfl, hx111⟩
    refine ⟨_, rfl, ?_⟩
    have hS := hS.ext hx111
    refine el_pv (pv_assign rfl) (by decide) ?_
    refine el_nil ?_
    refine thn_n ?_
    refine cw_seq ?_
    refine cw_seq ?_
    refine cw_reg ?_
    refine el_pv (pv_move rfl) (by decide) ?_
    refine el_pv (pv_lss rfl rfl) (by decide) ?_
    refine el_nil ?_
    refine thn_n ?_
    rcases oif hF with ⟨hb112, hF⟩ | ⟨hb112, hF⟩
    · refine cw_cond_t rfl hb112 ?_
      refine cw_seq ?_
      refine cw_reg ?_
      refine el_pv (pv_assign rfl) (by decide) ?_
      refine el_nil ?_
      refine thn_n ?_
      refine cw_ret ?_
      refine thn_r ?_
      obtain rfl := Option.some.inj hF
      refine fin1 rfl rfl ?_
      exact ⟨rfl, hS.below⟩
    · refine cw_cond_f rfl hb112 ?_
      refine cw_skip ?_
      refine thn_n ?_
      refine cw_seq ?_
      refine cw_reg ?_
      refine el_pv (pv_move rfl) (by decide) ?_
      refine el_pv (pv_assign rfl) (by decide) ?_
      refine el_nil ?_
      refine thn_n ?_
      refine cw_ret ?_
      obtain rfl := Option.some.inj hF
      refine fin1 rfl rfl ?_
      exact ⟨rfl, hS.below⟩
theorem laws_szFactorNodeS_ok {w0 : World} {u0 : Value} {a0 : List (List Int × List Int)} {a1 : Int} (ha0 : (sliceR (pairR (sliceR intR 3) (sliceR intR 3)) 89).rd w0 [u0] a0) {N : Nat} {r : Int} (hF : laws_szFactorNodeS N a0 a1 = some r) :
    Calls Try.prog 45 #[u0, .int .i64 a1] w0 fun e w' => e = .returned (.int .i64 r) ∧ Ext w0 w' := by
  unfold laws_szFactorNodeS at hF
  refine calls_E Try.func45 rfl rfl (of_decide_eq_true rfl) ?_
  have hS := Sat.start w0
  refine cw_seq ?_
  refine cw_reg ?_
  refine el_pv (pv_assign rfl) (by decide) ?_
  refine el_nil ?_
  refine thn_n ?_
  refine cw_seq ?_
  refine cw_reg ?_
  refine el_pv (pv_move rfl) (by decide) ?_
  refine el_pv (pv_move rfl) (by decide) ?_
  refine el_pv (pv_len rfl ha0) (by decide) ?_
  obtain ⟨x101, hx101, hF⟩ := ob hF
  refine el_pv (pv_sub rfl rfl hx101) (by decide) ?_
  refine el_pv (pv_assign rfl) (by decide) ?_
  refine el_nil ?_
  refine thn_n ?_
  refine cw_seq ?_
  refine cw_seq ?_
  refine cw_reg ?_
  refine el_pv (pv_move rfl) (by decide) ?_
  refine el_pv (pv_lss rfl rfl) (by decide) ?_
  refine el_nil ?_
  refine thn_n ?_
  rcases oif hF with ⟨hb102, hF⟩ | ⟨hb102, hF⟩
  · refine cw_cond_t rfl hb102 ?_
    refine cw_seq ?_
    refine cw_reg ?_
    refine el_pv (pv_assign rfl) (by decide) ?_
    refine el_nil ?_
    refine thn_n ?_
    refine cw_ret ?_
    refine thn_r ?_
    obtain rfl := Option.some.inj hF
    refine fin1 rfl rfl ?_
    exact ⟨rfl, hS.below⟩
  · refine cw_cond_f rfl hb102 ?_
    refine cw_skip ?_
    refine thn_n ?_
    refine cw_seq ?_
    refine cw_seq ?_
    refine cw_reg ?_
    refine el_pv (pv_assign rfl) (by decide) ?_
    refine el_nil ?_
    refine thn_n ?_
    refine cw_block ?_
    obtain ⟨s103, hL, hK104⟩ := ob hF
    refine cw_loopS (fun k e w => ∃ (x105 : Int), ∃ (x106 : Int), e 0 = u0 ∧ e 1 = .int .i64 x105 ∧ e 5 = .int .i64 x106 ∧ Sat w0 w [] ∧ laws_szFactorNodeS_L1 N k a0 x105 x106 = some s103) N ?_ ?_ ?_
    · exact ⟨x101, 0, rfl, rfl, rfl, hS, hL⟩
    · rintro e w ⟨_, _, _, _, _, _, hz⟩; exact nomatch (show none = some _ from hz)
    · rintro k e111 w110 ⟨x105, x106, he107, he108, he109, hS, hF⟩
      refine cw_seq ?_
      refine cw_seq ?_
      refine cw_reg ?_
      refine el_pv (pv_move he109) (by decide) ?_
      refine el_pv (pv_move he107) (by decide) ?_
      refine el_pv (pv_len rfl ha0) (by decide) ?_
      refine el_pv (pv_lss rfl rfl) (by decide) ?_
      refine el_nil ?_
      refine thn_n ?_
      rcases oif hF with ⟨hb112, hF⟩ | ⟨hb112, hF⟩
      · refine cw_cond_t rfl hb112 ?_
        refine cw_skip ?_
        refine thn_n ?_
        refine cw_seq ?_
        refine cw_block ?_
        refine cw_seq ?_
        refine cw_reg ?_
        refine el_pv (pv_move he107) (by decide) ?_
        refine el_pv (pv_move he109) (by decide) ?_
        obtain ⟨x113, hx113, hF⟩ := ob hF
        refine el_index (wA := w0) rfl ha0 rfl (by decide) rfl hx113 (by decide) ?_
        intro b114 of115 c116 hr117 hm118
        obtain ⟨_, _, rfl, hr119, hr120⟩ := hr117
        obtain ⟨v121, rfl⟩ := slice_one hr119
        obtain ⟨v122, rfl⟩ := slice_one hr120
        refine el_pv (pv_loada (cs := [v121, v122]) rfl rfl (cells_up hS.below hm118)) (by decide) ?_
        refine el_pv (pv_move he108) (by decide) ?_
        obtain ⟨r123, hr123, hF⟩ := ob hF
        refine el_call goes79 (laws_szFactorNode_ok (hS.up hr119) (hS.up hr120) hr123) (congrArg List.toArray (mapc rfl (mapc rfl rfl))) (by decide) ?_
        rintro _ w124 ⟨rfl, hx125⟩
        refine ⟨_, rfl, ?_⟩
        have hS := hS.ext hx125
        refine el_pv (pv_assign rfl) (by decide) ?_
        refine el_nil ?_
        refine thn_n ?_
        refine cw_seq ?_
        refine cw_reg ?_
        refine el_pv (pv_move rfl) (by decide) ?_
        refine el_pv (pv_lss rfl rfl) (by decide) ?_
        refine el_nil ?_
        refine thn_n ?_
        rcases oif hF with ⟨hb126, hF⟩ | ⟨hb126, hF⟩
        · refine cw_cond_t rfl hb126 ?_
          refine cw_seq ?_
          refine cw_reg ?_
          refine el_pv (pv_assign rfl) (by decide) ?_
          refine el_nil ?_
          refine thn_n ?_
          refine cw_ret ?_
          refine inb_r ?_
          refine thn_r ?_
          refine thn_r ?_
          refine inb_r ?_
          refine thn_r ?_
          obtain rfl := Option.some.inj hF
          have hF := hK104
          obtain rfl := Option.some.inj hF
          refine fin1 rfl rfl ?_
          exact ⟨rfl, hS.below⟩
        · refine cw_cond_f rfl hb126 ?_
          refine cw_skip ?_
          refine inb_n ?_
          refine thn_n ?_
          refine cw_reg ?_
          refine el_pv (pv_move he109) (by decide) ?_
          obtain ⟨x127, hx127, hF⟩ := ob hF
          refine el_pv (pv_add rfl rfl hx127) (by decide) ?_
          refine el_pv (pv_assign rfl) (by decide) ?_
          refine el_nil ?_
          refine thn_n ?_
          have hS := hS.keep 0
          exact ⟨r123, x127, he107, rfl, rfl, hS, hF⟩
      · refine cw_cond_f rfl hb112 ?_
        refine cw_exit ?_
        refine thn_x ?_
        refine thn_x ?_
        obtain rfl := Option.some.inj hF
        have hF := hK104
        refine inb_s ?_
        refine thn_n ?_
        refine cw_seq ?_
        refine cw_reg ?_
        refine el_pv (pv_move he108) (by decide) ?_
        refine el_pv (pv_assign rfl) (by decide) ?_
        refine el_nil ?_
        refine thn_n ?_
        refine cw_ret ?_
        obtain rfl := Option.some.inj hF
        refine fin1 rfl rfl ?_
        exact ⟨rfl, hS.below⟩
theorem laws_szFactorization_ok {w0 : World} {u0 : Value} {a0 : List Int} {u1 : Value} {a1 : List (List Int × List Int)} {a2 : Int} (ha0 : (sliceR intR 3).rd w0 [u0] a0) (ha1 : (sliceR (pairR (sliceR intR 3) (sliceR intR 3)) 89).rd w0 [u1] a1) {N : Nat} {r : Int} (hF : laws_szFactorization N a0 a1 a2 = some r) :
    Calls Try.prog 9 #[.agg #[u0, u1], .int .i64 a2] w0 fun e w' => e = .returned (.int .i64 r) ∧ Ext w0 w' := by
  unfold laws_szFactorization at hF
  refine calls_E Try.func9 rfl rfl (of_decide_eq_true rfl) ?_
  have hS := Sat.start w0
  refine cw_seq ?_
  refine cw_reg ?_
  refine el_box [u0, u1] rfl hS (by decide) ?_
  intro w101 b102 hS hx103
  refine el_pv (pv_assign rfl) (by decide) ?_
  refine el_nil ?_
  refine thn_n ?_
  refine cw_seq ?_
  refine cw_reg ?_
  refine el_pv (pv_fieldAddr rfl) (by decide) ?_
  refine el_pv (pv_loadc rfl ((hS.boxAt 0 rfl) 0 _ rfl)) (by decide) ?_
  refine el_pv (pv_move rfl) (by decide) ?_
  obtain ⟨r105, hr105, hF⟩ := ob hF
  refine el_call goes44 (laws_szIntS_ok (hS.up ha0) hr105) (congrArg List.toArray (mapc rfl (mapc rfl rfl))) (by decide) ?_
  rintro _ w106 ⟨rfl, hx107⟩
  refine ⟨_, rfl, ?_⟩
  have hS := hS.ext hx107
  refine el_pv (pv_assign rfl) (by decide) ?_
  refine el_nil ?_
  refine thn_n ?_
  refine cw_seq ?_
  refine cw_seq ?_
  refine cw_reg ?_
  refine el_pv (pv_move rfl) (by decide) ?_
  refine el_pv (pv_lss rfl rfl) (by decide) ?_
  refine el_nil ?_
  refine thn_n ?_
  rcases oif hF with ⟨hb108, hF⟩ | ⟨hb108, hF⟩
  · refine cw_cond_t rfl hb108 ?_
    refine cw_seq ?_
    refine cw_reg ?_
    refine el_pv (pv_assign rfl) (by decide) ?_
    refine el_nil ?_
    refine thn_n ?_
    refine cw_ret ?_
    refine thn_r ?_
    obtain rfl := Option.some.inj hF
    refine fin1 rfl rfl ?_
    exact ⟨rfl, hS.below⟩
  · refine cw_cond_f rfl hb108 ?_
    refine cw_skip ?_
    refine thn_n ?_
    refine cw_seq ?_
    refine cw_reg ?_
    refine el_pv (pv_fieldAddr rfl) (by decide) ?_
    refine el_pv (pv_loadc rfl ((hS.boxAt 0 rfl) 1 _ rfl)) (by decide) ?_
    refine el_pv (pv_move rfl) (by decide) ?_
    obtain ⟨r109, hr109, hF⟩ := ob hF
    refine el_call goes45 (laws_szFactorNodeS_ok (hS.up ha1) hr109) (congrArg List.toArray (mapc rfl (mapc rfl rfl))) (by decide) ?_
    rintro _ w110 ⟨rfl, hx111⟩
    refine ⟨_, rfl, ?_⟩
    have hS := hS.ext hx111
    refine el_pv (pv_assign rfl) (by decide) ?_
    refine el_nil ?_
    refine thn_n ?_
    refine cw_seq ?_
    refine cw_seq ?_
    refine cw_reg ?_
    refine el_pv (pv_move rfl) (by decide) ?_
    refine el_pv (pv_lss rfl rfl) (by decide) ?_
    refine el_nil ?_
    refine thn_n ?_
    rcases oif hF with ⟨hb112, hF⟩ | ⟨hb112, hF⟩
    · refine cw_cond_t rfl hb112 ?_
      refine cw_seq ?_
      refine cw_reg ?_
      refine el_pv (pv_assign rfl) (by decide) ?_
      refine el_nil ?_
      refine thn_n ?_
      refine cw_ret ?_
      refine thn_r ?_
      obtain rfl := Option.some.inj hF
      refine fin1 rfl rfl ?_
      exact ⟨rfl, hS.below⟩
    · refine cw_cond_f rfl hb112 ?_
      refine cw_skip ?_
      refine thn_n ?_
      refine cw_seq ?_
      refine cw_reg ?_
      refine el_pv (pv_move rfl) (by decide) ?_
      refine el_pv (pv_assign rfl) (by decide) ?_
      refine el_nil ?_
      refine thn_n ?_
      refine cw_ret ?_
      obtain rfl := Option.some.inj hF
      refine fin1 rfl rfl ?_
      exact ⟨rfl, hS.below⟩
theorem spec_CompareRows_ok {w0 : World} {u0 : Value} {a0 : List Int} {u1 : Value} {a1 : List Int} (ha0 : (sliceR intR 3).rd w0 [u0] a0) (ha1 : (sliceR intR 3).rd w0 [u1] a1) {N : Nat} {r : Int} (hF : spec_CompareRows N a0 a1 = some r) :
    Calls Try.prog 46 #[u0, u1] w0 fun e w' => e = .returned (.int .i64 r) ∧ Ext w0 w' := by
  unfold spec_CompareRows at hF
  refine calls_E Try.func46 rfl rfl (of_decide_eq_true rfl) ?_
  have hS := Sat.start w0
  refine cw_seq ?_
  refine cw_reg ?_
  refine el_pv (pv_assign rfl) (by decide) ?_
  refine el_nil ?_
  refine thn_n ?_
  refine cw_seq ?_
  refine cw_seq ?_
  refine cw_reg ?_
  refine el_pv (pv_assign rfl) (by decide) ?_
  refine el_nil ?_
  refine thn_n ?_
  refine cw_block ?_
  obtain ⟨s101, hL, hK102⟩ := ob hF
  refine cw_loopS (fun k e w => ∃ (x103 : Int), e 0 = u0 ∧ e 1 = u1 ∧ e 5 = .int .i64 x103 ∧ Sat w0 w [] ∧ spec_CompareRows_L1 N k a0 a1 x103 = some s101) N ?_ ?_ ?_
  · exact ⟨0, rfl, rfl, rfl, hS, hL⟩
  · rintro e w ⟨_, _, _, _, _, hz⟩; exact nomatch (show none = some _ from hz)
  · rintro k e108 w107 ⟨x103, he104, he105, he106, hS, hF⟩
    refine cw_seq ?_
    refine cw_seq ?_
    refine cw_reg ?_
    refine el_pv (pv_move he106) (by decide) ?_
    refine el_pv (pv_move he104) (by decide) ?_
    refine el_pv (pv_len rfl ha0) (by decide) ?_
    refine el_pv (pv_lss rfl rfl) (by decide) ?_
    refine el_pv (pv_move rfl) (by decide) ?_
    rcases oif hF with ⟨hb109, hF⟩ | ⟨hb109, hF⟩
    · refine el_on rfl hb109 ?_
      refine el_pv (pv_move he106) (by decide) ?_
      refine el_on rfl hb109 ?_
      refine el_pv (pv_move he105) (by decide) ?_
      refine el_on rfl hb109 ?_
      refine el_pv (pv_len rfl ha1) (by decide) ?_
      refine el_on rfl hb109 ?_
      refine el_pv (pv_lss rfl rfl) (by decide) ?_
      refine el_pv (pv_pick_t rfl hb109 rfl) (by decide) ?_
      refine el_nil ?_
      refine thn_n ?_
      rcases oif hF with ⟨hb110, hF⟩ | ⟨hb110, hF⟩
      · refine cw_cond_t rfl hb110 ?_
        refine cw_skip ?_
        refine thn_n ?_
        refine cw_seq ?_
        refine cw_block ?_
        refine cw_seq ?_
        refine cw_seq ?_
        refine cw_regq (by kernel_rfl) (by kernel_rfl) ?_
        refine ql_pv (pv_move he104) (by decide) ?_
        refine ql_pv (pv_move he106) (by decide) ?_
        obtain ⟨x111, hx111, hF⟩ := ob hF
        refine ql_index (wA := w0) rfl ha0 rfl (by decide) rfl hx111 (by decide) ?_
        intro b112 of113 c114 hr115 hm116
        obtain rfl := hr115
        refine ql_pv (pv_loadc rfl ((cells_up hS.below hm116) 0 _ rfl)) (by decide) ?_
        refine ql_pv (pv_move he105) (by decide) ?_
        refine ql_pv (pv_move he106) (by decide) ?_
        obtain ⟨x117, hx117, hF⟩ := ob hF
        refine ql_index (wA := w0) rfl ha1 rfl (by decide) rfl hx117 (by decide) ?_
        intro b118 of119 c120 hr121 hm122
        obtain rfl := hr121
        refine ql_pv (pv_loadc rfl ((cells_up hS.below hm122) 0 _ rfl)) (by decide) ?_
        refine ql_pv (pv_lss rfl rfl) (by decide) ?_
        refine ql_nil ?_
        intro w123 hx124
        have hS := hS.ext hx124
        refine thn_n ?_
        rcases oif hF with ⟨hb125, hF⟩ | ⟨hb125, hF⟩
        · refine cw_cond_t rfl hb125 ?_
          refine cw_seq ?_
          refine cw_reg ?_
          refine el_pv (pv_assign rfl) (by decide) ?_
          refine el_nil ?_
          refine thn_n ?_
          refine cw_ret ?_
          refine thn_r ?_
          refine inb_r ?_
          refine thn_r ?_
          refine thn_r ?_
          refine inb_r ?_
          refine thn_r ?_
          obtain rfl := Option.some.inj hF
          have hF := hK102
          obtain rfl := Option.some.inj hF
          refine fin1 rfl rfl ?_
          exact ⟨rfl, hS.below⟩
        · refine cw_cond_f rfl hb125 ?_
          refine cw_skip ?_
          refine thn_n ?_
          refine cw_seq ?_
          refine cw_regq (by kernel_rfl) (by kernel_rfl) ?_
          refine ql_pv (pv_move he104) (by decide) ?_
          refine ql_pv (pv_move he106) (by decide) ?_
          obtain ⟨x126, hx126, hF⟩ := ob hF
          refine ql_index (wA := w0) rfl ha0 rfl (by decide) rfl hx126 (by decide) ?_
          intro b127 of128 c129 hr130 hm131
          obtain rfl := hr130
          refine ql_pv (pv_loadc rfl ((cells_up hS.below hm131) 0 _ rfl)) (by decide) ?_
          refine ql_pv (pv_move he105) (by decide) ?_
          refine ql_pv (pv_move he106) (by decide) ?_
          obtain ⟨x132, hx132, hF⟩ := ob hF
          refine ql_index (wA := w0) rfl ha1 rfl (by decide) rfl hx132 (by decide) ?_
          intro b133 of134 c135 hr136 hm137
          obtain rfl := hr136
          refine ql_pv (pv_loadc rfl ((cells_up hS.below hm137) 0 _ rfl)) (by decide) ?_
          refine ql_pv (pv_gtr rfl rfl) (by decide) ?_
          refine ql_nil ?_
          intro w138 hx139
          have hS := hS.ext hx139
          refine thn_n ?_
          rcases oif hF with ⟨hb140, hF⟩ | ⟨hb140, hF⟩
          · refine cw_cond_t rfl hb140 ?_
            refine cw_seq ?_
            refine cw_reg ?_
            refine el_pv (pv_assign rfl) (by decide) ?_
            refine el_nil ?_
            refine thn_n ?_
            refine cw_ret ?_
            refine inb_r ?_
            refine thn_r ?_
            refine thn_r ?_
            refine inb_r ?_
            refine thn_r ?_
            obtain rfl := Option.some.inj hF
            have hF := hK102
            obtain rfl := Option.some.inj hF
            refine fin1 rfl rfl ?_
            exact ⟨rfl, hS.below⟩
          · refine cw_cond_f rfl hb140 ?_
            refine cw_skip ?_
            refine inb_n ?_
            refine thn_n ?_
            refine cw_reg ?_
            refine el_pv (pv_move he106) (by decide) ?_
            obtain ⟨x141, hx141, hF⟩ := ob hF
            refine el_pv (pv_add rfl rfl hx141) (by decide) ?_
            refine el_pv (pv_assign rfl) (by decide) ?_
            refine el_nil ?_
            refine thn_n ?_
            have hS := hS.keep 0
            exact ⟨x141, he104, he105, rfl, hS, hF⟩
      · refine cw_cond_f rfl hb110 ?_
        refine cw_exit ?_
        refine thn_x ?_
        refine thn_x ?_
        obtain rfl := Option.some.inj hF
        have hF := hK102
        refine inb_s ?_
        refine thn_n ?_
        refine cw_seq ?_
        refine cw_seq ?_
        refine cw_reg ?_
        refine el_pv (pv_move he104) (by decide) ?_
        refine el_pv (pv_len rfl ha0) (by decide) ?_
        refine el_pv (pv_move he105) (by decide) ?_
        refine el_pv (pv_len rfl ha1) (by decide) ?_
        refine el_pv (pv_lss rfl rfl) (by decide) ?_
        refine el_nil ?_
        refine thn_n ?_
        rcases oif hF with ⟨hb142, hF⟩ | ⟨hb142, hF⟩
        · refine cw_cond_t rfl hb142 ?_
          refine cw_seq ?_
          refine cw_reg ?_
          refine el_pv (pv_assign rfl) (by decide) ?_
          refine el_nil ?_
          refine thn_n ?_
          refine cw_ret ?_
          refine thn_r ?_
          obtain rfl := Option.some.inj hF
          refine fin1 rfl rfl ?_
          exact ⟨rfl, hS.below⟩
        · refine cw_cond_f rfl hb142 ?_
          refine cw_skip ?_
          refine thn_n ?_
          refine cw_seq ?_
          refine cw_seq ?_
          refine cw_reg ?_
          refine el_pv (pv_move he104) (by decide) ?_
          refine el_pv (pv_len rfl ha0) (by decide) ?_
          refine el_pv (pv_move he105) (by decide) ?_
          refine el_pv (pv_len rfl ha1) (by decide) ?_
          refine el_pv (pv_gtr rfl rfl) (by decide) ?_
          refine el_nil ?_
          refine thn_n ?_
          rcases oif hF with ⟨hb143, hF⟩ | ⟨hb143, hF⟩
          · refine cw_cond_t rfl hb143 ?_
            refine cw_seq ?_
            refine cw_reg ?_
            refine el_pv (pv_assign rfl) (by decide) ?_
            refine el_nil ?_
            refine thn_n ?_
            refine cw_ret ?_
            refine thn_r ?_
            obtain rfl := Option.some.inj hF
            refine fin1 rfl rfl ?_
            exact ⟨rfl, hS.below⟩
          · refine cw_cond_f rfl hb143 ?_
            refine cw_skip ?_
            refine thn_n ?_
            refine cw_seq ?_
            refine cw_reg ?_
            refine el_pv (pv_assign rfl) (by decide) ?_
            refine el_nil ?_
            refine thn_n ?_
            refine cw_ret ?_
            obtain rfl := Option.some.inj hF
            refine fin1 rfl rfl ?_
            exact ⟨rfl, hS.below⟩
    · refine el_off rfl hb109 rfl (by decide) ?_
      refine el_off rfl hb109 rfl (by decide) ?_
      refine el_off rfl hb109 rfl (by decide) ?_
      refine el_off rfl hb109 rfl (by decide) ?_
      refine el_pv (pv_pick_f rfl hb109 rfl) (by decide) ?_
      refine el_nil ?_
      refine thn_n ?_
      refine cw_cond_f rfl rfl ?_
      refine cw_exit ?_
      refine thn_x ?_
      refine thn_x ?_
      obtain rfl := Option.some.inj hF
      have hF := hK102
      refine inb_s ?_
      refine thn_n ?_
      refine cw_seq ?_
      refine cw_seq ?_
      refine cw_reg ?_
      refine el_pv (pv_move he104) (by decide) ?_
      refine el_pv (pv_len rfl ha0) (by decide) ?_
      refine el_pv (pv_move he105) (by decide) ?_
      refine el_pv (pv_len rfl ha1) (by decide) ?_
      refine el_pv (pv_lss rfl rfl) (by decide) ?_
      refine el_nil ?_
      refine thn_n ?_
      rcases oif hF with ⟨hb144, hF⟩ | ⟨hb144, hF⟩
      · refine cw_cond_t rfl hb144 ?_
        refine cw_seq ?_
        refine cw_reg ?_
        refine el_pv (pv_assign rfl) (by decide) ?_
        refine el_nil ?_
        refine thn_n ?_
        refine cw_ret ?_
        refine thn_r ?_
        obtain rfl := Option.some.inj hF
        refine fin1 rfl rfl ?_
        exact ⟨rfl, hS.below⟩
      · refine cw_cond_f rfl hb144 ?_
        refine cw_skip ?_
        refine thn_n ?_
        refine cw_seq ?_
        refine cw_seq ?_
        refine cw_reg ?_
        refine el_pv (pv_move he104) (by decide) ?_
        refine el_pv (pv_len rfl ha0) (by decide) ?_
        refine el_pv (pv_move he105) (by decide) ?_
        refine el_pv (pv_len rfl ha1) (by decide) ?_
        refine el_pv (pv_gtr rfl rfl) (by decide) ?_
        refine el_nil ?_
        refine thn_n ?_
        rcases oif hF with ⟨hb145, hF⟩ | ⟨hb145, hF⟩
        · refine cw_cond_t rfl hb145 ?_
          refine cw_seq ?_
          refine cw_reg ?_
          refine el_pv (pv_assign rfl) (by decide) ?_
          refine el_nil ?_
          refine thn_n ?_
          refine cw_ret ?_
          refine thn_r ?_
          obtain rfl := Option.some.inj hF
          refine fin1 rfl rfl ?_
          exact ⟨rfl, hS.below⟩
        · refine cw_cond_f rfl hb145 ?_
          refine cw_skip ?_
          refine thn_n ?_
          refine cw_seq ?_
          refine cw_reg ?_
          refine el_pv (pv_assign rfl) (by decide) ?_
          refine el_nil ?_
          refine thn_n ?_
          refine cw_ret ?_
          obtain rfl := Option.some.inj hF
          refine fin1 rfl rfl ?_
          exact ⟨rfl, hS.below⟩
theorem spec_EqualFactorizations_ok {w0 : World} {u0 : Value} {a0 : List Int} {u1 : Value} {a1 : List (List Int × List Int)} {u2 : Value} {a2 : List Int} {u3 : Value} {a3 : List (List Int × List Int)} (ha0 : (sliceR intR 3).rd w0 [u0] a0) (ha1 : (sliceR (pairR (sliceR intR 3) (sliceR intR 3)) 67).rd w0 [u1] a1) (ha2 : (sliceR intR 3).rd w0 [u2] a2) (ha3 : (sliceR (pairR (sliceR intR 3) (sliceR intR 3)) 67).rd w0 [u3] a3) {N : Nat} {r : Bool} (hF : spec_EqualFactorizations N a0 a1 a2 a3 = some r) :
    Calls Try.prog 10 #[.agg #[u0, u1], .agg #[u2, u3]] w0 fun e w' => e = .returned (.bool r) ∧ Ext w0 w' := by
  unfold spec_EqualFactorizations at hF
  refine calls_E Try.func10 rfl rfl (of_decide_eq_true rfl) ?_
  have hS := Sat.start w0
  refine cw_seq ?_
  refine cw_reg ?_
  refine el_box [u0, u1] rfl hS (by decide) ?_
  intro w101 b102 hS hx103
  refine el_box [u2, u3] rfl hS (by decide) ?_
  intro w105 b106 hS hx107
  refine el_pv (pv_assign rfl) (by decide) ?_
  refine el_nil ?_
  refine thn_n ?_
  refine cw_seq ?_
  refine cw_seq ?_
  refine cw_reg ?_
  refine el_pv (pv_fieldAddr rfl) (by decide) ?_
  refine el_pv (pv_loadc rfl ((hS.boxAt 1 rfl) 0 _ rfl)) (by decide) ?_
  refine el_pv (pv_fieldAddr rfl) (by decide) ?_
  refine el_pv (pv_loadc rfl ((hS.boxAt 0 rfl) 0 _ rfl)) (by decide) ?_
  obtain ⟨r109, hr109, hF⟩ := ob hF
  refine el_call goes46 (spec_CompareRows_ok (hS.up ha0) (hS.up ha2) hr109) (congrArg List.toArray (mapc rfl (mapc rfl rfl))) (by decide) ?_
  rintro _ w110 ⟨rfl, hx111⟩
  refine ⟨_, rfl, ?_⟩
  have hS := hS.ext hx111
  refine el_pv (pv_neq rfl rfl) (by decide) ?_
  refine el_pv (pv_move rfl) (by decide) ?_
  rcases oif hF with ⟨hb112, hF⟩ | ⟨hb112, hF⟩
  · refine el_off rfl hb112 rfl (by decide) ?_
    refine el_off rfl hb112 rfl (by decide) ?_
    refine el_off rfl hb112 rfl (by decide) ?_
    refine el_off rfl hb112 rfl (by decide) ?_
    refine el_off rfl hb112 rfl (by decide) ?_
    refine el_off rfl hb112 rfl (by decide) ?_
    refine el_off rfl hb112 rfl (by decide) ?_
    refine el_pv (pv_pick_t rfl hb112 rfl) (by decide) ?_
    refine el_nil ?_
    refine thn_n ?_
    refine cw_cond_t rfl rfl ?_
    refine cw_seq ?_
    refine cw_reg ?_
    refine el_pv (pv_assign rfl) (by decide) ?_
    refine el_nil ?_
    refine thn_n ?_
    refine cw_ret ?_
    refine thn_r ?_
    obtain rfl := Option.some.inj hF
    refine fin1 rfl rfl ?_
    exact ⟨rfl, hS.below⟩
  · refine el_on rfl hb112 ?_
    refine el_pv (pv_fieldAddr rfl) (by decide) ?_
    refine el_on rfl hb112 ?_
    refine el_pv (pv_loadc rfl ((hS.boxAt 1 rfl) 1 _ rfl)) (by decide) ?_
    refine el_on rfl hb112 ?_
    refine el_pv (pv_len rfl ha1) (by decide) ?_
    refine el_on rfl hb112 ?_
    refine el_pv (pv_fieldAddr rfl) (by decide) ?_
    refine el_on rfl hb112 ?_
    refine el_pv (pv_loadc rfl ((hS.boxAt 0 rfl) 1 _ rfl)) (by decide) ?_
    refine el_on rfl hb112 ?_
    refine el_pv (pv_len rfl ha3) (by decide) ?_
    refine el_on rfl hb112 ?_
    refine el_pv (pv_neq rfl rfl) (by decide) ?_
    refine el_pv (pv_pick_f rfl hb112 rfl) (by decide) ?_
    refine el_nil ?_
    refine thn_n ?_
    rcases oif hF with ⟨hb113, hF⟩ | ⟨hb113, hF⟩
    · refine cw_cond_t rfl hb113 ?_
      refine cw_seq ?_
      refine cw_reg ?_
      refine el_pv (pv_assign rfl) (by decide) ?_
      refine el_nil ?_
      refine thn_n ?_
      refine cw_ret ?_
      refine thn_r ?_
      obtain rfl := Option.some.inj hF
      refine fin1 rfl rfl ?_
      exact ⟨rfl, hS.below⟩
    · refine cw_cond_f rfl hb113 ?_
      refine cw_skip ?_
      refine thn_n ?_
      refine cw_seq ?_
      refine cw_seq ?_
      refine cw_reg ?_
      refine el_pv (pv_assign rfl) (by decide) ?_
      refine el_nil ?_
      refine thn_n ?_
      refine cw_block ?_
      obtain ⟨s114, hL, hK115⟩ := ob hF
      refine cw_loopS (fun k e w => ∃ (x116 : Int), e 2 = .pointer (some ⟨b102, 0, none⟩) ∧ e 3 = .pointer (some ⟨b106, 0, none⟩) ∧ e 5 = .int .i64 x116 ∧ Sat w0 w [Box b106 30 [u2, u3], Box b102 30 [u0, u1]] ∧ spec_EqualFactorizations_L1 N k a0 a1 a2 a3 x116 = some s114) N ?_ ?_ ?_
      · exact ⟨0, rfl, rfl, rfl, hS, hL⟩
      · rintro e w ⟨_, _, _, _, _, hz⟩; exact nomatch (show none = some _ from hz)
      · rintro k e121 w120 ⟨x116, he117, he118, he119, hS, hF⟩
        refine cw_seq ?_
        refine cw_seq ?_
        refine cw_reg ?_
        refine el_pv (pv_move he119) (by decide) ?_
        refine el_pv (pv_fieldAddr he117) (by decide) ?_
        refine el_pv (pv_loadc rfl ((hS.boxAt 1 rfl) 1 _ rfl)) (by decide) ?_
        refine el_pv (pv_len rfl ha1) (by decide) ?_
        refine el_pv (pv_lss rfl rfl) (by decide) ?_
        refine el_nil ?_
        refine thn_n ?_
        rcases oif hF with ⟨hb122, hF⟩ | ⟨hb122, hF⟩
        · refine cw_cond_t rfl hb122 ?_
          refine cw_skip ?_
          refine thn_n ?_
          refine cw_seq ?_
          refine cw_block ?_
          refine cw_seq ?_
          refine cw_regq (by kernel_rfl) (by kernel_rfl) ?_
          refine ql_pv (pv_fieldAddr he117) (by decide) ?_
          refine ql_pv (pv_loadc rfl ((hS.boxAt 1 rfl) 1 _ rfl)) (by decide) ?_
          refine ql_pv (pv_move he119) (by decide) ?_
          obtain ⟨x123, hx123, hF⟩ := ob hF
          refine ql_index (wA := w0) rfl ha1 rfl (by decide) rfl hx123 (by decide) ?_
          intro b124 of125 c126 hr127 hm128
          obtain ⟨_, _, rfl, hr129, hr130⟩ := hr127
          obtain ⟨v131, rfl⟩ := slice_one hr129
          obtain ⟨v132, rfl⟩ := slice_one hr130
          refine ql_pv (pv_fieldAddr rfl) (by decide) ?_
          refine ql_pv (pv_loadc rfl ((cells_up hS.below hm128) 0 _ rfl)) (by decide) ?_
          refine ql_pv (pv_fieldAddr he118) (by decide) ?_
          refine ql_pv (pv_loadc rfl ((hS.boxAt 0 rfl) 1 _ rfl)) (by decide) ?_
          refine ql_pv (pv_move he119) (by decide) ?_
          obtain ⟨x133, hx133, hF⟩ := ob hF
          refine ql_index (wA := w0) rfl ha3 rfl (by decide) rfl hx133 (by decide) ?_
          intro b134 of135 c136 hr137 hm138
          obtain ⟨_, _, rfl, hr139, hr140⟩ := hr137
          obtain ⟨v141, rfl⟩ := slice_one hr139
          obtain ⟨v142, rfl⟩ := slice_one hr140
          refine ql_pv (pv_fieldAddr rfl) (by decide) ?_
          refine ql_pv (pv_loadc rfl ((cells_up hS.below hm138) 0 _ rfl)) (by decide) ?_
          obtain ⟨r143, hr143, hF⟩ := ob hF
          refine ql_call (.int .i64 r143) goes46 (fun w' hw' => spec_CompareRows_ok (rd_up (hS.up hr129) hw') (rd_up (hS.up hr139) hw') hr143) (congrArg List.toArray (mapc rfl (mapc rfl rfl))) (by decide) ?_
          refine ql_pv (pv_neq rfl rfl) (by decide) ?_
          refine ql_pv (pv_move rfl) (by decide) ?_
          rcases oif hF with ⟨hb144, hF⟩ | ⟨hb144, hF⟩
          · refine ql_off rfl hb144 rfl (by decide) ?_
            refine ql_off rfl hb144 rfl (by decide) ?_
            refine ql_off rfl hb144 rfl (by decide) ?_
            refine ql_off rfl hb144 rfl (by decide) ?_
            refine ql_off rfl hb144 rfl (by decide) ?_
            refine ql_off rfl hb144 rfl (by decide) ?_
            refine ql_off rfl hb144 rfl (by decide) ?_
            refine ql_off rfl hb144 rfl (by decide) ?_
            refine ql_off rfl hb144 rfl (by decide) ?_
            refine ql_off rfl hb144 rfl (by decide) ?_
            refine ql_off rfl hb144 rfl (by decide) ?_
            refine ql_off rfl hb144 rfl (by decide) ?_
            refine ql_off rfl hb144 rfl (by decide) ?_
            refine ql_off rfl hb144 rfl (by decide) ?_
            refine ql_pv (pv_pick_t rfl hb144 rfl) (by decide) ?_
            refine ql_nil ?_
            intro w145 hx146
            have hS := hS.ext hx146
            refine thn_n ?_
            refine cw_cond_t rfl rfl ?_
            refine cw_seq ?_
            refine cw_reg ?_
            refine el_pv (pv_assign rfl) (by decide) ?_
            refine el_nil ?_
            refine thn_n ?_
            refine cw_ret ?_
            refine inb_r ?_
            refine thn_r ?_
            refine thn_r ?_
            refine inb_r ?_
            refine thn_r ?_
            obtain rfl := Option.some.inj hF
            have hF := hK115
            obtain rfl := Option.some.inj hF
            refine fin1 rfl rfl ?_
            exact ⟨rfl, hS.below⟩
          · refine ql_on rfl hb144 ?_
            refine ql_pv (pv_fieldAddr he117) (by decide) ?_
            refine ql_on rfl hb144 ?_
            refine ql_pv (pv_loadc rfl ((hS.boxAt 1 rfl) 1 _ rfl)) (by decide) ?_
            refine ql_on rfl hb144 ?_
            refine ql_pv (pv_move he119) (by decide) ?_
            refine ql_on rfl hb144 ?_
            obtain ⟨x147, hx147, hF⟩ := ob hF
            refine ql_index (wA := w0) rfl ha1 rfl (by decide) rfl hx147 (by decide) ?_
            intro b148 of149 c150 hr151 hm152
            obtain ⟨_, _, rfl, hr153, hr154⟩ := hr151
            obtain ⟨v155, rfl⟩ := slice_one hr153
            obtain ⟨v156, rfl⟩ := slice_one hr154
            refine ql_on rfl hb144 ?_
            refine ql_pv (pv_fieldAddr rfl) (by decide) ?_
            refine ql_on rfl hb144 ?_
            refine ql_pv (pv_loadc rfl ((cells_up hS.below hm152) 1 _ rfl)) (by decide) ?_
            refine ql_on rfl hb144 ?_
            refine ql_pv (pv_fieldAddr he118) (by decide) ?_
            refine ql_on rfl hb144 ?_
            refine ql_pv (pv_loadc rfl ((hS.boxAt 0 rfl) 1 _ rfl)) (by decide) ?_
            refine ql_on rfl hb144 ?_
            refine ql_pv (pv_move he119) (by decide) ?_
            refine ql_on rfl hb144 ?_
            obtain ⟨x157, hx157, hF⟩ := ob hF
            refine ql_index (wA := w0) rfl ha3 rfl (by decide) rfl hx157 (by decide) ?_
            intro b158 of159 c160 hr161 hm162
            obtain ⟨_, _, rfl, hr163, hr164⟩ := hr161
            obtain ⟨v165, rfl⟩ := slice_one hr163
            obtain ⟨v166, rfl⟩ := slice_one hr164
            refine ql_on rfl hb144 ?_
            refine ql_pv (pv_fieldAddr rfl) (by decide) ?_
            refine ql_on rfl hb144 ?_
            refine ql_pv (pv_loadc rfl ((cells_up hS.below hm162) 1 _ rfl)) (by decide) ?_
            refine ql_on rfl hb144 ?_
            obtain ⟨r167, hr167, hF⟩ := ob hF
            refine ql_call (.int .i64 r167) goes46 (fun w' hw' => spec_CompareRows_ok (rd_up (hS.up hr154) hw') (rd_up (hS.up hr164) hw') hr167) (congrArg List.toArray (mapc rfl (mapc rfl rfl))) (by decide) ?_
            refine ql_on rfl hb144 ?_
            refine ql_pv (pv_neq rfl rfl) (by decide) ?_
            refine ql_pv (pv_pick_f rfl hb144 rfl) (by decide) ?_
            refine ql_nil ?_
            intro w168 hx169
            have hS := hS.ext hx169
            refine thn_n ?_
            rcases oif hF with ⟨hb170, hF⟩ | ⟨hb170, hF⟩
            · refine cw_cond_t rfl hb170 ?_
              refine cw_seq ?_
              refine cw_reg ?_
              refine el_pv (pv_assign rfl) (by decide) ?_
              refine el_nil ?_
              refine thn_n ?_
              refine cw_ret ?_
              refine inb_r ?_
              refine thn_r ?_
              refine thn_r ?_
              refine inb_r ?_
              refine thn_r ?_
              obtain rfl := Option.some.inj hF
              have hF := hK115
              obtain rfl := Option.some.inj hF
              refine fin1 rfl rfl ?_
              exact ⟨rfl, hS.below⟩
            · refine cw_cond_f rfl hb170 ?_
              refine cw_skip ?_
              refine inb_n ?_
              refine thn_n ?_
              refine cw_reg ?_
              refine el_pv (pv_move he119) (by decide) ?_
              obtain ⟨x171, hx171, hF⟩ := ob hF
              refine el_pv (pv_add rfl rfl hx171) (by decide) ?_
              refine el_pv (pv_assign rfl) (by decide) ?_
              refine el_nil ?_
              refine thn_n ?_
              have hS := hS.top 1 rfl
              have hS := hS.top 1 rfl
              have hS := hS.keep 2
              exact ⟨x171, he117, he118, rfl, hS, hF⟩
        · refine cw_cond_f rfl hb122 ?_
          refine cw_exit ?_
          refine thn_x ?_
          refine thn_x ?_
          obtain rfl := Option.some.inj hF
          have hF := hK115
          refine inb_s ?_
          refine thn_n ?_
          refine cw_seq ?_
          refine cw_reg ?_
          refine el_pv (pv_assign rfl) (by decide) ?_
          refine el_nil ?_
          refine thn_n ?_
          refine cw_ret ?_
          obtain rfl := Option.some.inj hF
          refine fin1 rfl rfl ?_
          exact ⟨rfl, hS.below⟩
theorem laws_toIntS_ok {w0 : World} {u0 : Value} {a0 : List Int} (ha0 : (sliceR intR 3).rd w0 [u0] a0) {N : Nat} {r : (List Int)} (hF : laws_toIntS N a0 = some r) :
    Calls Try.prog 47 #[u0] w0 fun e w' => ∃ q0, e = .returned (q0) ∧ Sat w0 w' [Own (sliceR intR 3) [q0] r] := by
  unfold laws_toIntS at hF
  refine calls_E Try.func47 rfl rfl (of_decide_eq_true rfl) ?_
  have hS := Sat.start w0
  refine cw_seq ?_
  refine cw_reg ?_
  refine el_pv (pv_assign rfl) (by decide) ?_
  refine el_nil ?_
  refine thn_n ?_
  refine cw_seq ?_
  refine cw_reg ?_
  refine el_pv (pv_move rfl) (by decide) ?_
  refine el_pv (pv_len rfl ha0) (by decide) ?_
  obtain ⟨x104, hx104, hF⟩ := ob hF
  refine el_make (R := intR) (x0 := 0) rfl (by decide) rfl (fun _ => ⟨rfl, rfl⟩) rfl rfl hx104 hS (by decide) ?_
  intro w101 g102 k103 hS hx105 hlx104
  refine el_pv (pv_assign rfl) (by decide) ?_
  refine el_nil ?_
  refine thn_n ?_
  refine cw_seq ?_
  refine cw_seq ?_
  refine cw_reg ?_
  refine el_pv (pv_assign rfl) (by decide) ?_
  refine el_nil ?_
  refine thn_n ?_
  refine cw_block ?_
  obtain ⟨s107, hL, hK108⟩ := ob hF
  refine cw_loopS (fun k e w => ∃ (v110 : Value), ∃ (x109 : List Int), ∃ (x111 : Int), e 0 = u0 ∧ e 3 = v110 ∧ e 4 = .int .i64 x111 ∧ Sat w0 w [Own (sliceR intR 3) [v110] x109] ∧ laws_toIntS_L1 N k a0 x109 x111 = some s107) N ?_ ?_ ?_
  · exact ⟨(.slice (some ⟨g102, 0, none⟩) k103 k103), x104, 0, rfl, rfl, rfl, hS, hL⟩
  · rintro e w ⟨_, _, _, _, _, _, _, hz⟩; exact nomatch (show none = some _ from hz)
  · rintro k e116 w115 ⟨v110, x109, x111, he112, he113, he114, hS, hF⟩
    refine cw_seq ?_
    refine cw_seq ?_
    refine cw_reg ?_
    refine el_pv (pv_move he114) (by decide) ?_
    refine el_pv (pv_move he112) (by decide) ?_
    refine el_pv (pv_len rfl ha0) (by decide) ?_
    refine el_pv (pv_lss rfl rfl) (by decide) ?_
    refine el_nil ?_
    refine thn_n ?_
    rcases oif hF with ⟨hb117, hF⟩ | ⟨hb117, hF⟩
    · refine cw_cond_t rfl hb117 ?_
      refine cw_skip ?_
      refine thn_n ?_
      refine cw_seq ?_
      refine cw_block ?_
      refine cw_reg ?_
      refine el_pv (pv_move he113) (by decide) ?_
      refine el_pv (pv_move he114) (by decide) ?_
      refine el_pv (pv_move he112) (by decide) ?_
      refine el_pv (pv_move he114) (by decide) ?_
      obtain ⟨x118, hx118, hF⟩ := ob hF
      refine el_index (wA := w0) rfl ha0 rfl (by decide) rfl hx118 (by decide) ?_
      intro b119 of120 c121 hr122 hm123
      obtain rfl := hr122
      refine el_pv (pv_loadc rfl ((cells_up hS.below hm123) 0 _ rfl)) (by decide) ?_
      obtain ⟨x124, hx124, hF⟩ := ob hF
      refine el_indexO hS rfl rfl (by decide) rfl hx124 (by decide) ?_
      intro b125 of126 c127 hv130 hr128 hm129
      obtain rfl := hr128
      obtain ⟨x132, hx132, hF⟩ := ob hF
      have hS := hS.int x118
      refine el_storeO rfl hv130 hS hx132 rfl rfl ?_
      intro w131 hS
      refine el_nil ?_
      refine inb_n ?_
      refine thn_n ?_
      refine cw_reg ?_
      refine el_pv (pv_move he114) (by decide) ?_
      obtain ⟨x133, hx133, hF⟩ := ob hF
      refine el_pv (pv_add rfl rfl hx133) (by decide) ?_
      refine el_pv (pv_assign rfl) (by decide) ?_
      refine el_nil ?_
      refine thn_n ?_
      have hS := hS.keep 1
      exact ⟨v110, x132, x133, he112, he113, rfl, hS, hF⟩
    · refine cw_cond_f rfl hb117 ?_
      refine cw_exit ?_
      refine thn_x ?_
      refine thn_x ?_
      obtain rfl := Option.some.inj hF
      have hF := hK108
      refine inb_s ?_
      refine thn_n ?_
      refine cw_seq ?_
      refine cw_reg ?_
      refine el_pv (pv_move he113) (by decide) ?_
      refine el_pv (pv_assign rfl) (by decide) ?_
      refine el_nil ?_
      refine thn_n ?_
      refine cw_ret ?_
      obtain rfl := Option.some.inj hF
      refine fin1 rfl rfl ?_
      exact ⟨_, rfl, hS.keep 1⟩
theorem laws_toFactorNode_ok {w0 : World} {u0 : Value} {a0 : List Int} {u1 : Value} {a1 : List Int} (ha0 : (sliceR intR 3).rd w0 [u0] a0) (ha1 : (sliceR intR 3).rd w0 [u1] a1) {N : Nat} {r : (List Int × List Int)} (hF : laws_toFactorNode N a0 a1 = some r) :
    Calls Try.prog 80 #[.agg #[u0, u1]] w0 fun e w' => ∃ q0 q1, e = .returned (.agg #[q0, q1]) ∧ Sat w0 w' [Own (sliceR intR 3) [q0] r.1, Own (sliceR intR 3) [q1] r.2] := by
  unfold laws_toFactorNode at hF
  refine calls_E Try.func80 rfl rfl (of_decide_eq_true rfl) ?_
  have hS := Sat.start w0
  refine cw_seq ?_
  refine cw_reg ?_
  refine el_box [u0, u1] rfl hS (by decide) ?_
  intro w101 b102 hS hx103
  refine el_alloc hS (by decide) ?_
  intro w105 b106 hS hx107
  refine el_nil ?_
  refine thn_n ?_
  refine cw_seq ?_
  refine cw_reg ?_
  refine el_alloc hS (by decide) ?_
  intro w109 b110 hS hx111
  refine el_nil ?_
  refine thn_n ?_
  refine cw_seq ?_
  refine cw_reg ?_
  refine el_pv (pv_fieldAddr rfl) (by decide) ?_
  refine el_pv (pv_loadc rfl ((hS.boxAt 2 rfl) 0 _ rfl)) (by decide) ?_
  obtain ⟨r113, hr113, hF⟩ := ob hF
  refine el_call goes47 (laws_toIntS_ok (hS.up ha0) hr113) (congrArg List.toArray (mapc rfl rfl)) (by decide) ?_
  rintro _ w116 ⟨v114, rfl, hS'⟩
  refine ⟨_, rfl, ?_⟩
  have hx117 := hS'.below
  have hS := hS.call1 hS'
  refine el_pv (pv_fieldAddr rfl) (by decide) ?_
  refine el_storev (hS.top 1 rfl) rfl [v114] (cells_of rfl (oc (hS.rdAt (R := (sliceR intR 3)) 0 rfl))) rfl (of_decide_eq_true rfl) (all_cons (oc (hS.rdAt (R := (sliceR intR 3)) 0 rfl)) rfl) ?_
  intro w118 hS
  replace hS : Sat w0 w118 (Box b110 67 [v114, (.slice none 0 0)] :: _) := hS
  refine el_nil ?_
  refine thn_n ?_
  refine cw_seq ?_
  refine cw_reg ?_
  refine el_pv (pv_fieldAddr rfl) (by decide) ?_
  refine el_pv (pv_loadc rfl ((hS.boxAt 3 rfl) 1 _ rfl)) (by decide) ?_
  obtain ⟨r119, hr119, hF⟩ := ob hF
  refine el_call goes47 (laws_toIntS_ok (hS.up ha1) hr119) (congrArg List.toArray (mapc rfl rfl)) (by decide) ?_
  rintro _ w122 ⟨v120, rfl, hS'⟩
  refine ⟨_, rfl, ?_⟩
  have hx123 := hS'.below
  have hS := hS.call1 hS'
  refine el_pv (pv_fieldAddr rfl) (by decide) ?_
  refine el_storev (hS.top 1 rfl) rfl [v120] (cells_of rfl (oc (hS.rdAt (R := (sliceR intR 3)) 0 rfl))) rfl (of_decide_eq_true rfl) (all_cons (oc (hS.rdAt (R := (sliceR intR 3)) 0 rfl)) rfl) ?_
  intro w124 hS
  replace hS : Sat w0 w124 (Box b110 67 [v114, v120] :: _) := hS
  refine el_nil ?_
  refine thn_n ?_
  refine cw_seq ?_
  refine cw_reg ?_
  refine el_pv (pv_loada (cs := [v114, v120]) rfl rfl (boxc0 (hS.boxAt 0 rfl))) (by decide) ?_
  refine el_storev (hS.top 3 rfl) rfl [v114, v120] rfl rfl (of_decide_eq_true rfl) (all_cons (oc (hS.rdAt (R := (sliceR intR 3)) 2 rfl)) (all_cons (oc (hS.rdAt (R := (sliceR intR 3)) 1 rfl)) rfl)) ?_
  intro w125 hS
  replace hS : Sat w0 w125 (Box b106 67 [v114, v120] :: _) := hS
  refine el_nil ?_
  refine thn_n ?_
  refine cw_ret ?_
  obtain rfl := Option.some.inj hF
  refine finC (cs := [v114, v120]) rfl rfl rfl (boxc0 (hS.boxAt 0 rfl))  ?_
  have hS := hS.top 2 rfl
  have hS := hS.top 3 rfl
  exact ⟨_, _, rfl, hS.keep 2⟩
theorem laws_toFactorNodeS_ok {w0 : World} {u0 : Value} {a0 : List (List Int × List Int)} (ha0 : (sliceR (pairR (sliceR intR 3) (sliceR intR 3)) 89).rd w0 [u0] a0) {N : Nat} {r : (List (List Int × List Int))} (hF : laws_toFactorNodeS N a0 = some r) :
    Calls Try.prog 48 #[u0] w0 fun e w' => ∃ q0, e = .returned (q0) ∧ Sat w0 w' [Own (sliceR (pairR (sliceR intR 3) (sliceR intR 3)) 67) [q0] r] := by
  unfold laws_toFactorNodeS at hF
  refine calls_E Try.func48 rfl rfl (of_decide_eq_true rfl) ?_
  have hS := Sat.start w0
  refine cw_seq ?_
  refine cw_reg ?_
  refine el_pv (pv_assign rfl) (by decide) ?_
  refine el_nil ?_
  refine thn_n ?_
  refine cw_seq ?_
  refine cw_reg ?_
  refine el_pv (pv_move rfl) (by decide) ?_
  refine el_pv (pv_len rfl ha0) (by decide) ?_
  obtain ⟨x104, hx104, hF⟩ := ob hF
  refine el_make (R := (pairR (sliceR intR 3) (sliceR intR 3))) (x0 := ([], [])) rfl (by decide) rfl (fun _ => ⟨_, _, [], [], rfl, rfl, .inl ⟨rfl, rfl, rfl⟩, .inl ⟨rfl, rfl, rfl⟩⟩) rfl rfl hx104 hS (by decide) ?_
  intro w101 g102 k103 hS hx105 hlx104
  refine el_pv (pv_assign rfl) (by decide) ?_
  refine el_nil ?_
  refine thn_n ?_
  refine cw_seq ?_
  refine cw_seq ?_
  refine cw_reg ?_
  refine el_pv (pv_assign rfl) (by decide) ?_
  refine el_nil ?_
  refine thn_n ?_
  refine cw_block ?_
  obtain ⟨s107, hL, hK108⟩ := ob hF
  refine cw_loopS (fun k e w => ∃ (v110 : Value), ∃ (x109 : List (List Int × List Int)), ∃ (x111 : Int), e 0 = u0 ∧ e 3 = v110 ∧ e 4 = .int .i64 x111 ∧ Sat w0 w [Own (sliceR (pairR (sliceR intR 3) (sliceR intR 3)) 67) [v110] x109] ∧ laws_toFactorNodeS_L1 N k a0 x109 x111 = some s107) N ?_ ?_ ?_
  · exact ⟨(.slice (some ⟨g102, 0, none⟩) k103 k103), x104, 0, rfl, rfl, rfl, hS, hL⟩
  · rintro e w ⟨_, _, _, _, _, _, _, hz⟩; exact nomatch (show none = some _ from hz)
  · rintro k e116 w115 ⟨v110, x109, x111, he112, he113, he114, hS, hF⟩
    refine cw_seq ?_
    refine cw_seq ?_
    refine cw_reg ?_
    refine el_pv (pv_move he114) (by decide) ?_
    refine el_pv (pv_move he112) (by decide) ?_
    refine el_pv (pv_len rfl ha0) (by decide) ?_
    refine el_pv (pv_lss rfl rfl) (by decide) ?_
    refine el_nil ?_
    refine thn_n ?_
    rcases oif hF with ⟨hb117, hF⟩ | ⟨hb117, hF⟩
    · refine cw_cond_t rfl hb117 ?_
      refine cw_skip ?_
      refine thn_n ?_
      refine cw_seq ?_
      refine cw_block ?_
      refine cw_reg ?_
      refine el_pv (pv_move he113) (by decide) ?_
      refine el_pv (pv_move he114) (by decide) ?_
      refine el_pv (pv_move he112) (by decide) ?_
      refine el_pv (pv_move he114) (by decide) ?_
      obtain ⟨x118, hx118, hF⟩ := ob hF
      refine el_index (wA := w0) rfl ha0 rfl (by decide) rfl hx118 (by decide) ?_
      intro b119 of120 c121 hr122 hm123
      obtain ⟨_, _, rfl, hr124, hr125⟩ := hr122
      obtain ⟨v126, rfl⟩ := slice_one hr124
      obtain ⟨v127, rfl⟩ := slice_one hr125
      refine el_pv (pv_loada (cs := [v126, v127]) rfl rfl (cells_up hS.below hm123)) (by decide) ?_
      obtain ⟨r128, hr128, hF⟩ := ob hF
      refine el_call goes80 (laws_toFactorNode_ok (hS.up hr124) (hS.up hr125) hr128) (congrArg List.toArray (mapc rfl rfl)) (by decide) ?_
      rintro _ w133 ⟨v129, v131, rfl, hS'⟩
      refine ⟨_, rfl, ?_⟩
      have hx134 := hS'.below
      have hS := hS.call2 hS'
      obtain ⟨x135, hx135, hF⟩ := ob hF
      have hS := hS.top 2 rfl
      refine el_indexO hS rfl rfl (by decide) rfl hx135 (by decide) ?_
      intro b136 of137 c138 hv141 hr139 hm140
      obtain ⟨_, _, rfl, hr142, hr143⟩ := hr139
      obtain ⟨v144, rfl⟩ := slice_one hr142
      obtain ⟨v145, rfl⟩ := slice_one hr143
      obtain ⟨x147, hx147, hF⟩ := ob hF
      have hS := hS.top 2 rfl
      have hS := hS.top 2 rfl
      have hS := hS.pair
      refine el_storeO rfl hv141 hS hx147 rfl rfl ?_
      intro w146 hS
      refine el_nil ?_
      refine inb_n ?_
      refine thn_n ?_
      refine cw_reg ?_
      refine el_pv (pv_move he114) (by decide) ?_
      obtain ⟨x148, hx148, hF⟩ := ob hF
      refine el_pv (pv_add rfl rfl hx148) (by decide) ?_
      refine el_pv (pv_assign rfl) (by decide) ?_
      refine el_nil ?_
      refine thn_n ?_
      have hS := hS.keep 1
      exact ⟨v110, x147, x148, he112, he113, rfl, hS, hF⟩
    · refine cw_cond_f rfl hb117 ?_
      refine cw_exit ?_
      refine thn_x ?_
      refine thn_x ?_
      obtain rfl := Option.some.inj hF
      have hF := hK108
      refine inb_s ?_
      refine thn_n ?_
      refine cw_seq ?_
      refine cw_reg ?_
      refine el_pv (pv_move he113) (by decide) ?_
      refine el_pv (pv_assign rfl) (by decide) ?_
      refine el_nil ?_
      refine thn_n ?_
      refine cw_ret ?_
      obtain rfl := Option.some.inj hF
      refine fin1 rfl rfl ?_
      exact ⟨_, rfl, hS.keep 1⟩
theorem laws_toFactorization_ok {w0 : World} {u0 : Value} {a0 : List Int} {u1 : Value} {a1 : List (List Int × List Int)} (ha0 : (sliceR intR 3).rd w0 [u0] a0) (ha1 : (sliceR (pairR (sliceR intR 3) (sliceR intR 3)) 89).rd w0 [u1] a1) {N : Nat} {r : (List Int × List (List Int × List Int))} (hF : laws_toFactorization N a0 a1 = some r) :
    Calls Try.prog 11 #[.agg #[u0, u1]] w0 fun e w' => ∃ q0 q1, e = .returned (.agg #[q0, q1]) ∧ Sat w0 w' [Own (sliceR intR 3) [q0] r.1, Own (sliceR (pairR (sliceR intR 3) (sliceR intR 3)) 67) [q1] r.2] := by
  unfold laws_toFactorization at hF
  refine calls_E Try.func11 rfl rfl (of_decide_eq_true rfl) ?_
  have hS := Sat.start w0
  refine cw_seq ?_
  refine cw_reg ?_
  refine el_box [u0, u1] rfl hS (by decide) ?_
  intro w101 b102 hS hx103
  refine el_alloc hS (by decide) ?_
  intro w105 b106 hS hx107
  refine el_nil ?_
  refine thn_n ?_
  refine cw_seq ?_
  refine cw_reg ?_
  refine el_alloc hS (by decide) ?_
  intro w109 b110 hS hx111
  refine el_nil ?_
  refine thn_n ?_
  refine cw_seq ?_
  refine cw_reg ?_
  refine el_pv (pv_fieldAddr rfl) (by decide) ?_
  refine el_pv (pv_loadc rfl ((hS.boxAt 2 rfl) 0 _ rfl)) (by decide) ?_
  obtain ⟨r113, hr113, hF⟩ := ob hF
  refine el_call goes47 (laws_toIntS_ok (hS.up ha0) hr113) (congrArg List.toArray (mapc rfl rfl)) (by decide) ?_
  rintro _ w116 ⟨v114, rfl, hS'⟩
  refine ⟨_, rfl, ?_⟩
  have hx117 := hS'.below
  have hS := hS.call1 hS'
  refine el_pv (pv_fieldAddr rfl) (by decide) ?_
  refine el_storev (hS.top 1 rfl) rfl [v114] (cells_of rfl (oc (hS.rdAt (R := (sliceR intR 3)) 0 rfl))) rfl (of_decide_eq_true rfl) (all_cons (oc (hS.rdAt (R := (sliceR intR 3)) 0 rfl)) rfl) ?_
  intro w118 hS
  replace hS : Sat w0 w118 (Box b110 30 [v114, (.slice none 0 0)] :: _) := hS
  refine el_nil ?_
  refine thn_n ?_
  refine cw_seq ?_
  refine cw_reg ?_
  refine el_pv (pv_fieldAddr rfl) (by decide) ?_
  refine el_pv (pv_loadc rfl ((hS.boxAt 3 rfl) 1 _ rfl)) (by decide) ?_
  obtain ⟨r119, hr119, hF⟩ := ob hF
  refine el_call goes48 (laws_toFactorNodeS_ok (hS.up ha1) hr119) (congrArg List.toArray (mapc rfl rfl)) (by decide) ?_
  rintro _ w122 ⟨v120, rfl, hS'⟩
  refine ⟨_, rfl, ?_⟩
  have hx123 := hS'.below
  have hS := hS.call1 hS'
  refine el_pv (pv_fieldAddr rfl) (by decide) ?_
  refine el_storev (hS.top 1 rfl) rfl [v120] (cells_of rfl (oc (hS.rdAt (R := (sliceR (pairR (sliceR intR 3) (sliceR intR 3)) 67)) 0 rfl))) rfl (of_decide_eq_true rfl) (all_cons (oc (hS.rdAt (R := (sliceR (pairR (sliceR intR 3) (sliceR intR 3)) 67)) 0 rfl)) rfl) ?_
  intro w124 hS
  replace hS : Sat w0 w124 (Box b110 30 [v114, v120] :: _) := hS
  refine el_nil ?_
  refine thn_n ?_
  refine cw_seq ?_
  refine cw_reg ?_
  refine el_pv (pv_loada (cs := [v114, v120]) rfl rfl (boxc0 (hS.boxAt 0 rfl))) (by decide) ?_
  refine el_storev (hS.top 3 rfl) rfl [v114, v120] rfl rfl (of_decide_eq_true rfl) (all_cons (oc (hS.rdAt (R := (sliceR intR 3)) 2 rfl)) (all_cons (oc (hS.rdAt (R := (sliceR (pairR (sliceR intR 3) (sliceR intR 3)) 67)) 1 rfl)) rfl)) ?_
  intro w125 hS
  replace hS : Sat w0 w125 (Box b106 30 [v114, v120] :: _) := hS
  refine el_nil ?_
  refine thn_n ?_
  refine cw_ret ?_
  obtain rfl := Option.some.inj hF
  refine finC (cs := [v114, v120]) rfl rfl rfl (boxc0 (hS.boxAt 0 rfl))  ?_
  have hS := hS.top 2 rfl
  have hS := hS.top 3 rfl
  exact ⟨_, _, rfl, hS.keep 2⟩
theorem impl_sameInts_ok {w0 : World} {u0 : Value} {a0 : List Int} {u1 : Value} {a1 : List Int} (ha0 : (sliceR intR 3).rd w0 [u0] a0) (ha1 : (sliceR intR 3).rd w0 [u1] a1) {N : Nat} {r : Bool} (hF : impl_sameInts N a0 a1 = some r) :
    Calls Try.prog 49 #[u0, u1] w0 fun e w' => e = .returned (.bool r) ∧ Ext w0 w' := by
  unfold impl_sameInts at hF
  refine calls_E Try.func49 rfl rfl (of_decide_eq_true rfl) ?_
  have hS := Sat.start w0
  refine cw_seq ?_
  refine cw_reg ?_
  refine el_pv (pv_assign rfl) (by decide) ?_
  refine el_nil ?_
  refine thn_n ?_
  refine cw_seq ?_
  refine cw_seq ?_
  refine cw_reg ?_
  refine el_pv (pv_move rfl) (by decide) ?_
  refine el_pv (pv_len rfl ha0) (by decide) ?_
  refine el_pv (pv_move rfl) (by decide) ?_
  refine el_pv (pv_len rfl ha1) (by decide) ?_
  refine el_pv (pv_neq rfl rfl) (by decide) ?_
  refine el_nil ?_
  refine thn_n ?_
  rcases oif hF with ⟨hb101, hF⟩ | ⟨hb101, hF⟩
  · refine cw_cond_t rfl hb101 ?_
    refine cw_seq ?_
    refine cw_reg ?_
    refine el_pv (pv_assign rfl) (by decide) ?_
    refine el_nil ?_
    refine thn_n ?_
    refine cw_ret ?_
    refine thn_r ?_
    obtain rfl := Option.some.inj hF
    refine fin1 rfl rfl ?_
    exact ⟨rfl, hS.below⟩
  · refine cw_cond_f rfl hb101 ?_
    refine cw_skip ?_
    refine thn_n ?_
    refine cw_seq ?_
    refine cw_seq ?_
    refine cw_reg ?_
    refine el_pv (pv_move rfl) (by decide) ?_
    refine el_pv (pv_len rfl ha0) (by decide) ?_
    refine el_pv (pv_move rfl) (by decide) ?_
    refine el_nil ?_
    refine thn_n ?_
    refine cw_block ?_
    obtain ⟨s102, hL, hK103⟩ := ob hF
    refine cw_loopS (fun k e w => ∃ (x104 : Int), e 0 = u0 ∧ e 1 = u1 ∧ e 12 = .int .i64 (a0.length : Int) ∧ e 13 = .int .i64 x104 ∧ Sat w0 w [] ∧ impl_sameInts_L1 N k a0 a1 (a0.length : Int) x104 = some s102) N ?_ ?_ ?_
    · exact ⟨0, rfl, rfl, rfl, rfl, hS, hL⟩
    · rintro e w ⟨_, _, _, _, _, _, hz⟩; exact nomatch (show none = some _ from hz)
    · rintro k e110 w109 ⟨x104, he105, he106, he107, he108, hS, hF⟩
      refine cw_seq ?_
      refine cw_reg ?_
      refine el_pv (pv_lss he108 he107) (by decide) ?_
      refine el_nil ?_
      refine thn_n ?_
      refine cw_seq ?_
      rcases oif hF with ⟨hb111, hF⟩ | ⟨hb111, hF⟩
      · refine cw_cond_t rfl hb111 ?_
        refine cw_skip ?_
        refine thn_n ?_
        refine cw_seq ?_
        refine cw_block ?_
        refine cw_seq ?_
        refine cw_reg ?_
        refine el_pv (pv_move he108) (by decide) ?_
        refine el_pv (pv_assign rfl) (by decide) ?_
        refine el_nil ?_
        refine thn_n ?_
        refine cw_seq ?_
        refine cw_regq (by kernel_rfl) (by kernel_rfl) ?_
        refine ql_pv (pv_move he105) (by decide) ?_
        refine ql_pv (pv_move rfl) (by decide) ?_
        obtain ⟨x112, hx112, hF⟩ := ob hF
        refine ql_index (wA := w0) rfl ha0 rfl (by decide) rfl hx112 (by decide) ?_
        intro b113 of114 c115 hr116 hm117
        obtain rfl := hr116
        refine ql_pv (pv_loadc rfl ((cells_up hS.below hm117) 0 _ rfl)) (by decide) ?_
        refine ql_pv (pv_move he106) (by decide) ?_
        refine ql_pv (pv_move rfl) (by decide) ?_
        obtain ⟨x118, hx118, hF⟩ := ob hF
        refine ql_index (wA := w0) rfl ha1 rfl (by decide) rfl hx118 (by decide) ?_
        intro b119 of120 c121 hr122 hm123
        obtain rfl := hr122
        refine ql_pv (pv_loadc rfl ((cells_up hS.below hm123) 0 _ rfl)) (by decide) ?_
        refine ql_pv (pv_neq rfl rfl) (by decide) ?_
        refine ql_nil ?_
        intro w124 hx125
        have hS := hS.ext hx125
        refine thn_n ?_
        rcases oif hF with ⟨hb126, hF⟩ | ⟨hb126, hF⟩
        · refine cw_cond_t rfl hb126 ?_
          refine cw_seq ?_
          refine cw_reg ?_
          refine el_pv (pv_assign rfl) (by decide) ?_
          refine el_nil ?_
          refine thn_n ?_
          refine cw_ret ?_
          refine inb_r ?_
          refine thn_r ?_
          refine thn_r ?_
          refine inb_r ?_
          refine thn_r ?_
          obtain rfl := Option.some.inj hF
          have hF := hK103
          obtain rfl := Option.some.inj hF
          refine fin1 rfl rfl ?_
          exact ⟨rfl, hS.below⟩
        · refine cw_cond_f rfl hb126 ?_
          refine cw_skip ?_
          refine inb_n ?_
          refine thn_n ?_
          refine cw_reg ?_
          obtain ⟨x127, hx127, hF⟩ := ob hF
          refine el_pv (pv_add he108 rfl hx127) (by decide) ?_
          refine el_pv (pv_move rfl) (by decide) ?_
          refine el_nil ?_
          refine thn_n ?_
          have hS := hS.keep 0
          exact ⟨x127, he105, he106, he107, rfl, hS, hF⟩
      · refine cw_cond_f rfl hb111 ?_
        refine cw_exit ?_
        refine thn_x ?_
        refine thn_x ?_
        obtain rfl := Option.some.inj hF
        have hF := hK103
        refine inb_s ?_
        refine thn_n ?_
        refine cw_seq ?_
        refine cw_reg ?_
        refine el_pv (pv_assign rfl) (by decide) ?_
        refine el_nil ?_
        refine thn_n ?_
        refine cw_ret ?_
        obtain rfl := Option.some.inj hF
        refine fin1 rfl rfl ?_
        exact ⟨rfl, hS.below⟩
theorem impl_sameNode_ok {w0 : World} {u0 : Value} {a0 : List Int} {u1 : Value} {a1 : List Int} {u2 : Value} {a2 : List Int} {u3 : Value} {a3 : List Int} (ha0 : (sliceR intR 3).rd w0 [u0] a0) (ha1 : (sliceR intR 3).rd w0 [u1] a1) (ha2 : (sliceR intR 3).rd w0 [u2] a2) (ha3 : (sliceR intR 3).rd w0 [u3] a3) {N : Nat} {r : Bool} (hF : impl_sameNode N a0 a1 a2 a3 = some r) :
    Calls Try.prog 50 #[.agg #[u0, u1], .agg #[u2, u3]] w0 fun e w' => e = .returned (.bool r) ∧ Ext w0 w' := by
  unfold impl_sameNode at hF
  refine calls_E Try.func50 rfl rfl (of_decide_eq_true rfl) ?_
  have hS := Sat.start w0
  refine cw_seq ?_
  refine cw_reg ?_
  refine el_box [u0, u1] rfl hS (by decide) ?_
  intro w101 b102 hS hx103
  refine el_box [u2, u3] rfl hS (by decide) ?_
  intro w105 b106 hS hx107
  refine el_pv (pv_assign rfl) (by decide) ?_
  refine el_nil ?_
  refine thn_n ?_
  refine cw_seq ?_
  refine cw_reg ?_
  refine el_pv (pv_fieldAddr rfl) (by decide) ?_
  refine el_pv (pv_loadc rfl ((hS.boxAt 1 rfl) 0 _ rfl)) (by decide) ?_
  refine el_pv (pv_fieldAddr rfl) (by decide) ?_
  refine el_pv (pv_loadc rfl ((hS.boxAt 0 rfl) 0 _ rfl)) (by decide) ?_
  obtain ⟨r109, hr109, hF⟩ := ob hF
  refine el_call goes49 (impl_sameInts_ok (hS.up ha0) (hS.up ha2) hr109) (congrArg List.toArray (mapc rfl (mapc rfl rfl))) (by decide) ?_
  rintro _ w110 ⟨rfl, hx111⟩
  refine ⟨_, rfl, ?_⟩
  have hS := hS.ext hx111
  refine el_pv (pv_move rfl) (by decide) ?_
  rcases oif hF with ⟨hb112, hF⟩ | ⟨hb112, hF⟩
  · refine el_on rfl hb112 ?_
    refine el_pv (pv_fieldAddr rfl) (by decide) ?_
    refine el_on rfl hb112 ?_
    refine el_pv (pv_loadc rfl ((hS.boxAt 1 rfl) 1 _ rfl)) (by decide) ?_
    refine el_on rfl hb112 ?_
    refine el_pv (pv_fieldAddr rfl) (by decide) ?_
    refine el_on rfl hb112 ?_
    refine el_pv (pv_loadc rfl ((hS.boxAt 0 rfl) 1 _ rfl)) (by decide) ?_
    refine el_on rfl hb112 ?_
    obtain ⟨r113, hr113, hF⟩ := ob hF
    refine el_call goes49 (impl_sameInts_ok (hS.up ha1) (hS.up ha3) hr113) (congrArg List.toArray (mapc rfl (mapc rfl rfl))) (by decide) ?_
    rintro _ w114 ⟨rfl, hx115⟩
    refine ⟨_, rfl, ?_⟩
    have hS := hS.ext hx115
    refine el_pv (pv_pick_t rfl hb112 rfl) (by decide) ?_
    refine el_pv (pv_assign rfl) (by decide) ?_
    refine el_nil ?_
    refine thn_n ?_
    refine cw_ret ?_
    obtain rfl := Option.some.inj hF
    refine fin1 rfl rfl ?_
    exact ⟨rfl, hS.below⟩
  · refine el_off rfl hb112 rfl (by decide) ?_
    refine el_off rfl hb112 rfl (by decide) ?_
    refine el_off rfl hb112 rfl (by decide) ?_
    refine el_off rfl hb112 rfl (by decide) ?_
    refine el_off rfl hb112 rfl (by decide) ?_
    refine el_pv (pv_pick_f rfl hb112 rfl) (by decide) ?_
    refine el_pv (pv_assign rfl) (by decide) ?_
    refine el_nil ?_
    refine thn_n ?_
    refine cw_ret ?_
    obtain rfl := Option.some.inj hF
    refine fin1 rfl rfl ?_
    exact ⟨rfl, hS.below⟩
end Go.Proofs.Ytobjjdfgnaanjaa
