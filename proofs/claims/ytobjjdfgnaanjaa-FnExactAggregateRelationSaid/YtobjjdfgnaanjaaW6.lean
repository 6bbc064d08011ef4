/- The walks through functions of the program: each hands back what it comes to. No condition but that it comes to something. -/
import Derived.Test.YtobjjdfgnaanjaaW5
import Derived.Test.YtobjjdfgnaanjaaW6D
namespace Go.Proofs.Ytobjjdfgnaanjaa
open Go.RowKit
set_option maxRecDepth 100000
theorem impl_SemiringMul_ok {w0 : World} {a0 : Int} {a1 : Int} {a2 : Int}  {N : Nat} {r : Int} (hF : impl_SemiringMul N a0 a1 a2 = some r) :
    Calls Try.prog 35 #[.int .i64 a0, .int .i64 a1, .int .i64 a2] w0 fun e w' => e = .returned (.int .i64 r) ∧ Ext w0 w' := by
  unfold impl_SemiringMul at hF
  refine calls_E Try.func35 rfl rfl (of_decide_eq_true rfl) ?_
  have hS := Sat.start w0
  refine cw_seq ?_
  refine cw_reg ?_
  refine el_pv (pv_assign rfl) (by decide) ?_
  refine el_nil ?_
  refine thn_n ?_
  refine cw_seq ?_
  refine cw_reg ?_
  refine el_pv (pv_move rfl) (by decide) ?_
  obtain ⟨r101, hr101, hF⟩ := ob hF
  refine el_call goes76 (impl_clip_ok hr101) (congrArg List.toArray (mapc rfl rfl)) (by decide) ?_
  rintro _ w102 ⟨rfl, hx103⟩
  refine ⟨_, rfl, ?_⟩
  have hS := hS.ext hx103
  refine el_pv (pv_move rfl) (by decide) ?_
  obtain ⟨r104, hr104, hF⟩ := ob hF
  refine el_call goes76 (impl_clip_ok hr104) (congrArg List.toArray (mapc rfl rfl)) (by decide) ?_
  rintro _ w105 ⟨rfl, hx106⟩
  refine ⟨_, rfl, ?_⟩
  have hS := hS.ext hx106
  refine el_pv (pv_assign rfl) (by decide) ?_
  refine el_pv (pv_assign rfl) (by decide) ?_
  refine el_nil ?_
  refine thn_n ?_
  refine cw_seq ?_
  refine cw_seq ?_
  refine cw_reg ?_
  refine el_pv (pv_move rfl) (by decide) ?_
  refine el_nil ?_
  refine thn_n ?_
  refine cw_block ?_
  refine cw_seq ?_
  refine cw_seq ?_
  refine cw_reg ?_
  refine el_pv (pv_eql rfl rfl) (by decide) ?_
  refine el_pv (pv_assign rfl) (by decide) ?_
  refine el_nil ?_
  refine thn_n ?_
  rcases oif hF with ⟨hb107, hF⟩ | ⟨hb107, hF⟩
  · refine cw_cond_t rfl hb107 ?_
    refine cw_skip ?_
    refine thn_n ?_
    refine cw_cond_t rfl hb107 ?_
    refine cw_seq ?_
    refine cw_reg ?_
    refine el_pv (pv_move rfl) (by decide) ?_
    refine el_pv (pv_move rfl) (by decide) ?_
    obtain ⟨x108, hx108, hF⟩ := ob hF
    refine el_pv (pv_mul rfl rfl hx108) (by decide) ?_
    obtain ⟨r109, hr109, hF⟩ := ob hF
    refine el_call goes76 (impl_clip_ok hr109) (congrArg List.toArray (mapc rfl rfl)) (by decide) ?_
    rintro _ w110 ⟨rfl, hx111⟩
    refine ⟨_, rfl, ?_⟩
    have hS := hS.ext hx111
    refine el_pv (pv_assign rfl) (by decide) ?_
    refine el_nil ?_
    refine thn_n ?_
    refine cw_ret ?_
    refine inb_r ?_
    refine thn_r ?_
    obtain rfl := Option.some.inj hF
    refine fin1 rfl rfl ?_
    exact ⟨rfl, hS.below⟩
  · refine cw_cond_f rfl hb107 ?_
    refine cw_reg ?_
    refine el_pv (pv_eql rfl rfl) (by decide) ?_
    refine el_pv (pv_assign rfl) (by decide) ?_
    refine el_nil ?_
    refine thn_n ?_
    rcases oif hF with ⟨hb112, hF⟩ | ⟨hb112, hF⟩
    · refine cw_cond_t rfl hb112 ?_
      refine cw_seq ?_
      refine cw_reg ?_
      refine el_pv (pv_move rfl) (by decide) ?_
      refine el_pv (pv_move rfl) (by decide) ?_
      obtain ⟨x113, hx113, hF⟩ := ob hF
      refine el_pv (pv_mul rfl rfl hx113) (by decide) ?_
      obtain ⟨r114, hr114, hF⟩ := ob hF
      refine el_call goes76 (impl_clip_ok hr114) (congrArg List.toArray (mapc rfl rfl)) (by decide) ?_
      rintro _ w115 ⟨rfl, hx116⟩
      refine ⟨_, rfl, ?_⟩
      have hS := hS.ext hx116
      refine el_pv (pv_assign rfl) (by decide) ?_
      refine el_nil ?_
      refine thn_n ?_
      refine cw_ret ?_
      refine inb_r ?_
      refine thn_r ?_
      obtain rfl := Option.some.inj hF
      refine fin1 rfl rfl ?_
      exact ⟨rfl, hS.below⟩
    · refine cw_cond_f rfl hb112 ?_
      refine cw_seq ?_
      refine cw_reg ?_
      refine el_pv (pv_eql rfl rfl) (by decide) ?_
      refine el_pv (pv_assign rfl) (by decide) ?_
      refine el_nil ?_
      refine thn_n ?_
      rcases oif hF with ⟨hb117, hF⟩ | ⟨hb117, hF⟩
      · refine cw_cond_t rfl hb117 ?_
        refine cw_seq ?_
        refine cw_reg ?_
        refine el_pv (pv_move rfl) (by decide) ?_
        refine el_pv (pv_move rfl) (by decide) ?_
        obtain ⟨x118, hx118, hF⟩ := ob hF
        refine el_pv (pv_add rfl rfl hx118) (by decide) ?_
        obtain ⟨r119, hr119, hF⟩ := ob hF
        refine el_call goes76 (impl_clip_ok hr119) (congrArg List.toArray (mapc rfl rfl)) (by decide) ?_
        rintro _ w120 ⟨rfl, hx121⟩
        refine ⟨_, rfl, ?_⟩
        have hS := hS.ext hx121
        refine el_pv (pv_assign rfl) (by decide) ?_
        refine el_nil ?_
        refine thn_n ?_
        refine cw_ret ?_
        refine inb_r ?_
        refine thn_r ?_
        obtain rfl := Option.some.inj hF
        refine fin1 rfl rfl ?_
        exact ⟨rfl, hS.below⟩
      · refine cw_cond_f rfl hb117 ?_
        refine cw_seq ?_
        refine cw_reg ?_
        refine el_pv (pv_eql rfl rfl) (by decide) ?_
        refine el_pv (pv_assign rfl) (by decide) ?_
        refine el_nil ?_
        refine thn_n ?_
        rcases oif hF with ⟨hb122, hF⟩ | ⟨hb122, hF⟩
        · refine cw_cond_t rfl hb122 ?_
          refine cw_seq ?_
          refine cw_reg ?_
          refine el_pv (pv_move rfl) (by decide) ?_
          refine el_pv (pv_gtr rfl rfl) (by decide) ?_
          refine el_pv (pv_move rfl) (by decide) ?_
          rcases oif hF with ⟨hb123, hF⟩ | ⟨hb123, hF⟩
          · refine el_on rfl hb123 ?_
            refine el_pv (pv_move rfl) (by decide) ?_
            refine el_on rfl hb123 ?_
            refine el_pv (pv_gtr rfl rfl) (by decide) ?_
            refine el_pv (pv_pick_t rfl hb123 rfl) (by decide) ?_
            obtain ⟨r124, hr124, hF⟩ := ob hF
            refine el_call goes77 (impl_bit_ok hr124) (congrArg List.toArray (mapc rfl rfl)) (by decide) ?_
            rintro _ w125 ⟨rfl, hx126⟩
            refine ⟨_, rfl, ?_⟩
            have hS := hS.ext hx126
            refine el_pv (pv_assign rfl) (by decide) ?_
            refine el_nil ?_
            refine thn_n ?_
            refine cw_ret ?_
            refine inb_r ?_
            refine thn_r ?_
            obtain rfl := Option.some.inj hF
            refine fin1 rfl rfl ?_
            exact ⟨rfl, hS.below⟩
          · refine el_off rfl hb123 rfl (by decide) ?_
            refine el_off rfl hb123 rfl (by decide) ?_
            refine el_pv (pv_pick_f rfl hb123 rfl) (by decide) ?_
            obtain ⟨r127, hr127, hF⟩ := ob hF
            refine el_call goes77 (impl_bit_ok hr127) (congrArg List.toArray (mapc rfl rfl)) (by decide) ?_
            rintro _ w128 ⟨rfl, hx129⟩
            refine ⟨_, rfl, ?_⟩
            have hS := hS.ext hx129
            refine el_pv (pv_assign rfl) (by decide) ?_
            refine el_nil ?_
            refine thn_n ?_
            refine cw_ret ?_
            refine inb_r ?_
            refine thn_r ?_
            obtain rfl := Option.some.inj hF
            refine fin1 rfl rfl ?_
            exact ⟨rfl, hS.below⟩
        · refine cw_cond_f rfl hb122 ?_
          refine cw_skip ?_
          refine inb_n ?_
          refine thn_n ?_
          refine cw_seq ?_
          refine cw_reg ?_
          refine el_pv (pv_assign rfl) (by decide) ?_
          refine el_nil ?_
          refine thn_n ?_
          refine cw_ret ?_
          obtain rfl := Option.some.inj hF
          refine fin1 rfl rfl ?_
          exact ⟨rfl, hS.below⟩
theorem impl_IsValidSemiring_ok {w0 : World} {a0 : Int}  {N : Nat} {r : Bool} (hF : impl_IsValidSemiring N a0 = some r) :
    Calls Try.prog 38 #[.int .i64 a0] w0 fun e w' => e = .returned (.bool r) ∧ Ext w0 w' := by
  unfold impl_IsValidSemiring at hF
  refine calls_E Try.func38 rfl rfl (of_decide_eq_true rfl) ?_
  have hS := Sat.start w0
  refine cw_seq ?_
  refine cw_reg ?_
  refine el_pv (pv_assign rfl) (by decide) ?_
  refine el_nil ?_
  refine thn_n ?_
  refine cw_seq ?_
  refine cw_reg ?_
  refine el_pv (pv_move rfl) (by decide) ?_
  obtain ⟨r101, hr101, hF⟩ := ob hF
  refine el_call goes64 (impl_within_ok hr101) (congrArg List.toArray (mapc rfl (mapc rfl (mapc rfl rfl)))) (by decide) ?_
  rintro _ w102 ⟨rfl, hx103⟩
  refine ⟨_, rfl, ?_⟩
  have hS := hS.ext hx103
  refine el_pv (pv_assign rfl) (by decide) ?_
  refine el_nil ?_
  refine thn_n ?_
  refine cw_ret ?_
  obtain rfl := Option.some.inj hF
  refine fin1 rfl rfl ?_
  exact ⟨rfl, hS.below⟩
theorem impl_SemiringZero_ok {w0 : World} {a0 : Int}  {N : Nat} {r : Int} (hF : impl_SemiringZero N a0 = some r) :
    Calls Try.prog 40 #[.int .i64 a0] w0 fun e w' => e = .returned (.int .i64 r) ∧ Ext w0 w' := by
  unfold impl_SemiringZero at hF
  refine calls_E Try.func40 rfl rfl (of_decide_eq_true rfl) ?_
  have hS := Sat.start w0
  refine cw_seq ?_
  refine cw_reg ?_
  refine el_pv (pv_assign rfl) (by decide) ?_
  refine el_nil ?_
  refine thn_n ?_
  refine cw_seq ?_
  refine cw_seq ?_
  refine cw_reg ?_
  refine el_pv (pv_move rfl) (by decide) ?_
  refine el_pv (pv_eql rfl rfl) (by decide) ?_
  refine el_nil ?_
  refine thn_n ?_
  rcases oif hF with ⟨hb101, hF⟩ | ⟨hb101, hF⟩
  · refine cw_cond_t rfl hb101 ?_
    refine cw_seq ?_
    refine cw_reg ?_
    refine el_pv (pv_assign rfl) (by decide) ?_
    refine el_nil ?_
    refine thn_n ?_
    refine cw_ret ?_
    refine thn_r ?_
    obtain rfl := Option.some.inj hF
    refine fin1 rfl rfl ?_
    exact ⟨rfl, hS.below⟩
  · refine cw_cond_f rfl hb101 ?_
    refine cw_skip ?_
    refine thn_n ?_
    refine cw_seq ?_
    refine cw_reg ?_
    refine el_pv (pv_assign rfl) (by decide) ?_
    refine el_nil ?_
    refine thn_n ?_
    refine cw_ret ?_
    obtain rfl := Option.some.inj hF
    refine fin1 rfl rfl ?_
    exact ⟨rfl, hS.below⟩
theorem impl_SemiringOne_ok {w0 : World} {a0 : Int}  {N : Nat} {r : Int} (hF : impl_SemiringOne N a0 = some r) :
    Calls Try.prog 41 #[.int .i64 a0] w0 fun e w' => e = .returned (.int .i64 r) ∧ Ext w0 w' := by
  unfold impl_SemiringOne at hF
  refine calls_E Try.func41 rfl rfl (of_decide_eq_true rfl) ?_
  have hS := Sat.start w0
  refine cw_seq ?_
  refine cw_reg ?_
  refine el_pv (pv_assign rfl) (by decide) ?_
  refine el_nil ?_
  refine thn_n ?_
  refine cw_seq ?_
  refine cw_seq ?_
  refine cw_reg ?_
  refine el_pv (pv_move rfl) (by decide) ?_
  refine el_pv (pv_eql rfl rfl) (by decide) ?_
  refine el_pv (pv_move rfl) (by decide) ?_
  rcases oif hF with ⟨hb101, hF⟩ | ⟨hb101, hF⟩
  · refine el_off rfl hb101 rfl (by decide) ?_
    refine el_off rfl hb101 rfl (by decide) ?_
    refine el_pv (pv_pick_t rfl hb101 rfl) (by decide) ?_
    refine el_pv (pv_move rfl) (by decide) ?_
    refine el_off rfl rfl rfl (by decide) ?_
    refine el_off rfl rfl rfl (by decide) ?_
    refine el_pv (pv_pick_t rfl rfl rfl) (by decide) ?_
    refine el_nil ?_
    refine thn_n ?_
    refine cw_cond_t rfl rfl ?_
    refine cw_seq ?_
    refine cw_reg ?_
    refine el_pv (pv_assign rfl) (by decide) ?_
    refine el_nil ?_
    refine thn_n ?_
    refine cw_ret ?_
    refine thn_r ?_
    obtain rfl := Option.some.inj hF
    refine fin1 rfl rfl ?_
    exact ⟨rfl, hS.below⟩
  · refine el_on rfl hb101 ?_
    refine el_pv (pv_move rfl) (by decide) ?_
    refine el_on rfl hb101 ?_
    refine el_pv (pv_eql rfl rfl) (by decide) ?_
    refine el_pv (pv_pick_f rfl hb101 rfl) (by decide) ?_
    refine el_pv (pv_move rfl) (by decide) ?_
    rcases oif hF with ⟨hb102, hF⟩ | ⟨hb102, hF⟩
    · refine el_off rfl hb102 rfl (by decide) ?_
      refine el_off rfl hb102 rfl (by decide) ?_
      refine el_pv (pv_pick_t rfl hb102 rfl) (by decide) ?_
      refine el_nil ?_
      refine thn_n ?_
      refine cw_cond_t rfl rfl ?_
      refine cw_seq ?_
      refine cw_reg ?_
      refine el_pv (pv_assign rfl) (by decide) ?_
      refine el_nil ?_
      refine thn_n ?_
      refine cw_ret ?_
      refine thn_r ?_
      obtain rfl := Option.some.inj hF
      refine fin1 rfl rfl ?_
      exact ⟨rfl, hS.below⟩
    · refine el_on rfl hb102 ?_
      refine el_pv (pv_move rfl) (by decide) ?_
      refine el_on rfl hb102 ?_
      refine el_pv (pv_eql rfl rfl) (by decide) ?_
      refine el_pv (pv_pick_f rfl hb102 rfl) (by decide) ?_
      refine el_nil ?_
      refine thn_n ?_
      rcases oif hF with ⟨hb103, hF⟩ | ⟨hb103, hF⟩
      · refine cw_cond_t rfl hb103 ?_
        refine cw_seq ?_
        refine cw_reg ?_
        refine el_pv (pv_assign rfl) (by decide) ?_
        refine el_nil ?_
        refine thn_n ?_
        refine cw_ret ?_
        refine thn_r ?_
        obtain rfl := Option.some.inj hF
        refine fin1 rfl rfl ?_
        exact ⟨rfl, hS.below⟩
      · refine cw_cond_f rfl hb103 ?_
        refine cw_skip ?_
        refine thn_n ?_
        refine cw_seq ?_
        refine cw_reg ?_
        refine el_pv (pv_assign rfl) (by decide) ?_
        refine el_nil ?_
        refine thn_n ?_
        refine cw_ret ?_
        obtain rfl := Option.some.inj hF
        refine fin1 rfl rfl ?_
        exact ⟨rfl, hS.below⟩
theorem impl_compareInts_ok {w0 : World} {a0 : Int} {a1 : Int}  {N : Nat} {r : Int} (hF : impl_compareInts N a0 a1 = some r) :
    Calls Try.prog 100 #[.int .i64 a0, .int .i64 a1] w0 fun e w' => e = .returned (.int .i64 r) ∧ Ext w0 w' := by
  unfold impl_compareInts at hF
  refine calls_E Try.func100 rfl rfl (of_decide_eq_true rfl) ?_
  have hS := Sat.start w0
  refine cw_seq ?_
  refine cw_reg ?_
  refine el_pv (pv_assign rfl) (by decide) ?_
  refine el_nil ?_
  refine thn_n ?_
  refine cw_seq ?_
  refine cw_block ?_
  refine cw_seq ?_
  refine cw_reg ?_
  refine el_pv (pv_move rfl) (by decide) ?_
  refine el_pv (pv_move rfl) (by decide) ?_
  refine el_pv (pv_lss rfl rfl) (by decide) ?_
  refine el_pv (pv_assign rfl) (by decide) ?_
  refine el_nil ?_
  refine thn_n ?_
  rcases oif hF with ⟨hb101, hF⟩ | ⟨hb101, hF⟩
  · refine cw_cond_t rfl hb101 ?_
    refine cw_seq ?_
    refine cw_reg ?_
    refine el_pv (pv_assign rfl) (by decide) ?_
    refine el_nil ?_
    refine thn_n ?_
    refine cw_ret ?_
    refine inb_r ?_
    refine thn_r ?_
    obtain rfl := Option.some.inj hF
    refine fin1 rfl rfl ?_
    exact ⟨rfl, hS.below⟩
  · refine cw_cond_f rfl hb101 ?_
    refine cw_seq ?_
    refine cw_reg ?_
    refine el_pv (pv_move rfl) (by decide) ?_
    refine el_pv (pv_move rfl) (by decide) ?_
    refine el_pv (pv_gtr rfl rfl) (by decide) ?_
    refine el_pv (pv_assign rfl) (by decide) ?_
    refine el_nil ?_
    refine thn_n ?_
    rcases oif hF with ⟨hb102, hF⟩ | ⟨hb102, hF⟩
    · refine cw_cond_t rfl hb102 ?_
      refine cw_seq ?_
      refine cw_reg ?_
      refine el_pv (pv_assign rfl) (by decide) ?_
      refine el_nil ?_
      refine thn_n ?_
      refine cw_ret ?_
      refine inb_r ?_
      refine thn_r ?_
      obtain rfl := Option.some.inj hF
      refine fin1 rfl rfl ?_
      exact ⟨rfl, hS.below⟩
    · refine cw_cond_f rfl hb102 ?_
      refine cw_skip ?_
      refine inb_n ?_
      refine thn_n ?_
      refine cw_seq ?_
      refine cw_reg ?_
      refine el_pv (pv_assign rfl) (by decide) ?_
      refine el_nil ?_
      refine thn_n ?_
      refine cw_ret ?_
      obtain rfl := Option.some.inj hF
      refine fin1 rfl rfl ?_
      exact ⟨rfl, hS.below⟩
theorem impl_CompareRows_ok {w0 : World} {u0 : Value} {a0 : List Int} {u1 : Value} {a1 : List Int} (ha0 : (sliceR intR 3).rd w0 [u0] a0) (ha1 : (sliceR intR 3).rd w0 [u1] a1) {N : Nat} {r : Int} (hF : impl_CompareRows N a0 a1 = some r) :
    Calls Try.prog 97 #[u0, u1] w0 fun e w' => e = .returned (.int .i64 r) ∧ Ext w0 w' := by
  unfold impl_CompareRows at hF
  refine calls_E Try.func97 rfl rfl (of_decide_eq_true rfl) ?_
  have hS := Sat.start w0
  refine cw_seq ?_
  refine cw_reg ?_
  refine el_pv (pv_assign rfl) (by decide) ?_
  refine el_nil ?_
  refine thn_n ?_
  refine cw_seq ?_
  refine cw_seq ?_
  refine cw_reg ?_
  refine el_pv (pv_assign rfl) (by decide) ?_
  refine el_nil ?_
  refine thn_n ?_
  refine cw_block ?_
  obtain ⟨s101, hL, hK102⟩ := ob hF
  refine cw_loopS (fun k e w => ∃ (x103 : Int), e 0 = u0 ∧ e 1 = u1 ∧ e 5 = .int .i64 x103 ∧ Sat w0 w [] ∧ impl_CompareRows_L1 N k a0 a1 x103 = some s101) N ?_ ?_ ?_
  · exact ⟨0, rfl, rfl, rfl, hS, hL⟩
  · rintro e w ⟨_, _, _, _, _, hz⟩; exact nomatch (show none = some _ from hz)
  · rintro k e108 w107 ⟨x103, he104, he105, he106, hS, hF⟩
    refine cw_seq ?_
    refine cw_seq ?_
    refine cw_reg ?_
    refine el_pv (pv_move he106) (by decide) ?_
    refine el_pv (pv_move he104) (by decide) ?_
    refine el_pv (pv_len rfl ha0) (by decide) ?_
    refine el_pv (pv_lss rfl rfl) (by decide) ?_
    refine el_pv (pv_move rfl) (by decide) ?_
    rcases oif hF with ⟨hb109, hF⟩ | ⟨hb109, hF⟩
    · refine el_on rfl hb109 ?_
      refine el_pv (pv_move he106) (by decide) ?_
      refine el_on rfl hb109 ?_
      refine el_pv (pv_move he105) (by decide) ?_
      refine el_on rfl hb109 ?_
      refine el_pv (pv_len rfl ha1) (by decide) ?_
      refine el_on rfl hb109 ?_
      refine el_pv (pv_lss rfl rfl) (by decide) ?_
      refine el_pv (pv_pick_t rfl hb109 rfl) (by decide) ?_
      refine el_nil ?_
      refine thn_n ?_
      rcases oif hF with ⟨hb110, hF⟩ | ⟨hb110, hF⟩
      · refine cw_cond_t rfl hb110 ?_
        refine cw_skip ?_
        refine thn_n ?_
        refine cw_seq ?_
        refine cw_block ?_
        refine cw_seq ?_
        refine cw_regq (by kernel_rfl) (by kernel_rfl) ?_
        refine ql_pv (pv_move he104) (by decide) ?_
        refine ql_pv (pv_move he106) (by decide) ?_
        obtain ⟨x111, hx111, hF⟩ := ob hF
        refine ql_index (wA := w0) rfl ha0 rfl (by decide) rfl hx111 (by decide) ?_
        intro b112 of113 c114 hr115 hm116
        obtain rfl := hr115
        refine ql_pv (pv_loadc rfl ((cells_up hS.below hm116) 0 _ rfl)) (by decide) ?_
        refine ql_pv (pv_move he105) (by decide) ?_
        refine ql_pv (pv_move he106) (by decide) ?_
        obtain ⟨x117, hx117, hF⟩ := ob hF
        refine ql_index (wA := w0) rfl ha1 rfl (by decide) rfl hx117 (by decide) ?_
        intro b118 of119 c120 hr121 hm122
        obtain rfl := hr121
        refine ql_pv (pv_loadc rfl ((cells_up hS.below hm122) 0 _ rfl)) (by decide) ?_
        refine ql_pv (pv_neq rfl rfl) (by decide) ?_
        refine ql_nil ?_
        intro w123 hx124
        have hS := hS.ext hx124
        refine thn_n ?_
        rcases oif hF with ⟨hb125, hF⟩ | ⟨hb125, hF⟩
        · refine cw_cond_t rfl hb125 ?_
          refine cw_seq ?_
          refine cw_regq (by kernel_rfl) (by kernel_rfl) ?_
          refine ql_pv (pv_move he104) (by decide) ?_
          refine ql_pv (pv_move he106) (by decide) ?_
          obtain ⟨x126, hx126, hF⟩ := ob hF
          refine ql_index (wA := w0) rfl ha0 rfl (by decide) rfl hx126 (by decide) ?_
          intro b127 of128 c129 hr130 hm131
          obtain rfl := hr130
          refine ql_pv (pv_loadc rfl ((cells_up hS.below hm131) 0 _ rfl)) (by decide) ?_
          refine ql_pv (pv_move he105) (by decide) ?_
          refine ql_pv (pv_move he106) (by decide) ?_
          obtain ⟨x132, hx132, hF⟩ := ob hF
          refine ql_index (wA := w0) rfl ha1 rfl (by decide) rfl hx132 (by decide) ?_
          intro b133 of134 c135 hr136 hm137
          obtain rfl := hr136
          refine ql_pv (pv_loadc rfl ((cells_up hS.below hm137) 0 _ rfl)) (by decide) ?_
          obtain ⟨r138, hr138, hF⟩ := ob hF
          refine ql_call (.int .i64 r138) goes100 (fun w' hw' => impl_compareInts_ok hr138) (congrArg List.toArray (mapc rfl (mapc rfl rfl))) (by decide) ?_
          refine ql_pv (pv_assign rfl) (by decide) ?_
          refine ql_nil ?_
          intro w139 hx140
          have hS := hS.ext hx140
          refine thn_n ?_
          refine cw_ret ?_
          refine inb_r ?_
          refine thn_r ?_
          refine thn_r ?_
          refine inb_r ?_
          refine thn_r ?_
          obtain rfl := Option.some.inj hF
          have hF := hK102
          obtain rfl := Option.some.inj hF
          refine fin1 rfl rfl ?_
          exact ⟨rfl, hS.below⟩
        · refine cw_cond_f rfl hb125 ?_
          refine cw_skip ?_
          refine inb_n ?_
          refine thn_n ?_
          refine cw_reg ?_
          refine el_pv (pv_move he106) (by decide) ?_
          obtain ⟨x141, hx141, hF⟩ := ob hF
          refine el_pv (pv_add rfl rfl hx141) (by decide) ?_
          refine el_pv (pv_assign rfl) (by decide) ?_
          refine el_nil ?_
          refine thn_n ?_
          have hS := hS.keep 0
          exact ⟨x141, he104, he105, rfl, hS, hF⟩
      · refine cw_cond_f rfl hb110 ?_
        refine cw_exit ?_
        refine thn_x ?_
        refine thn_x ?_
        obtain rfl := Option.some.inj hF
        have hF := hK102
        refine inb_s ?_
        refine thn_n ?_
        refine cw_seq ?_
        refine cw_reg ?_
        refine el_pv (pv_move he104) (by decide) ?_
        refine el_pv (pv_len rfl ha0) (by decide) ?_
        refine el_pv (pv_move he105) (by decide) ?_
        refine el_pv (pv_len rfl ha1) (by decide) ?_
        obtain ⟨r142, hr142, hF⟩ := ob hF
        refine el_call goes100 (impl_compareInts_ok hr142) (congrArg List.toArray (mapc rfl (mapc rfl rfl))) (by decide) ?_
        rintro _ w143 ⟨rfl, hx144⟩
        refine ⟨_, rfl, ?_⟩
        have hS := hS.ext hx144
        refine el_pv (pv_assign rfl) (by decide) ?_
        refine el_nil ?_
        refine thn_n ?_
        refine cw_ret ?_
        obtain rfl := Option.some.inj hF
        refine fin1 rfl rfl ?_
        exact ⟨rfl, hS.below⟩
    · refine el_off rfl hb109 rfl (by decide) ?_
      refine el_off rfl hb109 rfl (by decide) ?_
      refine el_off rfl hb109 rfl (by decide) ?_
      refine el_off rfl hb109 rfl (by decide) ?_
      refine el_pv (pv_pick_f rfl hb109 rfl) (by decide) ?_
      refine el_nil ?_
      refine thn_n ?_
      refine cw_cond_f rfl rfl ?_
      refine cw_exit ?_
      refine thn_x ?_
      refine thn_x ?_
      obtain rfl := Option.some.inj hF
      have hF := hK102
      refine inb_s ?_
      refine thn_n ?_
      refine cw_seq ?_
      refine cw_reg ?_
      refine el_pv (pv_move he104) (by decide) ?_
      refine el_pv (pv_len rfl ha0) (by decide) ?_
      refine el_pv (pv_move he105) (by decide) ?_
      refine el_pv (pv_len rfl ha1) (by decide) ?_
      obtain ⟨r145, hr145, hF⟩ := ob hF
      refine el_call goes100 (impl_compareInts_ok hr145) (congrArg List.toArray (mapc rfl (mapc rfl rfl))) (by decide) ?_
      rintro _ w146 ⟨rfl, hx147⟩
      refine ⟨_, rfl, ?_⟩
      have hS := hS.ext hx147
      refine el_pv (pv_assign rfl) (by decide) ?_
      refine el_nil ?_
      refine thn_n ?_
      refine cw_ret ?_
      obtain rfl := Option.some.inj hF
      refine fin1 rfl rfl ?_
      exact ⟨rfl, hS.below⟩
theorem impl_rowsValid_ok {w0 : World} {a0 : Int} {u1 : Value} {a1 : List (List Int)} (ha1 : (sliceR (sliceR intR 3) 22).rd w0 [u1] a1) {N : Nat} {r : Bool} (hF : impl_rowsValid N a0 a1 = some r) :
    Calls Try.prog 91 #[.int .i64 a0, u1] w0 fun e w' => e = .returned (.bool r) ∧ Ext w0 w' := by
  unfold impl_rowsValid at hF
  refine calls_E Try.func91 rfl rfl (of_decide_eq_true rfl) ?_
  have hS := Sat.start w0
  refine cw_seq ?_
  refine cw_reg ?_
  refine el_pv (pv_assign rfl) (by decide) ?_
  refine el_nil ?_
  refine thn_n ?_
  refine cw_seq ?_
  refine cw_seq ?_
  refine cw_reg ?_
  refine el_pv (pv_move rfl) (by decide) ?_
  obtain ⟨r101, hr101, hF⟩ := ob hF
  refine el_call goes64 (impl_within_ok hr101) (congrArg List.toArray (mapc rfl (mapc rfl (mapc rfl rfl)))) (by decide) ?_
  rintro _ w102 ⟨rfl, hx103⟩
  refine ⟨_, rfl, ?_⟩
  have hS := hS.ext hx103
  refine el_pv (pv_not rfl) (by decide) ?_
  refine el_pv (pv_move rfl) (by decide) ?_
  rcases oif hF with ⟨hb104, hF⟩ | ⟨hb104, hF⟩
  · refine el_on rfl (bnot_t hb104) ?_
    refine el_pv (pv_move rfl) (by decide) ?_
    refine el_on rfl (bnot_t hb104) ?_
    refine el_pv (pv_len rfl ha1) (by decide) ?_
    refine el_on rfl (bnot_t hb104) ?_
    refine el_pv (pv_gtr rfl rfl) (by decide) ?_
    refine el_pv (pv_pick_f rfl (bnot_t hb104) rfl) (by decide) ?_
    refine el_nil ?_
    refine thn_n ?_
    rcases oif hF with ⟨hb105, hF⟩ | ⟨hb105, hF⟩
    · refine cw_cond_t rfl hb105 ?_
      refine cw_seq ?_
      refine cw_reg ?_
      refine el_pv (pv_assign rfl) (by decide) ?_
      refine el_nil ?_
      refine thn_n ?_
      refine cw_ret ?_
      refine thn_r ?_
      obtain rfl := Option.some.inj hF
      refine fin1 rfl rfl ?_
      exact ⟨rfl, hS.below⟩
    · refine cw_cond_f rfl hb105 ?_
      refine cw_skip ?_
      refine thn_n ?_
      refine cw_seq ?_
      refine cw_seq ?_
      refine cw_reg ?_
      refine el_pv (pv_move rfl) (by decide) ?_
      refine el_pv (pv_len rfl ha1) (by decide) ?_
      refine el_pv (pv_move rfl) (by decide) ?_
      refine el_nil ?_
      refine thn_n ?_
      refine cw_block ?_
      obtain ⟨s106, hL, hK107⟩ := ob hF
      refine cw_loopS (fun k e w => ∃ (x108 : Int), e 0 = .int .i64 a0 ∧ e 1 = u1 ∧ e 15 = u1 ∧ e 16 = .int .i64 (a1.length : Int) ∧ e 17 = .int .i64 x108 ∧ Sat w0 w [] ∧ impl_rowsValid_L1 N k a0 a1 a1 (a1.length : Int) x108 = some s106) N ?_ ?_ ?_
      · exact ⟨0, rfl, rfl, rfl, rfl, rfl, hS, hL⟩
      · rintro e w ⟨_, _, _, _, _, _, _, hz⟩; exact nomatch (show none = some _ from hz)
      · rintro k e115 w114 ⟨x108, he109, he110, he111, he112, he113, hS, hF⟩
        refine cw_seq ?_
        refine cw_reg ?_
        refine el_pv (pv_lss he113 he112) (by decide) ?_
        refine el_nil ?_
        refine thn_n ?_
        refine cw_seq ?_
        rcases oif hF with ⟨hb116, hF⟩ | ⟨hb116, hF⟩
        · refine cw_cond_t rfl hb116 ?_
          refine cw_skip ?_
          refine thn_n ?_
          refine cw_seq ?_
          refine cw_block ?_
          refine cw_seq ?_
          refine cw_reg ?_
          refine el_pv (pv_move he113) (by decide) ?_
          obtain ⟨x117, hx117, hF⟩ := ob hF
          refine el_index (wA := w0) he111 ha1 rfl (by decide) he113 hx117 (by decide) ?_
          intro b118 of119 c120 hr121 hm122
          obtain ⟨v123, rfl⟩ := slice_one hr121
          refine el_pv (pv_loadc rfl ((cells_up hS.below hm122) 0 _ rfl)) (by decide) ?_
          refine el_pv (pv_assign rfl) (by decide) ?_
          refine el_pv (pv_assign rfl) (by decide) ?_
          refine el_nil ?_
          refine thn_n ?_
          refine cw_seq ?_
          refine cw_reg ?_
          refine el_pv (pv_move rfl) (by decide) ?_
          refine el_pv (pv_len rfl hr121) (by decide) ?_
          refine el_pv (pv_move he109) (by decide) ?_
          refine el_pv (pv_neq rfl rfl) (by decide) ?_
          refine el_pv (pv_move rfl) (by decide) ?_
          rcases oif hF with ⟨hb124, hF⟩ | ⟨hb124, hF⟩
          · refine el_off rfl hb124 rfl (by decide) ?_
            refine el_off rfl hb124 rfl (by decide) ?_
            refine el_off rfl hb124 rfl (by decide) ?_
            refine el_pv (pv_pick_t rfl hb124 rfl) (by decide) ?_
            refine el_pv (pv_move rfl) (by decide) ?_
            refine el_off rfl rfl rfl (by decide) ?_
            refine el_off rfl rfl rfl (by decide) ?_
            refine el_off rfl rfl rfl (by decide) ?_
            refine el_offu rfl (by decide) ?_
            refine el_offu rfl (by decide) ?_
            refine el_offu rfl (by decide) ?_
            refine el_offu rfl (by decide) ?_
            refine el_offu rfl (by decide) ?_
            refine el_offu rfl (by decide) ?_
            refine el_offu rfl (by decide) ?_
            refine el_offu rfl (by decide) ?_
            refine el_off rfl rfl rfl (by decide) ?_
            refine el_pv (pv_pick_t rfl rfl rfl) (by decide) ?_
            refine el_nil ?_
            refine thn_n ?_
            refine cw_cond_t rfl rfl ?_
            refine cw_seq ?_
            refine cw_reg ?_
            refine el_pv (pv_assign rfl) (by decide) ?_
            refine el_nil ?_
            refine thn_n ?_
            refine cw_ret ?_
            refine inb_r ?_
            refine thn_r ?_
            refine thn_r ?_
            refine inb_r ?_
            refine thn_r ?_
            obtain rfl := Option.some.inj hF
            have hF := hK107
            obtain rfl := Option.some.inj hF
            refine fin1 rfl rfl ?_
            exact ⟨rfl, hS.below⟩
          · refine el_on rfl hb124 ?_
            refine el_pv (pv_move rfl) (by decide) ?_
            refine el_on rfl hb124 ?_
            obtain ⟨r125, hr125, hF⟩ := ob hF
            refine el_call goes88 (impl_AreValidValues_ok (hS.up hr121) hr125) (congrArg List.toArray (mapc rfl rfl)) (by decide) ?_
            rintro _ w126 ⟨rfl, hx127⟩
            refine ⟨_, rfl, ?_⟩
            have hS := hS.ext hx127
            refine el_on rfl hb124 ?_
            refine el_pv (pv_not rfl) (by decide) ?_
            refine el_pv (pv_pick_f rfl hb124 rfl) (by decide) ?_
            refine el_pv (pv_move rfl) (by decide) ?_
            rcases oif hF with ⟨hb128, hF⟩ | ⟨hb128, hF⟩
            · refine el_on rfl (bnot_t hb128) ?_
              refine el_pv (pv_move rfl) (by decide) ?_
              refine el_on rfl (bnot_t hb128) ?_
              refine el_pv (pv_gtr rfl rfl) (by decide) ?_
              refine el_on rfl (bnot_t hb128) ?_
              refine el_pv (pv_move rfl) (by decide) ?_
              rcases oif hF with ⟨hb129, hF⟩ | ⟨hb129, hF⟩
              · refine el_on rfl hb129 ?_
                refine el_pv (pv_move he110) (by decide) ?_
                refine el_on rfl hb129 ?_
                refine el_pv (pv_move rfl) (by decide) ?_
                refine el_on rfl hb129 ?_
                obtain ⟨x130, hx130, hF⟩ := ob hF
                refine el_pv (pv_sub rfl rfl hx130) (by decide) ?_
                refine el_on rfl hb129 ?_
                obtain ⟨x131, hx131, hF⟩ := ob hF
                refine el_index (wA := w0) rfl ha1 rfl (by decide) rfl hx131 (by decide) ?_
                intro b132 of133 c134 hr135 hm136
                obtain ⟨v137, rfl⟩ := slice_one hr135
                refine el_on rfl hb129 ?_
                refine el_pv (pv_loadc rfl ((cells_up hS.below hm136) 0 _ rfl)) (by decide) ?_
                refine el_on rfl hb129 ?_
                refine el_pv (pv_move rfl) (by decide) ?_
                refine el_on rfl hb129 ?_
                obtain ⟨r138, hr138, hF⟩ := ob hF
                refine el_call goes97 (impl_CompareRows_ok (hS.up hr135) (hS.up hr121) hr138) (congrArg List.toArray (mapc rfl (mapc rfl rfl))) (by decide) ?_
                rintro _ w139 ⟨rfl, hx140⟩
                refine ⟨_, rfl, ?_⟩
                have hS := hS.ext hx140
                refine el_on rfl hb129 ?_
                refine el_pv (pv_geq rfl rfl) (by decide) ?_
                refine el_on rfl (bnot_t hb128) ?_
                refine el_pv (pv_pick_t rfl hb129 rfl) (by decide) ?_
                refine el_pv (pv_pick_f rfl (bnot_t hb128) rfl) (by decide) ?_
                refine el_nil ?_
                refine thn_n ?_
                rcases oif hF with ⟨hb141, hF⟩ | ⟨hb141, hF⟩
                · refine cw_cond_t rfl hb141 ?_
                  refine cw_seq ?_
                  refine cw_reg ?_
                  refine el_pv (pv_assign rfl) (by decide) ?_
                  refine el_nil ?_
                  refine thn_n ?_
                  refine cw_ret ?_
                  refine inb_r ?_
                  refine thn_r ?_
                  refine thn_r ?_
                  refine inb_r ?_
                  refine thn_r ?_
                  obtain rfl := Option.some.inj hF
                  have hF := hK107
                  obtain rfl := Option.some.inj hF
                  refine fin1 rfl rfl ?_
                  exact ⟨rfl, hS.below⟩
                · refine cw_cond_f rfl hb141 ?_
                  refine cw_skip ?_
                  refine inb_n ?_
                  refine thn_n ?_
                  refine cw_reg ?_
                  obtain ⟨x142, hx142, hF⟩ := ob hF
                  refine el_pv (pv_add he113 rfl hx142) (by decide) ?_
                  refine el_pv (pv_move rfl) (by decide) ?_
                  refine el_nil ?_
                  refine thn_n ?_
                  have hS := hS.keep 0
                  exact ⟨x142, he109, he110, he111, he112, rfl, hS, hF⟩
              · refine el_off rfl hb129 rfl (by decide) ?_
                refine el_off rfl hb129 rfl (by decide) ?_
                refine el_off rfl hb129 rfl (by decide) ?_
                refine el_off rfl hb129 rfl (by decide) ?_
                refine el_off rfl hb129 rfl (by decide) ?_
                refine el_off rfl hb129 rfl (by decide) ?_
                refine el_off rfl hb129 rfl (by decide) ?_
                refine el_off rfl hb129 rfl (by decide) ?_
                refine el_on rfl (bnot_t hb128) ?_
                refine el_pv (pv_pick_f rfl hb129 rfl) (by decide) ?_
                refine el_pv (pv_pick_f rfl (bnot_t hb128) rfl) (by decide) ?_
                refine el_nil ?_
                refine thn_n ?_
                refine cw_cond_f rfl rfl ?_
                refine cw_skip ?_
                refine inb_n ?_
                refine thn_n ?_
                refine cw_reg ?_
                obtain ⟨x143, hx143, hF⟩ := ob hF
                refine el_pv (pv_add he113 rfl hx143) (by decide) ?_
                refine el_pv (pv_move rfl) (by decide) ?_
                refine el_nil ?_
                refine thn_n ?_
                have hS := hS.keep 0
                exact ⟨x143, he109, he110, he111, he112, rfl, hS, hF⟩
            · refine el_off rfl (bnot_f hb128) rfl (by decide) ?_
              refine el_off rfl (bnot_f hb128) rfl (by decide) ?_
              refine el_off rfl (bnot_f hb128) rfl (by decide) ?_
              refine el_offu rfl (by decide) ?_
              refine el_offu rfl (by decide) ?_
              refine el_offu rfl (by decide) ?_
              refine el_offu rfl (by decide) ?_
              refine el_offu rfl (by decide) ?_
              refine el_offu rfl (by decide) ?_
              refine el_offu rfl (by decide) ?_
              refine el_offu rfl (by decide) ?_
              refine el_off rfl (bnot_f hb128) rfl (by decide) ?_
              refine el_pv (pv_pick_t rfl (bnot_f hb128) rfl) (by decide) ?_
              refine el_nil ?_
              refine thn_n ?_
              refine cw_cond_t rfl rfl ?_
              refine cw_seq ?_
              refine cw_reg ?_
              refine el_pv (pv_assign rfl) (by decide) ?_
              refine el_nil ?_
              refine thn_n ?_
              refine cw_ret ?_
              refine inb_r ?_
              refine thn_r ?_
              refine thn_r ?_
              refine inb_r ?_
              refine thn_r ?_
              obtain rfl := Option.some.inj hF
              have hF := hK107
              obtain rfl := Option.some.inj hF
              refine fin1 rfl rfl ?_
              exact ⟨rfl, hS.below⟩
        · refine cw_cond_f rfl hb116 ?_
          refine cw_exit ?_
          refine thn_x ?_
          refine thn_x ?_
          obtain rfl := Option.some.inj hF
          have hF := hK107
          refine inb_s ?_
          refine thn_n ?_
          refine cw_seq ?_
          refine cw_reg ?_
          refine el_pv (pv_assign rfl) (by decide) ?_
          refine el_nil ?_
          refine thn_n ?_
          refine cw_ret ?_
          obtain rfl := Option.some.inj hF
          refine fin1 rfl rfl ?_
          exact ⟨rfl, hS.below⟩
  · refine el_off rfl (bnot_f hb104) rfl (by decide) ?_
    refine el_off rfl (bnot_f hb104) rfl (by decide) ?_
    refine el_off rfl (bnot_f hb104) rfl (by decide) ?_
    refine el_pv (pv_pick_t rfl (bnot_f hb104) rfl) (by decide) ?_
    refine el_nil ?_
    refine thn_n ?_
    refine cw_cond_t rfl rfl ?_
    refine cw_seq ?_
    refine cw_reg ?_
    refine el_pv (pv_assign rfl) (by decide) ?_
    refine el_nil ?_
    refine thn_n ?_
    refine cw_ret ?_
    refine thn_r ?_
    obtain rfl := Option.some.inj hF
    refine fin1 rfl rfl ?_
    exact ⟨rfl, hS.below⟩
theorem impl_IsValidRelation_ok {w0 : World} {a0 : Int} {u1 : Value} {a1 : List (List Int)} (ha1 : (sliceR (sliceR intR 3) 22).rd w0 [u1] a1) {N : Nat} {r : Bool} (hF : impl_IsValidRelation N a0 a1 = some r) :
    Calls Try.prog 70 #[.agg #[.int .i64 a0, u1]] w0 fun e w' => e = .returned (.bool r) ∧ Ext w0 w' := by
  unfold impl_IsValidRelation at hF
  refine calls_E Try.func70 rfl rfl (of_decide_eq_true rfl) ?_
  have hS := Sat.start w0
  refine cw_seq ?_
  refine cw_reg ?_
  refine el_box [.int .i64 a0, u1] rfl hS (by decide) ?_
  intro w101 b102 hS hx103
  refine el_pv (pv_assign rfl) (by decide) ?_
  refine el_nil ?_
  refine thn_n ?_
  refine cw_seq ?_
  refine cw_reg ?_
  refine el_pv (pv_fieldAddr rfl) (by decide) ?_
  refine el_pv (pv_loadc rfl ((hS.boxAt 0 rfl) 0 _ rfl)) (by decide) ?_
  refine el_pv (pv_fieldAddr rfl) (by decide) ?_
  refine el_pv (pv_loadc rfl ((hS.boxAt 0 rfl) 1 _ rfl)) (by decide) ?_
  obtain ⟨r105, hr105, hF⟩ := ob hF
  refine el_call goes91 (impl_rowsValid_ok (hS.up ha1) hr105) (congrArg List.toArray (mapc rfl (mapc rfl rfl))) (by decide) ?_
  rintro _ w106 ⟨rfl, hx107⟩
  refine ⟨_, rfl, ?_⟩
  have hS := hS.ext hx107
  refine el_pv (pv_assign rfl) (by decide) ?_
  refine el_nil ?_
  refine thn_n ?_
  refine cw_ret ?_
  obtain rfl := Option.some.inj hF
  refine fin1 rfl rfl ?_
  exact ⟨rfl, hS.below⟩
theorem impl_ValueWeight_ok {w0 : World} {a0 : Int} {a1 : Int} {a2 : Int}  {N : Nat} {r : Int} (hF : impl_ValueWeight N a0 a1 a2 = some r) :
    Calls Try.prog 71 #[.int .i64 a0, .int .i64 a1, .int .i64 a2] w0 fun e w' => e = .returned (.int .i64 r) ∧ Ext w0 w' := by
  unfold impl_ValueWeight at hF
  refine calls_E Try.func71 rfl rfl (of_decide_eq_true rfl) ?_
  have hS := Sat.start w0
  refine cw_seq ?_
  refine cw_reg ?_
  refine el_pv (pv_assign rfl) (by decide) ?_
  refine el_nil ?_
  refine thn_n ?_
  refine cw_seq ?_
  refine cw_seq ?_
  refine cw_reg ?_
  refine el_pv (pv_move rfl) (by decide) ?_
  obtain ⟨r101, hr101, hF⟩ := ob hF
  refine el_call goes38 (impl_IsValidSemiring_ok hr101) (congrArg List.toArray (mapc rfl rfl)) (by decide) ?_
  rintro _ w102 ⟨rfl, hx103⟩
  refine ⟨_, rfl, ?_⟩
  have hS := hS.ext hx103
  refine el_pv (pv_not rfl) (by decide) ?_
  refine el_pv (pv_move rfl) (by decide) ?_
  rcases oif hF with ⟨hb104, hF⟩ | ⟨hb104, hF⟩
  · refine el_on rfl (bnot_t hb104) ?_
    refine el_pv (pv_move rfl) (by decide) ?_
    refine el_on rfl (bnot_t hb104) ?_
    obtain ⟨r105, hr105, hF⟩ := ob hF
    refine el_call goes64 (impl_within_ok hr105) (congrArg List.toArray (mapc rfl (mapc rfl (mapc rfl rfl)))) (by decide) ?_
    rintro _ w106 ⟨rfl, hx107⟩
    refine ⟨_, rfl, ?_⟩
    have hS := hS.ext hx107
    refine el_on rfl (bnot_t hb104) ?_
    refine el_pv (pv_not rfl) (by decide) ?_
    refine el_pv (pv_pick_f rfl (bnot_t hb104) rfl) (by decide) ?_
    refine el_pv (pv_move rfl) (by decide) ?_
    rcases oif hF with ⟨hb108, hF⟩ | ⟨hb108, hF⟩
    · refine el_on rfl (bnot_t hb108) ?_
      refine el_pv (pv_move rfl) (by decide) ?_
      refine el_on rfl (bnot_t hb108) ?_
      obtain ⟨r109, hr109, hF⟩ := ob hF
      refine el_call goes64 (impl_within_ok hr109) (congrArg List.toArray (mapc rfl (mapc rfl (mapc rfl rfl)))) (by decide) ?_
      rintro _ w110 ⟨rfl, hx111⟩
      refine ⟨_, rfl, ?_⟩
      have hS := hS.ext hx111
      refine el_on rfl (bnot_t hb108) ?_
      refine el_pv (pv_not rfl) (by decide) ?_
      refine el_pv (pv_pick_f rfl (bnot_t hb108) rfl) (by decide) ?_
      refine el_nil ?_
      refine thn_n ?_
      rcases oif hF with ⟨hb112, hF⟩ | ⟨hb112, hF⟩
      · refine cw_cond_f rfl (bnot_t hb112) ?_
        refine cw_skip ?_
        refine thn_n ?_
        refine cw_seq ?_
        refine cw_seq ?_
        refine cw_reg ?_
        refine el_pv (pv_move rfl) (by decide) ?_
        refine el_nil ?_
        refine thn_n ?_
        refine cw_block ?_
        refine cw_seq ?_
        refine cw_reg ?_
        refine el_pv (pv_eql rfl rfl) (by decide) ?_
        refine el_pv (pv_assign rfl) (by decide) ?_
        refine el_nil ?_
        refine thn_n ?_
        rcases oif hF with ⟨hb113, hF⟩ | ⟨hb113, hF⟩
        · refine cw_cond_t rfl hb113 ?_
          refine cw_seq ?_
          refine cw_reg ?_
          refine el_pv (pv_move rfl) (by decide) ?_
          refine el_pv (pv_move rfl) (by decide) ?_
          obtain ⟨x114, hx114, hF⟩ := ob hF
          refine el_pv (pv_add rfl rfl hx114) (by decide) ?_
          obtain ⟨x115, hx115, hF⟩ := ob hF
          refine el_pv (pv_rem rfl rfl hx115) (by decide) ?_
          obtain ⟨x116, hx116, hF⟩ := ob hF
          refine el_pv (pv_add rfl rfl hx116) (by decide) ?_
          refine el_pv (pv_assign rfl) (by decide) ?_
          refine el_nil ?_
          refine thn_n ?_
          refine cw_ret ?_
          refine inb_r ?_
          refine thn_r ?_
          obtain rfl := Option.some.inj hF
          refine fin1 rfl rfl ?_
          exact ⟨rfl, hS.below⟩
        · refine cw_cond_f rfl hb113 ?_
          refine cw_seq ?_
          refine cw_reg ?_
          refine el_pv (pv_eql rfl rfl) (by decide) ?_
          refine el_pv (pv_assign rfl) (by decide) ?_
          refine el_nil ?_
          refine thn_n ?_
          rcases oif hF with ⟨hb117, hF⟩ | ⟨hb117, hF⟩
          · refine cw_cond_t rfl hb117 ?_
            refine cw_seq ?_
            refine cw_reg ?_
            refine el_pv (pv_move rfl) (by decide) ?_
            refine el_pv (pv_move rfl) (by decide) ?_
            obtain ⟨x118, hx118, hF⟩ := ob hF
            refine el_pv (pv_add rfl rfl hx118) (by decide) ?_
            obtain ⟨x119, hx119, hF⟩ := ob hF
            refine el_pv (pv_rem rfl rfl hx119) (by decide) ?_
            refine el_pv (pv_min rfl rfl) (by decide) ?_
            refine el_pv (pv_assign rfl) (by decide) ?_
            refine el_nil ?_
            refine thn_n ?_
            refine cw_ret ?_
            refine inb_r ?_
            refine thn_r ?_
            obtain rfl := Option.some.inj hF
            refine fin1 rfl rfl ?_
            exact ⟨rfl, hS.below⟩
          · refine cw_cond_f rfl hb117 ?_
            refine cw_skip ?_
            refine inb_n ?_
            refine thn_n ?_
            refine cw_seq ?_
            refine cw_reg ?_
            refine el_pv (pv_move rfl) (by decide) ?_
            obtain ⟨x120, hx120, hF⟩ := ob hF
            refine el_pv (pv_mul rfl rfl hx120) (by decide) ?_
            refine el_pv (pv_move rfl) (by decide) ?_
            obtain ⟨x121, hx121, hF⟩ := ob hF
            refine el_pv (pv_add rfl rfl hx121) (by decide) ?_
            obtain ⟨x122, hx122, hF⟩ := ob hF
            refine el_pv (pv_rem rfl rfl hx122) (by decide) ?_
            obtain ⟨x123, hx123, hF⟩ := ob hF
            refine el_pv (pv_add rfl rfl hx123) (by decide) ?_
            refine el_pv (pv_assign rfl) (by decide) ?_
            refine el_nil ?_
            refine thn_n ?_
            refine cw_ret ?_
            obtain rfl := Option.some.inj hF
            refine fin1 rfl rfl ?_
            exact ⟨rfl, hS.below⟩
      · refine cw_cond_t rfl (bnot_f hb112) ?_
        refine cw_seq ?_
        refine cw_reg ?_
        refine el_pv (pv_assign rfl) (by decide) ?_
        refine el_nil ?_
        refine thn_n ?_
        refine cw_ret ?_
        refine thn_r ?_
        obtain rfl := Option.some.inj hF
        refine fin1 rfl rfl ?_
        exact ⟨rfl, hS.below⟩
    · refine el_off rfl (bnot_f hb108) rfl (by decide) ?_
      refine el_off rfl (bnot_f hb108) rfl (by decide) ?_
      refine el_off rfl (bnot_f hb108) rfl (by decide) ?_
      refine el_pv (pv_pick_t rfl (bnot_f hb108) rfl) (by decide) ?_
      refine el_nil ?_
      refine thn_n ?_
      refine cw_cond_t rfl rfl ?_
      refine cw_seq ?_
      refine cw_reg ?_
      refine el_pv (pv_assign rfl) (by decide) ?_
      refine el_nil ?_
      refine thn_n ?_
      refine cw_ret ?_
      refine thn_r ?_
      obtain rfl := Option.some.inj hF
      refine fin1 rfl rfl ?_
      exact ⟨rfl, hS.below⟩
  · refine el_off rfl (bnot_f hb104) rfl (by decide) ?_
    refine el_off rfl (bnot_f hb104) rfl (by decide) ?_
    refine el_off rfl (bnot_f hb104) rfl (by decide) ?_
    refine el_pv (pv_pick_t rfl (bnot_f hb104) rfl) (by decide) ?_
    refine el_pv (pv_move rfl) (by decide) ?_
    refine el_off rfl rfl rfl (by decide) ?_
    refine el_off rfl rfl rfl (by decide) ?_
    refine el_off rfl rfl rfl (by decide) ?_
    refine el_pv (pv_pick_t rfl rfl rfl) (by decide) ?_
    refine el_nil ?_
    refine thn_n ?_
    refine cw_cond_t rfl rfl ?_
    refine cw_seq ?_
    refine cw_reg ?_
    refine el_pv (pv_assign rfl) (by decide) ?_
    refine el_nil ?_
    refine thn_n ?_
    refine cw_ret ?_
    refine thn_r ?_
    obtain rfl := Option.some.inj hF
    refine fin1 rfl rfl ?_
    exact ⟨rfl, hS.below⟩
theorem impl_AggregateRelation_ok {w0 : World} {a0 : Int} {a1 : Int} {u2 : Value} {a2 : List (List Int)} (ha2 : (sliceR (sliceR intR 3) 22).rd w0 [u2] a2) {N : Nat} {r : Int} (hF : impl_AggregateRelation N a0 a1 a2 = some r) :
    Calls Try.prog 28 #[.int .i64 a0, .agg #[.int .i64 a1, u2]] w0 fun e w' => e = .returned (.int .i64 r) ∧ Ext w0 w' := by
  unfold impl_AggregateRelation at hF
  refine calls_E Try.func28 rfl rfl (of_decide_eq_true rfl) ?_
  have hS := Sat.start w0
  refine cw_seq ?_
  refine cw_reg ?_
  refine el_box [.int .i64 a1, u2] rfl hS (by decide) ?_
  intro w101 b102 hS hx103
  refine el_pv (pv_assign rfl) (by decide) ?_
  refine el_nil ?_
  refine thn_n ?_
  refine cw_seq ?_
  refine cw_reg ?_
  refine el_pv (pv_move rfl) (by decide) ?_
  obtain ⟨r105, hr105, hF⟩ := ob hF
  refine el_call goes40 (impl_SemiringZero_ok hr105) (congrArg List.toArray (mapc rfl rfl)) (by decide) ?_
  rintro _ w106 ⟨rfl, hx107⟩
  refine ⟨_, rfl, ?_⟩
  have hS := hS.ext hx107
  refine el_pv (pv_assign rfl) (by decide) ?_
  refine el_nil ?_
  refine thn_n ?_
  refine cw_seq ?_
  refine cw_seq ?_
  refine cw_reg ?_
  refine el_pv (pv_move rfl) (by decide) ?_
  obtain ⟨r108, hr108, hF⟩ := ob hF
  refine el_call goes38 (impl_IsValidSemiring_ok hr108) (congrArg List.toArray (mapc rfl rfl)) (by decide) ?_
  rintro _ w109 ⟨rfl, hx110⟩
  refine ⟨_, rfl, ?_⟩
  have hS := hS.ext hx110
  refine el_pv (pv_not rfl) (by decide) ?_
  refine el_pv (pv_move rfl) (by decide) ?_
  rcases oif hF with ⟨hb111, hF⟩ | ⟨hb111, hF⟩
  · refine el_on rfl (bnot_t hb111) ?_
    refine el_pv (pv_loada (cs := [.int .i64 a1, u2]) rfl rfl (boxc0 (hS.boxAt 0 rfl))) (by decide) ?_
    refine el_on rfl (bnot_t hb111) ?_
    obtain ⟨r112, hr112, hF⟩ := ob hF
    refine el_call goes70 (impl_IsValidRelation_ok (hS.up ha2) hr112) (congrArg List.toArray (mapc rfl rfl)) (by decide) ?_
    rintro _ w113 ⟨rfl, hx114⟩
    refine ⟨_, rfl, ?_⟩
    have hS := hS.ext hx114
    refine el_on rfl (bnot_t hb111) ?_
    refine el_pv (pv_not rfl) (by decide) ?_
    refine el_pv (pv_pick_f rfl (bnot_t hb111) rfl) (by decide) ?_
    refine el_nil ?_
    refine thn_n ?_
    rcases oif hF with ⟨hb115, hF⟩ | ⟨hb115, hF⟩
    · refine cw_cond_f rfl (bnot_t hb115) ?_
      refine cw_skip ?_
      refine thn_n ?_
      refine cw_seq ?_
      refine cw_seq ?_
      refine cw_reg ?_
      refine el_pv (pv_fieldAddr rfl) (by decide) ?_
      refine el_pv (pv_loadc rfl ((hS.boxAt 0 rfl) 1 _ rfl)) (by decide) ?_
      refine el_pv (pv_len rfl ha2) (by decide) ?_
      refine el_pv (pv_move rfl) (by decide) ?_
      refine el_nil ?_
      refine thn_n ?_
      refine cw_block ?_
      obtain ⟨s116, hL, hK117⟩ := ob hF
      have hS := hS.rem 0 rfl
      refine cw_loopS (fun k e w => ∃ (x118 : Int), ∃ (x119 : Int), e 0 = .int .i64 a0 ∧ e 5 = .int .i64 x118 ∧ e 23 = u2 ∧ e 24 = .int .i64 (a2.length : Int) ∧ e 25 = .int .i64 x119 ∧ Sat w0 w [] ∧ impl_AggregateRelation_L1 N k a0 x118 a2 (a2.length : Int) x119 = some s116) N ?_ ?_ ?_
      · exact ⟨r105, 0, rfl, rfl, rfl, rfl, rfl, hS, hL⟩
      · rintro e w ⟨_, _, _, _, _, _, _, _, hz⟩; exact nomatch (show none = some _ from hz)
      · rintro k e126 w125 ⟨x118, x119, he120, he121, he122, he123, he124, hS, hF⟩
        refine cw_seq ?_
        refine cw_reg ?_
        refine el_pv (pv_lss he124 he123) (by decide) ?_
        refine el_nil ?_
        refine thn_n ?_
        refine cw_seq ?_
        rcases oif hF with ⟨hb127, hF⟩ | ⟨hb127, hF⟩
        · refine cw_cond_t rfl hb127 ?_
          refine cw_skip ?_
          refine thn_n ?_
          refine cw_seq ?_
          refine cw_block ?_
          refine cw_seq ?_
          refine cw_reg ?_
          obtain ⟨x128, hx128, hF⟩ := ob hF
          refine el_index (wA := w0) he122 ha2 rfl (by decide) he124 hx128 (by decide) ?_
          intro b129 of130 c131 hr132 hm133
          obtain ⟨v134, rfl⟩ := slice_one hr132
          refine el_pv (pv_loadc rfl ((cells_up hS.below hm133) 0 _ rfl)) (by decide) ?_
          refine el_pv (pv_assign rfl) (by decide) ?_
          refine el_nil ?_
          refine thn_n ?_
          refine cw_seq ?_
          refine cw_reg ?_
          refine el_pv (pv_move he120) (by decide) ?_
          obtain ⟨r135, hr135, hF⟩ := ob hF
          refine el_call goes41 (impl_SemiringOne_ok hr135) (congrArg List.toArray (mapc rfl rfl)) (by decide) ?_
          rintro _ w136 ⟨rfl, hx137⟩
          refine ⟨_, rfl, ?_⟩
          have hS := hS.ext hx137
          refine el_pv (pv_assign rfl) (by decide) ?_
          refine el_nil ?_
          refine thn_n ?_
          refine cw_seq ?_
          refine cw_seq ?_
          refine cw_reg ?_
          refine el_pv (pv_move rfl) (by decide) ?_
          refine el_pv (pv_len rfl hr132) (by decide) ?_
          refine el_pv (pv_move rfl) (by decide) ?_
          refine el_nil ?_
          refine thn_n ?_
          refine cw_block ?_
          obtain ⟨s138, hL, hK139⟩ := ob hF
          refine cw_loopS (fun k e w => ∃ (x140 : Int), ∃ (x141 : Int), e 0 = .int .i64 a0 ∧ e 5 = .int .i64 x118 ∧ e 8 = .int .i64 x140 ∧ e 23 = u2 ∧ e 24 = .int .i64 (a2.length : Int) ∧ e 25 = .int .i64 x119 ∧ e 31 = v134 ∧ e 32 = .int .i64 (x128.length : Int) ∧ e 33 = .int .i64 x141 ∧ Sat w0 w [] ∧ impl_AggregateRelation_L2 N k a0 x118 x140 a2 (a2.length : Int) x119 x128 (x128.length : Int) x141 = some s138) N ?_ ?_ ?_
          · exact ⟨r135, 0, he120, he121, rfl, he122, he123, he124, rfl, rfl, rfl, hS, hL⟩
          · rintro e w ⟨_, _, _, _, _, _, _, _, _, _, _, _, hz⟩; exact nomatch (show none = some _ from hz)
          · rintro k e152 w151 ⟨x140, x141, he142, he143, he144, he145, he146, he147, he148, he149, he150, hS, hF⟩
            refine cw_seq ?_
            refine cw_reg ?_
            refine el_pv (pv_lss he150 he149) (by decide) ?_
            refine el_nil ?_
            refine thn_n ?_
            refine cw_seq ?_
            rcases oif hF with ⟨hb153, hF⟩ | ⟨hb153, hF⟩
            · refine cw_cond_t rfl hb153 ?_
              refine cw_skip ?_
              refine thn_n ?_
              refine cw_seq ?_
              refine cw_block ?_
              refine cw_seq ?_
              refine cw_reg ?_
              refine el_pv (pv_move he150) (by decide) ?_
              obtain ⟨x154, hx154, hF⟩ := ob hF
              refine el_index (wA := w0) he148 hr132 rfl (by decide) he150 hx154 (by decide) ?_
              intro b155 of156 c157 hr158 hm159
              obtain rfl := hr158
              refine el_pv (pv_loadc rfl ((cells_up hS.below hm159) 0 _ rfl)) (by decide) ?_
              refine el_pv (pv_assign rfl) (by decide) ?_
              refine el_pv (pv_assign rfl) (by decide) ?_
              refine el_nil ?_
              refine thn_n ?_
              refine cw_reg ?_
              refine el_pv (pv_move he142) (by decide) ?_
              refine el_pv (pv_move he144) (by decide) ?_
              refine el_pv (pv_move he142) (by decide) ?_
              refine el_pv (pv_move rfl) (by decide) ?_
              refine el_pv (pv_move rfl) (by decide) ?_
              obtain ⟨r160, hr160, hF⟩ := ob hF
              refine el_call goes71 (impl_ValueWeight_ok hr160) (congrArg List.toArray (mapc rfl (mapc rfl (mapc rfl rfl)))) (by decide) ?_
              rintro _ w161 ⟨rfl, hx162⟩
              refine ⟨_, rfl, ?_⟩
              have hS := hS.ext hx162
              obtain ⟨r163, hr163, hF⟩ := ob hF
              refine el_call goes35 (impl_SemiringMul_ok hr163) (congrArg List.toArray (mapc rfl (mapc rfl (mapc rfl rfl)))) (by decide) ?_
              rintro _ w164 ⟨rfl, hx165⟩
              refine ⟨_, rfl, ?_⟩
              have hS := hS.ext hx165
              refine el_pv (pv_assign rfl) (by decide) ?_
              refine el_nil ?_
              refine inb_n ?_
              refine thn_n ?_
              refine cw_reg ?_
              obtain ⟨x166, hx166, hF⟩ := ob hF
              refine el_pv (pv_add he150 rfl hx166) (by decide) ?_
              refine el_pv (pv_move rfl) (by decide) ?_
              refine el_nil ?_
              refine thn_n ?_
              have hS := hS.keep 0
              exact ⟨r163, x166, he142, he143, rfl, he145, he146, he147, he148, he149, rfl, hS, hF⟩
            · refine cw_cond_f rfl hb153 ?_
              refine cw_exit ?_
              refine thn_x ?_
              refine thn_x ?_
              obtain rfl := Option.some.inj hF
              have hF := hK139
              refine inb_s ?_
              refine thn_n ?_
              refine cw_reg ?_
              refine el_pv (pv_move he142) (by decide) ?_
              refine el_pv (pv_move he143) (by decide) ?_
              refine el_pv (pv_move he144) (by decide) ?_
              obtain ⟨r167, hr167, hF⟩ := ob hF
              refine el_call goes34 (impl_SemiringAdd_ok hr167) (congrArg List.toArray (mapc rfl (mapc rfl (mapc rfl rfl)))) (by decide) ?_
              rintro _ w168 ⟨rfl, hx169⟩
              refine ⟨_, rfl, ?_⟩
              have hS := hS.ext hx169
              refine el_pv (pv_assign rfl) (by decide) ?_
              refine el_nil ?_
              refine inb_n ?_
              refine thn_n ?_
              refine cw_reg ?_
              obtain ⟨x170, hx170, hF⟩ := ob hF
              refine el_pv (pv_add he147 rfl hx170) (by decide) ?_
              refine el_pv (pv_move rfl) (by decide) ?_
              refine el_nil ?_
              refine thn_n ?_
              have hS := hS.keep 0
              exact ⟨r167, x170, he142, rfl, he145, he146, rfl, hS, hF⟩
        · refine cw_cond_f rfl hb127 ?_
          refine cw_exit ?_
          refine thn_x ?_
          refine thn_x ?_
          obtain rfl := Option.some.inj hF
          have hF := hK117
          refine inb_s ?_
          refine thn_n ?_
          refine cw_seq ?_
          refine cw_reg ?_
          refine el_pv (pv_move he121) (by decide) ?_
          refine el_pv (pv_assign rfl) (by decide) ?_
          refine el_nil ?_
          refine thn_n ?_
          refine cw_ret ?_
          obtain rfl := Option.some.inj hF
          refine fin1 rfl rfl ?_
          exact ⟨rfl, hS.below⟩
    · refine cw_cond_t rfl (bnot_f hb115) ?_
      refine cw_seq ?_
      refine cw_reg ?_
      refine el_pv (pv_move rfl) (by decide) ?_
      refine el_pv (pv_assign rfl) (by decide) ?_
      refine el_nil ?_
      refine thn_n ?_
      refine cw_ret ?_
      refine thn_r ?_
      obtain rfl := Option.some.inj hF
      refine fin1 rfl rfl ?_
      exact ⟨rfl, hS.below⟩
  · refine el_off rfl (bnot_f hb111) rfl (by decide) ?_
    refine el_off rfl (bnot_f hb111) rfl (by decide) ?_
    refine el_off rfl (bnot_f hb111) rfl (by decide) ?_
    refine el_pv (pv_pick_t rfl (bnot_f hb111) rfl) (by decide) ?_
    refine el_nil ?_
    refine thn_n ?_
    refine cw_cond_t rfl rfl ?_
    refine cw_seq ?_
    refine cw_reg ?_
    refine el_pv (pv_move rfl) (by decide) ?_
    refine el_pv (pv_assign rfl) (by decide) ?_
    refine el_nil ?_
    refine thn_n ?_
    refine cw_ret ?_
    refine thn_r ?_
    obtain rfl := Option.some.inj hF
    refine fin1 rfl rfl ?_
    exact ⟨rfl, hS.below⟩
theorem laws_FnExactAggregateRelation_ok {w0 : World} {a0 : Int} {a1 : Int} {u2 : Value} {a2 : List (List Int)} (ha2 : (sliceR (sliceR intR 3) 22).rd w0 [u2] a2) {N : Nat} {r : Bool} (hF : laws_FnExactAggregateRelation N a0 a1 a2 = some r) :
    Calls Try.prog 7 #[.int .i64 a0, .agg #[.int .i64 a1, u2]] w0 fun e w' => e = .returned (.bool r) ∧ Ext w0 w' := by
  unfold laws_FnExactAggregateRelation at hF
  refine calls_E Try.func7 rfl rfl (of_decide_eq_true rfl) ?_
  have hS := Sat.start w0
  refine cw_seq ?_
  refine cw_reg ?_
  refine el_box [.int .i64 a1, u2] rfl hS (by decide) ?_
  intro w101 b102 hS hx103
  refine el_pv (pv_assign rfl) (by decide) ?_
  refine el_nil ?_
  refine thn_n ?_
  refine cw_seq ?_
  refine cw_reg ?_
  refine el_pv (pv_assign rfl) (by decide) ?_
  refine el_nil ?_
  refine thn_n ?_
  refine cw_seq ?_
  refine cw_reg ?_
  refine el_pv (pv_loada (cs := [.int .i64 a1, u2]) rfl rfl (boxc0 (hS.boxAt 0 rfl))) (by decide) ?_
  refine el_pv (pv_move rfl) (by decide) ?_
  obtain ⟨r105, hr105, hF⟩ := ob hF
  refine el_call goes25 (laws_szRelation_ok (hS.up ha2) hr105) (congrArg List.toArray (mapc rfl (mapc rfl rfl))) (by decide) ?_
  rintro _ w106 ⟨rfl, hx107⟩
  refine ⟨_, rfl, ?_⟩
  have hS := hS.ext hx107
  refine el_pv (pv_assign rfl) (by decide) ?_
  refine el_nil ?_
  refine thn_n ?_
  refine cw_seq ?_
  refine cw_seq ?_
  refine cw_reg ?_
  refine el_pv (pv_move rfl) (by decide) ?_
  refine el_pv (pv_lss rfl rfl) (by decide) ?_
  refine el_nil ?_
  refine thn_n ?_
  rcases oif hF with ⟨hb108, hF⟩ | ⟨hb108, hF⟩
  · refine cw_cond_t rfl hb108 ?_
    refine cw_seq ?_
    refine cw_reg ?_
    refine el_pv (pv_assign rfl) (by decide) ?_
    refine el_nil ?_
    refine thn_n ?_
    refine cw_ret ?_
    refine thn_r ?_
    obtain rfl := Option.some.inj hF
    refine fin1 rfl rfl ?_
    exact ⟨rfl, hS.below⟩
  · refine cw_cond_f rfl hb108 ?_
    refine cw_skip ?_
    refine thn_n ?_
    refine cw_seq ?_
    refine cw_reg ?_
    refine el_pv (pv_move rfl) (by decide) ?_
    refine el_pv (pv_loada (cs := [.int .i64 a1, u2]) rfl rfl (boxc0 (hS.boxAt 0 rfl))) (by decide) ?_
    obtain ⟨r109, hr109, hF⟩ := ob hF
    refine el_call goes27 (laws_toRelation_ok (hS.up ha2) hr109) (congrArg List.toArray (mapc rfl rfl)) (by decide) ?_
    rintro _ w112 ⟨v110, rfl, hS'⟩
    refine ⟨_, rfl, ?_⟩
    have hx113 := hS'.below
    have hS := hS.call1 hS'
    obtain ⟨r114, hr114, hF⟩ := ob hF
    refine el_call goes26 (spec_AggregateRelation_ok (hS.rdAt (R := (sliceR (sliceR intR 3) 22)) 0 rfl) hr114) (congrArg List.toArray (mapc rfl (mapc rfl rfl))) (by decide) ?_
    rintro _ w115 ⟨rfl, hx116⟩
    refine ⟨_, rfl, ?_⟩
    have hS := hS.ext hx116
    refine el_pv (pv_assign rfl) (by decide) ?_
    refine el_nil ?_
    refine thn_n ?_
    refine cw_seq ?_
    refine cw_reg ?_
    refine el_pv (pv_loada (cs := [.int .i64 a1, u2]) rfl rfl (boxc0 (hS.boxAt 1 rfl))) (by decide) ?_
    obtain ⟨r117, hr117, hF⟩ := ob hF
    refine el_call goes27 (laws_toRelation_ok (hS.up ha2) hr117) (congrArg List.toArray (mapc rfl rfl)) (by decide) ?_
    rintro _ w120 ⟨v118, rfl, hS'⟩
    refine ⟨_, rfl, ?_⟩
    have hx121 := hS'.below
    have hS := hS.call1 hS'
    refine el_alloc hS (by decide) ?_
    intro w122 b123 hS hx124
    refine el_storev (hS.top 0 rfl) rfl [.int .i64 r117.1, v118] rfl rfl (of_decide_eq_true rfl) (all_cons rfl (all_cons (oc (hS.rdAt (R := (sliceR (sliceR intR 3) 22)) 1 rfl)) rfl)) ?_
    intro w126 hS
    replace hS : Sat w0 w126 (Box b123 40 [.int .i64 r117.1, v118] :: _) := hS
    refine el_nil ?_
    refine thn_n ?_
    refine cw_seq ?_
    refine cw_reg ?_
    refine el_pv (pv_move rfl) (by decide) ?_
    refine el_pv (pv_loada (cs := [.int .i64 r117.1, v118]) rfl rfl (boxc0 (hS.boxAt 0 rfl))) (by decide) ?_
    obtain ⟨r127, hr127, hF⟩ := ob hF
    refine el_call goes28 (impl_AggregateRelation_ok (hS.rdAt (R := (sliceR (sliceR intR 3) 22)) 1 rfl) hr127) (congrArg List.toArray (mapc rfl (mapc rfl rfl))) (by decide) ?_
    rintro _ w128 ⟨rfl, hx129⟩
    refine ⟨_, rfl, ?_⟩
    have hS := hS.ext hx129
    refine el_pv (pv_assign rfl) (by decide) ?_
    refine el_nil ?_
    refine thn_n ?_
    refine cw_seq ?_
    refine cw_seq ?_
    refine cw_reg ?_
    refine el_pv (pv_move rfl) (by decide) ?_
    refine el_pv (pv_move rfl) (by decide) ?_
    refine el_pv (pv_neq rfl rfl) (by decide) ?_
    refine el_nil ?_
    refine thn_n ?_
    rcases oif hF with ⟨hb130, hF⟩ | ⟨hb130, hF⟩
    · refine cw_cond_t rfl hb130 ?_
      refine cw_seq ?_
      refine cw_reg ?_
      refine el_pv (pv_assign rfl) (by decide) ?_
      refine el_nil ?_
      refine thn_n ?_
      refine cw_ret ?_
      refine thn_r ?_
      obtain rfl := Option.some.inj hF
      refine fin1 rfl rfl ?_
      exact ⟨rfl, hS.below⟩
    · refine cw_cond_f rfl hb130 ?_
      refine cw_skip ?_
      refine thn_n ?_
      refine cw_seq ?_
      refine cw_seq ?_
      obtain ⟨C, hCd⟩ : ∃ C : World → Prop, ∀ w, C w ↔ ∃ G, Sat w0 w ([Box b123 40 [.int .i64 r117.1, v118], Box b102 35 [.int .i64 a1, u2]] ++ G) := ⟨_, fun _ => Iff.rfl⟩
      refine cw_regb [0, 1, 2, 3, 4] C (by kernel_rfl) ?_
      intro w131 hx132
      have hS := hS.ext hx132
      have hS := hS.top 3 rfl
      have hS := hS.top 1 rfl
      have hC := (hCd _).2 ⟨_, hS⟩
      refine al_p (by kernel_rfl) 0 rfl rfl (by decide) hC (by kernel_rfl) (by kernel_rfl) (sv_on rfl (fun w' hw' => by obtain ⟨_, hS⟩ := (hCd _).1 hw'; exact (pv_loada (cs := [.int .i64 r117.1, v118]) rfl rfl (boxc0 (hS.boxAt 0 rfl))))) ?_
      refine al_p (by kernel_rfl) 1 rfl rfl (by decide) hC (by kernel_rfl) (by kernel_rfl) (sv_on rfl (fun w' hw' => by obtain ⟨_, hS⟩ := (hCd _).1 hw'; exact (pv_loada (cs := [.int .i64 a1, u2]) rfl rfl (boxc0 (hS.boxAt 1 rfl))))) ?_
      refine al_one 2 (by kernel_rfl) rfl ?_
      obtain ⟨r133, hr133, hF⟩ := ob hF
      refine el_call goes27 (laws_toRelation_ok (hS.up ha2) hr133) (congrArg List.toArray (mapc rfl rfl)) (by decide) ?_
      rintro _ w136 ⟨v134, rfl, hS'⟩
      refine ⟨_, rfl, ?_⟩
      have hx137 := hS'.below
      have hS := hS.call1 hS'
      refine el_nil ?_
      have hS := hS.top 2 rfl
      have hS := hS.top 2 rfl
      have hC := (hCd _).2 ⟨_, hS⟩
      have hoc138 := oc (hS.rdAt (R := (sliceR (sliceR intR 3) 22)) 2 rfl)
      have hoc139 := oc (hS.rdAt (R := (sliceR (sliceR intR 3) 22)) 3 rfl)
      have hoc140 := oc (hS.rdAt (R := (sliceR (sliceR intR 3) 22)) 4 rfl)
      refine ⟨fun _ => hC, ?_⟩
      refine al_one 3 (by kernel_rfl) rfl ?_
      obtain ⟨r141, hr141, hF⟩ := ob hF
      refine el_call goes29 (laws_eqRelation_ok (hS.rdAt (R := (sliceR (sliceR intR 3) 22)) 3 rfl) (hS.rdAt (R := (sliceR (sliceR intR 3) 22)) 2 rfl) hr141) (congrArg List.toArray (mapc rfl (mapc rfl rfl))) (by decide) ?_
      rintro _ w142 ⟨rfl, hx143⟩
      refine ⟨_, rfl, ?_⟩
      have hS := hS.ext hx143
      refine el_nil ?_
      have hS := hS.top 1 rfl
      have hS := hS.top 1 rfl
      have hC := (hCd _).2 ⟨_, hS⟩
      refine ⟨fun _ => hC, ?_⟩
      refine al_p (by kernel_rfl) 4 rfl rfl (by decide) hC (by kernel_rfl) (by kernel_rfl) (sv_on rfl (fun w' hw' => by obtain ⟨_, hS⟩ := (hCd _).1 hw'; exact (pv_not rfl))) ?_
      refine al_nil (by kernel_rfl) ?_
      refine thn_n ?_
      rcases oif hF with ⟨hb144, hF⟩ | ⟨hb144, hF⟩
      · refine cw_cond_f rfl (bnot_t hb144) ?_
        refine cw_skip ?_
        refine thn_n ?_
        refine cw_seq ?_
        refine cw_reg ?_
        refine el_pv (pv_assign rfl) (by decide) ?_
        refine el_nil ?_
        refine thn_n ?_
        refine cw_ret ?_
        obtain rfl := Option.some.inj hF
        refine fin1 rfl rfl ?_
        exact ⟨rfl, hS.below⟩
      · refine cw_cond_t rfl (bnot_f hb144) ?_
        refine cw_seq ?_
        refine cw_reg ?_
        refine el_pv (pv_assign rfl) (by decide) ?_
        refine el_nil ?_
        refine thn_n ?_
        refine cw_ret ?_
        refine thn_r ?_
        obtain rfl := Option.some.inj hF
        refine fin1 rfl rfl ?_
        exact ⟨rfl, hS.below⟩
theorem laws_big_ok {w0 : World} {u0 : Value} {a0 : List Int} (ha0 : (sliceR u8R 5).rd w0 [u0] a0) {N : Nat} {r : Bool} (hF : laws_big N a0 = some r) :
    Calls Try.prog 30 #[u0] w0 fun e w' => e = .returned (.bool r) ∧ Ext w0 w' := by
  unfold laws_big at hF
  refine calls_E Try.func30 rfl rfl (of_decide_eq_true rfl) ?_
  have hS := Sat.start w0
  refine cw_seq ?_
  refine cw_reg ?_
  refine el_pv (pv_assign rfl) (by decide) ?_
  refine el_nil ?_
  refine thn_n ?_
  refine cw_seq ?_
  refine cw_reg ?_
  refine el_pv (pv_move rfl) (by decide) ?_
  refine el_pv (pv_len rfl ha0) (by decide) ?_
  refine el_pv (pv_gtr rfl rfl) (by decide) ?_
  refine el_pv (pv_assign rfl) (by decide) ?_
  refine el_nil ?_
  refine thn_n ?_
  refine cw_ret ?_
  obtain rfl := Option.some.inj hF
  refine fin1 rfl rfl ?_
  exact ⟨rfl, hS.below⟩
end Go.Proofs.Ytobjjdfgnaanjaa
