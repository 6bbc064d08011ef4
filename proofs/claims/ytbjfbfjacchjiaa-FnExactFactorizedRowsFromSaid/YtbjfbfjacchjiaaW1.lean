/- The walks through functions of the program: each hands back what it comes to. No condition but that it comes to something. -/
import Derived.Test.YtbjfbfjacchjiaaW0
import Derived.Test.YtbjfbfjacchjiaaW1D
namespace Go.Proofs.Ytbjfbfjacchjiaa
open Go.RowKit
set_option maxRecDepth 100000
set_option maxHeartbeats 4000000 in
theorem spec_FactorizedRowCount_ok {w0 : World} {u0 : Value} {a0 : List Int} {u1 : Value} {a1 : List (List Int × List Int)} (ha0 : (sliceR intR 3).rd w0 [u0] a0) (ha1 : (sliceR (pairR (sliceR intR 3) (sliceR intR 3)) 57).rd w0 [u1] a1) {N : Nat} {r : Int} (hF : spec_FactorizedRowCount N a0 a1 = some r) :
    Calls Try.prog 10 #[.agg #[u0, u1]] w0 fun e w' => e = .returned (.int .i64 r) ∧ Ext w0 w' := by
  unfold spec_FactorizedRowCount at hF
  refine calls_E Try.func10 rfl rfl (of_decide_eq_true rfl) ?_
  have hS := Sat.start w0
  refine cw_seq ?_
  refine cw_gen ?_
  intro Q101 hQ101
  refine cw_reg ?_
  refine el_box [u0, u1] rfl hS (by decide) ?_
  intro w102 b103 hS hx104
  refine el_pv (v := .int .i64 0) (pv_assign rfl) (by decide) ?_
  refine el_nil ?_
  refine hQ101 _ _ _ ?_
  refine thn_n ?_
  refine cw_seq ?_
  refine cw_gen ?_
  intro Q106 hQ106
  refine cw_seq ?_
  refine cw_gen ?_
  intro Q107 hQ107
  refine cw_reg ?_
  refine el_pv (v := .agg #[u0, u1]) (pv_loada (cs := [u0, u1]) rfl rfl (boxc0 (hS.boxAt 0 rfl))) (by decide) ?_
  replace hF := ob hF
  obtain ⟨r108, hr108, hF⟩ := hF
  refine el_call goes34 (spec_IsValidFactorization_ok (hS.up ha0) (hS.up ha1) hr108) (congrArg List.toArray (mapc rfl rfl)) (by decide) ?_
  rintro _ w109 ⟨rfl, hx110⟩
  refine ⟨_, rfl, ?_⟩
  replace hS := hS.ext hx110
  refine el_pv (v := .bool (!r108)) (pv_not rfl) (by decide) ?_
  refine el_nil ?_
  refine hQ107 _ _ _ ?_
  refine thn_n ?_
  replace hF := oif hF
  rcases hF with ⟨hb111, hF⟩ | ⟨hb111, hF⟩
  · refine cw_cond_f rfl (bnot_t hb111) ?_
    refine cw_skip ?_
    refine hQ106 _ _ _ ?_
    refine thn_n ?_
    refine cw_seq ?_
    refine cw_gen ?_
    intro Q112 hQ112
    refine cw_reg ?_
    refine el_pv (v := .agg #[u0, u1]) (pv_loada (cs := [u0, u1]) rfl rfl (boxc0 (hS.boxAt 0 rfl))) (by decide) ?_
    replace hF := ob hF
    obtain ⟨r113, hr113, hF⟩ := hF
    refine el_call goes35 (spec_l23Counts_ok (hS.up ha0) (hS.up ha1) hr113) (congrArg List.toArray (mapc rfl rfl)) (by decide) ?_
    rintro _ w116 ⟨v114, rfl, hS'⟩
    refine ⟨_, rfl, ?_⟩
    have hx117 := hS'.below
    replace hS := hS.call1 hS'
    refine el_pv (v := v114) (pv_assign rfl) (by decide) ?_
    refine el_nil ?_
    refine hQ112 _ _ _ ?_
    refine thn_n ?_
    refine cw_seq ?_
    refine cw_gen ?_
    intro Q118 hQ118
    refine cw_reg ?_
    refine el_pv (v := v114) (pv_move rfl) (by decide) ?_
    refine el_pv (v := v114) (pv_move rfl) (by decide) ?_
    refine el_pv (v := .int .i64 (r113.length : Int)) (pv_len rfl (hS.rdAt (R := (sliceR intR 3)) 0 rfl)) (by decide) ?_
    replace hF := ob hF
    obtain ⟨x119, hx119, hF⟩ := hF
    refine el_pv (v := .int .i64 x119) (pv_sub rfl rfl hx119) (by decide) ?_
    replace hF := ob hF
    obtain ⟨x120, hx120, hF⟩ := hF
    obtain ⟨g121, cap122, hv123⟩ := ownShape 0 hS rfl hx120
    refine el_pv (v := .pointer (some ⟨g121, x119.toNat * 1, none⟩)) (pv_indexF (v := v114) rfl hv123 rfl hx120) (by decide) ?_
    refine el_pv (v := .int .i64 x120) (pv_loadc rfl (hS.ownCell 0 rfl hv123 hx120)) (by decide) ?_
    refine el_pv (v := .int .i64 x120) (pv_assign rfl) (by decide) ?_
    refine el_nil ?_
    refine hQ118 _ _ _ ?_
    refine thn_n ?_
    refine cw_ret ?_
    refine fin1 rfl rfl ?_
    have hr := Option.some.inj hF
    exact ⟨congrArg (fun (r : Int) => Ending.returned (.int .i64 r)) hr, hS.below⟩
  · refine cw_cond_t rfl (bnot_f hb111) ?_
    refine cw_seq ?_
    refine cw_gen ?_
    intro Q124 hQ124
    refine cw_reg ?_
    refine el_pv (v := .int .i64 0) (pv_assign rfl) (by decide) ?_
    refine el_nil ?_
    refine hQ124 _ _ _ ?_
    refine thn_n ?_
    refine cw_ret ?_
    refine hQ106 _ _ _ ?_
    refine thn_r ?_
    refine fin1 rfl rfl ?_
    have hr := Option.some.inj hF
    exact ⟨congrArg (fun (r : Int) => Ending.returned (.int .i64 r)) hr, hS.below⟩
set_option maxHeartbeats 4000000 in
theorem laws_toIntS_ok {w0 : World} {u0 : Value} {a0 : List Int} (ha0 : (sliceR intR 3).rd w0 [u0] a0) {N : Nat} {r : (List Int)} (hF : laws_toIntS N a0 = some r) :
    Calls Try.prog 15 #[u0] w0 fun e w' => ∃ (q0 : Value), e = .returned (q0) ∧ Sat w0 w' [Own (sliceR intR 3) [q0] r] := by
  unfold laws_toIntS at hF
  refine calls_E Try.func15 rfl rfl (of_decide_eq_true rfl) ?_
  have hS := Sat.start w0
  refine cw_seq ?_
  refine cw_gen ?_
  intro Q101 hQ101
  refine cw_reg ?_
  refine el_pv (v := (.slice none 0 0)) (pv_assign rfl) (by decide) ?_
  refine el_nil ?_
  refine hQ101 _ _ _ ?_
  refine thn_n ?_
  refine cw_seq ?_
  refine cw_gen ?_
  intro Q102 hQ102
  refine cw_reg ?_
  refine el_pv (v := u0) (pv_move rfl) (by decide) ?_
  refine el_pv (v := .int .i64 (a0.length : Int)) (pv_len rfl ha0) (by decide) ?_
  replace hF := ob hF
  obtain ⟨x106, hx106, hF⟩ := hF
  refine el_make (R := intR) (x0 := 0) rfl (by decide) rfl (fun _ => ⟨rfl, rfl⟩) rfl rfl hx106 hS (by decide) ?_
  intro w103 g104 k105 hS hx107 hlx106
  refine el_pv (v := (.slice (some ⟨g104, 0, none⟩) k105 k105)) (pv_assign rfl) (by decide) ?_
  refine el_nil ?_
  refine hQ102 _ _ _ ?_
  refine thn_n ?_
  refine cw_seq ?_
  refine cw_gen ?_
  intro Q109 hQ109
  refine cw_seq ?_
  refine cw_gen ?_
  intro Q110 hQ110
  refine cw_reg ?_
  refine el_pv (v := .int .i64 0) (pv_assign rfl) (by decide) ?_
  refine el_nil ?_
  refine hQ110 _ _ _ ?_
  refine thn_n ?_
  refine cw_block ?_
  refine cw_gen ?_
  intro Q111 hQ111
  obtain ⟨s112, hL, hK113⟩ := ob hF
  refine cw_loopS (fun k e w => ∃ (v115 : Value), ∃ (x114 : List Int), ∃ (x116 : Int), e 0 = u0 ∧ e 3 = v115 ∧ e 4 = .int .i64 x116 ∧ Sat w0 w [Own (sliceR intR 3) [v115] x114] ∧ laws_toIntS_L1 N k a0 x114 x116 = some s112) N ?_ ?_ ?_
  · exact ⟨(.slice (some ⟨g104, 0, none⟩) k105 k105), x106, 0, rfl, rfl, rfl, hS, hL⟩
  · rintro e w ⟨_, _, _, _, _, _, _, hz⟩; exact nomatch (show none = some _ from hz)
  · rintro k e121 w120 ⟨v115, x114, x116, he117, he118, he119, hS, hF⟩
    refine cw_gen ?_
    intro Q122 hQ122
    refine cw_seq ?_
    refine cw_gen ?_
    intro Q123 hQ123
    refine cw_seq ?_
    refine cw_gen ?_
    intro Q124 hQ124
    refine cw_reg ?_
    refine el_pv (v := .int .i64 x116) (pv_move he119) (by decide) ?_
    refine el_pv (v := u0) (pv_move he117) (by decide) ?_
    refine el_pv (v := .int .i64 (a0.length : Int)) (pv_len rfl ha0) (by decide) ?_
    refine el_pv (v := .bool (decide (x116 < (a0.length : Int)))) (pv_lss rfl rfl) (by decide) ?_
    refine el_nil ?_
    refine hQ124 _ _ _ ?_
    refine thn_n ?_
    replace hF := oif hF
    rcases hF with ⟨hb125, hF⟩ | ⟨hb125, hF⟩
    · refine cw_cond_t rfl hb125 ?_
      refine cw_skip ?_
      refine hQ123 _ _ _ ?_
      refine thn_n ?_
      refine cw_seq ?_
      refine cw_gen ?_
      intro Q126 hQ126
      refine cw_block ?_
      refine cw_gen ?_
      intro Q127 hQ127
      refine cw_reg ?_
      refine el_pv (v := v115) (pv_move he118) (by decide) ?_
      refine el_pv (v := .int .i64 x116) (pv_move he119) (by decide) ?_
      refine el_pv (v := u0) (pv_move he117) (by decide) ?_
      refine el_pv (v := .int .i64 x116) (pv_move he119) (by decide) ?_
      replace hF := ob hF
      obtain ⟨x128, hx128, hF⟩ := hF
      refine el_index (wA := w0) rfl ha0 rfl (by decide) rfl hx128 (by decide) ?_
      intro b129 of130 c131 hr132 hm133
      obtain rfl := hr132
      refine el_pv (v := .int .i64 x128) (pv_loadc rfl ((cells_up hS.below hm133) 0 _ rfl)) (by decide) ?_
      replace hF := ob hF
      obtain ⟨x134, hx134, hF⟩ := hF
      obtain ⟨g135, cap136, hv137⟩ := ownShape 0 hS rfl hx134
      refine el_pv (v := .pointer (some ⟨g135, x116.toNat * 1, none⟩)) (pv_indexF (v := v115) rfl hv137 rfl hx134) (by decide) ?_
      replace hF := ob hF
      obtain ⟨x139, hx139, hF⟩ := hF
      replace hS := hS.int x128
      refine el_storeO rfl hv137 hS hx139 rfl rfl ?_
      intro w138 hS
      refine el_nil ?_
      refine hQ127 _ _ _ ?_
      refine inb_n ?_
      refine hQ126 _ _ _ ?_
      refine thn_n ?_
      refine cw_reg ?_
      refine el_pv (v := .int .i64 x116) (pv_move he119) (by decide) ?_
      replace hF := ob hF
      obtain ⟨x140, hx140, hF⟩ := hF
      refine el_pv (v := .int .i64 x140) (pv_add rfl rfl hx140) (by decide) ?_
      refine el_pv (v := .int .i64 x140) (pv_assign rfl) (by decide) ?_
      refine el_nil ?_
      refine hQ122 _ _ _ ?_
      refine thn_n ?_
      replace hS := hS.keep 1
      exact ⟨v115, x139, x140, he117, he118, rfl, hS, hF⟩
    · refine cw_cond_f rfl hb125 ?_
      refine cw_exit ?_
      refine hQ123 _ _ _ ?_
      refine thn_x ?_
      refine hQ122 _ _ _ ?_
      refine thn_x ?_
      replace hF := exB hF hK113
      refine hQ111 _ _ _ ?_
      refine inb_s ?_
      refine hQ109 _ _ _ ?_
      refine thn_n ?_
      refine cw_seq ?_
      refine cw_gen ?_
      intro Q141 hQ141
      refine cw_reg ?_
      refine el_pv (v := v115) (pv_move he118) (by decide) ?_
      refine el_pv (v := v115) (pv_assign rfl) (by decide) ?_
      refine el_nil ?_
      refine hQ141 _ _ _ ?_
      refine thn_n ?_
      refine cw_ret ?_
      refine fin1 rfl rfl ?_
      have hr := Option.some.inj hF
      exact ⟨v115, congrArg (fun (r : (List Int)) => Ending.returned (v115)) hr, Eq.mp (congrArg (fun (r : (List Int)) => Sat w0 w120 [Own (sliceR intR 3) [v115] r]) hr) (hS.keep 1)⟩
set_option maxHeartbeats 4000000 in
theorem laws_toFactorNode_ok {w0 : World} {u0 : Value} {a0 : List Int} {u1 : Value} {a1 : List Int} (ha0 : (sliceR intR 3).rd w0 [u0] a0) (ha1 : (sliceR intR 3).rd w0 [u1] a1) {N : Nat} {r : (List Int × List Int)} (hF : laws_toFactorNode N a0 a1 = some r) :
    Calls Try.prog 51 #[.agg #[u0, u1]] w0 fun e w' => ∃ (q0 : Value) (q1 : Value), e = .returned (.agg #[q0, q1]) ∧ Sat w0 w' [Own (sliceR intR 3) [q0] r.1, Own (sliceR intR 3) [q1] r.2] := by
  unfold laws_toFactorNode at hF
  refine calls_E Try.func51 rfl rfl (of_decide_eq_true rfl) ?_
  have hS := Sat.start w0
  refine cw_seq ?_
  refine cw_gen ?_
  intro Q101 hQ101
  refine cw_reg ?_
  refine el_box [u0, u1] rfl hS (by decide) ?_
  intro w102 b103 hS hx104
  refine el_alloc hS (by decide) ?_
  intro w106 b107 hS hx108
  refine el_nil ?_
  refine hQ101 _ _ _ ?_
  refine thn_n ?_
  refine cw_seq ?_
  refine cw_gen ?_
  intro Q110 hQ110
  refine cw_reg ?_
  refine el_alloc hS (by decide) ?_
  intro w111 b112 hS hx113
  refine el_nil ?_
  refine hQ110 _ _ _ ?_
  refine thn_n ?_
  refine cw_seq ?_
  refine cw_gen ?_
  intro Q115 hQ115
  refine cw_reg ?_
  refine el_pv (v := .pointer (some ⟨b103, 0 + 0, none⟩)) (pv_fieldAddr rfl) (by decide) ?_
  refine el_pv (v := u0) (pv_loadc rfl ((hS.boxAt 2 rfl) 0 _ rfl)) (by decide) ?_
  replace hF := ob hF
  obtain ⟨r116, hr116, hF⟩ := hF
  refine el_call goes15 (laws_toIntS_ok (hS.up ha0) hr116) (congrArg List.toArray (mapc rfl rfl)) (by decide) ?_
  rintro _ w119 ⟨v117, rfl, hS'⟩
  refine ⟨_, rfl, ?_⟩
  have hx120 := hS'.below
  replace hS := hS.call1 hS'
  refine el_pv (v := .pointer (some ⟨b112, 0 + 0, none⟩)) (pv_fieldAddr rfl) (by decide) ?_
  refine el_storev (hS.top 1 rfl) rfl [v117] (cells_of rfl (oc (hS.rdAt (R := (sliceR intR 3)) 0 rfl))) rfl (of_decide_eq_true rfl) (all_cons (oc (hS.rdAt (R := (sliceR intR 3)) 0 rfl)) rfl) ?_
  intro w121 hS
  replace hS : Sat w0 w121 [Box b112 57 [v117, (.slice none 0 0)], Own (sliceR intR 3) [v117] r116, Box b107 57 [(.slice none 0 0), (.slice none 0 0)], Box b103 62 [u0, u1]] := hS
  refine el_nil ?_
  refine hQ115 _ _ _ ?_
  refine thn_n ?_
  refine cw_seq ?_
  refine cw_gen ?_
  intro Q122 hQ122
  refine cw_reg ?_
  refine el_pv (v := .pointer (some ⟨b103, 0 + 1, none⟩)) (pv_fieldAddr rfl) (by decide) ?_
  refine el_pv (v := u1) (pv_loadc rfl ((hS.boxAt 3 rfl) 1 _ rfl)) (by decide) ?_
  replace hF := ob hF
  obtain ⟨r123, hr123, hF⟩ := hF
  refine el_call goes15 (laws_toIntS_ok (hS.up ha1) hr123) (congrArg List.toArray (mapc rfl rfl)) (by decide) ?_
  rintro _ w126 ⟨v124, rfl, hS'⟩
  refine ⟨_, rfl, ?_⟩
  have hx127 := hS'.below
  replace hS := hS.call1 hS'
  refine el_pv (v := .pointer (some ⟨b112, 0 + 1, none⟩)) (pv_fieldAddr rfl) (by decide) ?_
  refine el_storev (hS.top 1 rfl) rfl [v124] (cells_of rfl (oc (hS.rdAt (R := (sliceR intR 3)) 0 rfl))) rfl (of_decide_eq_true rfl) (all_cons (oc (hS.rdAt (R := (sliceR intR 3)) 0 rfl)) rfl) ?_
  intro w128 hS
  replace hS : Sat w0 w128 [Box b112 57 [v117, v124], Own (sliceR intR 3) [v124] r123, Own (sliceR intR 3) [v117] r116, Box b107 57 [(.slice none 0 0), (.slice none 0 0)], Box b103 62 [u0, u1]] := hS
  refine el_nil ?_
  refine hQ122 _ _ _ ?_
  refine thn_n ?_
  refine cw_seq ?_
  refine cw_gen ?_
  intro Q129 hQ129
  refine cw_reg ?_
  refine el_pv (v := .agg #[v117, v124]) (pv_loada (cs := [v117, v124]) rfl rfl (boxc0 (hS.boxAt 0 rfl))) (by decide) ?_
  refine el_storev (hS.top 3 rfl) rfl [v117, v124] rfl rfl (of_decide_eq_true rfl) (all_cons (oc (hS.rdAt (R := (sliceR intR 3)) 2 rfl)) (all_cons (oc (hS.rdAt (R := (sliceR intR 3)) 1 rfl)) rfl)) ?_
  intro w130 hS
  replace hS : Sat w0 w130 [Box b107 57 [v117, v124], Box b112 57 [v117, v124], Own (sliceR intR 3) [v124] r123, Own (sliceR intR 3) [v117] r116, Box b103 62 [u0, u1]] := hS
  refine el_nil ?_
  refine hQ129 _ _ _ ?_
  refine thn_n ?_
  refine cw_ret ?_
  refine finC (cs := [v117, v124]) rfl rfl rfl (boxc0 (hS.boxAt 0 rfl))  ?_
  replace hS : Sat w0 w130 [Own (sliceR intR 3) [v124] r123, Box b107 57 [v117, v124], Box b112 57 [v117, v124], Own (sliceR intR 3) [v117] r116, Box b103 62 [u0, u1]] := hS.top 2 rfl
  replace hS : Sat w0 w130 [Own (sliceR intR 3) [v117] r116, Own (sliceR intR 3) [v124] r123, Box b107 57 [v117, v124], Box b112 57 [v117, v124], Box b103 62 [u0, u1]] := hS.top 3 rfl
  have hr := Option.some.inj hF
  exact ⟨v117, v124, congrArg (fun (r : (List Int × List Int)) => Ending.returned (.agg #[v117, v124])) hr, Eq.mp (congrArg (fun (r : (List Int × List Int)) => Sat w0 w130 [Own (sliceR intR 3) [v117] r.1, Own (sliceR intR 3) [v124] r.2]) hr) (hS.keep 2)⟩
set_option maxHeartbeats 4000000 in
theorem laws_toFactorNodeS_ok {w0 : World} {u0 : Value} {a0 : List (List Int × List Int)} (ha0 : (sliceR (pairR (sliceR intR 3) (sliceR intR 3)) 62).rd w0 [u0] a0) {N : Nat} {r : (List (List Int × List Int))} (hF : laws_toFactorNodeS N a0 = some r) :
    Calls Try.prog 36 #[u0] w0 fun e w' => ∃ (q0 : Value), e = .returned (q0) ∧ Sat w0 w' [Own (sliceR (pairR (sliceR intR 3) (sliceR intR 3)) 57) [q0] r] := by
  unfold laws_toFactorNodeS at hF
  refine calls_E Try.func36 rfl rfl (of_decide_eq_true rfl) ?_
  have hS := Sat.start w0
  refine cw_seq ?_
  refine cw_gen ?_
  intro Q101 hQ101
  refine cw_reg ?_
  refine el_pv (v := (.slice none 0 0)) (pv_assign rfl) (by decide) ?_
  refine el_nil ?_
  refine hQ101 _ _ _ ?_
  refine thn_n ?_
  refine cw_seq ?_
  refine cw_gen ?_
  intro Q102 hQ102
  refine cw_reg ?_
  refine el_pv (v := u0) (pv_move rfl) (by decide) ?_
  refine el_pv (v := .int .i64 (a0.length : Int)) (pv_len rfl ha0) (by decide) ?_
  replace hF := ob hF
  obtain ⟨x106, hx106, hF⟩ := hF
  refine el_make (R := (pairR (sliceR intR 3) (sliceR intR 3))) (x0 := ([], [])) rfl (by decide) rfl (fun _ => ⟨_, _, [], [], rfl, rfl, .inl ⟨rfl, rfl, rfl⟩, .inl ⟨rfl, rfl, rfl⟩⟩) rfl rfl hx106 hS (by decide) ?_
  intro w103 g104 k105 hS hx107 hlx106
  refine el_pv (v := (.slice (some ⟨g104, 0, none⟩) k105 k105)) (pv_assign rfl) (by decide) ?_
  refine el_nil ?_
  refine hQ102 _ _ _ ?_
  refine thn_n ?_
  refine cw_seq ?_
  refine cw_gen ?_
  intro Q109 hQ109
  refine cw_seq ?_
  refine cw_gen ?_
  intro Q110 hQ110
  refine cw_reg ?_
  refine el_pv (v := .int .i64 0) (pv_assign rfl) (by decide) ?_
  refine el_nil ?_
  refine hQ110 _ _ _ ?_
  refine thn_n ?_
  refine cw_block ?_
  refine cw_gen ?_
  intro Q111 hQ111
  obtain ⟨s112, hL, hK113⟩ := ob hF
  refine cw_loopS (fun k e w => ∃ (v115 : Value), ∃ (x114 : List (List Int × List Int)), ∃ (x116 : Int), e 0 = u0 ∧ e 3 = v115 ∧ e 4 = .int .i64 x116 ∧ Sat w0 w [Own (sliceR (pairR (sliceR intR 3) (sliceR intR 3)) 57) [v115] x114] ∧ laws_toFactorNodeS_L1 N k a0 x114 x116 = some s112) N ?_ ?_ ?_
  · exact ⟨(.slice (some ⟨g104, 0, none⟩) k105 k105), x106, 0, rfl, rfl, rfl, hS, hL⟩
  · rintro e w ⟨_, _, _, _, _, _, _, hz⟩; exact nomatch (show none = some _ from hz)
  · rintro k e121 w120 ⟨v115, x114, x116, he117, he118, he119, hS, hF⟩
    refine cw_gen ?_
    intro Q122 hQ122
    refine cw_seq ?_
    refine cw_gen ?_
    intro Q123 hQ123
    refine cw_seq ?_
    refine cw_gen ?_
    intro Q124 hQ124
    refine cw_reg ?_
    refine el_pv (v := .int .i64 x116) (pv_move he119) (by decide) ?_
    refine el_pv (v := u0) (pv_move he117) (by decide) ?_
    refine el_pv (v := .int .i64 (a0.length : Int)) (pv_len rfl ha0) (by decide) ?_
    refine el_pv (v := .bool (decide (x116 < (a0.length : Int)))) (pv_lss rfl rfl) (by decide) ?_
    refine el_nil ?_
    refine hQ124 _ _ _ ?_
    refine thn_n ?_
    replace hF := oif hF
    rcases hF with ⟨hb125, hF⟩ | ⟨hb125, hF⟩
    · refine cw_cond_t rfl hb125 ?_
      refine cw_skip ?_
      refine hQ123 _ _ _ ?_
      refine thn_n ?_
      refine cw_seq ?_
      refine cw_gen ?_
      intro Q126 hQ126
      refine cw_block ?_
      refine cw_gen ?_
      intro Q127 hQ127
      refine cw_reg ?_
      refine el_pv (v := v115) (pv_move he118) (by decide) ?_
      refine el_pv (v := .int .i64 x116) (pv_move he119) (by decide) ?_
      refine el_pv (v := u0) (pv_move he117) (by decide) ?_
      refine el_pv (v := .int .i64 x116) (pv_move he119) (by decide) ?_
      replace hF := ob hF
      obtain ⟨x128, hx128, hF⟩ := hF
      refine el_index (wA := w0) rfl ha0 rfl (by decide) rfl hx128 (by decide) ?_
      intro b129 of130 c131 hr132 hm133
      obtain ⟨_, _, rfl, hr134, hr135⟩ := hr132
      obtain ⟨v136, rfl⟩ := slice_one hr134
      obtain ⟨v137, rfl⟩ := slice_one hr135
      refine el_pv (v := .agg #[v136, v137]) (pv_loada (cs := [v136, v137]) rfl rfl (cells_up hS.below hm133)) (by decide) ?_
      replace hF := ob hF
      obtain ⟨r138, hr138, hF⟩ := hF
      refine el_call goes51 (laws_toFactorNode_ok (hS.up hr134) (hS.up hr135) hr138) (congrArg List.toArray (mapc rfl rfl)) (by decide) ?_
      rintro _ w143 ⟨v139, v140, rfl, hS'⟩
      refine ⟨_, rfl, ?_⟩
      have hx144 := hS'.below
      replace hS := hS.call2 hS'
      replace hF := ob hF
      obtain ⟨x145, hx145, hF⟩ := hF
      replace hS : Sat w0 w143 [Own (sliceR (pairR (sliceR intR 3) (sliceR intR 3)) 57) [v115] x114, Own (sliceR intR 3) [v139] r138.1, Own (sliceR intR 3) [v140] r138.2] := hS.top 2 rfl
      refine el_indexO hS rfl rfl (by decide) rfl hx145 (by decide) ?_
      intro b146 of147 c148 hv151 hr149 hm150
      obtain ⟨_, _, rfl, hr152, hr153⟩ := hr149
      obtain ⟨v154, rfl⟩ := slice_one hr152
      obtain ⟨v155, rfl⟩ := slice_one hr153
      replace hF := ob hF
      obtain ⟨x157, hx157, hF⟩ := hF
      replace hS : Sat w0 w143 [Own (sliceR intR 3) [v140] r138.2, Own (sliceR (pairR (sliceR intR 3) (sliceR intR 3)) 57) [v115] x114, Own (sliceR intR 3) [v139] r138.1] := hS.top 2 rfl
      replace hS : Sat w0 w143 [Own (sliceR intR 3) [v139] r138.1, _, Own (sliceR (pairR (sliceR intR 3) (sliceR intR 3)) 57) [v115] x114] := hS.top 2 rfl
      replace hS := hS.pair
      refine el_storeO rfl hv151 hS hx157 rfl rfl ?_
      intro w156 hS
      refine el_nil ?_
      refine hQ127 _ _ _ ?_
      refine inb_n ?_
      refine hQ126 _ _ _ ?_
      refine thn_n ?_
      refine cw_reg ?_
      refine el_pv (v := .int .i64 x116) (pv_move he119) (by decide) ?_
      replace hF := ob hF
      obtain ⟨x158, hx158, hF⟩ := hF
      refine el_pv (v := .int .i64 x158) (pv_add rfl rfl hx158) (by decide) ?_
      refine el_pv (v := .int .i64 x158) (pv_assign rfl) (by decide) ?_
      refine el_nil ?_
      refine hQ122 _ _ _ ?_
      refine thn_n ?_
      replace hS := hS.keep 1
      exact ⟨v115, x157, x158, he117, he118, rfl, hS, hF⟩
    · refine cw_cond_f rfl hb125 ?_
      refine cw_exit ?_
      refine hQ123 _ _ _ ?_
      refine thn_x ?_
      refine hQ122 _ _ _ ?_
      refine thn_x ?_
      replace hF := exB hF hK113
      refine hQ111 _ _ _ ?_
      refine inb_s ?_
      refine hQ109 _ _ _ ?_
      refine thn_n ?_
      refine cw_seq ?_
      refine cw_gen ?_
      intro Q159 hQ159
      refine cw_reg ?_
      refine el_pv (v := v115) (pv_move he118) (by decide) ?_
      refine el_pv (v := v115) (pv_assign rfl) (by decide) ?_
      refine el_nil ?_
      refine hQ159 _ _ _ ?_
      refine thn_n ?_
      refine cw_ret ?_
      refine fin1 rfl rfl ?_
      have hr := Option.some.inj hF
      exact ⟨v115, congrArg (fun (r : (List (List Int × List Int))) => Ending.returned (v115)) hr, Eq.mp (congrArg (fun (r : (List (List Int × List Int))) => Sat w0 w120 [Own (sliceR (pairR (sliceR intR 3) (sliceR intR 3)) 57) [v115] r]) hr) (hS.keep 1)⟩
set_option maxHeartbeats 4000000 in
theorem laws_toFactorization_ok {w0 : World} {u0 : Value} {a0 : List Int} {u1 : Value} {a1 : List (List Int × List Int)} (ha0 : (sliceR intR 3).rd w0 [u0] a0) (ha1 : (sliceR (pairR (sliceR intR 3) (sliceR intR 3)) 62).rd w0 [u1] a1) {N : Nat} {r : (List Int × List (List Int × List Int))} (hF : laws_toFactorization N a0 a1 = some r) :
    Calls Try.prog 11 #[.agg #[u0, u1]] w0 fun e w' => ∃ (q0 : Value) (q1 : Value), e = .returned (.agg #[q0, q1]) ∧ Sat w0 w' [Own (sliceR intR 3) [q0] r.1, Own (sliceR (pairR (sliceR intR 3) (sliceR intR 3)) 57) [q1] r.2] := by
  unfold laws_toFactorization at hF
  refine calls_E Try.func11 rfl rfl (of_decide_eq_true rfl) ?_
  have hS := Sat.start w0
  refine cw_seq ?_
  refine cw_gen ?_
  intro Q101 hQ101
  refine cw_reg ?_
  refine el_box [u0, u1] rfl hS (by decide) ?_
  intro w102 b103 hS hx104
  refine el_alloc hS (by decide) ?_
  intro w106 b107 hS hx108
  refine el_nil ?_
  refine hQ101 _ _ _ ?_
  refine thn_n ?_
  refine cw_seq ?_
  refine cw_gen ?_
  intro Q110 hQ110
  refine cw_reg ?_
  refine el_alloc hS (by decide) ?_
  intro w111 b112 hS hx113
  refine el_nil ?_
  refine hQ110 _ _ _ ?_
  refine thn_n ?_
  refine cw_seq ?_
  refine cw_gen ?_
  intro Q115 hQ115
  refine cw_reg ?_
  refine el_pv (v := .pointer (some ⟨b103, 0 + 0, none⟩)) (pv_fieldAddr rfl) (by decide) ?_
  refine el_pv (v := u0) (pv_loadc rfl ((hS.boxAt 2 rfl) 0 _ rfl)) (by decide) ?_
  replace hF := ob hF
  obtain ⟨r116, hr116, hF⟩ := hF
  refine el_call goes15 (laws_toIntS_ok (hS.up ha0) hr116) (congrArg List.toArray (mapc rfl rfl)) (by decide) ?_
  rintro _ w119 ⟨v117, rfl, hS'⟩
  refine ⟨_, rfl, ?_⟩
  have hx120 := hS'.below
  replace hS := hS.call1 hS'
  refine el_pv (v := .pointer (some ⟨b112, 0 + 0, none⟩)) (pv_fieldAddr rfl) (by decide) ?_
  refine el_storev (hS.top 1 rfl) rfl [v117] (cells_of rfl (oc (hS.rdAt (R := (sliceR intR 3)) 0 rfl))) rfl (of_decide_eq_true rfl) (all_cons (oc (hS.rdAt (R := (sliceR intR 3)) 0 rfl)) rfl) ?_
  intro w121 hS
  replace hS : Sat w0 w121 [Box b112 30 [v117, (.slice none 0 0)], Own (sliceR intR 3) [v117] r116, Box b107 30 [(.slice none 0 0), (.slice none 0 0)], Box b103 25 [u0, u1]] := hS
  refine el_nil ?_
  refine hQ115 _ _ _ ?_
  refine thn_n ?_
  refine cw_seq ?_
  refine cw_gen ?_
  intro Q122 hQ122
  refine cw_reg ?_
  refine el_pv (v := .pointer (some ⟨b103, 0 + 1, none⟩)) (pv_fieldAddr rfl) (by decide) ?_
  refine el_pv (v := u1) (pv_loadc rfl ((hS.boxAt 3 rfl) 1 _ rfl)) (by decide) ?_
  replace hF := ob hF
  obtain ⟨r123, hr123, hF⟩ := hF
  refine el_call goes36 (laws_toFactorNodeS_ok (hS.up ha1) hr123) (congrArg List.toArray (mapc rfl rfl)) (by decide) ?_
  rintro _ w126 ⟨v124, rfl, hS'⟩
  refine ⟨_, rfl, ?_⟩
  have hx127 := hS'.below
  replace hS := hS.call1 hS'
  refine el_pv (v := .pointer (some ⟨b112, 0 + 1, none⟩)) (pv_fieldAddr rfl) (by decide) ?_
  refine el_storev (hS.top 1 rfl) rfl [v124] (cells_of rfl (oc (hS.rdAt (R := (sliceR (pairR (sliceR intR 3) (sliceR intR 3)) 57)) 0 rfl))) rfl (of_decide_eq_true rfl) (all_cons (oc (hS.rdAt (R := (sliceR (pairR (sliceR intR 3) (sliceR intR 3)) 57)) 0 rfl)) rfl) ?_
  intro w128 hS
  replace hS : Sat w0 w128 [Box b112 30 [v117, v124], Own (sliceR (pairR (sliceR intR 3) (sliceR intR 3)) 57) [v124] r123, Own (sliceR intR 3) [v117] r116, Box b107 30 [(.slice none 0 0), (.slice none 0 0)], Box b103 25 [u0, u1]] := hS
  refine el_nil ?_
  refine hQ122 _ _ _ ?_
  refine thn_n ?_
  refine cw_seq ?_
  refine cw_gen ?_
  intro Q129 hQ129
  refine cw_reg ?_
  refine el_pv (v := .agg #[v117, v124]) (pv_loada (cs := [v117, v124]) rfl rfl (boxc0 (hS.boxAt 0 rfl))) (by decide) ?_
  refine el_storev (hS.top 3 rfl) rfl [v117, v124] rfl rfl (of_decide_eq_true rfl) (all_cons (oc (hS.rdAt (R := (sliceR intR 3)) 2 rfl)) (all_cons (oc (hS.rdAt (R := (sliceR (pairR (sliceR intR 3) (sliceR intR 3)) 57)) 1 rfl)) rfl)) ?_
  intro w130 hS
  replace hS : Sat w0 w130 [Box b107 30 [v117, v124], Box b112 30 [v117, v124], Own (sliceR (pairR (sliceR intR 3) (sliceR intR 3)) 57) [v124] r123, Own (sliceR intR 3) [v117] r116, Box b103 25 [u0, u1]] := hS
  refine el_nil ?_
  refine hQ129 _ _ _ ?_
  refine thn_n ?_
  refine cw_ret ?_
  refine finC (cs := [v117, v124]) rfl rfl rfl (boxc0 (hS.boxAt 0 rfl))  ?_
  replace hS : Sat w0 w130 [Own (sliceR (pairR (sliceR intR 3) (sliceR intR 3)) 57) [v124] r123, Box b107 30 [v117, v124], Box b112 30 [v117, v124], Own (sliceR intR 3) [v117] r116, Box b103 25 [u0, u1]] := hS.top 2 rfl
  replace hS : Sat w0 w130 [Own (sliceR intR 3) [v117] r116, Own (sliceR (pairR (sliceR intR 3) (sliceR intR 3)) 57) [v124] r123, Box b107 30 [v117, v124], Box b112 30 [v117, v124], Box b103 25 [u0, u1]] := hS.top 3 rfl
  have hr := Option.some.inj hF
  exact ⟨v117, v124, congrArg (fun (r : (List Int × List (List Int × List Int))) => Ending.returned (.agg #[v117, v124])) hr, Eq.mp (congrArg (fun (r : (List Int × List (List Int × List Int))) => Sat w0 w130 [Own (sliceR intR 3) [v117] r.1, Own (sliceR (pairR (sliceR intR 3) (sliceR intR 3)) 57) [v124] r.2]) hr) (hS.keep 2)⟩
set_option maxHeartbeats 4000000 in
theorem impl_within_ok {w0 : World} {a0 : Int} {a1 : Int} {a2 : Int}  {N : Nat} {r : Bool} (hF : impl_within N a0 a1 a2 = some r) :
    Calls Try.prog 44 #[.int .i64 a0, .int .i64 a1, .int .i64 a2] w0 fun e w' => e = .returned (.bool r) ∧ Ext w0 w' := by
  unfold impl_within at hF
  refine calls_E Try.func44 rfl rfl (of_decide_eq_true rfl) ?_
  have hS := Sat.start w0
  refine cw_seq ?_
  refine cw_gen ?_
  intro Q101 hQ101
  refine cw_reg ?_
  refine el_pv (v := .bool false) (pv_assign rfl) (by decide) ?_
  refine el_nil ?_
  refine hQ101 _ _ _ ?_
  refine thn_n ?_
  refine cw_seq ?_
  refine cw_gen ?_
  intro Q102 hQ102
  refine cw_reg ?_
  refine el_pv (v := .int .i64 a0) (pv_move rfl) (by decide) ?_
  refine el_pv (v := .int .i64 a1) (pv_move rfl) (by decide) ?_
  refine el_pv (v := .bool (decide (a1 ≤ a0))) (pv_geq rfl rfl) (by decide) ?_
  refine el_pv (v := .bool (decide (a1 ≤ a0))) (pv_move rfl) (by decide) ?_
  replace hF := oif hF
  rcases hF with ⟨hb103, hF⟩ | ⟨hb103, hF⟩
  · refine el_on rfl hb103 ?_
    refine el_pv (v := .int .i64 a0) (pv_move rfl) (by decide) ?_
    refine el_on rfl hb103 ?_
    refine el_pv (v := .int .i64 a2) (pv_move rfl) (by decide) ?_
    refine el_on rfl hb103 ?_
    refine el_pv (v := .bool (decide (a0 ≤ a2))) (pv_leq rfl rfl) (by decide) ?_
    refine el_pv (v := .bool (decide (a0 ≤ a2))) (pv_pick_t rfl hb103 rfl) (by decide) ?_
    refine el_pv (v := .bool (decide (a0 ≤ a2))) (pv_assign rfl) (by decide) ?_
    refine el_nil ?_
    refine hQ102 _ _ _ ?_
    refine thn_n ?_
    refine cw_ret ?_
    refine fin1 rfl rfl ?_
    have hr := Option.some.inj hF
    exact ⟨congrArg (fun (r : Bool) => Ending.returned (.bool r)) hr, hS.below⟩
  · refine el_off rfl hb103 rfl (by decide) ?_
    refine el_off rfl hb103 rfl (by decide) ?_
    refine el_off rfl hb103 rfl (by decide) ?_
    refine el_pv (v := .bool false) (pv_pick_f rfl hb103 rfl) (by decide) ?_
    refine el_pv (v := .bool false) (pv_assign rfl) (by decide) ?_
    refine el_nil ?_
    refine hQ102 _ _ _ ?_
    refine thn_n ?_
    refine cw_ret ?_
    refine fin1 rfl rfl ?_
    have hr := Option.some.inj hF
    exact ⟨congrArg (fun (r : Bool) => Ending.returned (.bool r)) hr, hS.below⟩
set_option maxHeartbeats 4000000 in
theorem impl_indexOf_ok {w0 : World} {u0 : Value} {a0 : List Int} {a1 : Int} (ha0 : (sliceR intR 3).rd w0 [u0] a0) {N : Nat} {r : Int} (hF : impl_indexOf N a0 a1 = some r) :
    Calls Try.prog 41 #[u0, .int .i64 a1] w0 fun e w' => e = .returned (.int .i64 r) ∧ Ext w0 w' := by
  unfold impl_indexOf at hF
  refine calls_E Try.func41 rfl rfl (of_decide_eq_true rfl) ?_
  have hS := Sat.start w0
  refine cw_seq ?_
  refine cw_gen ?_
  intro Q101 hQ101
  refine cw_reg ?_
  refine el_pv (v := .int .i64 0) (pv_assign rfl) (by decide) ?_
  refine el_nil ?_
  refine hQ101 _ _ _ ?_
  refine thn_n ?_
  refine cw_seq ?_
  refine cw_gen ?_
  intro Q102 hQ102
  refine cw_seq ?_
  refine cw_gen ?_
  intro Q103 hQ103
  refine cw_reg ?_
  refine el_pv (v := u0) (pv_move rfl) (by decide) ?_
  refine el_pv (v := .int .i64 (a0.length : Int)) (pv_len rfl ha0) (by decide) ?_
  refine el_pv (v := .int .i64 0) (pv_move rfl) (by decide) ?_
  refine el_nil ?_
  refine hQ103 _ _ _ ?_
  refine thn_n ?_
  refine cw_block ?_
  refine cw_gen ?_
  intro Q104 hQ104
  obtain ⟨s105, hL, hK106⟩ := ob hF
  refine cw_loopS (fun k e w => ∃ (x107 : Int), e 1 = .int .i64 a1 ∧ e 7 = u0 ∧ e 8 = .int .i64 (a0.length : Int) ∧ e 9 = .int .i64 x107 ∧ Sat w0 w [] ∧ impl_indexOf_L1 N k a1 a0 (a0.length : Int) x107 = some s105) N ?_ ?_ ?_
  · exact ⟨0, rfl, rfl, rfl, rfl, hS, hL⟩
  · rintro e w ⟨_, _, _, _, _, _, hz⟩; exact nomatch (show none = some _ from hz)
  · rintro k e113 w112 ⟨x107, he108, he109, he110, he111, hS, hF⟩
    refine cw_gen ?_
    intro Q114 hQ114
    refine cw_seq ?_
    refine cw_gen ?_
    intro Q115 hQ115
    refine cw_reg ?_
    refine el_pv (v := .bool (decide (x107 < (a0.length : Int)))) (pv_lss he111 he110) (by decide) ?_
    refine el_nil ?_
    refine hQ115 _ _ _ ?_
    refine thn_n ?_
    refine cw_seq ?_
    refine cw_gen ?_
    intro Q116 hQ116
    replace hF := oif hF
    rcases hF with ⟨hb117, hF⟩ | ⟨hb117, hF⟩
    · refine cw_cond_t rfl hb117 ?_
      refine cw_skip ?_
      refine hQ116 _ _ _ ?_
      refine thn_n ?_
      refine cw_seq ?_
      refine cw_gen ?_
      intro Q118 hQ118
      refine cw_block ?_
      refine cw_gen ?_
      intro Q119 hQ119
      refine cw_seq ?_
      refine cw_gen ?_
      intro Q120 hQ120
      refine cw_reg ?_
      refine el_pv (v := .int .i64 x107) (pv_move he111) (by decide) ?_
      replace hF := ob hF
      obtain ⟨x121, hx121, hF⟩ := hF
      refine el_index (wA := w0) he109 ha0 rfl (by decide) he111 hx121 (by decide) ?_
      intro b122 of123 c124 hr125 hm126
      obtain rfl := hr125
      refine el_pv (v := .int .i64 x121) (pv_loadc rfl ((cells_up hS.below hm126) 0 _ rfl)) (by decide) ?_
      refine el_pv (v := .int .i64 x107) (pv_assign rfl) (by decide) ?_
      refine el_pv (v := .int .i64 x121) (pv_assign rfl) (by decide) ?_
      refine el_nil ?_
      refine hQ120 _ _ _ ?_
      refine thn_n ?_
      refine cw_seq ?_
      refine cw_gen ?_
      intro Q127 hQ127
      refine cw_reg ?_
      refine el_pv (v := .int .i64 x121) (pv_move rfl) (by decide) ?_
      refine el_pv (v := .int .i64 a1) (pv_move he108) (by decide) ?_
      refine el_pv (v := .bool (x121 == a1)) (pv_eql rfl rfl) (by decide) ?_
      refine el_nil ?_
      refine hQ127 _ _ _ ?_
      refine thn_n ?_
      replace hF := oif hF
      rcases hF with ⟨hb128, hF⟩ | ⟨hb128, hF⟩
      · refine cw_cond_t rfl hb128 ?_
        refine cw_seq ?_
        refine cw_gen ?_
        intro Q129 hQ129
        refine cw_reg ?_
        refine el_pv (v := .int .i64 x107) (pv_move rfl) (by decide) ?_
        refine el_pv (v := .int .i64 x107) (pv_assign rfl) (by decide) ?_
        refine el_nil ?_
        refine hQ129 _ _ _ ?_
        refine thn_n ?_
        refine cw_ret ?_
        refine hQ119 _ _ _ ?_
        refine inb_r ?_
        refine hQ118 _ _ _ ?_
        refine thn_r ?_
        refine hQ114 _ _ _ ?_
        refine thn_r ?_
        refine hQ104 _ _ _ ?_
        refine inb_r ?_
        refine hQ102 _ _ _ ?_
        refine thn_r ?_
        replace hF := exL hF hK106
        refine fin1 rfl rfl ?_
        have hr := Option.some.inj hF
        exact ⟨congrArg (fun (r : Int) => Ending.returned (.int .i64 r)) hr, hS.below⟩
      · refine cw_cond_f rfl hb128 ?_
        refine cw_skip ?_
        refine hQ119 _ _ _ ?_
        refine inb_n ?_
        refine hQ118 _ _ _ ?_
        refine thn_n ?_
        refine cw_reg ?_
        replace hF := ob hF
        obtain ⟨x130, hx130, hF⟩ := hF
        refine el_pv (v := .int .i64 x130) (pv_add he111 rfl hx130) (by decide) ?_
        refine el_pv (v := .int .i64 x130) (pv_move rfl) (by decide) ?_
        refine el_nil ?_
        refine hQ114 _ _ _ ?_
        refine thn_n ?_
        replace hS := hS.keep 0
        exact ⟨x130, he108, he109, he110, rfl, hS, hF⟩
    · refine cw_cond_f rfl hb117 ?_
      refine cw_exit ?_
      refine hQ116 _ _ _ ?_
      refine thn_x ?_
      refine hQ114 _ _ _ ?_
      refine thn_x ?_
      replace hF := exA hF hK106
      refine hQ104 _ _ _ ?_
      refine inb_s ?_
      refine hQ102 _ _ _ ?_
      refine thn_n ?_
      refine cw_seq ?_
      refine cw_gen ?_
      intro Q131 hQ131
      refine cw_reg ?_
      refine el_pv (v := .int .i64 (-1)) (pv_assign rfl) (by decide) ?_
      refine el_nil ?_
      refine hQ131 _ _ _ ?_
      refine thn_n ?_
      refine cw_ret ?_
      refine fin1 rfl rfl ?_
      have hr := Option.some.inj hF
      exact ⟨congrArg (fun (r : Int) => Ending.returned (.int .i64 r)) hr, hS.below⟩
set_option maxHeartbeats 4000000 in
theorem impl_hasInt_ok {w0 : World} {u0 : Value} {a0 : List Int} {a1 : Int} (ha0 : (sliceR intR 3).rd w0 [u0] a0) {N : Nat} {r : Bool} (hF : impl_hasInt N a0 a1 = some r) :
    Calls Try.prog 59 #[u0, .int .i64 a1] w0 fun e w' => e = .returned (.bool r) ∧ Ext w0 w' := by
  unfold impl_hasInt at hF
  refine calls_E Try.func59 rfl rfl (of_decide_eq_true rfl) ?_
  have hS := Sat.start w0
  refine cw_seq ?_
  refine cw_gen ?_
  intro Q101 hQ101
  refine cw_reg ?_
  refine el_pv (v := .bool false) (pv_assign rfl) (by decide) ?_
  refine el_nil ?_
  refine hQ101 _ _ _ ?_
  refine thn_n ?_
  refine cw_seq ?_
  refine cw_gen ?_
  intro Q102 hQ102
  refine cw_reg ?_
  refine el_pv (v := u0) (pv_move rfl) (by decide) ?_
  refine el_pv (v := .int .i64 a1) (pv_move rfl) (by decide) ?_
  replace hF := ob hF
  obtain ⟨r103, hr103, hF⟩ := hF
  refine el_call goes41 (impl_indexOf_ok (hS.up ha0) hr103) (congrArg List.toArray (mapc rfl (mapc rfl rfl))) (by decide) ?_
  rintro _ w104 ⟨rfl, hx105⟩
  refine ⟨_, rfl, ?_⟩
  replace hS := hS.ext hx105
  refine el_pv (v := .bool (decide (0 ≤ r103))) (pv_geq rfl rfl) (by decide) ?_
  refine el_pv (v := .bool (decide (0 ≤ r103))) (pv_assign rfl) (by decide) ?_
  refine el_nil ?_
  refine hQ102 _ _ _ ?_
  refine thn_n ?_
  refine cw_ret ?_
  refine fin1 rfl rfl ?_
  have hr := Option.some.inj hF
  exact ⟨congrArg (fun (r : Bool) => Ending.returned (.bool r)) hr, hS.below⟩
set_option maxHeartbeats 4000000 in
theorem impl_isSetOf_ok {w0 : World} {u0 : Value} {a0 : List Int} {a1 : Int} (ha0 : (sliceR intR 3).rd w0 [u0] a0) {N : Nat} {r : Bool} (hF : impl_isSetOf N a0 a1 = some r) :
    Calls Try.prog 55 #[u0, .int .i64 a1] w0 fun e w' => e = .returned (.bool r) ∧ Ext w0 w' := by
  unfold impl_isSetOf at hF
  refine calls_E Try.func55 rfl rfl (of_decide_eq_true rfl) ?_
  have hS := Sat.start w0
  refine cw_seq ?_
  refine cw_gen ?_
  intro Q101 hQ101
  refine cw_reg ?_
  refine el_pv (v := .bool false) (pv_assign rfl) (by decide) ?_
  refine el_nil ?_
  refine hQ101 _ _ _ ?_
  refine thn_n ?_
  refine cw_seq ?_
  refine cw_gen ?_
  intro Q102 hQ102
  refine cw_seq ?_
  refine cw_gen ?_
  intro Q103 hQ103
  refine cw_reg ?_
  refine el_pv (v := u0) (pv_move rfl) (by decide) ?_
  refine el_pv (v := .int .i64 (a0.length : Int)) (pv_len rfl ha0) (by decide) ?_
  refine el_pv (v := .int .i64 0) (pv_move rfl) (by decide) ?_
  refine el_nil ?_
  refine hQ103 _ _ _ ?_
  refine thn_n ?_
  refine cw_block ?_
  refine cw_gen ?_
  intro Q104 hQ104
  obtain ⟨s105, hL, hK106⟩ := ob hF
  refine cw_loopS (fun k e w => ∃ (x107 : Int), e 0 = u0 ∧ e 1 = .int .i64 a1 ∧ e 7 = u0 ∧ e 8 = .int .i64 (a0.length : Int) ∧ e 9 = .int .i64 x107 ∧ Sat w0 w [] ∧ impl_isSetOf_L1 N k a0 a1 a0 (a0.length : Int) x107 = some s105) N ?_ ?_ ?_
  · exact ⟨0, rfl, rfl, rfl, rfl, rfl, hS, hL⟩
  · rintro e w ⟨_, _, _, _, _, _, _, hz⟩; exact nomatch (show none = some _ from hz)
  · rintro k e114 w113 ⟨x107, he108, he109, he110, he111, he112, hS, hF⟩
    refine cw_gen ?_
    intro Q115 hQ115
    refine cw_seq ?_
    refine cw_gen ?_
    intro Q116 hQ116
    refine cw_reg ?_
    refine el_pv (v := .bool (decide (x107 < (a0.length : Int)))) (pv_lss he112 he111) (by decide) ?_
    refine el_nil ?_
    refine hQ116 _ _ _ ?_
    refine thn_n ?_
    refine cw_seq ?_
    refine cw_gen ?_
    intro Q117 hQ117
    replace hF := oif hF
    rcases hF with ⟨hb118, hF⟩ | ⟨hb118, hF⟩
    · refine cw_cond_t rfl hb118 ?_
      refine cw_skip ?_
      refine hQ117 _ _ _ ?_
      refine thn_n ?_
      refine cw_seq ?_
      refine cw_gen ?_
      intro Q119 hQ119
      refine cw_block ?_
      refine cw_gen ?_
      intro Q120 hQ120
      refine cw_seq ?_
      refine cw_gen ?_
      intro Q121 hQ121
      refine cw_reg ?_
      refine el_pv (v := .int .i64 x107) (pv_move he112) (by decide) ?_
      replace hF := ob hF
      obtain ⟨x122, hx122, hF⟩ := hF
      refine el_index (wA := w0) he110 ha0 rfl (by decide) he112 hx122 (by decide) ?_
      intro b123 of124 c125 hr126 hm127
      obtain rfl := hr126
      refine el_pv (v := .int .i64 x122) (pv_loadc rfl ((cells_up hS.below hm127) 0 _ rfl)) (by decide) ?_
      refine el_pv (v := .int .i64 x107) (pv_assign rfl) (by decide) ?_
      refine el_pv (v := .int .i64 x122) (pv_assign rfl) (by decide) ?_
      refine el_nil ?_
      refine hQ121 _ _ _ ?_
      refine thn_n ?_
      refine cw_seq ?_
      refine cw_gen ?_
      intro Q128 hQ128
      refine cw_reg ?_
      refine el_pv (v := .int .i64 x122) (pv_move rfl) (by decide) ?_
      refine el_pv (v := .int .i64 a1) (pv_move he109) (by decide) ?_
      replace hF := ob hF
      obtain ⟨x129, hx129, hF⟩ := hF
      refine el_pv (v := .int .i64 x129) (pv_sub rfl rfl hx129) (by decide) ?_
      replace hF := ob hF
      obtain ⟨r130, hr130, hF⟩ := hF
      refine el_call goes44 (impl_within_ok hr130) (congrArg List.toArray (mapc rfl (mapc rfl (mapc rfl rfl)))) (by decide) ?_
      rintro _ w131 ⟨rfl, hx132⟩
      refine ⟨_, rfl, ?_⟩
      replace hS := hS.ext hx132
      refine el_pv (v := .bool (!r130)) (pv_not rfl) (by decide) ?_
      refine el_pv (v := .bool (!r130)) (pv_move rfl) (by decide) ?_
      replace hF := oif hF
      rcases hF with ⟨hb133, hF⟩ | ⟨hb133, hF⟩
      · refine el_on rfl (bnot_t hb133) ?_
        refine el_pv (v := u0) (pv_move he108) (by decide) ?_
        refine el_on rfl (bnot_t hb133) ?_
        refine el_pv (v := .int .i64 x107) (pv_move rfl) (by decide) ?_
        refine el_on rfl (bnot_t hb133) ?_
        replace hF := ob hF
        obtain ⟨x134, hx134, hF⟩ := hF
        refine el_slice (wA := w0) rfl rfl ha0 (.inr ⟨rfl, rfl⟩) (.inl (congrArg some rfl)) hx134 (by decide) ?_
        intro v135 hr136
        refine el_on rfl (bnot_t hb133) ?_
        refine el_pv (v := .int .i64 x122) (pv_move rfl) (by decide) ?_
        refine el_on rfl (bnot_t hb133) ?_
        replace hF := ob hF
        obtain ⟨r137, hr137, hF⟩ := hF
        refine el_call goes59 (impl_hasInt_ok (hS.up hr136) hr137) (congrArg List.toArray (mapc rfl (mapc rfl rfl))) (by decide) ?_
        rintro _ w138 ⟨rfl, hx139⟩
        refine ⟨_, rfl, ?_⟩
        replace hS := hS.ext hx139
        refine el_pv (v := .bool r137) (pv_pick_f rfl (bnot_t hb133) rfl) (by decide) ?_
        refine el_nil ?_
        refine hQ128 _ _ _ ?_
        refine thn_n ?_
        replace hF := oif hF
        rcases hF with ⟨hb140, hF⟩ | ⟨hb140, hF⟩
        · refine cw_cond_t rfl hb140 ?_
          refine cw_seq ?_
          refine cw_gen ?_
          intro Q141 hQ141
          refine cw_reg ?_
          refine el_pv (v := .bool false) (pv_assign rfl) (by decide) ?_
          refine el_nil ?_
          refine hQ141 _ _ _ ?_
          refine thn_n ?_
          refine cw_ret ?_
          refine hQ120 _ _ _ ?_
          refine inb_r ?_
          refine hQ119 _ _ _ ?_
          refine thn_r ?_
          refine hQ115 _ _ _ ?_
          refine thn_r ?_
          refine hQ104 _ _ _ ?_
          refine inb_r ?_
          refine hQ102 _ _ _ ?_
          refine thn_r ?_
          replace hF := exL hF hK106
          refine fin1 rfl rfl ?_
          have hr := Option.some.inj hF
          exact ⟨congrArg (fun (r : Bool) => Ending.returned (.bool r)) hr, hS.below⟩
        · refine cw_cond_f rfl hb140 ?_
          refine cw_skip ?_
          refine hQ120 _ _ _ ?_
          refine inb_n ?_
          refine hQ119 _ _ _ ?_
          refine thn_n ?_
          refine cw_reg ?_
          replace hF := ob hF
          obtain ⟨x142, hx142, hF⟩ := hF
          refine el_pv (v := .int .i64 x142) (pv_add he112 rfl hx142) (by decide) ?_
          refine el_pv (v := .int .i64 x142) (pv_move rfl) (by decide) ?_
          refine el_nil ?_
          refine hQ115 _ _ _ ?_
          refine thn_n ?_
          replace hS := hS.keep 0
          exact ⟨x142, he108, he109, he110, he111, rfl, hS, hF⟩
      · refine el_off rfl (bnot_f hb133) rfl (by decide) ?_
        refine el_off rfl (bnot_f hb133) rfl (by decide) ?_
        refine el_off rfl (bnot_f hb133) rfl (by decide) ?_
        refine el_off rfl (bnot_f hb133) rfl (by decide) ?_
        refine el_off rfl (bnot_f hb133) rfl (by decide) ?_
        refine el_pv (v := .bool true) (pv_pick_t rfl (bnot_f hb133) rfl) (by decide) ?_
        refine el_nil ?_
        refine hQ128 _ _ _ ?_
        refine thn_n ?_
        refine cw_cond_t rfl rfl ?_
        refine cw_seq ?_
        refine cw_gen ?_
        intro Q143 hQ143
        refine cw_reg ?_
        refine el_pv (v := .bool false) (pv_assign rfl) (by decide) ?_
        refine el_nil ?_
        refine hQ143 _ _ _ ?_
        refine thn_n ?_
        refine cw_ret ?_
        refine hQ120 _ _ _ ?_
        refine inb_r ?_
        refine hQ119 _ _ _ ?_
        refine thn_r ?_
        refine hQ115 _ _ _ ?_
        refine thn_r ?_
        refine hQ104 _ _ _ ?_
        refine inb_r ?_
        refine hQ102 _ _ _ ?_
        refine thn_r ?_
        replace hF := exL hF hK106
        refine fin1 rfl rfl ?_
        have hr := Option.some.inj hF
        exact ⟨congrArg (fun (r : Bool) => Ending.returned (.bool r)) hr, hS.below⟩
    · refine cw_cond_f rfl hb118 ?_
      refine cw_exit ?_
      refine hQ117 _ _ _ ?_
      refine thn_x ?_
      refine hQ115 _ _ _ ?_
      refine thn_x ?_
      replace hF := exA hF hK106
      refine hQ104 _ _ _ ?_
      refine inb_s ?_
      refine hQ102 _ _ _ ?_
      refine thn_n ?_
      refine cw_seq ?_
      refine cw_gen ?_
      intro Q144 hQ144
      refine cw_reg ?_
      refine el_pv (v := .bool true) (pv_assign rfl) (by decide) ?_
      refine el_nil ?_
      refine hQ144 _ _ _ ?_
      refine thn_n ?_
      refine cw_ret ?_
      refine fin1 rfl rfl ?_
      have hr := Option.some.inj hF
      exact ⟨congrArg (fun (r : Bool) => Ending.returned (.bool r)) hr, hS.below⟩
set_option maxHeartbeats 4000000 in
theorem impl_IsPermutation_ok {w0 : World} {u0 : Value} {a0 : List Int} (ha0 : (sliceR intR 3).rd w0 [u0] a0) {N : Nat} {r : Bool} (hF : impl_IsPermutation N a0 = some r) :
    Calls Try.prog 52 #[u0] w0 fun e w' => e = .returned (.bool r) ∧ Ext w0 w' := by
  unfold impl_IsPermutation at hF
  refine calls_E Try.func52 rfl rfl (of_decide_eq_true rfl) ?_
  have hS := Sat.start w0
  refine cw_seq ?_
  refine cw_gen ?_
  intro Q101 hQ101
  refine cw_reg ?_
  refine el_pv (v := .bool false) (pv_assign rfl) (by decide) ?_
  refine el_nil ?_
  refine hQ101 _ _ _ ?_
  refine thn_n ?_
  refine cw_seq ?_
  refine cw_gen ?_
  intro Q102 hQ102
  refine cw_reg ?_
  refine el_pv (v := u0) (pv_move rfl) (by decide) ?_
  refine el_pv (v := .int .i64 (a0.length : Int)) (pv_len rfl ha0) (by decide) ?_
  refine el_pv (v := .bool (decide ((a0.length : Int) ≤ 5))) (pv_leq rfl rfl) (by decide) ?_
  refine el_pv (v := .bool (decide ((a0.length : Int) ≤ 5))) (pv_move rfl) (by decide) ?_
  replace hF := oif hF
  rcases hF with ⟨hb103, hF⟩ | ⟨hb103, hF⟩
  · refine el_on rfl hb103 ?_
    refine el_pv (v := u0) (pv_move rfl) (by decide) ?_
    refine el_on rfl hb103 ?_
    refine el_pv (v := u0) (pv_move rfl) (by decide) ?_
    refine el_on rfl hb103 ?_
    refine el_pv (v := .int .i64 (a0.length : Int)) (pv_len rfl ha0) (by decide) ?_
    refine el_on rfl hb103 ?_
    replace hF := ob hF
    obtain ⟨r104, hr104, hF⟩ := hF
    refine el_call goes55 (impl_isSetOf_ok (hS.up ha0) hr104) (congrArg List.toArray (mapc rfl (mapc rfl rfl))) (by decide) ?_
    rintro _ w105 ⟨rfl, hx106⟩
    refine ⟨_, rfl, ?_⟩
    replace hS := hS.ext hx106
    refine el_pv (v := .bool r104) (pv_pick_t rfl hb103 rfl) (by decide) ?_
    refine el_pv (v := .bool r104) (pv_assign rfl) (by decide) ?_
    refine el_nil ?_
    refine hQ102 _ _ _ ?_
    refine thn_n ?_
    refine cw_ret ?_
    refine fin1 rfl rfl ?_
    have hr := Option.some.inj hF
    exact ⟨congrArg (fun (r : Bool) => Ending.returned (.bool r)) hr, hS.below⟩
  · refine el_off rfl hb103 rfl (by decide) ?_
    refine el_off rfl hb103 rfl (by decide) ?_
    refine el_off rfl hb103 rfl (by decide) ?_
    refine el_off rfl hb103 rfl (by decide) ?_
    refine el_pv (v := .bool false) (pv_pick_f rfl hb103 rfl) (by decide) ?_
    refine el_pv (v := .bool false) (pv_assign rfl) (by decide) ?_
    refine el_nil ?_
    refine hQ102 _ _ _ ?_
    refine thn_n ?_
    refine cw_ret ?_
    refine fin1 rfl rfl ?_
    have hr := Option.some.inj hF
    exact ⟨congrArg (fun (r : Bool) => Ending.returned (.bool r)) hr, hS.below⟩
set_option maxHeartbeats 4000000 in
theorem impl_AreValidValues_ok {w0 : World} {u0 : Value} {a0 : List Int} (ha0 : (sliceR intR 3).rd w0 [u0] a0) {N : Nat} {r : Bool} (hF : impl_AreValidValues N a0 = some r) :
    Calls Try.prog 56 #[u0] w0 fun e w' => e = .returned (.bool r) ∧ Ext w0 w' := by
  unfold impl_AreValidValues at hF
  refine calls_E Try.func56 rfl rfl (of_decide_eq_true rfl) ?_
  have hS := Sat.start w0
  refine cw_seq ?_
  refine cw_gen ?_
  intro Q101 hQ101
  refine cw_reg ?_
  refine el_pv (v := .bool false) (pv_assign rfl) (by decide) ?_
  refine el_nil ?_
  refine hQ101 _ _ _ ?_
  refine thn_n ?_
  refine cw_seq ?_
  refine cw_gen ?_
  intro Q102 hQ102
  refine cw_seq ?_
  refine cw_gen ?_
  intro Q103 hQ103
  refine cw_reg ?_
  refine el_pv (v := u0) (pv_move rfl) (by decide) ?_
  refine el_pv (v := .int .i64 (a0.length : Int)) (pv_len rfl ha0) (by decide) ?_
  refine el_pv (v := .int .i64 0) (pv_move rfl) (by decide) ?_
  refine el_nil ?_
  refine hQ103 _ _ _ ?_
  refine thn_n ?_
  refine cw_block ?_
  refine cw_gen ?_
  intro Q104 hQ104
  obtain ⟨s105, hL, hK106⟩ := ob hF
  refine cw_loopS (fun k e w => ∃ (x107 : Int), e 5 = u0 ∧ e 6 = .int .i64 (a0.length : Int) ∧ e 7 = .int .i64 x107 ∧ Sat w0 w [] ∧ impl_AreValidValues_L1 N k a0 (a0.length : Int) x107 = some s105) N ?_ ?_ ?_
  · exact ⟨0, rfl, rfl, rfl, hS, hL⟩
  · rintro e w ⟨_, _, _, _, _, hz⟩; exact nomatch (show none = some _ from hz)
  · rintro k e112 w111 ⟨x107, he108, he109, he110, hS, hF⟩
    refine cw_gen ?_
    intro Q113 hQ113
    refine cw_seq ?_
    refine cw_gen ?_
    intro Q114 hQ114
    refine cw_reg ?_
    refine el_pv (v := .bool (decide (x107 < (a0.length : Int)))) (pv_lss he110 he109) (by decide) ?_
    refine el_nil ?_
    refine hQ114 _ _ _ ?_
    refine thn_n ?_
    refine cw_seq ?_
    refine cw_gen ?_
    intro Q115 hQ115
    replace hF := oif hF
    rcases hF with ⟨hb116, hF⟩ | ⟨hb116, hF⟩
    · refine cw_cond_t rfl hb116 ?_
      refine cw_skip ?_
      refine hQ115 _ _ _ ?_
      refine thn_n ?_
      refine cw_seq ?_
      refine cw_gen ?_
      intro Q117 hQ117
      refine cw_block ?_
      refine cw_gen ?_
      intro Q118 hQ118
      refine cw_seq ?_
      refine cw_gen ?_
      intro Q119 hQ119
      refine cw_reg ?_
      replace hF := ob hF
      obtain ⟨x120, hx120, hF⟩ := hF
      refine el_index (wA := w0) he108 ha0 rfl (by decide) he110 hx120 (by decide) ?_
      intro b121 of122 c123 hr124 hm125
      obtain rfl := hr124
      refine el_pv (v := .int .i64 x120) (pv_loadc rfl ((cells_up hS.below hm125) 0 _ rfl)) (by decide) ?_
      refine el_pv (v := .int .i64 x120) (pv_assign rfl) (by decide) ?_
      refine el_nil ?_
      refine hQ119 _ _ _ ?_
      refine thn_n ?_
      refine cw_seq ?_
      refine cw_gen ?_
      intro Q126 hQ126
      refine cw_reg ?_
      refine el_pv (v := .int .i64 x120) (pv_move rfl) (by decide) ?_
      replace hF := ob hF
      obtain ⟨r127, hr127, hF⟩ := hF
      refine el_call goes44 (impl_within_ok hr127) (congrArg List.toArray (mapc rfl (mapc rfl (mapc rfl rfl)))) (by decide) ?_
      rintro _ w128 ⟨rfl, hx129⟩
      refine ⟨_, rfl, ?_⟩
      replace hS := hS.ext hx129
      refine el_pv (v := .bool (!r127)) (pv_not rfl) (by decide) ?_
      refine el_nil ?_
      refine hQ126 _ _ _ ?_
      refine thn_n ?_
      replace hF := oif hF
      rcases hF with ⟨hb130, hF⟩ | ⟨hb130, hF⟩
      · refine cw_cond_f rfl (bnot_t hb130) ?_
        refine cw_skip ?_
        refine hQ118 _ _ _ ?_
        refine inb_n ?_
        refine hQ117 _ _ _ ?_
        refine thn_n ?_
        refine cw_reg ?_
        replace hF := ob hF
        obtain ⟨x131, hx131, hF⟩ := hF
        refine el_pv (v := .int .i64 x131) (pv_add he110 rfl hx131) (by decide) ?_
        refine el_pv (v := .int .i64 x131) (pv_move rfl) (by decide) ?_
        refine el_nil ?_
        refine hQ113 _ _ _ ?_
        refine thn_n ?_
        replace hS := hS.keep 0
        exact ⟨x131, he108, he109, rfl, hS, hF⟩
      · refine cw_cond_t rfl (bnot_f hb130) ?_
        refine cw_seq ?_
        refine cw_gen ?_
        intro Q132 hQ132
        refine cw_reg ?_
        refine el_pv (v := .bool false) (pv_assign rfl) (by decide) ?_
        refine el_nil ?_
        refine hQ132 _ _ _ ?_
        refine thn_n ?_
        refine cw_ret ?_
        refine hQ118 _ _ _ ?_
        refine inb_r ?_
        refine hQ117 _ _ _ ?_
        refine thn_r ?_
        refine hQ113 _ _ _ ?_
        refine thn_r ?_
        refine hQ104 _ _ _ ?_
        refine inb_r ?_
        refine hQ102 _ _ _ ?_
        refine thn_r ?_
        replace hF := exL hF hK106
        refine fin1 rfl rfl ?_
        have hr := Option.some.inj hF
        exact ⟨congrArg (fun (r : Bool) => Ending.returned (.bool r)) hr, hS.below⟩
    · refine cw_cond_f rfl hb116 ?_
      refine cw_exit ?_
      refine hQ115 _ _ _ ?_
      refine thn_x ?_
      refine hQ113 _ _ _ ?_
      refine thn_x ?_
      replace hF := exA hF hK106
      refine hQ104 _ _ _ ?_
      refine inb_s ?_
      refine hQ102 _ _ _ ?_
      refine thn_n ?_
      refine cw_seq ?_
      refine cw_gen ?_
      intro Q133 hQ133
      refine cw_reg ?_
      refine el_pv (v := .bool true) (pv_assign rfl) (by decide) ?_
      refine el_nil ?_
      refine hQ133 _ _ _ ?_
      refine thn_n ?_
      refine cw_ret ?_
      refine fin1 rfl rfl ?_
      have hr := Option.some.inj hF
      exact ⟨congrArg (fun (r : Bool) => Ending.returned (.bool r)) hr, hS.below⟩
set_option maxHeartbeats 4000000 in
theorem impl_IsStrictlyAscending_ok {w0 : World} {u0 : Value} {a0 : List Int} (ha0 : (sliceR intR 3).rd w0 [u0] a0) {N : Nat} {r : Bool} (hF : impl_IsStrictlyAscending N a0 = some r) :
    Calls Try.prog 57 #[u0] w0 fun e w' => e = .returned (.bool r) ∧ Ext w0 w' := by
  unfold impl_IsStrictlyAscending at hF
  refine calls_E Try.func57 rfl rfl (of_decide_eq_true rfl) ?_
  have hS := Sat.start w0
  refine cw_seq ?_
  refine cw_gen ?_
  intro Q101 hQ101
  refine cw_reg ?_
  refine el_pv (v := .bool false) (pv_assign rfl) (by decide) ?_
  refine el_nil ?_
  refine hQ101 _ _ _ ?_
  refine thn_n ?_
  refine cw_seq ?_
  refine cw_gen ?_
  intro Q102 hQ102
  refine cw_seq ?_
  refine cw_gen ?_
  intro Q103 hQ103
  refine cw_reg ?_
  refine el_pv (v := .int .i64 1) (pv_assign rfl) (by decide) ?_
  refine el_nil ?_
  refine hQ103 _ _ _ ?_
  refine thn_n ?_
  refine cw_block ?_
  refine cw_gen ?_
  intro Q104 hQ104
  obtain ⟨s105, hL, hK106⟩ := ob hF
  refine cw_loopS (fun k e w => ∃ (x107 : Int), e 0 = u0 ∧ e 3 = .int .i64 x107 ∧ Sat w0 w [] ∧ impl_IsStrictlyAscending_L1 N k a0 x107 = some s105) N ?_ ?_ ?_
  · exact ⟨1, rfl, rfl, hS, hL⟩
  · rintro e w ⟨_, _, _, _, hz⟩; exact nomatch (show none = some _ from hz)
  · rintro k e111 w110 ⟨x107, he108, he109, hS, hF⟩
    refine cw_gen ?_
    intro Q112 hQ112
    refine cw_seq ?_
    refine cw_gen ?_
    intro Q113 hQ113
    refine cw_seq ?_
    refine cw_gen ?_
    intro Q114 hQ114
    refine cw_reg ?_
    refine el_pv (v := .int .i64 x107) (pv_move he109) (by decide) ?_
    refine el_pv (v := u0) (pv_move he108) (by decide) ?_
    refine el_pv (v := .int .i64 (a0.length : Int)) (pv_len rfl ha0) (by decide) ?_
    refine el_pv (v := .bool (decide (x107 < (a0.length : Int)))) (pv_lss rfl rfl) (by decide) ?_
    refine el_nil ?_
    refine hQ114 _ _ _ ?_
    refine thn_n ?_
    replace hF := oif hF
    rcases hF with ⟨hb115, hF⟩ | ⟨hb115, hF⟩
    · refine cw_cond_t rfl hb115 ?_
      refine cw_skip ?_
      refine hQ113 _ _ _ ?_
      refine thn_n ?_
      refine cw_seq ?_
      refine cw_gen ?_
      intro Q116 hQ116
      refine cw_block ?_
      refine cw_gen ?_
      intro Q117 hQ117
      refine cw_seq ?_
      refine cw_gen ?_
      intro Q118 hQ118
      refine cw_regq (by kernel_rfl) (by kernel_rfl) ?_
      refine ql_pv (v := u0) (pv_move he108) (by decide) ?_
      refine ql_pv (v := .int .i64 x107) (pv_move he109) (by decide) ?_
      replace hF := ob hF
      obtain ⟨x119, hx119, hF⟩ := hF
      refine ql_pv (v := .int .i64 x119) (pv_sub rfl rfl hx119) (by decide) ?_
      replace hF := ob hF
      obtain ⟨x120, hx120, hF⟩ := hF
      refine ql_index (wA := w0) rfl ha0 rfl (by decide) rfl hx120 (by decide) ?_
      intro b121 of122 c123 hr124 hm125
      obtain rfl := hr124
      refine ql_pv (v := .int .i64 x120) (pv_loadc rfl ((cells_up hS.below hm125) 0 _ rfl)) (by decide) ?_
      refine ql_pv (v := u0) (pv_move he108) (by decide) ?_
      refine ql_pv (v := .int .i64 x107) (pv_move he109) (by decide) ?_
      replace hF := ob hF
      obtain ⟨x126, hx126, hF⟩ := hF
      refine ql_index (wA := w0) rfl ha0 rfl (by decide) rfl hx126 (by decide) ?_
      intro b127 of128 c129 hr130 hm131
      obtain rfl := hr130
      refine ql_pv (v := .int .i64 x126) (pv_loadc rfl ((cells_up hS.below hm131) 0 _ rfl)) (by decide) ?_
      refine ql_pv (v := .bool (decide (x126 ≤ x120))) (pv_geq rfl rfl) (by decide) ?_
      refine ql_nil ?_
      intro w132 hx133
      replace hS := hS.ext hx133
      refine hQ118 _ _ _ ?_
      refine thn_n ?_
      replace hF := oif hF
      rcases hF with ⟨hb134, hF⟩ | ⟨hb134, hF⟩
      · refine cw_cond_t rfl hb134 ?_
        refine cw_seq ?_
        refine cw_gen ?_
        intro Q135 hQ135
        refine cw_reg ?_
        refine el_pv (v := .bool false) (pv_assign rfl) (by decide) ?_
        refine el_nil ?_
        refine hQ135 _ _ _ ?_
        refine thn_n ?_
        refine cw_ret ?_
        refine hQ117 _ _ _ ?_
        refine inb_r ?_
        refine hQ116 _ _ _ ?_
        refine thn_r ?_
        refine hQ112 _ _ _ ?_
        refine thn_r ?_
        refine hQ104 _ _ _ ?_
        refine inb_r ?_
        refine hQ102 _ _ _ ?_
        refine thn_r ?_
        replace hF := exL hF hK106
        refine fin1 rfl rfl ?_
        have hr := Option.some.inj hF
        exact ⟨congrArg (fun (r : Bool) => Ending.returned (.bool r)) hr, hS.below⟩
      · refine cw_cond_f rfl hb134 ?_
        refine cw_skip ?_
        refine hQ117 _ _ _ ?_
        refine inb_n ?_
        refine hQ116 _ _ _ ?_
        refine thn_n ?_
        refine cw_reg ?_
        refine el_pv (v := .int .i64 x107) (pv_move he109) (by decide) ?_
        replace hF := ob hF
        obtain ⟨x136, hx136, hF⟩ := hF
        refine el_pv (v := .int .i64 x136) (pv_add rfl rfl hx136) (by decide) ?_
        refine el_pv (v := .int .i64 x136) (pv_assign rfl) (by decide) ?_
        refine el_nil ?_
        refine hQ112 _ _ _ ?_
        refine thn_n ?_
        replace hS := hS.keep 0
        exact ⟨x136, he108, rfl, hS, hF⟩
    · refine cw_cond_f rfl hb115 ?_
      refine cw_exit ?_
      refine hQ113 _ _ _ ?_
      refine thn_x ?_
      refine hQ112 _ _ _ ?_
      refine thn_x ?_
      replace hF := exA hF hK106
      refine hQ104 _ _ _ ?_
      refine inb_s ?_
      refine hQ102 _ _ _ ?_
      refine thn_n ?_
      refine cw_seq ?_
      refine cw_gen ?_
      intro Q137 hQ137
      refine cw_reg ?_
      refine el_pv (v := .bool true) (pv_assign rfl) (by decide) ?_
      refine el_nil ?_
      refine hQ137 _ _ _ ?_
      refine thn_n ?_
      refine cw_ret ?_
      refine fin1 rfl rfl ?_
      have hr := Option.some.inj hF
      exact ⟨congrArg (fun (r : Bool) => Ending.returned (.bool r)) hr, hS.below⟩
end Go.Proofs.Ytbjfbfjacchjiaa
