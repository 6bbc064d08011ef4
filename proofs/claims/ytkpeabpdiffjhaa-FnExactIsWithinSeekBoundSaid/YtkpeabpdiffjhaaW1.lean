/- The walks through functions of the program: each hands back what it comes to. No condition but that it comes to something. -/
import Derived.Test.YtkpeabpdiffjhaaW0
import Derived.Test.YtkpeabpdiffjhaaW1D
namespace Go.Proofs.Ytkpeabpdiffjhaa
open Go.RowKit
set_option maxRecDepth 100000
set_option maxHeartbeats 4000000 in
theorem laws_toAtomS_ok {w0 : World} {u0 : Value} {a0 : List (ByteArray × List Int)} (ha0 : (sliceR (pairR strR (sliceR intR 3)) 113).rd w0 [u0] a0) {N : Nat} {r : (List (ByteArray × List Int))} (hF : laws_toAtomS N a0 = some r) :
    Calls Try.prog 39 #[u0] w0 fun e w' => ∃ (q0 : Value), e = .returned (q0) ∧ Sat w0 w' [Own (sliceR (pairR strR (sliceR intR 3)) 96) [q0] r] := by
  unfold laws_toAtomS at hF
  refine calls_E Try.func39 rfl rfl (of_decide_eq_true rfl) ?_
  have hS := Sat.start w0
  refine cw_seq ?_
  refine cw_gen ?_
  intro Q101 hQ101
  refine cw_reg ?_
  refine el_pv (v := (.slice none 0 0)) (pv_assign rfl) (by decide) ?_
  refine el_nil ?_
  refine hQ101 _ _ _ ?_
  refine thn_n ?_
  refine cw_seq ?_
  refine cw_gen ?_
  intro Q102 hQ102
  refine cw_reg ?_
  refine el_pv (v := u0) (pv_move rfl) (by decide) ?_
  refine el_pv (v := .int .i64 (a0.length : Int)) (pv_len rfl ha0) (by decide) ?_
  replace hF := ob hF
  obtain ⟨x106, hx106, hF⟩ := hF
  refine el_make (R := (pairR strR (sliceR intR 3))) (x0 := (ByteArray.empty, [])) rfl (by decide) rfl (fun _ => ⟨_, _, [], [], rfl, rfl, ⟨⟨rfl, by decide⟩, rfl⟩, .inl ⟨rfl, rfl, rfl⟩⟩) rfl rfl hx106 hS (by decide) ?_
  intro w103 g104 k105 hS hx107 hlx106
  refine el_pv (v := (.slice (some ⟨g104, 0, none⟩) k105 k105)) (pv_assign rfl) (by decide) ?_
  refine el_nil ?_
  refine hQ102 _ _ _ ?_
  refine thn_n ?_
  refine cw_seq ?_
  refine cw_gen ?_
  intro Q109 hQ109
  refine cw_seq ?_
  refine cw_gen ?_
  intro Q110 hQ110
  refine cw_reg ?_
  refine el_pv (v := .int .i64 0) (pv_assign rfl) (by decide) ?_
  refine el_nil ?_
  refine hQ110 _ _ _ ?_
  refine thn_n ?_
  refine cw_block ?_
  refine cw_gen ?_
  intro Q111 hQ111
  obtain ⟨s112, hL, hK113⟩ := ob hF
  refine cw_loopS (fun k e w => ∃ (v115 : Value), ∃ (x114 : List (ByteArray × List Int)), ∃ (x116 : Int), e 0 = u0 ∧ e 3 = v115 ∧ e 4 = .int .i64 x116 ∧ Sat w0 w [Own (sliceR (pairR strR (sliceR intR 3)) 96) [v115] x114] ∧ laws_toAtomS_L1 N k a0 x114 x116 = some s112) N ?_ ?_ ?_
  · exact ⟨(.slice (some ⟨g104, 0, none⟩) k105 k105), x106, 0, rfl, rfl, rfl, hS, hL⟩
  · rintro e w ⟨_, _, _, _, _, _, _, hz⟩; exact nomatch (show none = some _ from hz)
  · rintro k e121 w120 ⟨v115, x114, x116, he117, he118, he119, hS, hF⟩
    refine cw_gen ?_
    intro Q122 hQ122
    refine cw_seq ?_
    refine cw_gen ?_
    intro Q123 hQ123
    refine cw_seq ?_
    refine cw_gen ?_
    intro Q124 hQ124
    refine cw_reg ?_
    refine el_pv (v := .int .i64 x116) (pv_move he119) (by decide) ?_
    refine el_pv (v := u0) (pv_move he117) (by decide) ?_
    refine el_pv (v := .int .i64 (a0.length : Int)) (pv_len rfl ha0) (by decide) ?_
    refine el_pv (v := .bool (decide (x116 < (a0.length : Int)))) (pv_lss rfl rfl) (by decide) ?_
    refine el_nil ?_
    refine hQ124 _ _ _ ?_
    refine thn_n ?_
    replace hF := oif hF
    rcases hF with ⟨hb125, hF⟩ | ⟨hb125, hF⟩
    · refine cw_cond_t rfl hb125 ?_
      refine cw_skip ?_
      refine hQ123 _ _ _ ?_
      refine thn_n ?_
      refine cw_seq ?_
      refine cw_gen ?_
      intro Q126 hQ126
      refine cw_block ?_
      refine cw_gen ?_
      intro Q127 hQ127
      refine cw_reg ?_
      refine el_pv (v := v115) (pv_move he118) (by decide) ?_
      refine el_pv (v := .int .i64 x116) (pv_move he119) (by decide) ?_
      refine el_pv (v := u0) (pv_move he117) (by decide) ?_
      refine el_pv (v := .int .i64 x116) (pv_move he119) (by decide) ?_
      replace hF := ob hF
      obtain ⟨x128, hx128, hF⟩ := hF
      refine el_index (wA := w0) rfl ha0 rfl (by decide) rfl hx128 (by decide) ?_
      intro b129 of130 c131 hr132 hm133
      obtain ⟨_, _, rfl, hr134, hr135⟩ := hr132
      obtain ⟨rfl, hz136⟩ := hr134
      obtain ⟨v137, rfl⟩ := slice_one hr135
      refine el_pv (v := .agg #[.string x128.1, v137]) (pv_loada (cs := [.string x128.1, v137]) rfl rfl (cells_up hS.below hm133)) (by decide) ?_
      replace hF := ob hF
      obtain ⟨r138, hr138, hF⟩ := hF
      refine el_call goes80 (laws_toAtom_ok hz136 (hS.up hr135) hr138) (congrArg List.toArray (mapc rfl rfl)) (by decide) ?_
      rintro _ w142 ⟨v139, rfl, hS', hz140⟩
      refine ⟨_, rfl, ?_⟩
      have hx143 := hS'.below
      replace hS := hS.call1 hS'
      replace hF := ob hF
      obtain ⟨x144, hx144, hF⟩ := hF
      replace hS : Sat w0 w142 [Own (sliceR (pairR strR (sliceR intR 3)) 96) [v115] x114, Own (sliceR intR 3) [v139] r138.2] := hS.top 1 rfl
      refine el_indexO hS rfl rfl (by decide) rfl hx144 (by decide) ?_
      intro b145 of146 c147 hv150 hr148 hm149
      obtain ⟨_, _, rfl, hr151, hr152⟩ := hr148
      obtain ⟨rfl, hz153⟩ := hr151
      obtain ⟨v154, rfl⟩ := slice_one hr152
      replace hF := ob hF
      obtain ⟨x156, hx156, hF⟩ := hF
      replace hS : Sat w0 w142 [Own (sliceR intR 3) [v139] r138.2, Own (sliceR (pairR strR (sliceR intR 3)) 96) [v115] x114] := hS.top 1 rfl
      replace hS := hS.str r138.1 hz140
      replace hS := hS.pair
      refine el_storeO rfl hv150 hS hx156 rfl rfl ?_
      intro w155 hS
      refine el_nil ?_
      refine hQ127 _ _ _ ?_
      refine inb_n ?_
      refine hQ126 _ _ _ ?_
      refine thn_n ?_
      refine cw_reg ?_
      refine el_pv (v := .int .i64 x116) (pv_move he119) (by decide) ?_
      replace hF := ob hF
      obtain ⟨x157, hx157, hF⟩ := hF
      refine el_pv (v := .int .i64 x157) (pv_add rfl rfl hx157) (by decide) ?_
      refine el_pv (v := .int .i64 x157) (pv_assign rfl) (by decide) ?_
      refine el_nil ?_
      refine hQ122 _ _ _ ?_
      refine thn_n ?_
      replace hS := hS.keep 1
      exact ⟨v115, x156, x157, he117, he118, rfl, hS, hF⟩
    · refine cw_cond_f rfl hb125 ?_
      refine cw_exit ?_
      refine hQ123 _ _ _ ?_
      refine thn_x ?_
      refine hQ122 _ _ _ ?_
      refine thn_x ?_
      replace hF := exB hF hK113
      refine hQ111 _ _ _ ?_
      refine inb_s ?_
      refine hQ109 _ _ _ ?_
      refine thn_n ?_
      refine cw_seq ?_
      refine cw_gen ?_
      intro Q158 hQ158
      refine cw_reg ?_
      refine el_pv (v := v115) (pv_move he118) (by decide) ?_
      refine el_pv (v := v115) (pv_assign rfl) (by decide) ?_
      refine el_nil ?_
      refine hQ158 _ _ _ ?_
      refine thn_n ?_
      refine cw_ret ?_
      refine fin1 rfl rfl ?_
      have hr := Option.some.inj hF
      exact ⟨v115, congrArg (fun (r : (List (ByteArray × List Int))) => Ending.returned (v115)) hr, Eq.mp (congrArg (fun (r : (List (ByteArray × List Int))) => Sat w0 w120 [Own (sliceR (pairR strR (sliceR intR 3)) 96) [v115] r]) hr) (hS.keep 1)⟩
set_option maxHeartbeats 4000000 in
theorem laws_toQuery_ok {w0 : World} {a0 : Int} {u1 : Value} {a1 : List (ByteArray × List Int)} {u2 : Value} {a2 : List Int} (ha1 : (sliceR (pairR strR (sliceR intR 3)) 113).rd w0 [u1] a1) (ha2 : (sliceR intR 3).rd w0 [u2] a2) {N : Nat} {r : Int × List (ByteArray × List Int) × List Int} (hF : laws_toQuery N a0 a1 a2 = some r) :
    Calls Try.prog 9 #[.agg #[.int .i64 a0, u1, u2]] w0 fun e w' => ∃ (q0 : Value) (q1 : Value), e = .returned (.agg #[.int .i64 r.1, q0, q1]) ∧ Sat w0 w' [Own (sliceR (pairR strR (sliceR intR 3)) 96) [q0] r.2.1, Own (sliceR intR 3) [q1] r.2.2] := by
  unfold laws_toQuery at hF
  refine calls_E Try.func9 rfl rfl (of_decide_eq_true rfl) ?_
  have hS := Sat.start w0
  refine cw_seq ?_
  refine cw_gen ?_
  intro Q101 hQ101
  refine cw_reg ?_
  refine el_box [.int .i64 a0, u1, u2] rfl hS (by decide) ?_
  intro w102 b103 hS hx104
  refine el_alloc hS (by decide) ?_
  intro w106 b107 hS hx108
  refine el_nil ?_
  refine hQ101 _ _ _ ?_
  refine thn_n ?_
  refine cw_seq ?_
  refine cw_gen ?_
  intro Q110 hQ110
  refine cw_reg ?_
  refine el_alloc hS (by decide) ?_
  intro w111 b112 hS hx113
  refine el_nil ?_
  refine hQ110 _ _ _ ?_
  refine thn_n ?_
  refine cw_seq ?_
  refine cw_gen ?_
  intro Q115 hQ115
  refine cw_reg ?_
  refine el_pv (v := .pointer (some ⟨b103, 0 + 0, none⟩)) (pv_fieldAddr rfl) (by decide) ?_
  refine el_pv (v := .int .i64 a0) (pv_loadc rfl ((hS.boxAt 2 rfl) 0 _ rfl)) (by decide) ?_
  refine el_pv (v := .pointer (some ⟨b112, 0 + 0, none⟩)) (pv_fieldAddr rfl) (by decide) ?_
  refine el_storev (hS.top 0 rfl) rfl [.int .i64 a0] rfl rfl (of_decide_eq_true rfl) (all_cons rfl rfl) ?_
  intro w116 hS
  replace hS : Sat w0 w116 [Box b112 30 [.int .i64 a0, (.slice none 0 0), (.slice none 0 0)], Box b107 30 [.int .i64 0, (.slice none 0 0), (.slice none 0 0)], Box b103 25 [.int .i64 a0, u1, u2]] := hS
  refine el_nil ?_
  refine hQ115 _ _ _ ?_
  refine thn_n ?_
  refine cw_seq ?_
  refine cw_gen ?_
  intro Q117 hQ117
  refine cw_reg ?_
  refine el_pv (v := .pointer (some ⟨b103, 0 + 1, none⟩)) (pv_fieldAddr rfl) (by decide) ?_
  refine el_pv (v := u1) (pv_loadc rfl ((hS.boxAt 2 rfl) 1 _ rfl)) (by decide) ?_
  replace hF := ob hF
  obtain ⟨r118, hr118, hF⟩ := hF
  refine el_call goes39 (laws_toAtomS_ok (hS.up ha1) hr118) (congrArg List.toArray (mapc rfl rfl)) (by decide) ?_
  rintro _ w121 ⟨v119, rfl, hS'⟩
  refine ⟨_, rfl, ?_⟩
  have hx122 := hS'.below
  replace hS := hS.call1 hS'
  refine el_pv (v := .pointer (some ⟨b112, 0 + 1, none⟩)) (pv_fieldAddr rfl) (by decide) ?_
  refine el_storev (hS.top 1 rfl) rfl [v119] (cells_of rfl (oc (hS.rdAt (R := (sliceR (pairR strR (sliceR intR 3)) 96)) 0 rfl))) rfl (of_decide_eq_true rfl) (all_cons (oc (hS.rdAt (R := (sliceR (pairR strR (sliceR intR 3)) 96)) 0 rfl)) rfl) ?_
  intro w123 hS
  replace hS : Sat w0 w123 [Box b112 30 [.int .i64 a0, v119, (.slice none 0 0)], Own (sliceR (pairR strR (sliceR intR 3)) 96) [v119] r118, Box b107 30 [.int .i64 0, (.slice none 0 0), (.slice none 0 0)], Box b103 25 [.int .i64 a0, u1, u2]] := hS
  refine el_nil ?_
  refine hQ117 _ _ _ ?_
  refine thn_n ?_
  refine cw_seq ?_
  refine cw_gen ?_
  intro Q124 hQ124
  refine cw_reg ?_
  refine el_pv (v := .pointer (some ⟨b103, 0 + 2, none⟩)) (pv_fieldAddr rfl) (by decide) ?_
  refine el_pv (v := u2) (pv_loadc rfl ((hS.boxAt 3 rfl) 2 _ rfl)) (by decide) ?_
  replace hF := ob hF
  obtain ⟨r125, hr125, hF⟩ := hF
  refine el_call goes14 (laws_toIntS_ok (hS.up ha2) hr125) (congrArg List.toArray (mapc rfl rfl)) (by decide) ?_
  rintro _ w128 ⟨v126, rfl, hS'⟩
  refine ⟨_, rfl, ?_⟩
  have hx129 := hS'.below
  replace hS := hS.call1 hS'
  refine el_pv (v := .pointer (some ⟨b112, 0 + 2, none⟩)) (pv_fieldAddr rfl) (by decide) ?_
  refine el_storev (hS.top 1 rfl) rfl [v126] (cells_of rfl (oc (hS.rdAt (R := (sliceR intR 3)) 0 rfl))) rfl (of_decide_eq_true rfl) (all_cons (oc (hS.rdAt (R := (sliceR intR 3)) 0 rfl)) rfl) ?_
  intro w130 hS
  replace hS : Sat w0 w130 [Box b112 30 [.int .i64 a0, v119, v126], Own (sliceR intR 3) [v126] r125, Own (sliceR (pairR strR (sliceR intR 3)) 96) [v119] r118, Box b107 30 [.int .i64 0, (.slice none 0 0), (.slice none 0 0)], Box b103 25 [.int .i64 a0, u1, u2]] := hS
  refine el_nil ?_
  refine hQ124 _ _ _ ?_
  refine thn_n ?_
  refine cw_seq ?_
  refine cw_gen ?_
  intro Q131 hQ131
  replace hS : Sat w0 w130 [Box b112 30 [.int .i64 a0, v119, v126], Own (sliceR intR 3) [v126] r125, Own (sliceR (pairR strR (sliceR intR 3)) 96) [v119] r118, Box b107 30 [.int .i64 0, (.slice none 0 0), (.slice none 0 0)]] := hS.rems 5 [4] rfl
  refine cw_reg ?_
  refine el_pv (v := .agg #[.int .i64 a0, v119, v126]) (pv_loada (cs := [.int .i64 a0, v119, v126]) rfl rfl (boxc0 (hS.boxAt 0 rfl))) (by decide) ?_
  refine el_storev (hS.top 3 rfl) rfl [.int .i64 a0, v119, v126] rfl rfl (of_decide_eq_true rfl) (all_cons rfl (all_cons (oc (hS.rdAt (R := (sliceR (pairR strR (sliceR intR 3)) 96)) 2 rfl)) (all_cons (oc (hS.rdAt (R := (sliceR intR 3)) 1 rfl)) rfl))) ?_
  intro w132 hS
  replace hS : Sat w0 w132 [Box b107 30 [.int .i64 a0, v119, v126], Box b112 30 [.int .i64 a0, v119, v126], Own (sliceR intR 3) [v126] r125, Own (sliceR (pairR strR (sliceR intR 3)) 96) [v119] r118] := hS
  refine el_nil ?_
  refine hQ131 _ _ _ ?_
  refine thn_n ?_
  refine cw_ret ?_
  refine finC (cs := [.int .i64 a0, v119, v126]) rfl rfl rfl (boxc0 (hS.boxAt 0 rfl))  ?_
  replace hS : Sat w0 w132 [Own (sliceR (pairR strR (sliceR intR 3)) 96) [v119] r118, Own (sliceR intR 3) [v126] r125, Box b107 30 [.int .i64 a0, v119, v126], Box b112 30 [.int .i64 a0, v119, v126]] := hS.tops 4 [3, 2] rfl
  have hr := Option.some.inj hF
  exact ⟨v119, v126, congrArg (fun (r : Int × List (ByteArray × List Int) × List Int) => Ending.returned (.agg #[.int .i64 r.1, v119, v126])) hr, Eq.mp (congrArg (fun (r : Int × List (ByteArray × List Int) × List Int) => Sat w0 w132 [Own (sliceR (pairR strR (sliceR intR 3)) 96) [v119] r.2.1, Own (sliceR intR 3) [v126] r.2.2]) hr) (hS.keep 2)⟩
set_option maxHeartbeats 4000000 in
theorem impl_within_ok {w0 : World} {a0 : Int} {a1 : Int} {a2 : Int}  {N : Nat} {r : Bool} (hF : impl_within N a0 a1 a2 = some r) :
    Calls Try.prog 41 #[.int .i64 a0, .int .i64 a1, .int .i64 a2] w0 fun e w' => e = .returned (.bool r) ∧ Ext w0 w' := by
  unfold impl_within at hF
  refine calls_E Try.func41 rfl rfl (of_decide_eq_true rfl) ?_
  have hS := Sat.start w0
  refine cw_seq ?_
  refine cw_gen ?_
  intro Q101 hQ101
  refine cw_reg ?_
  refine el_pv (v := .bool false) (pv_assign rfl) (by decide) ?_
  refine el_nil ?_
  refine hQ101 _ _ _ ?_
  refine thn_n ?_
  refine cw_seq ?_
  refine cw_gen ?_
  intro Q102 hQ102
  refine cw_reg ?_
  refine el_pv (v := .int .i64 a0) (pv_move rfl) (by decide) ?_
  refine el_pv (v := .int .i64 a1) (pv_move rfl) (by decide) ?_
  refine el_pv (v := .bool (decide (a1 ≤ a0))) (pv_geq rfl rfl) (by decide) ?_
  refine el_pv (v := .bool (decide (a1 ≤ a0))) (pv_move rfl) (by decide) ?_
  replace hF := oif hF
  rcases hF with ⟨hb103, hF⟩ | ⟨hb103, hF⟩
  · refine el_on rfl hb103 ?_
    refine el_pv (v := .int .i64 a0) (pv_move rfl) (by decide) ?_
    refine el_on rfl hb103 ?_
    refine el_pv (v := .int .i64 a2) (pv_move rfl) (by decide) ?_
    refine el_on rfl hb103 ?_
    refine el_pv (v := .bool (decide (a0 ≤ a2))) (pv_leq rfl rfl) (by decide) ?_
    refine el_pv (v := .bool (decide (a0 ≤ a2))) (pv_pick_t rfl hb103 rfl) (by decide) ?_
    refine el_pv (v := .bool (decide (a0 ≤ a2))) (pv_assign rfl) (by decide) ?_
    refine el_nil ?_
    refine hQ102 _ _ _ ?_
    refine thn_n ?_
    refine cw_ret ?_
    refine fin1 rfl rfl ?_
    have hr := Option.some.inj hF
    exact ⟨congrArg (fun (r : Bool) => Ending.returned (.bool r)) hr, hS.below⟩
  · refine el_off rfl hb103 rfl (by decide) ?_
    refine el_off rfl hb103 rfl (by decide) ?_
    refine el_off rfl hb103 rfl (by decide) ?_
    refine el_pv (v := .bool false) (pv_pick_f rfl hb103 rfl) (by decide) ?_
    refine el_pv (v := .bool false) (pv_assign rfl) (by decide) ?_
    refine el_nil ?_
    refine hQ102 _ _ _ ?_
    refine thn_n ?_
    refine cw_ret ?_
    refine fin1 rfl rfl ?_
    have hr := Option.some.inj hF
    exact ⟨congrArg (fun (r : Bool) => Ending.returned (.bool r)) hr, hS.below⟩
set_option maxHeartbeats 4000000 in
theorem impl_indexOf_ok {w0 : World} {u0 : Value} {a0 : List Int} {a1 : Int} (ha0 : (sliceR intR 3).rd w0 [u0] a0) {N : Nat} {r : Int} (hF : impl_indexOf N a0 a1 = some r) :
    Calls Try.prog 106 #[u0, .int .i64 a1] w0 fun e w' => e = .returned (.int .i64 r) ∧ Ext w0 w' := by
  unfold impl_indexOf at hF
  refine calls_E Try.func106 rfl rfl (of_decide_eq_true rfl) ?_
  have hS := Sat.start w0
  refine cw_seq ?_
  refine cw_gen ?_
  intro Q101 hQ101
  refine cw_reg ?_
  refine el_pv (v := .int .i64 0) (pv_assign rfl) (by decide) ?_
  refine el_nil ?_
  refine hQ101 _ _ _ ?_
  refine thn_n ?_
  refine cw_seq ?_
  refine cw_gen ?_
  intro Q102 hQ102
  refine cw_seq ?_
  refine cw_gen ?_
  intro Q103 hQ103
  refine cw_reg ?_
  refine el_pv (v := u0) (pv_move rfl) (by decide) ?_
  refine el_pv (v := .int .i64 (a0.length : Int)) (pv_len rfl ha0) (by decide) ?_
  refine el_pv (v := .int .i64 0) (pv_move rfl) (by decide) ?_
  refine el_nil ?_
  refine hQ103 _ _ _ ?_
  refine thn_n ?_
  refine cw_block ?_
  refine cw_gen ?_
  intro Q104 hQ104
  obtain ⟨s105, hL, hK106⟩ := ob hF
  refine cw_loopS (fun k e w => ∃ (x107 : Int), e 1 = .int .i64 a1 ∧ e 7 = u0 ∧ e 8 = .int .i64 (a0.length : Int) ∧ e 9 = .int .i64 x107 ∧ Sat w0 w [] ∧ impl_indexOf_L1 N k a1 a0 (a0.length : Int) x107 = some s105) N ?_ ?_ ?_
  · exact ⟨0, rfl, rfl, rfl, rfl, hS, hL⟩
  · rintro e w ⟨_, _, _, _, _, _, hz⟩; exact nomatch (show none = some _ from hz)
  · rintro k e113 w112 ⟨x107, he108, he109, he110, he111, hS, hF⟩
    refine cw_gen ?_
    intro Q114 hQ114
    refine cw_seq ?_
    refine cw_gen ?_
    intro Q115 hQ115
    refine cw_reg ?_
    refine el_pv (v := .bool (decide (x107 < (a0.length : Int)))) (pv_lss he111 he110) (by decide) ?_
    refine el_nil ?_
    refine hQ115 _ _ _ ?_
    refine thn_n ?_
    refine cw_seq ?_
    refine cw_gen ?_
    intro Q116 hQ116
    replace hF := oif hF
    rcases hF with ⟨hb117, hF⟩ | ⟨hb117, hF⟩
    · refine cw_cond_t rfl hb117 ?_
      refine cw_skip ?_
      refine hQ116 _ _ _ ?_
      refine thn_n ?_
      refine cw_seq ?_
      refine cw_gen ?_
      intro Q118 hQ118
      refine cw_block ?_
      refine cw_gen ?_
      intro Q119 hQ119
      refine cw_seq ?_
      refine cw_gen ?_
      intro Q120 hQ120
      refine cw_reg ?_
      refine el_pv (v := .int .i64 x107) (pv_move he111) (by decide) ?_
      replace hF := ob hF
      obtain ⟨x121, hx121, hF⟩ := hF
      refine el_index (wA := w0) he109 ha0 rfl (by decide) he111 hx121 (by decide) ?_
      intro b122 of123 c124 hr125 hm126
      obtain rfl := hr125
      refine el_pv (v := .int .i64 x121) (pv_loadc rfl ((cells_up hS.below hm126) 0 _ rfl)) (by decide) ?_
      refine el_pv (v := .int .i64 x107) (pv_assign rfl) (by decide) ?_
      refine el_pv (v := .int .i64 x121) (pv_assign rfl) (by decide) ?_
      refine el_nil ?_
      refine hQ120 _ _ _ ?_
      refine thn_n ?_
      refine cw_seq ?_
      refine cw_gen ?_
      intro Q127 hQ127
      refine cw_reg ?_
      refine el_pv (v := .int .i64 x121) (pv_move rfl) (by decide) ?_
      refine el_pv (v := .int .i64 a1) (pv_move he108) (by decide) ?_
      refine el_pv (v := .bool (x121 == a1)) (pv_eql rfl rfl) (by decide) ?_
      refine el_nil ?_
      refine hQ127 _ _ _ ?_
      refine thn_n ?_
      replace hF := oif hF
      rcases hF with ⟨hb128, hF⟩ | ⟨hb128, hF⟩
      · refine cw_cond_t rfl hb128 ?_
        refine cw_seq ?_
        refine cw_gen ?_
        intro Q129 hQ129
        refine cw_reg ?_
        refine el_pv (v := .int .i64 x107) (pv_move rfl) (by decide) ?_
        refine el_pv (v := .int .i64 x107) (pv_assign rfl) (by decide) ?_
        refine el_nil ?_
        refine hQ129 _ _ _ ?_
        refine thn_n ?_
        refine cw_ret ?_
        refine hQ119 _ _ _ ?_
        refine inb_r ?_
        refine hQ118 _ _ _ ?_
        refine thn_r ?_
        refine hQ114 _ _ _ ?_
        refine thn_r ?_
        refine hQ104 _ _ _ ?_
        refine inb_r ?_
        refine hQ102 _ _ _ ?_
        refine thn_r ?_
        replace hF := exL hF hK106
        refine fin1 rfl rfl ?_
        have hr := Option.some.inj hF
        exact ⟨congrArg (fun (r : Int) => Ending.returned (.int .i64 r)) hr, hS.below⟩
      · refine cw_cond_f rfl hb128 ?_
        refine cw_skip ?_
        refine hQ119 _ _ _ ?_
        refine inb_n ?_
        refine hQ118 _ _ _ ?_
        refine thn_n ?_
        refine cw_reg ?_
        replace hF := ob hF
        obtain ⟨x130, hx130, hF⟩ := hF
        refine el_pv (v := .int .i64 x130) (pv_add he111 rfl hx130) (by decide) ?_
        refine el_pv (v := .int .i64 x130) (pv_move rfl) (by decide) ?_
        refine el_nil ?_
        refine hQ114 _ _ _ ?_
        refine thn_n ?_
        replace hS := hS.keep 0
        exact ⟨x130, he108, he109, he110, rfl, hS, hF⟩
    · refine cw_cond_f rfl hb117 ?_
      refine cw_exit ?_
      refine hQ116 _ _ _ ?_
      refine thn_x ?_
      refine hQ114 _ _ _ ?_
      refine thn_x ?_
      replace hF := exA hF hK106
      refine hQ104 _ _ _ ?_
      refine inb_s ?_
      refine hQ102 _ _ _ ?_
      refine thn_n ?_
      refine cw_seq ?_
      refine cw_gen ?_
      intro Q131 hQ131
      refine cw_reg ?_
      refine el_pv (v := .int .i64 (-1)) (pv_assign rfl) (by decide) ?_
      refine el_nil ?_
      refine hQ131 _ _ _ ?_
      refine thn_n ?_
      refine cw_ret ?_
      refine fin1 rfl rfl ?_
      have hr := Option.some.inj hF
      exact ⟨congrArg (fun (r : Int) => Ending.returned (.int .i64 r)) hr, hS.below⟩
set_option maxHeartbeats 4000000 in
theorem impl_hasInt_ok {w0 : World} {u0 : Value} {a0 : List Int} {a1 : Int} (ha0 : (sliceR intR 3).rd w0 [u0] a0) {N : Nat} {r : Bool} (hF : impl_hasInt N a0 a1 = some r) :
    Calls Try.prog 109 #[u0, .int .i64 a1] w0 fun e w' => e = .returned (.bool r) ∧ Ext w0 w' := by
  unfold impl_hasInt at hF
  refine calls_E Try.func109 rfl rfl (of_decide_eq_true rfl) ?_
  have hS := Sat.start w0
  refine cw_seq ?_
  refine cw_gen ?_
  intro Q101 hQ101
  refine cw_reg ?_
  refine el_pv (v := .bool false) (pv_assign rfl) (by decide) ?_
  refine el_nil ?_
  refine hQ101 _ _ _ ?_
  refine thn_n ?_
  refine cw_seq ?_
  refine cw_gen ?_
  intro Q102 hQ102
  refine cw_reg ?_
  refine el_pv (v := u0) (pv_move rfl) (by decide) ?_
  refine el_pv (v := .int .i64 a1) (pv_move rfl) (by decide) ?_
  replace hF := ob hF
  obtain ⟨r103, hr103, hF⟩ := hF
  refine el_call goes106 (impl_indexOf_ok (hS.up ha0) hr103) (congrArg List.toArray (mapc rfl (mapc rfl rfl))) (by decide) ?_
  rintro _ w104 ⟨rfl, hx105⟩
  refine ⟨_, rfl, ?_⟩
  replace hS := hS.ext hx105
  refine el_pv (v := .bool (decide (0 ≤ r103))) (pv_geq rfl rfl) (by decide) ?_
  refine el_pv (v := .bool (decide (0 ≤ r103))) (pv_assign rfl) (by decide) ?_
  refine el_nil ?_
  refine hQ102 _ _ _ ?_
  refine thn_n ?_
  refine cw_ret ?_
  refine fin1 rfl rfl ?_
  have hr := Option.some.inj hF
  exact ⟨congrArg (fun (r : Bool) => Ending.returned (.bool r)) hr, hS.below⟩
set_option maxHeartbeats 4000000 in
theorem impl_isSetOf_ok {w0 : World} {u0 : Value} {a0 : List Int} {a1 : Int} (ha0 : (sliceR intR 3).rd w0 [u0] a0) {N : Nat} {r : Bool} (hF : impl_isSetOf N a0 a1 = some r) :
    Calls Try.prog 81 #[u0, .int .i64 a1] w0 fun e w' => e = .returned (.bool r) ∧ Ext w0 w' := by
  unfold impl_isSetOf at hF
  refine calls_E Try.func81 rfl rfl (of_decide_eq_true rfl) ?_
  have hS := Sat.start w0
  refine cw_seq ?_
  refine cw_gen ?_
  intro Q101 hQ101
  refine cw_reg ?_
  refine el_pv (v := .bool false) (pv_assign rfl) (by decide) ?_
  refine el_nil ?_
  refine hQ101 _ _ _ ?_
  refine thn_n ?_
  refine cw_seq ?_
  refine cw_gen ?_
  intro Q102 hQ102
  refine cw_seq ?_
  refine cw_gen ?_
  intro Q103 hQ103
  refine cw_reg ?_
  refine el_pv (v := u0) (pv_move rfl) (by decide) ?_
  refine el_pv (v := .int .i64 (a0.length : Int)) (pv_len rfl ha0) (by decide) ?_
  refine el_pv (v := .int .i64 0) (pv_move rfl) (by decide) ?_
  refine el_nil ?_
  refine hQ103 _ _ _ ?_
  refine thn_n ?_
  refine cw_block ?_
  refine cw_gen ?_
  intro Q104 hQ104
  obtain ⟨s105, hL, hK106⟩ := ob hF
  refine cw_loopS (fun k e w => ∃ (x107 : Int), e 0 = u0 ∧ e 1 = .int .i64 a1 ∧ e 7 = u0 ∧ e 8 = .int .i64 (a0.length : Int) ∧ e 9 = .int .i64 x107 ∧ Sat w0 w [] ∧ impl_isSetOf_L1 N k a0 a1 a0 (a0.length : Int) x107 = some s105) N ?_ ?_ ?_
  · exact ⟨0, rfl, rfl, rfl, rfl, rfl, hS, hL⟩
  · rintro e w ⟨_, _, _, _, _, _, _, hz⟩; exact nomatch (show none = some _ from hz)
  · rintro k e114 w113 ⟨x107, he108, he109, he110, he111, he112, hS, hF⟩
    refine cw_gen ?_
    intro Q115 hQ115
    refine cw_seq ?_
    refine cw_gen ?_
    intro Q116 hQ116
    refine cw_reg ?_
    refine el_pv (v := .bool (decide (x107 < (a0.length : Int)))) (pv_lss he112 he111) (by decide) ?_
    refine el_nil ?_
    refine hQ116 _ _ _ ?_
    refine thn_n ?_
    refine cw_seq ?_
    refine cw_gen ?_
    intro Q117 hQ117
    replace hF := oif hF
    rcases hF with ⟨hb118, hF⟩ | ⟨hb118, hF⟩
    · refine cw_cond_t rfl hb118 ?_
      refine cw_skip ?_
      refine hQ117 _ _ _ ?_
      refine thn_n ?_
      refine cw_seq ?_
      refine cw_gen ?_
      intro Q119 hQ119
      refine cw_block ?_
      refine cw_gen ?_
      intro Q120 hQ120
      refine cw_seq ?_
      refine cw_gen ?_
      intro Q121 hQ121
      refine cw_reg ?_
      refine el_pv (v := .int .i64 x107) (pv_move he112) (by decide) ?_
      replace hF := ob hF
      obtain ⟨x122, hx122, hF⟩ := hF
      refine el_index (wA := w0) he110 ha0 rfl (by decide) he112 hx122 (by decide) ?_
      intro b123 of124 c125 hr126 hm127
      obtain rfl := hr126
      refine el_pv (v := .int .i64 x122) (pv_loadc rfl ((cells_up hS.below hm127) 0 _ rfl)) (by decide) ?_
      refine el_pv (v := .int .i64 x107) (pv_assign rfl) (by decide) ?_
      refine el_pv (v := .int .i64 x122) (pv_assign rfl) (by decide) ?_
      refine el_nil ?_
      refine hQ121 _ _ _ ?_
      refine thn_n ?_
      refine cw_seq ?_
      refine cw_gen ?_
      intro Q128 hQ128
      refine cw_reg ?_
      refine el_pv (v := .int .i64 x122) (pv_move rfl) (by decide) ?_
      refine el_pv (v := .int .i64 a1) (pv_move he109) (by decide) ?_
      replace hF := ob hF
      obtain ⟨x129, hx129, hF⟩ := hF
      refine el_pv (v := .int .i64 x129) (pv_sub rfl rfl hx129) (by decide) ?_
      replace hF := ob hF
      obtain ⟨r130, hr130, hF⟩ := hF
      refine el_call goes41 (impl_within_ok hr130) (congrArg List.toArray (mapc rfl (mapc rfl (mapc rfl rfl)))) (by decide) ?_
      rintro _ w131 ⟨rfl, hx132⟩
      refine ⟨_, rfl, ?_⟩
      replace hS := hS.ext hx132
      refine el_pv (v := .bool (!r130)) (pv_not rfl) (by decide) ?_
      refine el_pv (v := .bool (!r130)) (pv_move rfl) (by decide) ?_
      replace hF := oif hF
      rcases hF with ⟨hb133, hF⟩ | ⟨hb133, hF⟩
      · refine el_on rfl (bnot_t hb133) ?_
        refine el_pv (v := u0) (pv_move he108) (by decide) ?_
        refine el_on rfl (bnot_t hb133) ?_
        refine el_pv (v := .int .i64 x107) (pv_move rfl) (by decide) ?_
        refine el_on rfl (bnot_t hb133) ?_
        replace hF := ob hF
        obtain ⟨x134, hx134, hF⟩ := hF
        refine el_slice (wA := w0) rfl rfl ha0 (.inr ⟨rfl, rfl⟩) (.inl (congrArg some rfl)) hx134 (by decide) ?_
        intro v135 hr136
        refine el_on rfl (bnot_t hb133) ?_
        refine el_pv (v := .int .i64 x122) (pv_move rfl) (by decide) ?_
        refine el_on rfl (bnot_t hb133) ?_
        replace hF := ob hF
        obtain ⟨r137, hr137, hF⟩ := hF
        refine el_call goes109 (impl_hasInt_ok (hS.up hr136) hr137) (congrArg List.toArray (mapc rfl (mapc rfl rfl))) (by decide) ?_
        rintro _ w138 ⟨rfl, hx139⟩
        refine ⟨_, rfl, ?_⟩
        replace hS := hS.ext hx139
        refine el_pv (v := .bool r137) (pv_pick_f rfl (bnot_t hb133) rfl) (by decide) ?_
        refine el_nil ?_
        refine hQ128 _ _ _ ?_
        refine thn_n ?_
        replace hF := oif hF
        rcases hF with ⟨hb140, hF⟩ | ⟨hb140, hF⟩
        · refine cw_cond_t rfl hb140 ?_
          refine cw_seq ?_
          refine cw_gen ?_
          intro Q141 hQ141
          refine cw_reg ?_
          refine el_pv (v := .bool false) (pv_assign rfl) (by decide) ?_
          refine el_nil ?_
          refine hQ141 _ _ _ ?_
          refine thn_n ?_
          refine cw_ret ?_
          refine hQ120 _ _ _ ?_
          refine inb_r ?_
          refine hQ119 _ _ _ ?_
          refine thn_r ?_
          refine hQ115 _ _ _ ?_
          refine thn_r ?_
          refine hQ104 _ _ _ ?_
          refine inb_r ?_
          refine hQ102 _ _ _ ?_
          refine thn_r ?_
          replace hF := exL hF hK106
          refine fin1 rfl rfl ?_
          have hr := Option.some.inj hF
          exact ⟨congrArg (fun (r : Bool) => Ending.returned (.bool r)) hr, hS.below⟩
        · refine cw_cond_f rfl hb140 ?_
          refine cw_skip ?_
          refine hQ120 _ _ _ ?_
          refine inb_n ?_
          refine hQ119 _ _ _ ?_
          refine thn_n ?_
          refine cw_reg ?_
          replace hF := ob hF
          obtain ⟨x142, hx142, hF⟩ := hF
          refine el_pv (v := .int .i64 x142) (pv_add he112 rfl hx142) (by decide) ?_
          refine el_pv (v := .int .i64 x142) (pv_move rfl) (by decide) ?_
          refine el_nil ?_
          refine hQ115 _ _ _ ?_
          refine thn_n ?_
          replace hS := hS.keep 0
          exact ⟨x142, he108, he109, he110, he111, rfl, hS, hF⟩
      · refine el_off rfl (bnot_f hb133) rfl (by decide) ?_
        refine el_off rfl (bnot_f hb133) rfl (by decide) ?_
        refine el_off rfl (bnot_f hb133) rfl (by decide) ?_
        refine el_off rfl (bnot_f hb133) rfl (by decide) ?_
        refine el_off rfl (bnot_f hb133) rfl (by decide) ?_
        refine el_pv (v := .bool true) (pv_pick_t rfl (bnot_f hb133) rfl) (by decide) ?_
        refine el_nil ?_
        refine hQ128 _ _ _ ?_
        refine thn_n ?_
        refine cw_cond_t rfl rfl ?_
        refine cw_seq ?_
        refine cw_gen ?_
        intro Q143 hQ143
        refine cw_reg ?_
        refine el_pv (v := .bool false) (pv_assign rfl) (by decide) ?_
        refine el_nil ?_
        refine hQ143 _ _ _ ?_
        refine thn_n ?_
        refine cw_ret ?_
        refine hQ120 _ _ _ ?_
        refine inb_r ?_
        refine hQ119 _ _ _ ?_
        refine thn_r ?_
        refine hQ115 _ _ _ ?_
        refine thn_r ?_
        refine hQ104 _ _ _ ?_
        refine inb_r ?_
        refine hQ102 _ _ _ ?_
        refine thn_r ?_
        replace hF := exL hF hK106
        refine fin1 rfl rfl ?_
        have hr := Option.some.inj hF
        exact ⟨congrArg (fun (r : Bool) => Ending.returned (.bool r)) hr, hS.below⟩
    · refine cw_cond_f rfl hb118 ?_
      refine cw_exit ?_
      refine hQ117 _ _ _ ?_
      refine thn_x ?_
      refine hQ115 _ _ _ ?_
      refine thn_x ?_
      replace hF := exA hF hK106
      refine hQ104 _ _ _ ?_
      refine inb_s ?_
      refine hQ102 _ _ _ ?_
      refine thn_n ?_
      refine cw_seq ?_
      refine cw_gen ?_
      intro Q144 hQ144
      refine cw_reg ?_
      refine el_pv (v := .bool true) (pv_assign rfl) (by decide) ?_
      refine el_nil ?_
      refine hQ144 _ _ _ ?_
      refine thn_n ?_
      refine cw_ret ?_
      refine fin1 rfl rfl ?_
      have hr := Option.some.inj hF
      exact ⟨congrArg (fun (r : Bool) => Ending.returned (.bool r)) hr, hS.below⟩
set_option maxHeartbeats 4000000 in
theorem impl_isLetters_ok {w0 : World} {a0 : ByteArray} {a1 : Int} (_ : a0.size ≤ 9223372036854775807) {N : Nat} {r : Bool} (hF : impl_isLetters N a0 a1 = some r) :
    Calls Try.prog 124 #[.string a0, .int .i64 a1] w0 fun e w' => e = .returned (.bool r) ∧ Ext w0 w' := by
  unfold impl_isLetters at hF
  refine calls_E Try.func124 rfl rfl (of_decide_eq_true rfl) ?_
  have hS := Sat.start w0
  refine cw_seq ?_
  refine cw_gen ?_
  intro Q101 hQ101
  refine cw_reg ?_
  refine el_pv (v := .bool false) (pv_assign rfl) (by decide) ?_
  refine el_nil ?_
  refine hQ101 _ _ _ ?_
  refine thn_n ?_
  refine cw_seq ?_
  refine cw_gen ?_
  intro Q102 hQ102
  refine cw_seq ?_
  refine cw_gen ?_
  intro Q103 hQ103
  refine cw_reg ?_
  refine el_pv (v := .string a0) (pv_move rfl) (by decide) ?_
  refine el_pv (v := .int .i64 (a0.size : Int)) (pv_lenS Try.underlying9 rfl) (by decide) ?_
  refine el_pv (v := .bool (decide ((a0.size : Int) < 1))) (pv_lss rfl rfl) (by decide) ?_
  refine el_pv (v := .bool (decide ((a0.size : Int) < 1))) (pv_move rfl) (by decide) ?_
  replace hF := oif hF
  rcases hF with ⟨hb104, hF⟩ | ⟨hb104, hF⟩
  · refine el_off rfl hb104 rfl (by decide) ?_
    refine el_off rfl hb104 rfl (by decide) ?_
    refine el_off rfl hb104 rfl (by decide) ?_
    refine el_off rfl hb104 rfl (by decide) ?_
    refine el_pv (v := .bool true) (pv_pick_t rfl hb104 rfl) (by decide) ?_
    refine el_nil ?_
    refine hQ103 _ _ _ ?_
    refine thn_n ?_
    refine cw_cond_t rfl rfl ?_
    refine cw_seq ?_
    refine cw_gen ?_
    intro Q105 hQ105
    refine cw_reg ?_
    refine el_pv (v := .bool false) (pv_assign rfl) (by decide) ?_
    refine el_nil ?_
    refine hQ105 _ _ _ ?_
    refine thn_n ?_
    refine cw_ret ?_
    refine hQ102 _ _ _ ?_
    refine thn_r ?_
    refine fin1 rfl rfl ?_
    have hr := Option.some.inj hF
    exact ⟨congrArg (fun (r : Bool) => Ending.returned (.bool r)) hr, hS.below⟩
  · refine el_on rfl hb104 ?_
    refine el_pv (v := .string a0) (pv_move rfl) (by decide) ?_
    refine el_on rfl hb104 ?_
    refine el_pv (v := .int .i64 (a0.size : Int)) (pv_lenS Try.underlying9 rfl) (by decide) ?_
    refine el_on rfl hb104 ?_
    refine el_pv (v := .int .i64 a1) (pv_move rfl) (by decide) ?_
    refine el_on rfl hb104 ?_
    refine el_pv (v := .bool (decide (a1 < (a0.size : Int)))) (pv_gtr rfl rfl) (by decide) ?_
    refine el_pv (v := .bool (decide (a1 < (a0.size : Int)))) (pv_pick_f rfl hb104 rfl) (by decide) ?_
    refine el_nil ?_
    refine hQ103 _ _ _ ?_
    refine thn_n ?_
    replace hF := oif hF
    rcases hF with ⟨hb106, hF⟩ | ⟨hb106, hF⟩
    · refine cw_cond_t rfl hb106 ?_
      refine cw_seq ?_
      refine cw_gen ?_
      intro Q107 hQ107
      refine cw_reg ?_
      refine el_pv (v := .bool false) (pv_assign rfl) (by decide) ?_
      refine el_nil ?_
      refine hQ107 _ _ _ ?_
      refine thn_n ?_
      refine cw_ret ?_
      refine hQ102 _ _ _ ?_
      refine thn_r ?_
      refine fin1 rfl rfl ?_
      have hr := Option.some.inj hF
      exact ⟨congrArg (fun (r : Bool) => Ending.returned (.bool r)) hr, hS.below⟩
    · refine cw_cond_f rfl hb106 ?_
      refine cw_skip ?_
      refine hQ102 _ _ _ ?_
      refine thn_n ?_
      refine cw_seq ?_
      refine cw_gen ?_
      intro Q108 hQ108
      refine cw_seq ?_
      refine cw_gen ?_
      intro Q109 hQ109
      refine cw_reg ?_
      refine el_pv (v := .int .i64 0) (pv_assign rfl) (by decide) ?_
      refine el_nil ?_
      refine hQ109 _ _ _ ?_
      refine thn_n ?_
      refine cw_block ?_
      refine cw_gen ?_
      intro Q110 hQ110
      obtain ⟨s111, hL, hK112⟩ := ob hF
      refine cw_loopS (fun k e w => ∃ (x113 : Int), e 0 = .string a0 ∧ e 5 = .int .i64 x113 ∧ Sat w0 w [] ∧ impl_isLetters_L1 N k a0 x113 = some s111) N ?_ ?_ ?_
      · exact ⟨0, rfl, rfl, hS, hL⟩
      · rintro e w ⟨_, _, _, _, hz⟩; exact nomatch (show none = some _ from hz)
      · rintro k e117 w116 ⟨x113, he114, he115, hS, hF⟩
        refine cw_gen ?_
        intro Q118 hQ118
        refine cw_seq ?_
        refine cw_gen ?_
        intro Q119 hQ119
        refine cw_seq ?_
        refine cw_gen ?_
        intro Q120 hQ120
        refine cw_reg ?_
        refine el_pv (v := .int .i64 x113) (pv_move he115) (by decide) ?_
        refine el_pv (v := .string a0) (pv_move he114) (by decide) ?_
        refine el_pv (v := .int .i64 (a0.size : Int)) (pv_lenS Try.underlying9 rfl) (by decide) ?_
        refine el_pv (v := .bool (decide (x113 < (a0.size : Int)))) (pv_lss rfl rfl) (by decide) ?_
        refine el_nil ?_
        refine hQ120 _ _ _ ?_
        refine thn_n ?_
        replace hF := oif hF
        rcases hF with ⟨hb121, hF⟩ | ⟨hb121, hF⟩
        · refine cw_cond_t rfl hb121 ?_
          refine cw_skip ?_
          refine hQ119 _ _ _ ?_
          refine thn_n ?_
          refine cw_seq ?_
          refine cw_gen ?_
          intro Q122 hQ122
          refine cw_block ?_
          refine cw_gen ?_
          intro Q123 hQ123
          refine cw_seq ?_
          refine cw_gen ?_
          intro Q124 hQ124
          refine cw_reg ?_
          refine el_pv (v := .string a0) (pv_move he114) (by decide) ?_
          refine el_pv (v := .int .i64 x113) (pv_move he115) (by decide) ?_
          replace hF := ob hF
          obtain ⟨x125, hx125, hF⟩ := hF
          refine el_pv (v := .int .u8 x125) (pv_bx Try.underlying9 rfl rfl hx125) (by decide) ?_
          refine el_pv (v := .bool (decide (x125 < 97))) (pv_lss rfl rfl) (by decide) ?_
          refine el_pv (v := .bool (decide (x125 < 97))) (pv_move rfl) (by decide) ?_
          replace hF := oif hF
          rcases hF with ⟨hb126, hF⟩ | ⟨hb126, hF⟩
          · refine el_off rfl hb126 rfl (by decide) ?_
            refine el_off rfl hb126 rfl (by decide) ?_
            refine el_off rfl hb126 rfl (by decide) ?_
            refine el_off rfl hb126 rfl (by decide) ?_
            refine el_pv (v := .bool true) (pv_pick_t rfl hb126 rfl) (by decide) ?_
            refine el_nil ?_
            refine hQ124 _ _ _ ?_
            refine thn_n ?_
            refine cw_cond_t rfl rfl ?_
            refine cw_seq ?_
            refine cw_gen ?_
            intro Q127 hQ127
            refine cw_reg ?_
            refine el_pv (v := .bool false) (pv_assign rfl) (by decide) ?_
            refine el_nil ?_
            refine hQ127 _ _ _ ?_
            refine thn_n ?_
            refine cw_ret ?_
            refine hQ123 _ _ _ ?_
            refine inb_r ?_
            refine hQ122 _ _ _ ?_
            refine thn_r ?_
            refine hQ118 _ _ _ ?_
            refine thn_r ?_
            refine hQ110 _ _ _ ?_
            refine inb_r ?_
            refine hQ108 _ _ _ ?_
            refine thn_r ?_
            replace hF := exL hF hK112
            refine fin1 rfl rfl ?_
            have hr := Option.some.inj hF
            exact ⟨congrArg (fun (r : Bool) => Ending.returned (.bool r)) hr, hS.below⟩
          · refine el_on rfl hb126 ?_
            refine el_pv (v := .string a0) (pv_move he114) (by decide) ?_
            refine el_on rfl hb126 ?_
            refine el_pv (v := .int .i64 x113) (pv_move he115) (by decide) ?_
            refine el_on rfl hb126 ?_
            replace hF := ob hF
            obtain ⟨x128, hx128, hF⟩ := hF
            refine el_pv (v := .int .u8 x128) (pv_bx Try.underlying9 rfl rfl hx128) (by decide) ?_
            refine el_on rfl hb126 ?_
            refine el_pv (v := .bool (decide (122 < x128))) (pv_gtr rfl rfl) (by decide) ?_
            refine el_pv (v := .bool (decide (122 < x128))) (pv_pick_f rfl hb126 rfl) (by decide) ?_
            refine el_nil ?_
            refine hQ124 _ _ _ ?_
            refine thn_n ?_
            replace hF := oif hF
            rcases hF with ⟨hb129, hF⟩ | ⟨hb129, hF⟩
            · refine cw_cond_t rfl hb129 ?_
              refine cw_seq ?_
              refine cw_gen ?_
              intro Q130 hQ130
              refine cw_reg ?_
              refine el_pv (v := .bool false) (pv_assign rfl) (by decide) ?_
              refine el_nil ?_
              refine hQ130 _ _ _ ?_
              refine thn_n ?_
              refine cw_ret ?_
              refine hQ123 _ _ _ ?_
              refine inb_r ?_
              refine hQ122 _ _ _ ?_
              refine thn_r ?_
              refine hQ118 _ _ _ ?_
              refine thn_r ?_
              refine hQ110 _ _ _ ?_
              refine inb_r ?_
              refine hQ108 _ _ _ ?_
              refine thn_r ?_
              replace hF := exL hF hK112
              refine fin1 rfl rfl ?_
              have hr := Option.some.inj hF
              exact ⟨congrArg (fun (r : Bool) => Ending.returned (.bool r)) hr, hS.below⟩
            · refine cw_cond_f rfl hb129 ?_
              refine cw_skip ?_
              refine hQ123 _ _ _ ?_
              refine inb_n ?_
              refine hQ122 _ _ _ ?_
              refine thn_n ?_
              refine cw_reg ?_
              refine el_pv (v := .int .i64 x113) (pv_move he115) (by decide) ?_
              replace hF := ob hF
              obtain ⟨x131, hx131, hF⟩ := hF
              refine el_pv (v := .int .i64 x131) (pv_add rfl rfl hx131) (by decide) ?_
              refine el_pv (v := .int .i64 x131) (pv_assign rfl) (by decide) ?_
              refine el_nil ?_
              refine hQ118 _ _ _ ?_
              refine thn_n ?_
              replace hS := hS.keep 0
              exact ⟨x131, he114, rfl, hS, hF⟩
        · refine cw_cond_f rfl hb121 ?_
          refine cw_exit ?_
          refine hQ119 _ _ _ ?_
          refine thn_x ?_
          refine hQ118 _ _ _ ?_
          refine thn_x ?_
          replace hF := exA hF hK112
          refine hQ110 _ _ _ ?_
          refine inb_s ?_
          refine hQ108 _ _ _ ?_
          refine thn_n ?_
          refine cw_seq ?_
          refine cw_gen ?_
          intro Q132 hQ132
          refine cw_reg ?_
          refine el_pv (v := .bool true) (pv_assign rfl) (by decide) ?_
          refine el_nil ?_
          refine hQ132 _ _ _ ?_
          refine thn_n ?_
          refine cw_ret ?_
          refine fin1 rfl rfl ?_
          have hr := Option.some.inj hF
          exact ⟨congrArg (fun (r : Bool) => Ending.returned (.bool r)) hr, hS.below⟩
set_option maxHeartbeats 4000000 in
theorem impl_IsValidName_ok {w0 : World} {a0 : ByteArray} (ha0 : a0.size ≤ 9223372036854775807) {N : Nat} {r : Bool} (hF : impl_IsValidName N a0 = some r) :
    Calls Try.prog 82 #[.string a0] w0 fun e w' => e = .returned (.bool r) ∧ Ext w0 w' := by
  unfold impl_IsValidName at hF
  refine calls_E Try.func82 rfl rfl (of_decide_eq_true rfl) ?_
  have hS := Sat.start w0
  refine cw_seq ?_
  refine cw_gen ?_
  intro Q101 hQ101
  refine cw_reg ?_
  refine el_pv (v := .bool false) (pv_assign rfl) (by decide) ?_
  refine el_nil ?_
  refine hQ101 _ _ _ ?_
  refine thn_n ?_
  refine cw_seq ?_
  refine cw_gen ?_
  intro Q102 hQ102
  refine cw_reg ?_
  refine el_pv (v := .string a0) (pv_move rfl) (by decide) ?_
  replace hF := ob hF
  obtain ⟨r103, hr103, hF⟩ := hF
  refine el_call goes124 (impl_isLetters_ok ha0 hr103) (congrArg List.toArray (mapc rfl (mapc rfl rfl))) (by decide) ?_
  rintro _ w104 ⟨rfl, hx105⟩
  refine ⟨_, rfl, ?_⟩
  replace hS := hS.ext hx105
  refine el_pv (v := .bool r103) (pv_assign rfl) (by decide) ?_
  refine el_nil ?_
  refine hQ102 _ _ _ ?_
  refine thn_n ?_
  refine cw_ret ?_
  refine fin1 rfl rfl ?_
  have hr := Option.some.inj hF
  exact ⟨congrArg (fun (r : Bool) => Ending.returned (.bool r)) hr, hS.below⟩
set_option maxHeartbeats 4000000 in
theorem impl_IsValidQuery_ok {w0 : World} {a0 : Int} {u1 : Value} {a1 : List (ByteArray × List Int)} {u2 : Value} {a2 : List Int} (ha1 : (sliceR (pairR strR (sliceR intR 3)) 96).rd w0 [u1] a1) (ha2 : (sliceR intR 3).rd w0 [u2] a2) {N : Nat} {r : Bool} (hF : impl_IsValidQuery N a0 a1 a2 = some r) :
    Calls Try.prog 40 #[.agg #[.int .i64 a0, u1, u2]] w0 fun e w' => e = .returned (.bool r) ∧ Ext w0 w' := by
  unfold impl_IsValidQuery at hF
  refine calls_E Try.func40 rfl rfl (of_decide_eq_true rfl) ?_
  have hS := Sat.start w0
  refine cw_seq ?_
  refine cw_gen ?_
  intro Q101 hQ101
  refine cw_reg ?_
  refine el_box [.int .i64 a0, u1, u2] rfl hS (by decide) ?_
  intro w102 b103 hS hx104
  refine el_pv (v := .bool false) (pv_assign rfl) (by decide) ?_
  refine el_nil ?_
  refine hQ101 _ _ _ ?_
  refine thn_n ?_
  refine cw_seq ?_
  refine cw_gen ?_
  intro Q106 hQ106
  refine cw_reg ?_
  refine el_pv (v := .pointer (some ⟨b103, 0 + 0, none⟩)) (pv_fieldAddr rfl) (by decide) ?_
  refine el_pv (v := .int .i64 a0) (pv_loadc rfl ((hS.boxAt 0 rfl) 0 _ rfl)) (by decide) ?_
  refine el_pv (v := .int .i64 a0) (pv_assign rfl) (by decide) ?_
  refine el_nil ?_
  refine hQ106 _ _ _ ?_
  refine thn_n ?_
  refine cw_seq ?_
  refine cw_gen ?_
  intro Q107 hQ107
  refine cw_seq ?_
  refine cw_gen ?_
  intro Q108 hQ108
  refine cw_reg ?_
  refine el_pv (v := .int .i64 a0) (pv_move rfl) (by decide) ?_
  replace hF := ob hF
  obtain ⟨r109, hr109, hF⟩ := hF
  refine el_call goes41 (impl_within_ok hr109) (congrArg List.toArray (mapc rfl (mapc rfl (mapc rfl rfl)))) (by decide) ?_
  rintro _ w110 ⟨rfl, hx111⟩
  refine ⟨_, rfl, ?_⟩
  replace hS := hS.ext hx111
  refine el_pv (v := .bool (!r109)) (pv_not rfl) (by decide) ?_
  refine el_pv (v := .bool (!r109)) (pv_move rfl) (by decide) ?_
  replace hF := oif hF
  rcases hF with ⟨hb112, hF⟩ | ⟨hb112, hF⟩
  · refine el_on rfl (bnot_t hb112) ?_
    refine el_pv (v := .pointer (some ⟨b103, 0 + 1, none⟩)) (pv_fieldAddr rfl) (by decide) ?_
    refine el_on rfl (bnot_t hb112) ?_
    refine el_pv (v := u1) (pv_loadc rfl ((hS.boxAt 0 rfl) 1 _ rfl)) (by decide) ?_
    refine el_on rfl (bnot_t hb112) ?_
    refine el_pv (v := .int .i64 (a1.length : Int)) (pv_len rfl ha1) (by decide) ?_
    refine el_on rfl (bnot_t hb112) ?_
    replace hF := ob hF
    obtain ⟨r113, hr113, hF⟩ := hF
    refine el_call goes41 (impl_within_ok hr113) (congrArg List.toArray (mapc rfl (mapc rfl (mapc rfl rfl)))) (by decide) ?_
    rintro _ w114 ⟨rfl, hx115⟩
    refine ⟨_, rfl, ?_⟩
    replace hS := hS.ext hx115
    refine el_on rfl (bnot_t hb112) ?_
    refine el_pv (v := .bool (!r113)) (pv_not rfl) (by decide) ?_
    refine el_pv (v := .bool (!r113)) (pv_pick_f rfl (bnot_t hb112) rfl) (by decide) ?_
    refine el_pv (v := .bool (!r113)) (pv_move rfl) (by decide) ?_
    replace hF := oif hF
    rcases hF with ⟨hb116, hF⟩ | ⟨hb116, hF⟩
    · refine el_on rfl (bnot_t hb116) ?_
      refine el_pv (v := .pointer (some ⟨b103, 0 + 2, none⟩)) (pv_fieldAddr rfl) (by decide) ?_
      refine el_on rfl (bnot_t hb116) ?_
      refine el_pv (v := u2) (pv_loadc rfl ((hS.boxAt 0 rfl) 2 _ rfl)) (by decide) ?_
      refine el_on rfl (bnot_t hb116) ?_
      refine el_pv (v := .int .i64 a0) (pv_move rfl) (by decide) ?_
      refine el_on rfl (bnot_t hb116) ?_
      replace hF := ob hF
      obtain ⟨r117, hr117, hF⟩ := hF
      refine el_call goes81 (impl_isSetOf_ok (hS.up ha2) hr117) (congrArg List.toArray (mapc rfl (mapc rfl rfl))) (by decide) ?_
      rintro _ w118 ⟨rfl, hx119⟩
      refine ⟨_, rfl, ?_⟩
      replace hS := hS.ext hx119
      refine el_on rfl (bnot_t hb116) ?_
      refine el_pv (v := .bool (!r117)) (pv_not rfl) (by decide) ?_
      refine el_pv (v := .bool (!r117)) (pv_pick_f rfl (bnot_t hb116) rfl) (by decide) ?_
      refine el_nil ?_
      refine hQ108 _ _ _ ?_
      refine thn_n ?_
      replace hF := oif hF
      rcases hF with ⟨hb120, hF⟩ | ⟨hb120, hF⟩
      · refine cw_cond_f rfl (bnot_t hb120) ?_
        refine cw_skip ?_
        refine hQ107 _ _ _ ?_
        refine thn_n ?_
        refine cw_seq ?_
        refine cw_gen ?_
        intro Q121 hQ121
        refine cw_reg ?_
        refine el_pv (v := .int .i64 a0) (pv_move rfl) (by decide) ?_
        replace hF := ob hF
        obtain ⟨x125, hx125, hF⟩ := hF
        refine el_make (R := boolR) (x0 := false) rfl (by decide) rfl (fun _ => ⟨rfl, rfl⟩) rfl rfl hx125 hS (by decide) ?_
        intro w122 g123 k124 hS hx126 hlx125
        refine el_pv (v := (.slice (some ⟨g123, 0, none⟩) k124 k124)) (pv_assign rfl) (by decide) ?_
        refine el_nil ?_
        refine hQ121 _ _ _ ?_
        refine thn_n ?_
        refine cw_seq ?_
        refine cw_gen ?_
        intro Q128 hQ128
        refine cw_seq ?_
        refine cw_gen ?_
        intro Q129 hQ129
        refine cw_reg ?_
        refine el_pv (v := .pointer (some ⟨b103, 0 + 1, none⟩)) (pv_fieldAddr rfl) (by decide) ?_
        refine el_pv (v := u1) (pv_loadc rfl ((hS.boxAt 1 rfl) 1 _ rfl)) (by decide) ?_
        refine el_pv (v := .int .i64 (a1.length : Int)) (pv_len rfl ha1) (by decide) ?_
        refine el_pv (v := .int .i64 0) (pv_move rfl) (by decide) ?_
        refine el_nil ?_
        refine hQ129 _ _ _ ?_
        refine thn_n ?_
        refine cw_block ?_
        refine cw_gen ?_
        intro Q130 hQ130
        obtain ⟨s131, hL, hK132⟩ := ob hF
        replace hS : Sat w0 w122 [Own (sliceR boolR 4) [(.slice (some ⟨g123, 0, none⟩) k124 k124)] x125] := hS.rems 2 [1] rfl
        refine cw_loopS (fun k e w => ∃ (v134 : Value), ∃ (x133 : List Bool), ∃ (x135 : Int), e 3 = .int .i64 a0 ∧ e 4 = v134 ∧ e 33 = u1 ∧ e 34 = .int .i64 (a1.length : Int) ∧ e 35 = .int .i64 x135 ∧ Sat w0 w [Own (sliceR boolR 4) [v134] x133] ∧ impl_IsValidQuery_L1 N k a0 x133 a1 (a1.length : Int) x135 = some s131) N ?_ ?_ ?_
        · exact ⟨(.slice (some ⟨g123, 0, none⟩) k124 k124), x125, 0, rfl, rfl, rfl, rfl, rfl, hS, hL⟩
        · rintro e w ⟨_, _, _, _, _, _, _, _, _, hz⟩; exact nomatch (show none = some _ from hz)
        · rintro k e142 w141 ⟨v134, x133, x135, he136, he137, he138, he139, he140, hS, hF⟩
          refine cw_gen ?_
          intro Q143 hQ143
          refine cw_seq ?_
          refine cw_gen ?_
          intro Q144 hQ144
          refine cw_reg ?_
          refine el_pv (v := .bool (decide (x135 < (a1.length : Int)))) (pv_lss he140 he139) (by decide) ?_
          refine el_nil ?_
          refine hQ144 _ _ _ ?_
          refine thn_n ?_
          refine cw_seq ?_
          refine cw_gen ?_
          intro Q145 hQ145
          replace hF := oif hF
          rcases hF with ⟨hb146, hF⟩ | ⟨hb146, hF⟩
          · refine cw_cond_t rfl hb146 ?_
            refine cw_skip ?_
            refine hQ145 _ _ _ ?_
            refine thn_n ?_
            refine cw_seq ?_
            refine cw_gen ?_
            intro Q147 hQ147
            refine cw_block ?_
            refine cw_gen ?_
            intro Q148 hQ148
            refine cw_seq ?_
            refine cw_gen ?_
            intro Q149 hQ149
            refine cw_reg ?_
            replace hF := ob hF
            obtain ⟨x150, hx150, hF⟩ := hF
            refine el_index (wA := w0) he138 ha1 rfl (by decide) he140 hx150 (by decide) ?_
            intro b151 of152 c153 hr154 hm155
            obtain ⟨_, _, rfl, hr156, hr157⟩ := hr154
            obtain ⟨rfl, hz158⟩ := hr156
            obtain ⟨v159, rfl⟩ := slice_one hr157
            refine el_pv (v := .agg #[.string x150.1, v159]) (pv_loada (cs := [.string x150.1, v159]) rfl rfl (cells_up hS.below hm155)) (by decide) ?_
            refine el_alloc hS (by decide) ?_
            intro w160 b161 hS hx162
            refine el_storev (hS.top 0 rfl) rfl [.string x150.1, v159] rfl rfl (of_decide_eq_true rfl) (all_cons rfl (all_cons (oc hr157) rfl)) ?_
            intro w164 hS
            replace hS : Sat w0 w164 [Box b161 96 [.string x150.1, v159], Own (sliceR boolR 4) [v134] x133] := hS
            refine el_nil ?_
            refine hQ149 _ _ _ ?_
            refine thn_n ?_
            refine cw_seq ?_
            refine cw_gen ?_
            intro Q165 hQ165
            refine cw_seq ?_
            refine cw_gen ?_
            intro Q166 hQ166
            refine cw_reg ?_
            refine el_pv (v := .pointer (some ⟨b161, 0 + 0, none⟩)) (pv_fieldAddr rfl) (by decide) ?_
            refine el_pv (v := .string x150.1) (pv_loadc rfl ((hS.boxAt 0 rfl) 0 _ rfl)) (by decide) ?_
            replace hF := ob hF
            obtain ⟨r167, hr167, hF⟩ := hF
            refine el_call goes82 (impl_IsValidName_ok hz158 hr167) (congrArg List.toArray (mapc rfl rfl)) (by decide) ?_
            rintro _ w168 ⟨rfl, hx169⟩
            refine ⟨_, rfl, ?_⟩
            replace hS := hS.ext hx169
            refine el_pv (v := .bool (!r167)) (pv_not rfl) (by decide) ?_
            refine el_pv (v := .bool (!r167)) (pv_move rfl) (by decide) ?_
            replace hF := oif hF
            rcases hF with ⟨hb170, hF⟩ | ⟨hb170, hF⟩
            · refine el_on rfl (bnot_t hb170) ?_
              refine el_pv (v := .pointer (some ⟨b161, 0 + 1, none⟩)) (pv_fieldAddr rfl) (by decide) ?_
              refine el_on rfl (bnot_t hb170) ?_
              refine el_pv (v := v159) (pv_loadc rfl ((hS.boxAt 0 rfl) 1 _ rfl)) (by decide) ?_
              refine el_on rfl (bnot_t hb170) ?_
              refine el_pv (v := .int .i64 (x150.2.length : Int)) (pv_len rfl hr157) (by decide) ?_
              refine el_on rfl (bnot_t hb170) ?_
              replace hF := ob hF
              obtain ⟨r171, hr171, hF⟩ := hF
              refine el_call goes41 (impl_within_ok hr171) (congrArg List.toArray (mapc rfl (mapc rfl (mapc rfl rfl)))) (by decide) ?_
              rintro _ w172 ⟨rfl, hx173⟩
              refine ⟨_, rfl, ?_⟩
              replace hS := hS.ext hx173
              refine el_on rfl (bnot_t hb170) ?_
              refine el_pv (v := .bool (!r171)) (pv_not rfl) (by decide) ?_
              refine el_pv (v := .bool (!r171)) (pv_pick_f rfl (bnot_t hb170) rfl) (by decide) ?_
              refine el_nil ?_
              refine hQ166 _ _ _ ?_
              refine thn_n ?_
              replace hF := oif hF
              rcases hF with ⟨hb174, hF⟩ | ⟨hb174, hF⟩
              · refine cw_cond_f rfl (bnot_t hb174) ?_
                refine cw_skip ?_
                refine hQ165 _ _ _ ?_
                refine thn_n ?_
                refine cw_seq ?_
                refine cw_gen ?_
                intro Q175 hQ175
                refine cw_reg ?_
                refine el_pv (v := .pointer (some ⟨b161, 0 + 1, none⟩)) (pv_fieldAddr rfl) (by decide) ?_
                refine el_pv (v := v159) (pv_loadc rfl ((hS.boxAt 0 rfl) 1 _ rfl)) (by decide) ?_
                refine el_pv (v := .int .i64 (x150.2.length : Int)) (pv_len rfl hr157) (by decide) ?_
                refine el_pv (v := .int .i64 0) (pv_move rfl) (by decide) ?_
                refine el_nil ?_
                refine hQ175 _ _ _ ?_
                refine thn_n ?_
                refine cw_block ?_
                refine cw_gen ?_
                intro Q176 hQ176
                obtain ⟨s177, hL, hK178⟩ := ob hF
                replace hS : Sat w0 w172 [Own (sliceR boolR 4) [v134] x133] := hS.rems 2 [0] rfl
                refine cw_loopS (fun k e w => ∃ (v180 : Value), ∃ (x179 : List Bool), ∃ (x181 : Int), e 3 = .int .i64 a0 ∧ e 4 = v180 ∧ e 33 = u1 ∧ e 34 = .int .i64 (a1.length : Int) ∧ e 35 = .int .i64 x135 ∧ e 51 = v159 ∧ e 52 = .int .i64 (x150.2.length : Int) ∧ e 53 = .int .i64 x181 ∧ Sat w0 w [Own (sliceR boolR 4) [v180] x179] ∧ impl_IsValidQuery_L2 N k a0 x179 a1 (a1.length : Int) x135 x150.2 (x150.2.length : Int) x181 = some s177) N ?_ ?_ ?_
                · exact ⟨v134, x133, 0, he136, he137, he138, he139, he140, rfl, rfl, rfl, hS, hL⟩
                · rintro e w ⟨_, _, _, _, _, _, _, _, _, _, _, _, hz⟩; exact nomatch (show none = some _ from hz)
                · rintro k e191 w190 ⟨v180, x179, x181, he182, he183, he184, he185, he186, he187, he188, he189, hS, hF⟩
                  refine cw_gen ?_
                  intro Q192 hQ192
                  refine cw_seq ?_
                  refine cw_gen ?_
                  intro Q193 hQ193
                  refine cw_reg ?_
                  refine el_pv (v := .bool (decide (x181 < (x150.2.length : Int)))) (pv_lss he189 he188) (by decide) ?_
                  refine el_nil ?_
                  refine hQ193 _ _ _ ?_
                  refine thn_n ?_
                  refine cw_seq ?_
                  refine cw_gen ?_
                  intro Q194 hQ194
                  replace hF := oif hF
                  rcases hF with ⟨hb195, hF⟩ | ⟨hb195, hF⟩
                  · refine cw_cond_t rfl hb195 ?_
                    refine cw_skip ?_
                    refine hQ194 _ _ _ ?_
                    refine thn_n ?_
                    refine cw_seq ?_
                    refine cw_gen ?_
                    intro Q196 hQ196
                    refine cw_block ?_
                    refine cw_gen ?_
                    intro Q197 hQ197
                    refine cw_seq ?_
                    refine cw_gen ?_
                    intro Q198 hQ198
                    refine cw_reg ?_
                    replace hF := ob hF
                    obtain ⟨x199, hx199, hF⟩ := hF
                    refine el_index (wA := w0) he187 hr157 rfl (by decide) he189 hx199 (by decide) ?_
                    intro b200 of201 c202 hr203 hm204
                    obtain rfl := hr203
                    refine el_pv (v := .int .i64 x199) (pv_loadc rfl ((cells_up hS.below hm204) 0 _ rfl)) (by decide) ?_
                    refine el_pv (v := .int .i64 x199) (pv_assign rfl) (by decide) ?_
                    refine el_nil ?_
                    refine hQ198 _ _ _ ?_
                    refine thn_n ?_
                    refine cw_seq ?_
                    refine cw_gen ?_
                    intro Q205 hQ205
                    refine cw_seq ?_
                    refine cw_gen ?_
                    intro Q206 hQ206
                    refine cw_reg ?_
                    refine el_pv (v := .int .i64 x199) (pv_move rfl) (by decide) ?_
                    refine el_pv (v := .int .i64 a0) (pv_move he182) (by decide) ?_
                    replace hF := ob hF
                    obtain ⟨x207, hx207, hF⟩ := hF
                    refine el_pv (v := .int .i64 x207) (pv_sub rfl rfl hx207) (by decide) ?_
                    replace hF := ob hF
                    obtain ⟨r208, hr208, hF⟩ := hF
                    refine el_call goes41 (impl_within_ok hr208) (congrArg List.toArray (mapc rfl (mapc rfl (mapc rfl rfl)))) (by decide) ?_
                    rintro _ w209 ⟨rfl, hx210⟩
                    refine ⟨_, rfl, ?_⟩
                    replace hS := hS.ext hx210
                    refine el_pv (v := .bool (!r208)) (pv_not rfl) (by decide) ?_
                    refine el_nil ?_
                    refine hQ206 _ _ _ ?_
                    refine thn_n ?_
                    replace hF := oif hF
                    rcases hF with ⟨hb211, hF⟩ | ⟨hb211, hF⟩
                    · refine cw_cond_f rfl (bnot_t hb211) ?_
                      refine cw_skip ?_
                      refine hQ205 _ _ _ ?_
                      refine thn_n ?_
                      refine cw_reg ?_
                      refine el_pv (v := v180) (pv_move he183) (by decide) ?_
                      refine el_pv (v := .int .i64 x199) (pv_move rfl) (by decide) ?_
                      replace hF := ob hF
                      obtain ⟨x212, hx212, hF⟩ := hF
                      obtain ⟨g213, cap214, hv215⟩ := ownShape 0 hS rfl hx212
                      refine el_pv (v := .pointer (some ⟨g213, x199.toNat * 1, none⟩)) (pv_indexF (v := v180) rfl hv215 rfl hx212) (by decide) ?_
                      replace hF := ob hF
                      obtain ⟨x217, hx217, hF⟩ := hF
                      replace hS := hS.bool true
                      refine el_storeO rfl hv215 hS hx217 rfl rfl ?_
                      intro w216 hS
                      refine el_nil ?_
                      refine hQ197 _ _ _ ?_
                      refine inb_n ?_
                      refine hQ196 _ _ _ ?_
                      refine thn_n ?_
                      refine cw_reg ?_
                      replace hF := ob hF
                      obtain ⟨x218, hx218, hF⟩ := hF
                      refine el_pv (v := .int .i64 x218) (pv_add he189 rfl hx218) (by decide) ?_
                      refine el_pv (v := .int .i64 x218) (pv_move rfl) (by decide) ?_
                      refine el_nil ?_
                      refine hQ192 _ _ _ ?_
                      refine thn_n ?_
                      replace hS := hS.keep 1
                      exact ⟨v180, x217, x218, he182, he183, he184, he185, he186, he187, he188, rfl, hS, hF⟩
                    · refine cw_cond_t rfl (bnot_f hb211) ?_
                      refine cw_seq ?_
                      refine cw_gen ?_
                      intro Q219 hQ219
                      replace hS : Sat w0 w209 [] := hS.rems 1 [0] rfl
                      refine cw_reg ?_
                      refine el_pv (v := .bool false) (pv_assign rfl) (by decide) ?_
                      refine el_nil ?_
                      refine hQ219 _ _ _ ?_
                      refine thn_n ?_
                      refine cw_ret ?_
                      refine hQ205 _ _ _ ?_
                      refine thn_r ?_
                      refine hQ197 _ _ _ ?_
                      refine inb_r ?_
                      refine hQ196 _ _ _ ?_
                      refine thn_r ?_
                      refine hQ192 _ _ _ ?_
                      refine thn_r ?_
                      refine hQ176 _ _ _ ?_
                      refine inb_r ?_
                      refine hQ148 _ _ _ ?_
                      refine inb_r ?_
                      refine hQ147 _ _ _ ?_
                      refine thn_r ?_
                      refine hQ143 _ _ _ ?_
                      refine thn_r ?_
                      refine hQ130 _ _ _ ?_
                      refine inb_r ?_
                      refine hQ128 _ _ _ ?_
                      refine thn_r ?_
                      replace hF := exL hF hK178
                      replace hF := exL hF hK132
                      refine fin1 rfl rfl ?_
                      have hr := Option.some.inj hF
                      exact ⟨congrArg (fun (r : Bool) => Ending.returned (.bool r)) hr, hS.below⟩
                  · refine cw_cond_f rfl hb195 ?_
                    refine cw_exit ?_
                    refine hQ194 _ _ _ ?_
                    refine thn_x ?_
                    refine hQ192 _ _ _ ?_
                    refine thn_x ?_
                    replace hF := exA hF hK178
                    refine hQ176 _ _ _ ?_
                    refine inb_s ?_
                    refine hQ148 _ _ _ ?_
                    refine inb_n ?_
                    refine hQ147 _ _ _ ?_
                    refine thn_n ?_
                    refine cw_reg ?_
                    replace hF := ob hF
                    obtain ⟨x220, hx220, hF⟩ := hF
                    refine el_pv (v := .int .i64 x220) (pv_add he186 rfl hx220) (by decide) ?_
                    refine el_pv (v := .int .i64 x220) (pv_move rfl) (by decide) ?_
                    refine el_nil ?_
                    refine hQ143 _ _ _ ?_
                    refine thn_n ?_
                    replace hS := hS.keep 1
                    exact ⟨v180, x179, x220, he182, he183, he184, he185, rfl, hS, hF⟩
              · refine cw_cond_t rfl (bnot_f hb174) ?_
                refine cw_seq ?_
                refine cw_gen ?_
                intro Q221 hQ221
                replace hS : Sat w0 w172 [] := hS.rems 2 [0, 1] rfl
                refine cw_reg ?_
                refine el_pv (v := .bool false) (pv_assign rfl) (by decide) ?_
                refine el_nil ?_
                refine hQ221 _ _ _ ?_
                refine thn_n ?_
                refine cw_ret ?_
                refine hQ165 _ _ _ ?_
                refine thn_r ?_
                refine hQ148 _ _ _ ?_
                refine inb_r ?_
                refine hQ147 _ _ _ ?_
                refine thn_r ?_
                refine hQ143 _ _ _ ?_
                refine thn_r ?_
                refine hQ130 _ _ _ ?_
                refine inb_r ?_
                refine hQ128 _ _ _ ?_
                refine thn_r ?_
                replace hF := exL hF hK132
                refine fin1 rfl rfl ?_
                have hr := Option.some.inj hF
                exact ⟨congrArg (fun (r : Bool) => Ending.returned (.bool r)) hr, hS.below⟩
            · refine el_off rfl (bnot_f hb170) rfl (by decide) ?_
              refine el_off rfl (bnot_f hb170) rfl (by decide) ?_
              refine el_off rfl (bnot_f hb170) rfl (by decide) ?_
              refine el_off rfl (bnot_f hb170) rfl (by decide) ?_
              refine el_off rfl (bnot_f hb170) rfl (by decide) ?_
              refine el_pv (v := .bool true) (pv_pick_t rfl (bnot_f hb170) rfl) (by decide) ?_
              refine el_nil ?_
              refine hQ166 _ _ _ ?_
              refine thn_n ?_
              refine cw_cond_t rfl rfl ?_
              refine cw_seq ?_
              refine cw_gen ?_
              intro Q222 hQ222
              replace hS : Sat w0 w168 [] := hS.rems 2 [0, 1] rfl
              refine cw_reg ?_
              refine el_pv (v := .bool false) (pv_assign rfl) (by decide) ?_
              refine el_nil ?_
              refine hQ222 _ _ _ ?_
              refine thn_n ?_
              refine cw_ret ?_
              refine hQ165 _ _ _ ?_
              refine thn_r ?_
              refine hQ148 _ _ _ ?_
              refine inb_r ?_
              refine hQ147 _ _ _ ?_
              refine thn_r ?_
              refine hQ143 _ _ _ ?_
              refine thn_r ?_
              refine hQ130 _ _ _ ?_
              refine inb_r ?_
              refine hQ128 _ _ _ ?_
              refine thn_r ?_
              replace hF := exL hF hK132
              refine fin1 rfl rfl ?_
              have hr := Option.some.inj hF
              exact ⟨congrArg (fun (r : Bool) => Ending.returned (.bool r)) hr, hS.below⟩
          · refine cw_cond_f rfl hb146 ?_
            refine cw_exit ?_
            refine hQ145 _ _ _ ?_
            refine thn_x ?_
            refine hQ143 _ _ _ ?_
            refine thn_x ?_
            replace hF := exA hF hK132
            refine hQ130 _ _ _ ?_
            refine inb_s ?_
            refine hQ128 _ _ _ ?_
            refine thn_n ?_
            refine cw_seq ?_
            refine cw_gen ?_
            intro Q223 hQ223
            refine cw_seq ?_
            refine cw_gen ?_
            intro Q224 hQ224
            refine cw_reg ?_
            refine el_pv (v := v134) (pv_move he137) (by decide) ?_
            refine el_pv (v := .int .i64 (x133.length : Int)) (pv_len rfl (hS.rdAt (R := (sliceR boolR 4)) 0 rfl)) (by decide) ?_
            refine el_pv (v := .int .i64 0) (pv_move rfl) (by decide) ?_
            refine el_nil ?_
            refine hQ224 _ _ _ ?_
            refine thn_n ?_
            refine cw_block ?_
            refine cw_gen ?_
            intro Q225 hQ225
            obtain ⟨s226, hL, hK227⟩ := ob hF
            refine cw_loopS (fun k e w => ∃ (x228 : Int), e 67 = v134 ∧ e 68 = .int .i64 (x133.length : Int) ∧ e 69 = .int .i64 x228 ∧ Sat w0 w [Own (sliceR boolR 4) [v134] x133] ∧ impl_IsValidQuery_L3 N k x133 (x133.length : Int) x228 = some s226) N ?_ ?_ ?_
            · exact ⟨0, rfl, rfl, rfl, hS, hL⟩
            · rintro e w ⟨_, _, _, _, _, hz⟩; exact nomatch (show none = some _ from hz)
            · rintro k e233 w232 ⟨x228, he229, he230, he231, hS, hF⟩
              refine cw_gen ?_
              intro Q234 hQ234
              refine cw_seq ?_
              refine cw_gen ?_
              intro Q235 hQ235
              refine cw_reg ?_
              refine el_pv (v := .bool (decide (x228 < (x133.length : Int)))) (pv_lss he231 he230) (by decide) ?_
              refine el_nil ?_
              refine hQ235 _ _ _ ?_
              refine thn_n ?_
              refine cw_seq ?_
              refine cw_gen ?_
              intro Q236 hQ236
              replace hF := oif hF
              rcases hF with ⟨hb237, hF⟩ | ⟨hb237, hF⟩
              · refine cw_cond_t rfl hb237 ?_
                refine cw_skip ?_
                refine hQ236 _ _ _ ?_
                refine thn_n ?_
                refine cw_seq ?_
                refine cw_gen ?_
                intro Q238 hQ238
                refine cw_block ?_
                refine cw_gen ?_
                intro Q239 hQ239
                refine cw_seq ?_
                refine cw_gen ?_
                intro Q240 hQ240
                refine cw_reg ?_
                replace hF := ob hF
                obtain ⟨x241, hx241, hF⟩ := hF
                obtain ⟨g242, cap243, hv244⟩ := ownShape 0 hS rfl hx241
                refine el_pv (v := .pointer (some ⟨g242, x228.toNat * 1, none⟩)) (pv_indexF (v := v134) (by exact he229) hv244 (by exact he231) hx241) (by decide) ?_
                refine el_pv (v := .bool x241) (pv_loadc rfl (hS.ownCell 0 rfl hv244 hx241)) (by decide) ?_
                refine el_pv (v := .bool x241) (pv_assign rfl) (by decide) ?_
                refine el_nil ?_
                refine hQ240 _ _ _ ?_
                refine thn_n ?_
                refine cw_seq ?_
                refine cw_gen ?_
                intro Q245 hQ245
                refine cw_reg ?_
                refine el_pv (v := .bool x241) (pv_move rfl) (by decide) ?_
                refine el_pv (v := .bool (!x241)) (pv_not rfl) (by decide) ?_
                refine el_nil ?_
                refine hQ245 _ _ _ ?_
                refine thn_n ?_
                replace hF := oif hF
                rcases hF with ⟨hb246, hF⟩ | ⟨hb246, hF⟩
                · refine cw_cond_f rfl (bnot_t hb246) ?_
                  refine cw_skip ?_
                  refine hQ239 _ _ _ ?_
                  refine inb_n ?_
                  refine hQ238 _ _ _ ?_
                  refine thn_n ?_
                  refine cw_reg ?_
                  replace hF := ob hF
                  obtain ⟨x247, hx247, hF⟩ := hF
                  refine el_pv (v := .int .i64 x247) (pv_add he231 rfl hx247) (by decide) ?_
                  refine el_pv (v := .int .i64 x247) (pv_move rfl) (by decide) ?_
                  refine el_nil ?_
                  refine hQ234 _ _ _ ?_
                  refine thn_n ?_
                  replace hS := hS.keep 1
                  exact ⟨x247, he229, he230, rfl, hS, hF⟩
                · refine cw_cond_t rfl (bnot_f hb246) ?_
                  refine cw_seq ?_
                  refine cw_gen ?_
                  intro Q248 hQ248
                  replace hS : Sat w0 w232 [] := hS.rems 1 [0] rfl
                  refine cw_reg ?_
                  refine el_pv (v := .bool false) (pv_assign rfl) (by decide) ?_
                  refine el_nil ?_
                  refine hQ248 _ _ _ ?_
                  refine thn_n ?_
                  refine cw_ret ?_
                  refine hQ239 _ _ _ ?_
                  refine inb_r ?_
                  refine hQ238 _ _ _ ?_
                  refine thn_r ?_
                  refine hQ234 _ _ _ ?_
                  refine thn_r ?_
                  refine hQ225 _ _ _ ?_
                  refine inb_r ?_
                  refine hQ223 _ _ _ ?_
                  refine thn_r ?_
                  replace hF := exL hF hK227
                  refine fin1 rfl rfl ?_
                  have hr := Option.some.inj hF
                  exact ⟨congrArg (fun (r : Bool) => Ending.returned (.bool r)) hr, hS.below⟩
              · refine cw_cond_f rfl hb237 ?_
                refine cw_exit ?_
                refine hQ236 _ _ _ ?_
                refine thn_x ?_
                refine hQ234 _ _ _ ?_
                refine thn_x ?_
                replace hF := exA hF hK227
                refine hQ225 _ _ _ ?_
                refine inb_s ?_
                refine hQ223 _ _ _ ?_
                refine thn_n ?_
                refine cw_seq ?_
                refine cw_gen ?_
                intro Q249 hQ249
                replace hS : Sat w0 w232 [] := hS.rems 1 [0] rfl
                refine cw_reg ?_
                refine el_pv (v := .bool true) (pv_assign rfl) (by decide) ?_
                refine el_nil ?_
                refine hQ249 _ _ _ ?_
                refine thn_n ?_
                refine cw_ret ?_
                refine fin1 rfl rfl ?_
                have hr := Option.some.inj hF
                exact ⟨congrArg (fun (r : Bool) => Ending.returned (.bool r)) hr, hS.below⟩
      · refine cw_cond_t rfl (bnot_f hb120) ?_
        refine cw_seq ?_
        refine cw_gen ?_
        intro Q250 hQ250
        replace hS : Sat w0 w118 [] := hS.rems 1 [0] rfl
        refine cw_reg ?_
        refine el_pv (v := .bool false) (pv_assign rfl) (by decide) ?_
        refine el_nil ?_
        refine hQ250 _ _ _ ?_
        refine thn_n ?_
        refine cw_ret ?_
        refine hQ107 _ _ _ ?_
        refine thn_r ?_
        refine fin1 rfl rfl ?_
        have hr := Option.some.inj hF
        exact ⟨congrArg (fun (r : Bool) => Ending.returned (.bool r)) hr, hS.below⟩
    · refine el_off rfl (bnot_f hb116) rfl (by decide) ?_
      refine el_off rfl (bnot_f hb116) rfl (by decide) ?_
      refine el_off rfl (bnot_f hb116) rfl (by decide) ?_
      refine el_off rfl (bnot_f hb116) rfl (by decide) ?_
      refine el_off rfl (bnot_f hb116) rfl (by decide) ?_
      refine el_pv (v := .bool true) (pv_pick_t rfl (bnot_f hb116) rfl) (by decide) ?_
      refine el_nil ?_
      refine hQ108 _ _ _ ?_
      refine thn_n ?_
      refine cw_cond_t rfl rfl ?_
      refine cw_seq ?_
      refine cw_gen ?_
      intro Q251 hQ251
      replace hS : Sat w0 w114 [] := hS.rems 1 [0] rfl
      refine cw_reg ?_
      refine el_pv (v := .bool false) (pv_assign rfl) (by decide) ?_
      refine el_nil ?_
      refine hQ251 _ _ _ ?_
      refine thn_n ?_
      refine cw_ret ?_
      refine hQ107 _ _ _ ?_
      refine thn_r ?_
      refine fin1 rfl rfl ?_
      have hr := Option.some.inj hF
      exact ⟨congrArg (fun (r : Bool) => Ending.returned (.bool r)) hr, hS.below⟩
  · refine el_off rfl (bnot_f hb112) rfl (by decide) ?_
    refine el_off rfl (bnot_f hb112) rfl (by decide) ?_
    refine el_off rfl (bnot_f hb112) rfl (by decide) ?_
    refine el_off rfl (bnot_f hb112) rfl (by decide) ?_
    refine el_off rfl (bnot_f hb112) rfl (by decide) ?_
    refine el_pv (v := .bool true) (pv_pick_t rfl (bnot_f hb112) rfl) (by decide) ?_
    refine el_pv (v := .bool true) (pv_move rfl) (by decide) ?_
    refine el_off rfl rfl rfl (by decide) ?_
    refine el_off rfl rfl rfl (by decide) ?_
    refine el_off rfl rfl rfl (by decide) ?_
    refine el_off rfl rfl rfl (by decide) ?_
    refine el_off rfl rfl rfl (by decide) ?_
    refine el_pv (v := .bool true) (pv_pick_t rfl rfl rfl) (by decide) ?_
    refine el_nil ?_
    refine hQ108 _ _ _ ?_
    refine thn_n ?_
    refine cw_cond_t rfl rfl ?_
    refine cw_seq ?_
    refine cw_gen ?_
    intro Q252 hQ252
    replace hS : Sat w0 w110 [] := hS.rems 1 [0] rfl
    refine cw_reg ?_
    refine el_pv (v := .bool false) (pv_assign rfl) (by decide) ?_
    refine el_nil ?_
    refine hQ252 _ _ _ ?_
    refine thn_n ?_
    refine cw_ret ?_
    refine hQ107 _ _ _ ?_
    refine thn_r ?_
    refine fin1 rfl rfl ?_
    have hr := Option.some.inj hF
    exact ⟨congrArg (fun (r : Bool) => Ending.returned (.bool r)) hr, hS.below⟩
set_option maxHeartbeats 4000000 in
theorem impl_SeekBound_ok {w0 : World} {a0 : Int} {u1 : Value} {a1 : List (ByteArray × List Int)} {u2 : Value} {a2 : List Int} {a3 : Int} (ha1 : (sliceR (pairR strR (sliceR intR 3)) 96).rd w0 [u1] a1) (ha2 : (sliceR intR 3).rd w0 [u2] a2) {N : Nat} {r : Int} (hF : impl_SeekBound N a0 a1 a2 a3 = some r) :
    Calls Try.prog 10 #[.agg #[.int .i64 a0, u1, u2], .int .i64 a3] w0 fun e w' => e = .returned (.int .i64 r) ∧ Ext w0 w' := by
  unfold impl_SeekBound at hF
  refine calls_E Try.func10 rfl rfl (of_decide_eq_true rfl) ?_
  have hS := Sat.start w0
  refine cw_seq ?_
  refine cw_gen ?_
  intro Q101 hQ101
  refine cw_reg ?_
  refine el_box [.int .i64 a0, u1, u2] rfl hS (by decide) ?_
  intro w102 b103 hS hx104
  refine el_pv (v := .int .i64 0) (pv_assign rfl) (by decide) ?_
  refine el_nil ?_
  refine hQ101 _ _ _ ?_
  refine thn_n ?_
  refine cw_seq ?_
  refine cw_gen ?_
  intro Q106 hQ106
  refine cw_seq ?_
  refine cw_gen ?_
  intro Q107 hQ107
  refine cw_reg ?_
  refine el_pv (v := .agg #[.int .i64 a0, u1, u2]) (pv_loada (cs := [.int .i64 a0, u1, u2]) rfl rfl (boxc0 (hS.boxAt 0 rfl))) (by decide) ?_
  replace hF := ob hF
  obtain ⟨r108, hr108, hF⟩ := hF
  refine el_call goes40 (impl_IsValidQuery_ok (hS.up ha1) (hS.up ha2) hr108) (congrArg List.toArray (mapc rfl rfl)) (by decide) ?_
  rintro _ w109 ⟨rfl, hx110⟩
  refine ⟨_, rfl, ?_⟩
  replace hS := hS.ext hx110
  refine el_pv (v := .bool (!r108)) (pv_not rfl) (by decide) ?_
  refine el_pv (v := .bool (!r108)) (pv_move rfl) (by decide) ?_
  replace hF := oif hF
  rcases hF with ⟨hb111, hF⟩ | ⟨hb111, hF⟩
  · refine el_on rfl (bnot_t hb111) ?_
    refine el_pv (v := .int .i64 a3) (pv_move rfl) (by decide) ?_
    refine el_on rfl (bnot_t hb111) ?_
    replace hF := ob hF
    obtain ⟨r112, hr112, hF⟩ := hF
    refine el_call goes41 (impl_within_ok hr112) (congrArg List.toArray (mapc rfl (mapc rfl (mapc rfl rfl)))) (by decide) ?_
    rintro _ w113 ⟨rfl, hx114⟩
    refine ⟨_, rfl, ?_⟩
    replace hS := hS.ext hx114
    refine el_on rfl (bnot_t hb111) ?_
    refine el_pv (v := .bool (!r112)) (pv_not rfl) (by decide) ?_
    refine el_pv (v := .bool (!r112)) (pv_pick_f rfl (bnot_t hb111) rfl) (by decide) ?_
    refine el_nil ?_
    refine hQ107 _ _ _ ?_
    refine thn_n ?_
    replace hF := oif hF
    rcases hF with ⟨hb115, hF⟩ | ⟨hb115, hF⟩
    · refine cw_cond_f rfl (bnot_t hb115) ?_
      refine cw_skip ?_
      refine hQ106 _ _ _ ?_
      refine thn_n ?_
      refine cw_seq ?_
      refine cw_gen ?_
      intro Q116 hQ116
      refine cw_reg ?_
      refine el_pv (v := .pointer (some ⟨b103, 0 + 0, none⟩)) (pv_fieldAddr rfl) (by decide) ?_
      refine el_pv (v := .int .i64 a0) (pv_loadc rfl ((hS.boxAt 0 rfl) 0 _ rfl)) (by decide) ?_
      replace hF := ob hF
      obtain ⟨x117, hx117, hF⟩ := hF
      refine el_pv (v := .int .i64 x117) (pv_mul rfl rfl hx117) (by decide) ?_
      refine el_pv (v := .pointer (some ⟨b103, 0 + 1, none⟩)) (pv_fieldAddr rfl) (by decide) ?_
      refine el_pv (v := u1) (pv_loadc rfl ((hS.boxAt 0 rfl) 1 _ rfl)) (by decide) ?_
      refine el_pv (v := .int .i64 (a1.length : Int)) (pv_len rfl ha1) (by decide) ?_
      replace hF := ob hF
      obtain ⟨x118, hx118, hF⟩ := hF
      refine el_pv (v := .int .i64 x118) (pv_mul rfl rfl hx118) (by decide) ?_
      refine el_pv (v := .int .i64 a3) (pv_move rfl) (by decide) ?_
      replace hF := ob hF
      obtain ⟨x119, hx119, hF⟩ := hF
      refine el_pv (v := .int .i64 x119) (pv_mul rfl rfl hx119) (by decide) ?_
      refine el_pv (v := .int .i64 x119) (pv_assign rfl) (by decide) ?_
      refine el_nil ?_
      refine hQ116 _ _ _ ?_
      refine thn_n ?_
      refine cw_ret ?_
      refine fin1 rfl rfl ?_
      have hr := Option.some.inj hF
      exact ⟨congrArg (fun (r : Int) => Ending.returned (.int .i64 r)) hr, hS.below⟩
    · refine cw_cond_t rfl (bnot_f hb115) ?_
      refine cw_seq ?_
      refine cw_gen ?_
      intro Q120 hQ120
      replace hS : Sat w0 w113 [] := hS.rems 1 [0] rfl
      refine cw_reg ?_
      refine el_pv (v := .int .i64 0) (pv_assign rfl) (by decide) ?_
      refine el_nil ?_
      refine hQ120 _ _ _ ?_
      refine thn_n ?_
      refine cw_ret ?_
      refine hQ106 _ _ _ ?_
      refine thn_r ?_
      refine fin1 rfl rfl ?_
      have hr := Option.some.inj hF
      exact ⟨congrArg (fun (r : Int) => Ending.returned (.int .i64 r)) hr, hS.below⟩
  · refine el_off rfl (bnot_f hb111) rfl (by decide) ?_
    refine el_off rfl (bnot_f hb111) rfl (by decide) ?_
    refine el_off rfl (bnot_f hb111) rfl (by decide) ?_
    refine el_pv (v := .bool true) (pv_pick_t rfl (bnot_f hb111) rfl) (by decide) ?_
    refine el_nil ?_
    refine hQ107 _ _ _ ?_
    refine thn_n ?_
    refine cw_cond_t rfl rfl ?_
    refine cw_seq ?_
    refine cw_gen ?_
    intro Q121 hQ121
    replace hS : Sat w0 w109 [] := hS.rems 1 [0] rfl
    refine cw_reg ?_
    refine el_pv (v := .int .i64 0) (pv_assign rfl) (by decide) ?_
    refine el_nil ?_
    refine hQ121 _ _ _ ?_
    refine thn_n ?_
    refine cw_ret ?_
    refine hQ106 _ _ _ ?_
    refine thn_r ?_
    refine fin1 rfl rfl ?_
    have hr := Option.some.inj hF
    exact ⟨congrArg (fun (r : Int) => Ending.returned (.int .i64 r)) hr, hS.below⟩
set_option maxHeartbeats 4000000 in
theorem laws_eqIntS_ok {w0 : World} {u0 : Value} {a0 : List Int} {u1 : Value} {a1 : List Int} (ha0 : (sliceR intR 3).rd w0 [u0] a0) (ha1 : (sliceR intR 3).rd w0 [u1] a1) {N : Nat} {r : Bool} (hF : laws_eqIntS N a0 a1 = some r) :
    Calls Try.prog 17 #[u0, u1] w0 fun e w' => e = .returned (.bool r) ∧ Ext w0 w' := by
  unfold laws_eqIntS at hF
  refine calls_E Try.func17 rfl rfl (of_decide_eq_true rfl) ?_
  have hS := Sat.start w0
  refine cw_seq ?_
  refine cw_gen ?_
  intro Q101 hQ101
  refine cw_reg ?_
  refine el_pv (v := .bool false) (pv_assign rfl) (by decide) ?_
  refine el_nil ?_
  refine hQ101 _ _ _ ?_
  refine thn_n ?_
  refine cw_seq ?_
  refine cw_gen ?_
  intro Q102 hQ102
  refine cw_seq ?_
  refine cw_gen ?_
  intro Q103 hQ103
  refine cw_reg ?_
  refine el_pv (v := u0) (pv_move rfl) (by decide) ?_
  refine el_pv (v := .int .i64 (a0.length : Int)) (pv_len rfl ha0) (by decide) ?_
  refine el_pv (v := u1) (pv_move rfl) (by decide) ?_
  refine el_pv (v := .int .i64 (a1.length : Int)) (pv_len rfl ha1) (by decide) ?_
  refine el_pv (v := .bool ((a0.length : Int) != (a1.length : Int))) (pv_neq rfl rfl) (by decide) ?_
  refine el_nil ?_
  refine hQ103 _ _ _ ?_
  refine thn_n ?_
  replace hF := oif hF
  rcases hF with ⟨hb104, hF⟩ | ⟨hb104, hF⟩
  · refine cw_cond_t rfl hb104 ?_
    refine cw_seq ?_
    refine cw_gen ?_
    intro Q105 hQ105
    refine cw_reg ?_
    refine el_pv (v := .bool false) (pv_assign rfl) (by decide) ?_
    refine el_nil ?_
    refine hQ105 _ _ _ ?_
    refine thn_n ?_
    refine cw_ret ?_
    refine hQ102 _ _ _ ?_
    refine thn_r ?_
    refine fin1 rfl rfl ?_
    have hr := Option.some.inj hF
    exact ⟨congrArg (fun (r : Bool) => Ending.returned (.bool r)) hr, hS.below⟩
  · refine cw_cond_f rfl hb104 ?_
    refine cw_skip ?_
    refine hQ102 _ _ _ ?_
    refine thn_n ?_
    refine cw_seq ?_
    refine cw_gen ?_
    intro Q106 hQ106
    refine cw_seq ?_
    refine cw_gen ?_
    intro Q107 hQ107
    refine cw_reg ?_
    refine el_pv (v := .int .i64 0) (pv_assign rfl) (by decide) ?_
    refine el_nil ?_
    refine hQ107 _ _ _ ?_
    refine thn_n ?_
    refine cw_block ?_
    refine cw_gen ?_
    intro Q108 hQ108
    obtain ⟨s109, hL, hK110⟩ := ob hF
    refine cw_loopS (fun k e w => ∃ (x111 : Int), e 0 = u0 ∧ e 1 = u1 ∧ e 5 = .int .i64 x111 ∧ Sat w0 w [] ∧ laws_eqIntS_L1 N k a0 a1 x111 = some s109) N ?_ ?_ ?_
    · exact ⟨0, rfl, rfl, rfl, hS, hL⟩
    · rintro e w ⟨_, _, _, _, _, hz⟩; exact nomatch (show none = some _ from hz)
    · rintro k e116 w115 ⟨x111, he112, he113, he114, hS, hF⟩
      refine cw_gen ?_
      intro Q117 hQ117
      refine cw_seq ?_
      refine cw_gen ?_
      intro Q118 hQ118
      refine cw_seq ?_
      refine cw_gen ?_
      intro Q119 hQ119
      refine cw_reg ?_
      refine el_pv (v := .int .i64 x111) (pv_move he114) (by decide) ?_
      refine el_pv (v := u0) (pv_move he112) (by decide) ?_
      refine el_pv (v := .int .i64 (a0.length : Int)) (pv_len rfl ha0) (by decide) ?_
      refine el_pv (v := .bool (decide (x111 < (a0.length : Int)))) (pv_lss rfl rfl) (by decide) ?_
      refine el_nil ?_
      refine hQ119 _ _ _ ?_
      refine thn_n ?_
      replace hF := oif hF
      rcases hF with ⟨hb120, hF⟩ | ⟨hb120, hF⟩
      · refine cw_cond_t rfl hb120 ?_
        refine cw_skip ?_
        refine hQ118 _ _ _ ?_
        refine thn_n ?_
        refine cw_seq ?_
        refine cw_gen ?_
        intro Q121 hQ121
        refine cw_block ?_
        refine cw_gen ?_
        intro Q122 hQ122
        refine cw_seq ?_
        refine cw_gen ?_
        intro Q123 hQ123
        refine cw_regq (by kernel_rfl) (by kernel_rfl) ?_
        refine ql_pv (v := u0) (pv_move he112) (by decide) ?_
        refine ql_pv (v := .int .i64 x111) (pv_move he114) (by decide) ?_
        replace hF := ob hF
        obtain ⟨x124, hx124, hF⟩ := hF
        refine ql_index (wA := w0) rfl ha0 rfl (by decide) rfl hx124 (by decide) ?_
        intro b125 of126 c127 hr128 hm129
        obtain rfl := hr128
        refine ql_pv (v := .int .i64 x124) (pv_loadc rfl ((cells_up hS.below hm129) 0 _ rfl)) (by decide) ?_
        refine ql_pv (v := u1) (pv_move he113) (by decide) ?_
        refine ql_pv (v := .int .i64 x111) (pv_move he114) (by decide) ?_
        replace hF := ob hF
        obtain ⟨x130, hx130, hF⟩ := hF
        refine ql_index (wA := w0) rfl ha1 rfl (by decide) rfl hx130 (by decide) ?_
        intro b131 of132 c133 hr134 hm135
        obtain rfl := hr134
        refine ql_pv (v := .int .i64 x130) (pv_loadc rfl ((cells_up hS.below hm135) 0 _ rfl)) (by decide) ?_
        refine ql_pv (v := .bool (x124 != x130)) (pv_neq rfl rfl) (by decide) ?_
        refine ql_nil ?_
        intro w136 hx137
        replace hS := hS.ext hx137
        refine hQ123 _ _ _ ?_
        refine thn_n ?_
        replace hF := oif hF
        rcases hF with ⟨hb138, hF⟩ | ⟨hb138, hF⟩
        · refine cw_cond_t rfl hb138 ?_
          refine cw_seq ?_
          refine cw_gen ?_
          intro Q139 hQ139
          refine cw_reg ?_
          refine el_pv (v := .bool false) (pv_assign rfl) (by decide) ?_
          refine el_nil ?_
          refine hQ139 _ _ _ ?_
          refine thn_n ?_
          refine cw_ret ?_
          refine hQ122 _ _ _ ?_
          refine inb_r ?_
          refine hQ121 _ _ _ ?_
          refine thn_r ?_
          refine hQ117 _ _ _ ?_
          refine thn_r ?_
          refine hQ108 _ _ _ ?_
          refine inb_r ?_
          refine hQ106 _ _ _ ?_
          refine thn_r ?_
          replace hF := exL hF hK110
          refine fin1 rfl rfl ?_
          have hr := Option.some.inj hF
          exact ⟨congrArg (fun (r : Bool) => Ending.returned (.bool r)) hr, hS.below⟩
        · refine cw_cond_f rfl hb138 ?_
          refine cw_skip ?_
          refine hQ122 _ _ _ ?_
          refine inb_n ?_
          refine hQ121 _ _ _ ?_
          refine thn_n ?_
          refine cw_reg ?_
          refine el_pv (v := .int .i64 x111) (pv_move he114) (by decide) ?_
          replace hF := ob hF
          obtain ⟨x140, hx140, hF⟩ := hF
          refine el_pv (v := .int .i64 x140) (pv_add rfl rfl hx140) (by decide) ?_
          refine el_pv (v := .int .i64 x140) (pv_assign rfl) (by decide) ?_
          refine el_nil ?_
          refine hQ117 _ _ _ ?_
          refine thn_n ?_
          replace hS := hS.keep 0
          exact ⟨x140, he112, he113, rfl, hS, hF⟩
      · refine cw_cond_f rfl hb120 ?_
        refine cw_exit ?_
        refine hQ118 _ _ _ ?_
        refine thn_x ?_
        refine hQ117 _ _ _ ?_
        refine thn_x ?_
        replace hF := exA hF hK110
        refine hQ108 _ _ _ ?_
        refine inb_s ?_
        refine hQ106 _ _ _ ?_
        refine thn_n ?_
        refine cw_seq ?_
        refine cw_gen ?_
        intro Q141 hQ141
        refine cw_reg ?_
        refine el_pv (v := .bool true) (pv_assign rfl) (by decide) ?_
        refine el_nil ?_
        refine hQ141 _ _ _ ?_
        refine thn_n ?_
        refine cw_ret ?_
        refine fin1 rfl rfl ?_
        have hr := Option.some.inj hF
        exact ⟨congrArg (fun (r : Bool) => Ending.returned (.bool r)) hr, hS.below⟩
set_option maxHeartbeats 4000000 in
theorem laws_eqAtom_ok {w0 : World} {a0 : ByteArray} {u1 : Value} {a1 : List Int} {a2 : ByteArray} {u3 : Value} {a3 : List Int} (_ : a0.size ≤ 9223372036854775807) (ha1 : (sliceR intR 3).rd w0 [u1] a1) (_ : a2.size ≤ 9223372036854775807) (ha3 : (sliceR intR 3).rd w0 [u3] a3) {N : Nat} {r : Bool} (hF : laws_eqAtom N a0 a1 a2 a3 = some r) :
    Calls Try.prog 83 #[.agg #[.string a0, u1], .agg #[.string a2, u3]] w0 fun e w' => e = .returned (.bool r) ∧ Ext w0 w' := by
  unfold laws_eqAtom at hF
  refine calls_E Try.func83 rfl rfl (of_decide_eq_true rfl) ?_
  have hS := Sat.start w0
  refine cw_seq ?_
  refine cw_gen ?_
  intro Q101 hQ101
  refine cw_reg ?_
  refine el_box [.string a0, u1] rfl hS (by decide) ?_
  intro w102 b103 hS hx104
  refine el_box [.string a2, u3] rfl hS (by decide) ?_
  intro w106 b107 hS hx108
  refine el_pv (v := .bool false) (pv_assign rfl) (by decide) ?_
  refine el_nil ?_
  refine hQ101 _ _ _ ?_
  refine thn_n ?_
  refine cw_seq ?_
  refine cw_gen ?_
  intro Q110 hQ110
  refine cw_seq ?_
  refine cw_gen ?_
  intro Q111 hQ111
  refine cw_reg ?_
  refine el_pv (v := .pointer (some ⟨b103, 0 + 0, none⟩)) (pv_fieldAddr rfl) (by decide) ?_
  refine el_pv (v := .string a0) (pv_loadc rfl ((hS.boxAt 1 rfl) 0 _ rfl)) (by decide) ?_
  refine el_pv (v := .pointer (some ⟨b107, 0 + 0, none⟩)) (pv_fieldAddr rfl) (by decide) ?_
  refine el_pv (v := .string a2) (pv_loadc rfl ((hS.boxAt 0 rfl) 0 _ rfl)) (by decide) ?_
  refine el_pv (v := .bool (!(eqS a0 a2))) (pv_neqS rfl rfl) (by decide) ?_
  refine el_nil ?_
  refine hQ111 _ _ _ ?_
  refine thn_n ?_
  replace hF := oif hF
  rcases hF with ⟨hb112, hF⟩ | ⟨hb112, hF⟩
  · refine cw_cond_f rfl (bnot_t hb112) ?_
    refine cw_skip ?_
    refine hQ110 _ _ _ ?_
    refine thn_n ?_
    refine cw_seq ?_
    refine cw_gen ?_
    intro Q113 hQ113
    refine cw_seq ?_
    refine cw_gen ?_
    intro Q114 hQ114
    refine cw_reg ?_
    refine el_pv (v := .pointer (some ⟨b103, 0 + 1, none⟩)) (pv_fieldAddr rfl) (by decide) ?_
    refine el_pv (v := u1) (pv_loadc rfl ((hS.boxAt 1 rfl) 1 _ rfl)) (by decide) ?_
    refine el_pv (v := .pointer (some ⟨b107, 0 + 1, none⟩)) (pv_fieldAddr rfl) (by decide) ?_
    refine el_pv (v := u3) (pv_loadc rfl ((hS.boxAt 0 rfl) 1 _ rfl)) (by decide) ?_
    replace hF := ob hF
    obtain ⟨r115, hr115, hF⟩ := hF
    refine el_call goes17 (laws_eqIntS_ok (hS.up ha1) (hS.up ha3) hr115) (congrArg List.toArray (mapc rfl (mapc rfl rfl))) (by decide) ?_
    rintro _ w116 ⟨rfl, hx117⟩
    refine ⟨_, rfl, ?_⟩
    replace hS := hS.ext hx117
    refine el_pv (v := .bool (!r115)) (pv_not rfl) (by decide) ?_
    refine el_nil ?_
    refine hQ114 _ _ _ ?_
    refine thn_n ?_
    replace hF := oif hF
    rcases hF with ⟨hb118, hF⟩ | ⟨hb118, hF⟩
    · refine cw_cond_f rfl (bnot_t hb118) ?_
      refine cw_skip ?_
      refine hQ113 _ _ _ ?_
      refine thn_n ?_
      refine cw_seq ?_
      refine cw_gen ?_
      intro Q119 hQ119
      replace hS : Sat w0 w116 [] := hS.rems 2 [0, 1] rfl
      refine cw_reg ?_
      refine el_pv (v := .bool true) (pv_assign rfl) (by decide) ?_
      refine el_nil ?_
      refine hQ119 _ _ _ ?_
      refine thn_n ?_
      refine cw_ret ?_
      refine fin1 rfl rfl ?_
      have hr := Option.some.inj hF
      exact ⟨congrArg (fun (r : Bool) => Ending.returned (.bool r)) hr, hS.below⟩
    · refine cw_cond_t rfl (bnot_f hb118) ?_
      refine cw_seq ?_
      refine cw_gen ?_
      intro Q120 hQ120
      replace hS : Sat w0 w116 [] := hS.rems 2 [0, 1] rfl
      refine cw_reg ?_
      refine el_pv (v := .bool false) (pv_assign rfl) (by decide) ?_
      refine el_nil ?_
      refine hQ120 _ _ _ ?_
      refine thn_n ?_
      refine cw_ret ?_
      refine hQ113 _ _ _ ?_
      refine thn_r ?_
      refine fin1 rfl rfl ?_
      have hr := Option.some.inj hF
      exact ⟨congrArg (fun (r : Bool) => Ending.returned (.bool r)) hr, hS.below⟩
  · refine cw_cond_t rfl (bnot_f hb112) ?_
    refine cw_seq ?_
    refine cw_gen ?_
    intro Q121 hQ121
    replace hS : Sat w0 w106 [] := hS.rems 2 [0, 1] rfl
    refine cw_reg ?_
    refine el_pv (v := .bool false) (pv_assign rfl) (by decide) ?_
    refine el_nil ?_
    refine hQ121 _ _ _ ?_
    refine thn_n ?_
    refine cw_ret ?_
    refine hQ110 _ _ _ ?_
    refine thn_r ?_
    refine fin1 rfl rfl ?_
    have hr := Option.some.inj hF
    exact ⟨congrArg (fun (r : Bool) => Ending.returned (.bool r)) hr, hS.below⟩
end Go.Proofs.Ytkpeabpdiffjhaa
