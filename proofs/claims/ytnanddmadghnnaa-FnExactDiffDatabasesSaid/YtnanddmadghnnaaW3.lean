/- The walks through functions of the program: each hands back what it comes to. No condition but that it comes to something. -/
import Derived.Test.YtnanddmadghnnaaW2
import Derived.Test.YtnanddmadghnnaaW3D
namespace Go.Proofs.Ytnanddmadghnnaa
open Go.RowKit
set_option maxRecDepth 100000
set_option maxHeartbeats 4000000 in
theorem laws_toRelation_ok {w0 : World} {a0 : Int} {u1 : Value} {a1 : List (List Int)} (ha1 : (sliceR (sliceR intR 3) 24).rd w0 [u1] a1) {N : Nat} {r : Int × List (List Int)} (hF : laws_toRelation N a0 a1 = some r) :
    Calls Try.prog 40 #[.agg #[.int .i64 a0, u1]] w0 fun e w' => ∃ (q0 : Value), e = .returned (.agg #[.int .i64 r.1, q0]) ∧ Sat w0 w' [Own (sliceR (sliceR intR 3) 24) [q0] r.2] := by
  unfold laws_toRelation at hF
  refine calls_E Try.func40 rfl rfl (of_decide_eq_true rfl) ?_
  have hS := Sat.start w0
  refine cw_seq ?_
  refine cw_gen ?_
  intro Q101 hQ101
  refine cw_reg ?_
  refine el_box [.int .i64 a0, u1] rfl hS (by decide) ?_
  intro w102 b103 hS hx104
  refine el_alloc hS (by decide) ?_
  intro w106 b107 hS hx108
  refine el_nil ?_
  refine hQ101 _ _ _ ?_
  refine thn_n ?_
  refine cw_seq ?_
  refine cw_gen ?_
  intro Q110 hQ110
  refine cw_reg ?_
  refine el_alloc hS (by decide) ?_
  intro w111 b112 hS hx113
  refine el_nil ?_
  refine hQ110 _ _ _ ?_
  refine thn_n ?_
  refine cw_seq ?_
  refine cw_gen ?_
  intro Q115 hQ115
  refine cw_reg ?_
  refine el_pv (v := .pointer (some ⟨b103, 0 + 0, none⟩)) (pv_fieldAddr rfl) (by decide) ?_
  refine el_pv (v := .int .i64 a0) (pv_loadc rfl ((hS.boxAt 2 rfl) 0 _ rfl)) (by decide) ?_
  refine el_pv (v := .pointer (some ⟨b112, 0 + 0, none⟩)) (pv_fieldAddr rfl) (by decide) ?_
  refine el_storev (hS.top 0 rfl) rfl [.int .i64 a0] rfl rfl (of_decide_eq_true rfl) (all_cons rfl rfl) ?_
  intro w116 hS
  replace hS : Sat w0 w116 [Box b112 46 [.int .i64 a0, (.slice none 0 0)], Box b107 46 [.int .i64 0, (.slice none 0 0)], Box b103 36 [.int .i64 a0, u1]] := hS
  refine el_nil ?_
  refine hQ115 _ _ _ ?_
  refine thn_n ?_
  refine cw_seq ?_
  refine cw_gen ?_
  intro Q117 hQ117
  refine cw_reg ?_
  refine el_pv (v := .pointer (some ⟨b103, 0 + 1, none⟩)) (pv_fieldAddr rfl) (by decide) ?_
  refine el_pv (v := u1) (pv_loadc rfl ((hS.boxAt 2 rfl) 1 _ rfl)) (by decide) ?_
  replace hF := ob hF
  obtain ⟨r118, hr118, hF⟩ := hF
  refine el_call goes8 (laws_toIntSS_ok (hS.up ha1) hr118) (congrArg List.toArray (mapc rfl rfl)) (by decide) ?_
  rintro _ w121 ⟨v119, rfl, hS'⟩
  refine ⟨_, rfl, ?_⟩
  have hx122 := hS'.below
  replace hS := hS.call1 hS'
  refine el_pv (v := .pointer (some ⟨b112, 0 + 1, none⟩)) (pv_fieldAddr rfl) (by decide) ?_
  refine el_storev (hS.top 1 rfl) rfl [v119] (cells_of rfl (oc (hS.rdAt (R := (sliceR (sliceR intR 3) 24)) 0 rfl))) rfl (of_decide_eq_true rfl) (all_cons (oc (hS.rdAt (R := (sliceR (sliceR intR 3) 24)) 0 rfl)) rfl) ?_
  intro w123 hS
  replace hS : Sat w0 w123 [Box b112 46 [.int .i64 a0, v119], Own (sliceR (sliceR intR 3) 24) [v119] r118, Box b107 46 [.int .i64 0, (.slice none 0 0)], Box b103 36 [.int .i64 a0, u1]] := hS
  refine el_nil ?_
  refine hQ117 _ _ _ ?_
  refine thn_n ?_
  refine cw_seq ?_
  refine cw_gen ?_
  intro Q124 hQ124
  replace hS : Sat w0 w123 [Box b112 46 [.int .i64 a0, v119], Own (sliceR (sliceR intR 3) 24) [v119] r118, Box b107 46 [.int .i64 0, (.slice none 0 0)]] := hS.rems 4 [3] rfl
  refine cw_reg ?_
  refine el_pv (v := .agg #[.int .i64 a0, v119]) (pv_loada (cs := [.int .i64 a0, v119]) rfl rfl (boxc0 (hS.boxAt 0 rfl))) (by decide) ?_
  refine el_storev (hS.top 2 rfl) rfl [.int .i64 a0, v119] rfl rfl (of_decide_eq_true rfl) (all_cons rfl (all_cons (oc (hS.rdAt (R := (sliceR (sliceR intR 3) 24)) 1 rfl)) rfl)) ?_
  intro w125 hS
  replace hS : Sat w0 w125 [Box b107 46 [.int .i64 a0, v119], Box b112 46 [.int .i64 a0, v119], Own (sliceR (sliceR intR 3) 24) [v119] r118] := hS
  refine el_nil ?_
  refine hQ124 _ _ _ ?_
  refine thn_n ?_
  refine cw_ret ?_
  refine finC (cs := [.int .i64 a0, v119]) rfl rfl rfl (boxc0 (hS.boxAt 0 rfl))  ?_
  replace hS : Sat w0 w125 [Own (sliceR (sliceR intR 3) 24) [v119] r118, Box b107 46 [.int .i64 a0, v119], Box b112 46 [.int .i64 a0, v119]] := hS.tops 3 [2] rfl
  have hr := Option.some.inj hF
  exact ⟨v119, congrArg (fun (r : Int × List (List Int)) => Ending.returned (.agg #[.int .i64 r.1, v119])) hr, Eq.mp (congrArg (fun (r : Int × List (List Int)) => Sat w0 w125 [Own (sliceR (sliceR intR 3) 24) [v119] r.2]) hr) (hS.keep 1)⟩
set_option maxHeartbeats 4000000 in
theorem laws_toTable_ok {w0 : World} {a0 : ByteArray} {a1 : Int} {u2 : Value} {a2 : List (List Int)} (ha0 : a0.size ≤ 9223372036854775807) (ha2 : (sliceR (sliceR intR 3) 24).rd w0 [u2] a2) {N : Nat} {r : ByteArray × (Int × List (List Int))} (hF : laws_toTable N a0 a1 a2 = some r) :
    Calls Try.prog 59 #[.agg #[.string a0, .int .i64 a1, u2]] w0 fun e w' => ∃ (q0 : Value), e = .returned (.agg #[.string r.1, .int .i64 r.2.1, q0]) ∧ Sat w0 w' [Own (sliceR (sliceR intR 3) 24) [q0] r.2.2] ∧ r.1.size ≤ 9223372036854775807 := by
  unfold laws_toTable at hF
  refine calls_E Try.func59 rfl rfl (of_decide_eq_true rfl) ?_
  have hS := Sat.start w0
  refine cw_seq ?_
  refine cw_gen ?_
  intro Q101 hQ101
  refine cw_reg ?_
  refine el_box [.string a0, .int .i64 a1, u2] rfl hS (by decide) ?_
  intro w102 b103 hS hx104
  refine el_alloc hS (by decide) ?_
  intro w106 b107 hS hx108
  refine el_nil ?_
  refine hQ101 _ _ _ ?_
  refine thn_n ?_
  refine cw_seq ?_
  refine cw_gen ?_
  intro Q110 hQ110
  refine cw_reg ?_
  refine el_alloc hS (by decide) ?_
  intro w111 b112 hS hx113
  refine el_nil ?_
  refine hQ110 _ _ _ ?_
  refine thn_n ?_
  refine cw_seq ?_
  refine cw_gen ?_
  intro Q115 hQ115
  refine cw_reg ?_
  refine el_pv (v := .pointer (some ⟨b103, 0 + 0, none⟩)) (pv_fieldAddr rfl) (by decide) ?_
  refine el_pv (v := .string a0) (pv_loadc rfl ((hS.boxAt 2 rfl) 0 _ rfl)) (by decide) ?_
  refine el_pv (v := .pointer (some ⟨b112, 0 + 0, none⟩)) (pv_fieldAddr rfl) (by decide) ?_
  refine el_storev (hS.top 0 rfl) rfl [.string a0] rfl rfl (of_decide_eq_true rfl) (all_cons rfl rfl) ?_
  intro w116 hS
  replace hS : Sat w0 w116 [Box b112 80 [.string a0, .int .i64 0, (.slice none 0 0)], Box b107 80 [.string ByteArray.empty, .int .i64 0, (.slice none 0 0)], Box b103 76 [.string a0, .int .i64 a1, u2]] := hS
  refine el_nil ?_
  refine hQ115 _ _ _ ?_
  refine thn_n ?_
  refine cw_seq ?_
  refine cw_gen ?_
  intro Q117 hQ117
  refine cw_reg ?_
  refine el_pv (v := .pointer (some ⟨b103, 0 + 1, none⟩)) (pv_fieldAddr rfl) (by decide) ?_
  refine el_pv (v := .agg #[.int .i64 a1, u2]) (pv_loada (cs := [.int .i64 a1, u2]) rfl rfl (boxc (hS.boxAt 2 rfl) 1 2)) (by decide) ?_
  replace hF := ob hF
  obtain ⟨r118, hr118, hF⟩ := hF
  refine el_call goes40 (laws_toRelation_ok (hS.up ha2) hr118) (congrArg List.toArray (mapc rfl rfl)) (by decide) ?_
  rintro _ w121 ⟨v119, rfl, hS'⟩
  refine ⟨_, rfl, ?_⟩
  have hx122 := hS'.below
  replace hS := hS.call1 hS'
  refine el_pv (v := .pointer (some ⟨b112, 0 + 1, none⟩)) (pv_fieldAddr rfl) (by decide) ?_
  refine el_storev (hS.top 1 rfl) rfl [.int .i64 r118.1, v119] rfl rfl (of_decide_eq_true rfl) (all_cons rfl (all_cons (oc (hS.rdAt (R := (sliceR (sliceR intR 3) 24)) 0 rfl)) rfl)) ?_
  intro w123 hS
  replace hS : Sat w0 w123 [Box b112 80 [.string a0, .int .i64 r118.1, v119], Own (sliceR (sliceR intR 3) 24) [v119] r118.2, Box b107 80 [.string ByteArray.empty, .int .i64 0, (.slice none 0 0)], Box b103 76 [.string a0, .int .i64 a1, u2]] := hS
  refine el_nil ?_
  refine hQ117 _ _ _ ?_
  refine thn_n ?_
  refine cw_seq ?_
  refine cw_gen ?_
  intro Q124 hQ124
  replace hS : Sat w0 w123 [Box b112 80 [.string a0, .int .i64 r118.1, v119], Own (sliceR (sliceR intR 3) 24) [v119] r118.2, Box b107 80 [.string ByteArray.empty, .int .i64 0, (.slice none 0 0)]] := hS.rems 4 [3] rfl
  refine cw_reg ?_
  refine el_pv (v := .agg #[.string a0, .int .i64 r118.1, v119]) (pv_loada (cs := [.string a0, .int .i64 r118.1, v119]) rfl rfl (boxc0 (hS.boxAt 0 rfl))) (by decide) ?_
  refine el_storev (hS.top 2 rfl) rfl [.string a0, .int .i64 r118.1, v119] rfl rfl (of_decide_eq_true rfl) (all_cons rfl (all_cons rfl (all_cons (oc (hS.rdAt (R := (sliceR (sliceR intR 3) 24)) 1 rfl)) rfl))) ?_
  intro w125 hS
  replace hS : Sat w0 w125 [Box b107 80 [.string a0, .int .i64 r118.1, v119], Box b112 80 [.string a0, .int .i64 r118.1, v119], Own (sliceR (sliceR intR 3) 24) [v119] r118.2] := hS
  refine el_nil ?_
  refine hQ124 _ _ _ ?_
  refine thn_n ?_
  refine cw_ret ?_
  refine finC (cs := [.string a0, .int .i64 r118.1, v119]) rfl rfl rfl (boxc0 (hS.boxAt 0 rfl))  ?_
  replace hS : Sat w0 w125 [Own (sliceR (sliceR intR 3) 24) [v119] r118.2, Box b107 80 [.string a0, .int .i64 r118.1, v119], Box b112 80 [.string a0, .int .i64 r118.1, v119]] := hS.tops 3 [2] rfl
  have hr := Option.some.inj hF
  exact ⟨v119, congrArg (fun (r : ByteArray × (Int × List (List Int))) => Ending.returned (.agg #[.string r.1, .int .i64 r.2.1, v119])) hr, Eq.mp (congrArg (fun (r : ByteArray × (Int × List (List Int))) => Sat w0 w125 [Own (sliceR (sliceR intR 3) 24) [v119] r.2.2]) hr) (hS.keep 1), Eq.mp (congrArg (fun (r : ByteArray × (Int × List (List Int))) => r.1.size ≤ 9223372036854775807) hr) ha0⟩
set_option maxHeartbeats 4000000 in
theorem laws_toTableS_ok {w0 : World} {u0 : Value} {a0 : List (ByteArray × (Int × List (List Int)))} (ha0 : (sliceR (pairR strR (pairR intR (sliceR (sliceR intR 3) 24))) 76).rd w0 [u0] a0) {N : Nat} {r : (List (ByteArray × (Int × List (List Int))))} (hF : laws_toTableS N a0 = some r) :
    Calls Try.prog 39 #[u0] w0 fun e w' => ∃ (q0 : Value), e = .returned (q0) ∧ Sat w0 w' [Own (sliceR (pairR strR (pairR intR (sliceR (sliceR intR 3) 24))) 80) [q0] r] := by
  unfold laws_toTableS at hF
  refine calls_E Try.func39 rfl rfl (of_decide_eq_true rfl) ?_
  have hS := Sat.start w0
  refine cw_seq ?_
  refine cw_gen ?_
  intro Q101 hQ101
  refine cw_reg ?_
  refine el_pv (v := (.slice none 0 0)) (pv_assign rfl) (by decide) ?_
  refine el_nil ?_
  refine hQ101 _ _ _ ?_
  refine thn_n ?_
  refine cw_seq ?_
  refine cw_gen ?_
  intro Q102 hQ102
  refine cw_reg ?_
  refine el_pv (v := u0) (pv_move rfl) (by decide) ?_
  refine el_pv (v := .int .i64 (a0.length : Int)) (pv_len rfl ha0) (by decide) ?_
  replace hF := ob hF
  obtain ⟨x106, hx106, hF⟩ := hF
  refine el_make (R := (pairR strR (pairR intR (sliceR (sliceR intR 3) 24)))) (x0 := (ByteArray.empty, (0, []))) rfl (by decide) rfl (fun _ => ⟨_, _, [], [], rfl, rfl, ⟨⟨rfl, by decide⟩, rfl⟩, ⟨_, _, [], [], rfl, rfl, ⟨rfl, rfl⟩, .inl ⟨rfl, rfl, rfl⟩⟩⟩) rfl rfl hx106 hS (by decide) ?_
  intro w103 g104 k105 hS hx107 hlx106
  refine el_pv (v := (.slice (some ⟨g104, 0, none⟩) k105 k105)) (pv_assign rfl) (by decide) ?_
  refine el_nil ?_
  refine hQ102 _ _ _ ?_
  refine thn_n ?_
  refine cw_seq ?_
  refine cw_gen ?_
  intro Q109 hQ109
  refine cw_seq ?_
  refine cw_gen ?_
  intro Q110 hQ110
  refine cw_reg ?_
  refine el_pv (v := .int .i64 0) (pv_assign rfl) (by decide) ?_
  refine el_nil ?_
  refine hQ110 _ _ _ ?_
  refine thn_n ?_
  refine cw_block ?_
  refine cw_gen ?_
  intro Q111 hQ111
  obtain ⟨s112, hL, hK113⟩ := ob hF
  refine cw_loopS (fun k e w => ∃ (v115 : Value), ∃ (x114 : List (ByteArray × (Int × List (List Int)))), ∃ (x116 : Int), e 0 = u0 ∧ e 3 = v115 ∧ e 4 = .int .i64 x116 ∧ Sat w0 w [Own (sliceR (pairR strR (pairR intR (sliceR (sliceR intR 3) 24))) 80) [v115] x114] ∧ laws_toTableS_L1 N k a0 x114 x116 = some s112) N ?_ ?_ ?_
  · exact ⟨(.slice (some ⟨g104, 0, none⟩) k105 k105), x106, 0, rfl, rfl, rfl, hS, hL⟩
  · rintro e w ⟨_, _, _, _, _, _, _, hz⟩; exact nomatch (show none = some _ from hz)
  · rintro k e121 w120 ⟨v115, x114, x116, he117, he118, he119, hS, hF⟩
    refine cw_gen ?_
    intro Q122 hQ122
    refine cw_seq ?_
    refine cw_gen ?_
    intro Q123 hQ123
    refine cw_seq ?_
    refine cw_gen ?_
    intro Q124 hQ124
    refine cw_reg ?_
    refine el_pv (v := .int .i64 x116) (pv_move he119) (by decide) ?_
    refine el_pv (v := u0) (pv_move he117) (by decide) ?_
    refine el_pv (v := .int .i64 (a0.length : Int)) (pv_len rfl ha0) (by decide) ?_
    refine el_pv (v := .bool (decide (x116 < (a0.length : Int)))) (pv_lss rfl rfl) (by decide) ?_
    refine el_nil ?_
    refine hQ124 _ _ _ ?_
    refine thn_n ?_
    replace hF := oif hF
    rcases hF with ⟨hb125, hF⟩ | ⟨hb125, hF⟩
    · refine cw_cond_t rfl hb125 ?_
      refine cw_skip ?_
      refine hQ123 _ _ _ ?_
      refine thn_n ?_
      refine cw_seq ?_
      refine cw_gen ?_
      intro Q126 hQ126
      refine cw_block ?_
      refine cw_gen ?_
      intro Q127 hQ127
      refine cw_reg ?_
      refine el_pv (v := v115) (pv_move he118) (by decide) ?_
      refine el_pv (v := .int .i64 x116) (pv_move he119) (by decide) ?_
      refine el_pv (v := u0) (pv_move he117) (by decide) ?_
      refine el_pv (v := .int .i64 x116) (pv_move he119) (by decide) ?_
      replace hF := ob hF
      obtain ⟨x128, hx128, hF⟩ := hF
      refine el_index (wA := w0) rfl ha0 rfl (by decide) rfl hx128 (by decide) ?_
      intro b129 of130 c131 hr132 hm133
      obtain ⟨_, _, rfl, hr134, hr135⟩ := hr132
      obtain ⟨rfl, hz136⟩ := hr134
      obtain ⟨_, _, rfl, hr137, hr138⟩ := hr135
      obtain rfl := hr137
      obtain ⟨v139, rfl⟩ := slice_one hr138
      refine el_pv (v := .agg #[.string x128.1, .int .i64 x128.2.1, v139]) (pv_loada (cs := [.string x128.1, .int .i64 x128.2.1, v139]) rfl rfl (cells_up hS.below hm133)) (by decide) ?_
      replace hF := ob hF
      obtain ⟨r140, hr140, hF⟩ := hF
      refine el_call goes59 (laws_toTable_ok hz136 (hS.up hr138) hr140) (congrArg List.toArray (mapc rfl rfl)) (by decide) ?_
      rintro _ w144 ⟨v141, rfl, hS', hz142⟩
      refine ⟨_, rfl, ?_⟩
      have hx145 := hS'.below
      replace hS := hS.call1 hS'
      replace hF := ob hF
      obtain ⟨x146, hx146, hF⟩ := hF
      replace hS : Sat w0 w144 [Own (sliceR (pairR strR (pairR intR (sliceR (sliceR intR 3) 24))) 80) [v115] x114, Own (sliceR (sliceR intR 3) 24) [v141] r140.2.2] := hS.top 1 rfl
      refine el_indexO hS rfl rfl (by decide) rfl hx146 (by decide) ?_
      intro b147 of148 c149 hv152 hr150 hm151
      obtain ⟨_, _, rfl, hr153, hr154⟩ := hr150
      obtain ⟨rfl, hz155⟩ := hr153
      obtain ⟨_, _, rfl, hr156, hr157⟩ := hr154
      obtain rfl := hr156
      obtain ⟨v158, rfl⟩ := slice_one hr157
      replace hF := ob hF
      obtain ⟨x160, hx160, hF⟩ := hF
      replace hS : Sat w0 w144 [Own (sliceR (sliceR intR 3) 24) [v141] r140.2.2, Own (sliceR (pairR strR (pairR intR (sliceR (sliceR intR 3) 24))) 80) [v115] x114] := hS.top 1 rfl
      replace hS := hS.int r140.2.1
      replace hS := hS.pair
      replace hS := hS.str r140.1 hz142
      replace hS := hS.pair
      refine el_storeO rfl hv152 hS hx160 rfl rfl ?_
      intro w159 hS
      refine el_nil ?_
      refine hQ127 _ _ _ ?_
      refine inb_n ?_
      refine hQ126 _ _ _ ?_
      refine thn_n ?_
      refine cw_reg ?_
      refine el_pv (v := .int .i64 x116) (pv_move he119) (by decide) ?_
      replace hF := ob hF
      obtain ⟨x161, hx161, hF⟩ := hF
      refine el_pv (v := .int .i64 x161) (pv_add rfl rfl hx161) (by decide) ?_
      refine el_pv (v := .int .i64 x161) (pv_assign rfl) (by decide) ?_
      refine el_nil ?_
      refine hQ122 _ _ _ ?_
      refine thn_n ?_
      replace hS := hS.keep 1
      exact ⟨v115, x160, x161, he117, he118, rfl, hS, hF⟩
    · refine cw_cond_f rfl hb125 ?_
      refine cw_exit ?_
      refine hQ123 _ _ _ ?_
      refine thn_x ?_
      refine hQ122 _ _ _ ?_
      refine thn_x ?_
      replace hF := exB hF hK113
      refine hQ111 _ _ _ ?_
      refine inb_s ?_
      refine hQ109 _ _ _ ?_
      refine thn_n ?_
      refine cw_seq ?_
      refine cw_gen ?_
      intro Q162 hQ162
      refine cw_reg ?_
      refine el_pv (v := v115) (pv_move he118) (by decide) ?_
      refine el_pv (v := v115) (pv_assign rfl) (by decide) ?_
      refine el_nil ?_
      refine hQ162 _ _ _ ?_
      refine thn_n ?_
      refine cw_ret ?_
      refine fin1 rfl rfl ?_
      have hr := Option.some.inj hF
      exact ⟨v115, congrArg (fun (r : (List (ByteArray × (Int × List (List Int))))) => Ending.returned (v115)) hr, Eq.mp (congrArg (fun (r : (List (ByteArray × (Int × List (List Int))))) => Sat w0 w120 [Own (sliceR (pairR strR (pairR intR (sliceR (sliceR intR 3) 24))) 80) [v115] r]) hr) (hS.keep 1)⟩
set_option maxHeartbeats 4000000 in
theorem laws_toDatabase_ok {w0 : World} {u0 : Value} {a0 : List (ByteArray × (Int × List (List Int)))} (ha0 : (sliceR (pairR strR (pairR intR (sliceR (sliceR intR 3) 24))) 76).rd w0 [u0] a0) {N : Nat} {r : (List (ByteArray × (Int × List (List Int))))} (hF : laws_toDatabase N a0 = some r) :
    Calls Try.prog 18 #[.agg #[u0]] w0 fun e w' => ∃ (q0 : Value), e = .returned (.agg #[q0]) ∧ Sat w0 w' [Own (sliceR (pairR strR (pairR intR (sliceR (sliceR intR 3) 24))) 80) [q0] r] := by
  unfold laws_toDatabase at hF
  refine calls_E Try.func18 rfl rfl (of_decide_eq_true rfl) ?_
  have hS := Sat.start w0
  refine cw_seq ?_
  refine cw_gen ?_
  intro Q101 hQ101
  refine cw_reg ?_
  refine el_box [u0] rfl hS (by decide) ?_
  intro w102 b103 hS hx104
  refine el_alloc hS (by decide) ?_
  intro w106 b107 hS hx108
  refine el_nil ?_
  refine hQ101 _ _ _ ?_
  refine thn_n ?_
  refine cw_seq ?_
  refine cw_gen ?_
  intro Q110 hQ110
  refine cw_reg ?_
  refine el_alloc hS (by decide) ?_
  intro w111 b112 hS hx113
  refine el_nil ?_
  refine hQ110 _ _ _ ?_
  refine thn_n ?_
  refine cw_seq ?_
  refine cw_gen ?_
  intro Q115 hQ115
  refine cw_reg ?_
  refine el_pv (v := .pointer (some ⟨b103, 0 + 0, none⟩)) (pv_fieldAddr rfl) (by decide) ?_
  refine el_pv (v := u0) (pv_loadc rfl ((hS.boxAt 2 rfl) 0 _ rfl)) (by decide) ?_
  replace hF := ob hF
  obtain ⟨r116, hr116, hF⟩ := hF
  refine el_call goes39 (laws_toTableS_ok (hS.up ha0) hr116) (congrArg List.toArray (mapc rfl rfl)) (by decide) ?_
  rintro _ w119 ⟨v117, rfl, hS'⟩
  refine ⟨_, rfl, ?_⟩
  have hx120 := hS'.below
  replace hS := hS.call1 hS'
  refine el_pv (v := .pointer (some ⟨b112, 0 + 0, none⟩)) (pv_fieldAddr rfl) (by decide) ?_
  refine el_storev (hS.top 1 rfl) rfl [v117] (cells_of rfl (oc (hS.rdAt (R := (sliceR (pairR strR (pairR intR (sliceR (sliceR intR 3) 24))) 80)) 0 rfl))) rfl (of_decide_eq_true rfl) (all_cons (oc (hS.rdAt (R := (sliceR (pairR strR (pairR intR (sliceR (sliceR intR 3) 24))) 80)) 0 rfl)) rfl) ?_
  intro w121 hS
  replace hS : Sat w0 w121 [Box b112 44 [v117], Own (sliceR (pairR strR (pairR intR (sliceR (sliceR intR 3) 24))) 80) [v117] r116, Box b107 44 [(.slice none 0 0)], Box b103 34 [u0]] := hS
  refine el_nil ?_
  refine hQ115 _ _ _ ?_
  refine thn_n ?_
  refine cw_seq ?_
  refine cw_gen ?_
  intro Q122 hQ122
  replace hS : Sat w0 w121 [Box b112 44 [v117], Own (sliceR (pairR strR (pairR intR (sliceR (sliceR intR 3) 24))) 80) [v117] r116, Box b107 44 [(.slice none 0 0)]] := hS.rems 4 [3] rfl
  refine cw_reg ?_
  refine el_pv (v := .agg #[v117]) (pv_loada (cs := [v117]) rfl rfl (boxc0 (hS.boxAt 0 rfl))) (by decide) ?_
  refine el_storev (hS.top 2 rfl) rfl [v117] rfl rfl (of_decide_eq_true rfl) (all_cons (oc (hS.rdAt (R := (sliceR (pairR strR (pairR intR (sliceR (sliceR intR 3) 24))) 80)) 1 rfl)) rfl) ?_
  intro w123 hS
  replace hS : Sat w0 w123 [Box b107 44 [v117], Box b112 44 [v117], Own (sliceR (pairR strR (pairR intR (sliceR (sliceR intR 3) 24))) 80) [v117] r116] := hS
  refine el_nil ?_
  refine hQ122 _ _ _ ?_
  refine thn_n ?_
  refine cw_ret ?_
  refine finC (cs := [v117]) rfl rfl rfl (boxc0 (hS.boxAt 0 rfl))  ?_
  replace hS : Sat w0 w123 [Own (sliceR (pairR strR (pairR intR (sliceR (sliceR intR 3) 24))) 80) [v117] r116, Box b107 44 [v117], Box b112 44 [v117]] := hS.tops 3 [2] rfl
  have hr := Option.some.inj hF
  exact ⟨v117, congrArg (fun (r : (List (ByteArray × (Int × List (List Int))))) => Ending.returned (.agg #[v117])) hr, Eq.mp (congrArg (fun (r : (List (ByteArray × (Int × List (List Int))))) => Sat w0 w123 [Own (sliceR (pairR strR (pairR intR (sliceR (sliceR intR 3) 24))) 80) [v117] r]) hr) (hS.keep 1)⟩
set_option maxHeartbeats 4000000 in
theorem laws_toDelta_ok {w0 : World} {a0 : ByteArray} {a1 : Int} {u2 : Value} {a2 : List (List Int)} {a3 : Int} {u4 : Value} {a4 : List (List Int)} (ha0 : a0.size ≤ 9223372036854775807) (ha2 : (sliceR (sliceR intR 3) 24).rd w0 [u2] a2) (ha4 : (sliceR (sliceR intR 3) 24).rd w0 [u4] a4) {N : Nat} {r : ByteArray × (Int × List (List Int)) × (Int × List (List Int))} (hF : laws_toDelta N a0 a1 a2 a3 a4 = some r) :
    Calls Try.prog 19 #[.agg #[.string a0, .int .i64 a1, u2, .int .i64 a3, u4]] w0 fun e w' => ∃ (q0 : Value) (q1 : Value), e = .returned (.agg #[.string r.1, .int .i64 r.2.1.1, q0, .int .i64 r.2.2.1, q1]) ∧ Sat w0 w' [Own (sliceR (sliceR intR 3) 24) [q0] r.2.1.2, Own (sliceR (sliceR intR 3) 24) [q1] r.2.2.2] ∧ r.1.size ≤ 9223372036854775807 := by
  unfold laws_toDelta at hF
  refine calls_E Try.func19 rfl rfl (of_decide_eq_true rfl) ?_
  have hS := Sat.start w0
  refine cw_seq ?_
  refine cw_gen ?_
  intro Q101 hQ101
  refine cw_reg ?_
  refine el_box [.string a0, .int .i64 a1, u2, .int .i64 a3, u4] rfl hS (by decide) ?_
  intro w102 b103 hS hx104
  refine el_alloc hS (by decide) ?_
  intro w106 b107 hS hx108
  refine el_nil ?_
  refine hQ101 _ _ _ ?_
  refine thn_n ?_
  refine cw_seq ?_
  refine cw_gen ?_
  intro Q110 hQ110
  refine cw_reg ?_
  refine el_alloc hS (by decide) ?_
  intro w111 b112 hS hx113
  refine el_nil ?_
  refine hQ110 _ _ _ ?_
  refine thn_n ?_
  refine cw_seq ?_
  refine cw_gen ?_
  intro Q115 hQ115
  refine cw_reg ?_
  refine el_pv (v := .pointer (some ⟨b103, 0 + 0, none⟩)) (pv_fieldAddr rfl) (by decide) ?_
  refine el_pv (v := .string a0) (pv_loadc rfl ((hS.boxAt 2 rfl) 0 _ rfl)) (by decide) ?_
  refine el_pv (v := .pointer (some ⟨b112, 0 + 0, none⟩)) (pv_fieldAddr rfl) (by decide) ?_
  refine el_storev (hS.top 0 rfl) rfl [.string a0] rfl rfl (of_decide_eq_true rfl) (all_cons rfl rfl) ?_
  intro w116 hS
  replace hS : Sat w0 w116 [Box b112 48 [.string a0, .int .i64 0, (.slice none 0 0), .int .i64 0, (.slice none 0 0)], Box b107 48 [.string ByteArray.empty, .int .i64 0, (.slice none 0 0), .int .i64 0, (.slice none 0 0)], Box b103 38 [.string a0, .int .i64 a1, u2, .int .i64 a3, u4]] := hS
  refine el_nil ?_
  refine hQ115 _ _ _ ?_
  refine thn_n ?_
  refine cw_seq ?_
  refine cw_gen ?_
  intro Q117 hQ117
  refine cw_reg ?_
  refine el_pv (v := .pointer (some ⟨b103, 0 + 1, none⟩)) (pv_fieldAddr rfl) (by decide) ?_
  refine el_pv (v := .agg #[.int .i64 a1, u2]) (pv_loada (cs := [.int .i64 a1, u2]) rfl rfl (boxc (hS.boxAt 2 rfl) 1 2)) (by decide) ?_
  replace hF := ob hF
  obtain ⟨r118, hr118, hF⟩ := hF
  refine el_call goes40 (laws_toRelation_ok (hS.up ha2) hr118) (congrArg List.toArray (mapc rfl rfl)) (by decide) ?_
  rintro _ w121 ⟨v119, rfl, hS'⟩
  refine ⟨_, rfl, ?_⟩
  have hx122 := hS'.below
  replace hS := hS.call1 hS'
  refine el_pv (v := .pointer (some ⟨b112, 0 + 1, none⟩)) (pv_fieldAddr rfl) (by decide) ?_
  refine el_storev (hS.top 1 rfl) rfl [.int .i64 r118.1, v119] rfl rfl (of_decide_eq_true rfl) (all_cons rfl (all_cons (oc (hS.rdAt (R := (sliceR (sliceR intR 3) 24)) 0 rfl)) rfl)) ?_
  intro w123 hS
  replace hS : Sat w0 w123 [Box b112 48 [.string a0, .int .i64 r118.1, v119, .int .i64 0, (.slice none 0 0)], Own (sliceR (sliceR intR 3) 24) [v119] r118.2, Box b107 48 [.string ByteArray.empty, .int .i64 0, (.slice none 0 0), .int .i64 0, (.slice none 0 0)], Box b103 38 [.string a0, .int .i64 a1, u2, .int .i64 a3, u4]] := hS
  refine el_nil ?_
  refine hQ117 _ _ _ ?_
  refine thn_n ?_
  refine cw_seq ?_
  refine cw_gen ?_
  intro Q124 hQ124
  refine cw_reg ?_
  refine el_pv (v := .pointer (some ⟨b103, 0 + 3, none⟩)) (pv_fieldAddr rfl) (by decide) ?_
  refine el_pv (v := .agg #[.int .i64 a3, u4]) (pv_loada (cs := [.int .i64 a3, u4]) rfl rfl (boxc (hS.boxAt 3 rfl) 3 2)) (by decide) ?_
  replace hF := ob hF
  obtain ⟨r125, hr125, hF⟩ := hF
  refine el_call goes40 (laws_toRelation_ok (hS.up ha4) hr125) (congrArg List.toArray (mapc rfl rfl)) (by decide) ?_
  rintro _ w128 ⟨v126, rfl, hS'⟩
  refine ⟨_, rfl, ?_⟩
  have hx129 := hS'.below
  replace hS := hS.call1 hS'
  refine el_pv (v := .pointer (some ⟨b112, 0 + 3, none⟩)) (pv_fieldAddr rfl) (by decide) ?_
  refine el_storev (hS.top 1 rfl) rfl [.int .i64 r125.1, v126] rfl rfl (of_decide_eq_true rfl) (all_cons rfl (all_cons (oc (hS.rdAt (R := (sliceR (sliceR intR 3) 24)) 0 rfl)) rfl)) ?_
  intro w130 hS
  replace hS : Sat w0 w130 [Box b112 48 [.string a0, .int .i64 r118.1, v119, .int .i64 r125.1, v126], Own (sliceR (sliceR intR 3) 24) [v126] r125.2, Own (sliceR (sliceR intR 3) 24) [v119] r118.2, Box b107 48 [.string ByteArray.empty, .int .i64 0, (.slice none 0 0), .int .i64 0, (.slice none 0 0)], Box b103 38 [.string a0, .int .i64 a1, u2, .int .i64 a3, u4]] := hS
  refine el_nil ?_
  refine hQ124 _ _ _ ?_
  refine thn_n ?_
  refine cw_seq ?_
  refine cw_gen ?_
  intro Q131 hQ131
  replace hS : Sat w0 w130 [Box b112 48 [.string a0, .int .i64 r118.1, v119, .int .i64 r125.1, v126], Own (sliceR (sliceR intR 3) 24) [v126] r125.2, Own (sliceR (sliceR intR 3) 24) [v119] r118.2, Box b107 48 [.string ByteArray.empty, .int .i64 0, (.slice none 0 0), .int .i64 0, (.slice none 0 0)]] := hS.rems 5 [4] rfl
  refine cw_reg ?_
  refine el_pv (v := .agg #[.string a0, .int .i64 r118.1, v119, .int .i64 r125.1, v126]) (pv_loada (cs := [.string a0, .int .i64 r118.1, v119, .int .i64 r125.1, v126]) rfl rfl (boxc0 (hS.boxAt 0 rfl))) (by decide) ?_
  refine el_storev (hS.top 3 rfl) rfl [.string a0, .int .i64 r118.1, v119, .int .i64 r125.1, v126] rfl rfl (of_decide_eq_true rfl) (all_cons rfl (all_cons rfl (all_cons (oc (hS.rdAt (R := (sliceR (sliceR intR 3) 24)) 2 rfl)) (all_cons rfl (all_cons (oc (hS.rdAt (R := (sliceR (sliceR intR 3) 24)) 1 rfl)) rfl))))) ?_
  intro w132 hS
  replace hS : Sat w0 w132 [Box b107 48 [.string a0, .int .i64 r118.1, v119, .int .i64 r125.1, v126], Box b112 48 [.string a0, .int .i64 r118.1, v119, .int .i64 r125.1, v126], Own (sliceR (sliceR intR 3) 24) [v126] r125.2, Own (sliceR (sliceR intR 3) 24) [v119] r118.2] := hS
  refine el_nil ?_
  refine hQ131 _ _ _ ?_
  refine thn_n ?_
  refine cw_ret ?_
  refine finC (cs := [.string a0, .int .i64 r118.1, v119, .int .i64 r125.1, v126]) rfl rfl rfl (boxc0 (hS.boxAt 0 rfl))  ?_
  replace hS : Sat w0 w132 [Own (sliceR (sliceR intR 3) 24) [v119] r118.2, Own (sliceR (sliceR intR 3) 24) [v126] r125.2, Box b107 48 [.string a0, .int .i64 r118.1, v119, .int .i64 r125.1, v126], Box b112 48 [.string a0, .int .i64 r118.1, v119, .int .i64 r125.1, v126]] := hS.tops 4 [3, 2] rfl
  have hr := Option.some.inj hF
  exact ⟨v119, v126, congrArg (fun (r : ByteArray × (Int × List (List Int)) × (Int × List (List Int))) => Ending.returned (.agg #[.string r.1, .int .i64 r.2.1.1, v119, .int .i64 r.2.2.1, v126])) hr, Eq.mp (congrArg (fun (r : ByteArray × (Int × List (List Int)) × (Int × List (List Int))) => Sat w0 w132 [Own (sliceR (sliceR intR 3) 24) [v119] r.2.1.2, Own (sliceR (sliceR intR 3) 24) [v126] r.2.2.2]) hr) (hS.keep 2), Eq.mp (congrArg (fun (r : ByteArray × (Int × List (List Int)) × (Int × List (List Int))) => r.1.size ≤ 9223372036854775807) hr) ha0⟩
set_option maxHeartbeats 4000000 in
theorem impl_compareInts_ok {w0 : World} {a0 : Int} {a1 : Int}  {N : Nat} {r : Int} (hF : impl_compareInts N a0 a1 = some r) :
    Calls Try.prog 78 #[.int .i64 a0, .int .i64 a1] w0 fun e w' => e = .returned (.int .i64 r) ∧ Ext w0 w' := by
  unfold impl_compareInts at hF
  refine calls_E Try.func78 rfl rfl (of_decide_eq_true rfl) ?_
  have hS := Sat.start w0
  refine cw_seq ?_
  refine cw_gen ?_
  intro Q101 hQ101
  refine cw_reg ?_
  refine el_pv (v := .int .i64 0) (pv_assign rfl) (by decide) ?_
  refine el_nil ?_
  refine hQ101 _ _ _ ?_
  refine thn_n ?_
  refine cw_seq ?_
  refine cw_gen ?_
  intro Q102 hQ102
  refine cw_block ?_
  refine cw_gen ?_
  intro Q103 hQ103
  refine cw_seq ?_
  refine cw_gen ?_
  intro Q104 hQ104
  refine cw_reg ?_
  refine el_pv (v := .int .i64 a0) (pv_move rfl) (by decide) ?_
  refine el_pv (v := .int .i64 a1) (pv_move rfl) (by decide) ?_
  refine el_pv (v := .bool (decide (a0 < a1))) (pv_lss rfl rfl) (by decide) ?_
  refine el_pv (v := .bool (decide (a0 < a1))) (pv_assign rfl) (by decide) ?_
  refine el_nil ?_
  refine hQ104 _ _ _ ?_
  refine thn_n ?_
  replace hF := oif hF
  rcases hF with ⟨hb105, hF⟩ | ⟨hb105, hF⟩
  · refine cw_cond_t rfl hb105 ?_
    refine cw_seq ?_
    refine cw_gen ?_
    intro Q106 hQ106
    refine cw_reg ?_
    refine el_pv (v := .int .i64 (-1)) (pv_assign rfl) (by decide) ?_
    refine el_nil ?_
    refine hQ106 _ _ _ ?_
    refine thn_n ?_
    refine cw_ret ?_
    refine hQ103 _ _ _ ?_
    refine inb_r ?_
    refine hQ102 _ _ _ ?_
    refine thn_r ?_
    refine fin1 rfl rfl ?_
    have hr := Option.some.inj hF
    exact ⟨congrArg (fun (r : Int) => Ending.returned (.int .i64 r)) hr, hS.below⟩
  · refine cw_cond_f rfl hb105 ?_
    refine cw_seq ?_
    refine cw_gen ?_
    intro Q107 hQ107
    refine cw_reg ?_
    refine el_pv (v := .int .i64 a0) (pv_move rfl) (by decide) ?_
    refine el_pv (v := .int .i64 a1) (pv_move rfl) (by decide) ?_
    refine el_pv (v := .bool (decide (a1 < a0))) (pv_gtr rfl rfl) (by decide) ?_
    refine el_pv (v := .bool (decide (a1 < a0))) (pv_assign rfl) (by decide) ?_
    refine el_nil ?_
    refine hQ107 _ _ _ ?_
    refine thn_n ?_
    replace hF := oif hF
    rcases hF with ⟨hb108, hF⟩ | ⟨hb108, hF⟩
    · refine cw_cond_t rfl hb108 ?_
      refine cw_seq ?_
      refine cw_gen ?_
      intro Q109 hQ109
      refine cw_reg ?_
      refine el_pv (v := .int .i64 1) (pv_assign rfl) (by decide) ?_
      refine el_nil ?_
      refine hQ109 _ _ _ ?_
      refine thn_n ?_
      refine cw_ret ?_
      refine hQ103 _ _ _ ?_
      refine inb_r ?_
      refine hQ102 _ _ _ ?_
      refine thn_r ?_
      refine fin1 rfl rfl ?_
      have hr := Option.some.inj hF
      exact ⟨congrArg (fun (r : Int) => Ending.returned (.int .i64 r)) hr, hS.below⟩
    · refine cw_cond_f rfl hb108 ?_
      refine cw_skip ?_
      refine hQ103 _ _ _ ?_
      refine inb_n ?_
      refine hQ102 _ _ _ ?_
      refine thn_n ?_
      refine cw_seq ?_
      refine cw_gen ?_
      intro Q110 hQ110
      refine cw_reg ?_
      refine el_pv (v := .int .i64 0) (pv_assign rfl) (by decide) ?_
      refine el_nil ?_
      refine hQ110 _ _ _ ?_
      refine thn_n ?_
      refine cw_ret ?_
      refine fin1 rfl rfl ?_
      have hr := Option.some.inj hF
      exact ⟨congrArg (fun (r : Int) => Ending.returned (.int .i64 r)) hr, hS.below⟩
set_option maxHeartbeats 4000000 in
theorem impl_CompareRows_ok {w0 : World} {u0 : Value} {a0 : List Int} {u1 : Value} {a1 : List Int} (ha0 : (sliceR intR 3).rd w0 [u0] a0) (ha1 : (sliceR intR 3).rd w0 [u1] a1) {N : Nat} {r : Int} (hF : impl_CompareRows N a0 a1 = some r) :
    Calls Try.prog 73 #[u0, u1] w0 fun e w' => e = .returned (.int .i64 r) ∧ Ext w0 w' := by
  unfold impl_CompareRows at hF
  refine calls_E Try.func73 rfl rfl (of_decide_eq_true rfl) ?_
  have hS := Sat.start w0
  refine cw_seq ?_
  refine cw_gen ?_
  intro Q101 hQ101
  refine cw_reg ?_
  refine el_pv (v := .int .i64 0) (pv_assign rfl) (by decide) ?_
  refine el_nil ?_
  refine hQ101 _ _ _ ?_
  refine thn_n ?_
  refine cw_seq ?_
  refine cw_gen ?_
  intro Q102 hQ102
  refine cw_seq ?_
  refine cw_gen ?_
  intro Q103 hQ103
  refine cw_reg ?_
  refine el_pv (v := .int .i64 0) (pv_assign rfl) (by decide) ?_
  refine el_nil ?_
  refine hQ103 _ _ _ ?_
  refine thn_n ?_
  refine cw_block ?_
  refine cw_gen ?_
  intro Q104 hQ104
  obtain ⟨s105, hL, hK106⟩ := ob hF
  refine cw_loopS (fun k e w => ∃ (x107 : Int), e 0 = u0 ∧ e 1 = u1 ∧ e 5 = .int .i64 x107 ∧ Sat w0 w [] ∧ impl_CompareRows_L1 N k a0 a1 x107 = some s105) N ?_ ?_ ?_
  · exact ⟨0, rfl, rfl, rfl, hS, hL⟩
  · rintro e w ⟨_, _, _, _, _, hz⟩; exact nomatch (show none = some _ from hz)
  · rintro k e112 w111 ⟨x107, he108, he109, he110, hS, hF⟩
    refine cw_gen ?_
    intro Q113 hQ113
    refine cw_seq ?_
    refine cw_gen ?_
    intro Q114 hQ114
    refine cw_seq ?_
    refine cw_gen ?_
    intro Q115 hQ115
    refine cw_reg ?_
    refine el_pv (v := .int .i64 x107) (pv_move he110) (by decide) ?_
    refine el_pv (v := u0) (pv_move he108) (by decide) ?_
    refine el_pv (v := .int .i64 (a0.length : Int)) (pv_len rfl ha0) (by decide) ?_
    refine el_pv (v := .bool (decide (x107 < (a0.length : Int)))) (pv_lss rfl rfl) (by decide) ?_
    refine el_pv (v := .bool (decide (x107 < (a0.length : Int)))) (pv_move rfl) (by decide) ?_
    replace hF := oif hF
    rcases hF with ⟨hb116, hF⟩ | ⟨hb116, hF⟩
    · refine el_on rfl hb116 ?_
      refine el_pv (v := .int .i64 x107) (pv_move he110) (by decide) ?_
      refine el_on rfl hb116 ?_
      refine el_pv (v := u1) (pv_move he109) (by decide) ?_
      refine el_on rfl hb116 ?_
      refine el_pv (v := .int .i64 (a1.length : Int)) (pv_len rfl ha1) (by decide) ?_
      refine el_on rfl hb116 ?_
      refine el_pv (v := .bool (decide (x107 < (a1.length : Int)))) (pv_lss rfl rfl) (by decide) ?_
      refine el_pv (v := .bool (decide (x107 < (a1.length : Int)))) (pv_pick_t rfl hb116 rfl) (by decide) ?_
      refine el_nil ?_
      refine hQ115 _ _ _ ?_
      refine thn_n ?_
      replace hF := oif hF
      rcases hF with ⟨hb117, hF⟩ | ⟨hb117, hF⟩
      · refine cw_cond_t rfl hb117 ?_
        refine cw_skip ?_
        refine hQ114 _ _ _ ?_
        refine thn_n ?_
        refine cw_seq ?_
        refine cw_gen ?_
        intro Q118 hQ118
        refine cw_block ?_
        refine cw_gen ?_
        intro Q119 hQ119
        refine cw_seq ?_
        refine cw_gen ?_
        intro Q120 hQ120
        refine cw_regq (by kernel_rfl) (by kernel_rfl) ?_
        refine ql_pv (v := u0) (pv_move he108) (by decide) ?_
        refine ql_pv (v := .int .i64 x107) (pv_move he110) (by decide) ?_
        replace hF := ob hF
        obtain ⟨x121, hx121, hF⟩ := hF
        refine ql_index (wA := w0) rfl ha0 rfl (by decide) rfl hx121 (by decide) ?_
        intro b122 of123 c124 hr125 hm126
        obtain rfl := hr125
        refine ql_pv (v := .int .i64 x121) (pv_loadc rfl ((cells_up hS.below hm126) 0 _ rfl)) (by decide) ?_
        refine ql_pv (v := u1) (pv_move he109) (by decide) ?_
        refine ql_pv (v := .int .i64 x107) (pv_move he110) (by decide) ?_
        replace hF := ob hF
        obtain ⟨x127, hx127, hF⟩ := hF
        refine ql_index (wA := w0) rfl ha1 rfl (by decide) rfl hx127 (by decide) ?_
        intro b128 of129 c130 hr131 hm132
        obtain rfl := hr131
        refine ql_pv (v := .int .i64 x127) (pv_loadc rfl ((cells_up hS.below hm132) 0 _ rfl)) (by decide) ?_
        refine ql_pv (v := .bool (x121 != x127)) (pv_neq rfl rfl) (by decide) ?_
        refine ql_nil ?_
        intro w133 hx134
        replace hS := hS.ext hx134
        refine hQ120 _ _ _ ?_
        refine thn_n ?_
        replace hF := oif hF
        rcases hF with ⟨hb135, hF⟩ | ⟨hb135, hF⟩
        · refine cw_cond_t rfl hb135 ?_
          refine cw_seq ?_
          refine cw_gen ?_
          intro Q136 hQ136
          refine cw_regq (by kernel_rfl) (by kernel_rfl) ?_
          refine ql_pv (v := u0) (pv_move he108) (by decide) ?_
          refine ql_pv (v := .int .i64 x107) (pv_move he110) (by decide) ?_
          replace hF := ob hF
          obtain ⟨x137, hx137, hF⟩ := hF
          refine ql_index (wA := w0) rfl ha0 rfl (by decide) rfl hx137 (by decide) ?_
          intro b138 of139 c140 hr141 hm142
          obtain rfl := hr141
          refine ql_pv (v := .int .i64 x137) (pv_loadc rfl ((cells_up hS.below hm142) 0 _ rfl)) (by decide) ?_
          refine ql_pv (v := u1) (pv_move he109) (by decide) ?_
          refine ql_pv (v := .int .i64 x107) (pv_move he110) (by decide) ?_
          replace hF := ob hF
          obtain ⟨x143, hx143, hF⟩ := hF
          refine ql_index (wA := w0) rfl ha1 rfl (by decide) rfl hx143 (by decide) ?_
          intro b144 of145 c146 hr147 hm148
          obtain rfl := hr147
          refine ql_pv (v := .int .i64 x143) (pv_loadc rfl ((cells_up hS.below hm148) 0 _ rfl)) (by decide) ?_
          replace hF := ob hF
          obtain ⟨r149, hr149, hF⟩ := hF
          refine ql_call (.int .i64 r149) goes78 (fun w' hw' => impl_compareInts_ok hr149) (congrArg List.toArray (mapc rfl (mapc rfl rfl))) (by decide) ?_
          refine ql_pv (v := .int .i64 r149) (pv_assign rfl) (by decide) ?_
          refine ql_nil ?_
          intro w150 hx151
          replace hS := hS.ext hx151
          refine hQ136 _ _ _ ?_
          refine thn_n ?_
          refine cw_ret ?_
          refine hQ119 _ _ _ ?_
          refine inb_r ?_
          refine hQ118 _ _ _ ?_
          refine thn_r ?_
          refine hQ113 _ _ _ ?_
          refine thn_r ?_
          refine hQ104 _ _ _ ?_
          refine inb_r ?_
          refine hQ102 _ _ _ ?_
          refine thn_r ?_
          replace hF := exL hF hK106
          refine fin1 rfl rfl ?_
          have hr := Option.some.inj hF
          exact ⟨congrArg (fun (r : Int) => Ending.returned (.int .i64 r)) hr, hS.below⟩
        · refine cw_cond_f rfl hb135 ?_
          refine cw_skip ?_
          refine hQ119 _ _ _ ?_
          refine inb_n ?_
          refine hQ118 _ _ _ ?_
          refine thn_n ?_
          refine cw_reg ?_
          refine el_pv (v := .int .i64 x107) (pv_move he110) (by decide) ?_
          replace hF := ob hF
          obtain ⟨x152, hx152, hF⟩ := hF
          refine el_pv (v := .int .i64 x152) (pv_add rfl rfl hx152) (by decide) ?_
          refine el_pv (v := .int .i64 x152) (pv_assign rfl) (by decide) ?_
          refine el_nil ?_
          refine hQ113 _ _ _ ?_
          refine thn_n ?_
          replace hS := hS.keep 0
          exact ⟨x152, he108, he109, rfl, hS, hF⟩
      · refine cw_cond_f rfl hb117 ?_
        refine cw_exit ?_
        refine hQ114 _ _ _ ?_
        refine thn_x ?_
        refine hQ113 _ _ _ ?_
        refine thn_x ?_
        replace hF := exA hF hK106
        refine hQ104 _ _ _ ?_
        refine inb_s ?_
        refine hQ102 _ _ _ ?_
        refine thn_n ?_
        refine cw_seq ?_
        refine cw_gen ?_
        intro Q153 hQ153
        refine cw_reg ?_
        refine el_pv (v := u0) (pv_move he108) (by decide) ?_
        refine el_pv (v := .int .i64 (a0.length : Int)) (pv_len rfl ha0) (by decide) ?_
        refine el_pv (v := u1) (pv_move he109) (by decide) ?_
        refine el_pv (v := .int .i64 (a1.length : Int)) (pv_len rfl ha1) (by decide) ?_
        replace hF := ob hF
        obtain ⟨r154, hr154, hF⟩ := hF
        refine el_call goes78 (impl_compareInts_ok hr154) (congrArg List.toArray (mapc rfl (mapc rfl rfl))) (by decide) ?_
        rintro _ w155 ⟨rfl, hx156⟩
        refine ⟨_, rfl, ?_⟩
        replace hS := hS.ext hx156
        refine el_pv (v := .int .i64 r154) (pv_assign rfl) (by decide) ?_
        refine el_nil ?_
        refine hQ153 _ _ _ ?_
        refine thn_n ?_
        refine cw_ret ?_
        refine fin1 rfl rfl ?_
        have hr := Option.some.inj hF
        exact ⟨congrArg (fun (r : Int) => Ending.returned (.int .i64 r)) hr, hS.below⟩
    · refine el_off rfl hb116 rfl (by decide) ?_
      refine el_off rfl hb116 rfl (by decide) ?_
      refine el_off rfl hb116 rfl (by decide) ?_
      refine el_off rfl hb116 rfl (by decide) ?_
      refine el_pv (v := .bool false) (pv_pick_f rfl hb116 rfl) (by decide) ?_
      refine el_nil ?_
      refine hQ115 _ _ _ ?_
      refine thn_n ?_
      refine cw_cond_f rfl rfl ?_
      refine cw_exit ?_
      refine hQ114 _ _ _ ?_
      refine thn_x ?_
      refine hQ113 _ _ _ ?_
      refine thn_x ?_
      replace hF := exA hF hK106
      refine hQ104 _ _ _ ?_
      refine inb_s ?_
      refine hQ102 _ _ _ ?_
      refine thn_n ?_
      refine cw_seq ?_
      refine cw_gen ?_
      intro Q157 hQ157
      refine cw_reg ?_
      refine el_pv (v := u0) (pv_move he108) (by decide) ?_
      refine el_pv (v := .int .i64 (a0.length : Int)) (pv_len rfl ha0) (by decide) ?_
      refine el_pv (v := u1) (pv_move he109) (by decide) ?_
      refine el_pv (v := .int .i64 (a1.length : Int)) (pv_len rfl ha1) (by decide) ?_
      replace hF := ob hF
      obtain ⟨r158, hr158, hF⟩ := hF
      refine el_call goes78 (impl_compareInts_ok hr158) (congrArg List.toArray (mapc rfl (mapc rfl rfl))) (by decide) ?_
      rintro _ w159 ⟨rfl, hx160⟩
      refine ⟨_, rfl, ?_⟩
      replace hS := hS.ext hx160
      refine el_pv (v := .int .i64 r158) (pv_assign rfl) (by decide) ?_
      refine el_nil ?_
      refine hQ157 _ _ _ ?_
      refine thn_n ?_
      refine cw_ret ?_
      refine fin1 rfl rfl ?_
      have hr := Option.some.inj hF
      exact ⟨congrArg (fun (r : Int) => Ending.returned (.int .i64 r)) hr, hS.below⟩
set_option maxHeartbeats 4000000 in
theorem impl_within_ok {w0 : World} {a0 : Int} {a1 : Int} {a2 : Int}  {N : Nat} {r : Bool} (hF : impl_within N a0 a1 a2 = some r) :
    Calls Try.prog 76 #[.int .i64 a0, .int .i64 a1, .int .i64 a2] w0 fun e w' => e = .returned (.bool r) ∧ Ext w0 w' := by
  unfold impl_within at hF
  refine calls_E Try.func76 rfl rfl (of_decide_eq_true rfl) ?_
  have hS := Sat.start w0
  refine cw_seq ?_
  refine cw_gen ?_
  intro Q101 hQ101
  refine cw_reg ?_
  refine el_pv (v := .bool false) (pv_assign rfl) (by decide) ?_
  refine el_nil ?_
  refine hQ101 _ _ _ ?_
  refine thn_n ?_
  refine cw_seq ?_
  refine cw_gen ?_
  intro Q102 hQ102
  refine cw_reg ?_
  refine el_pv (v := .int .i64 a0) (pv_move rfl) (by decide) ?_
  refine el_pv (v := .int .i64 a1) (pv_move rfl) (by decide) ?_
  refine el_pv (v := .bool (decide (a1 ≤ a0))) (pv_geq rfl rfl) (by decide) ?_
  refine el_pv (v := .bool (decide (a1 ≤ a0))) (pv_move rfl) (by decide) ?_
  replace hF := oif hF
  rcases hF with ⟨hb103, hF⟩ | ⟨hb103, hF⟩
  · refine el_on rfl hb103 ?_
    refine el_pv (v := .int .i64 a0) (pv_move rfl) (by decide) ?_
    refine el_on rfl hb103 ?_
    refine el_pv (v := .int .i64 a2) (pv_move rfl) (by decide) ?_
    refine el_on rfl hb103 ?_
    refine el_pv (v := .bool (decide (a0 ≤ a2))) (pv_leq rfl rfl) (by decide) ?_
    refine el_pv (v := .bool (decide (a0 ≤ a2))) (pv_pick_t rfl hb103 rfl) (by decide) ?_
    refine el_pv (v := .bool (decide (a0 ≤ a2))) (pv_assign rfl) (by decide) ?_
    refine el_nil ?_
    refine hQ102 _ _ _ ?_
    refine thn_n ?_
    refine cw_ret ?_
    refine fin1 rfl rfl ?_
    have hr := Option.some.inj hF
    exact ⟨congrArg (fun (r : Bool) => Ending.returned (.bool r)) hr, hS.below⟩
  · refine el_off rfl hb103 rfl (by decide) ?_
    refine el_off rfl hb103 rfl (by decide) ?_
    refine el_off rfl hb103 rfl (by decide) ?_
    refine el_pv (v := .bool false) (pv_pick_f rfl hb103 rfl) (by decide) ?_
    refine el_pv (v := .bool false) (pv_assign rfl) (by decide) ?_
    refine el_nil ?_
    refine hQ102 _ _ _ ?_
    refine thn_n ?_
    refine cw_ret ?_
    refine fin1 rfl rfl ?_
    have hr := Option.some.inj hF
    exact ⟨congrArg (fun (r : Bool) => Ending.returned (.bool r)) hr, hS.below⟩
set_option maxHeartbeats 4000000 in
theorem impl_AreValidValues_ok {w0 : World} {u0 : Value} {a0 : List Int} (ha0 : (sliceR intR 3).rd w0 [u0] a0) {N : Nat} {r : Bool} (hF : impl_AreValidValues N a0 = some r) :
    Calls Try.prog 77 #[u0] w0 fun e w' => e = .returned (.bool r) ∧ Ext w0 w' := by
  unfold impl_AreValidValues at hF
  refine calls_E Try.func77 rfl rfl (of_decide_eq_true rfl) ?_
  have hS := Sat.start w0
  refine cw_seq ?_
  refine cw_gen ?_
  intro Q101 hQ101
  refine cw_reg ?_
  refine el_pv (v := .bool false) (pv_assign rfl) (by decide) ?_
  refine el_nil ?_
  refine hQ101 _ _ _ ?_
  refine thn_n ?_
  refine cw_seq ?_
  refine cw_gen ?_
  intro Q102 hQ102
  refine cw_seq ?_
  refine cw_gen ?_
  intro Q103 hQ103
  refine cw_reg ?_
  refine el_pv (v := u0) (pv_move rfl) (by decide) ?_
  refine el_pv (v := .int .i64 (a0.length : Int)) (pv_len rfl ha0) (by decide) ?_
  refine el_pv (v := .int .i64 0) (pv_move rfl) (by decide) ?_
  refine el_nil ?_
  refine hQ103 _ _ _ ?_
  refine thn_n ?_
  refine cw_block ?_
  refine cw_gen ?_
  intro Q104 hQ104
  obtain ⟨s105, hL, hK106⟩ := ob hF
  refine cw_loopS (fun k e w => ∃ (x107 : Int), e 5 = u0 ∧ e 6 = .int .i64 (a0.length : Int) ∧ e 7 = .int .i64 x107 ∧ Sat w0 w [] ∧ impl_AreValidValues_L1 N k a0 (a0.length : Int) x107 = some s105) N ?_ ?_ ?_
  · exact ⟨0, rfl, rfl, rfl, hS, hL⟩
  · rintro e w ⟨_, _, _, _, _, hz⟩; exact nomatch (show none = some _ from hz)
  · rintro k e112 w111 ⟨x107, he108, he109, he110, hS, hF⟩
    refine cw_gen ?_
    intro Q113 hQ113
    refine cw_seq ?_
    refine cw_gen ?_
    intro Q114 hQ114
    refine cw_reg ?_
    refine el_pv (v := .bool (decide (x107 < (a0.length : Int)))) (pv_lss he110 he109) (by decide) ?_
    refine el_nil ?_
    refine hQ114 _ _ _ ?_
    refine thn_n ?_
    refine cw_seq ?_
    refine cw_gen ?_
    intro Q115 hQ115
    replace hF := oif hF
    rcases hF with ⟨hb116, hF⟩ | ⟨hb116, hF⟩
    · refine cw_cond_t rfl hb116 ?_
      refine cw_skip ?_
      refine hQ115 _ _ _ ?_
      refine thn_n ?_
      refine cw_seq ?_
      refine cw_gen ?_
      intro Q117 hQ117
      refine cw_block ?_
      refine cw_gen ?_
      intro Q118 hQ118
      refine cw_seq ?_
      refine cw_gen ?_
      intro Q119 hQ119
      refine cw_reg ?_
      replace hF := ob hF
      obtain ⟨x120, hx120, hF⟩ := hF
      refine el_index (wA := w0) he108 ha0 rfl (by decide) he110 hx120 (by decide) ?_
      intro b121 of122 c123 hr124 hm125
      obtain rfl := hr124
      refine el_pv (v := .int .i64 x120) (pv_loadc rfl ((cells_up hS.below hm125) 0 _ rfl)) (by decide) ?_
      refine el_pv (v := .int .i64 x120) (pv_assign rfl) (by decide) ?_
      refine el_nil ?_
      refine hQ119 _ _ _ ?_
      refine thn_n ?_
      refine cw_seq ?_
      refine cw_gen ?_
      intro Q126 hQ126
      refine cw_reg ?_
      refine el_pv (v := .int .i64 x120) (pv_move rfl) (by decide) ?_
      replace hF := ob hF
      obtain ⟨r127, hr127, hF⟩ := hF
      refine el_call goes76 (impl_within_ok hr127) (congrArg List.toArray (mapc rfl (mapc rfl (mapc rfl rfl)))) (by decide) ?_
      rintro _ w128 ⟨rfl, hx129⟩
      refine ⟨_, rfl, ?_⟩
      replace hS := hS.ext hx129
      refine el_pv (v := .bool (!r127)) (pv_not rfl) (by decide) ?_
      refine el_nil ?_
      refine hQ126 _ _ _ ?_
      refine thn_n ?_
      replace hF := oif hF
      rcases hF with ⟨hb130, hF⟩ | ⟨hb130, hF⟩
      · refine cw_cond_f rfl (bnot_t hb130) ?_
        refine cw_skip ?_
        refine hQ118 _ _ _ ?_
        refine inb_n ?_
        refine hQ117 _ _ _ ?_
        refine thn_n ?_
        refine cw_reg ?_
        replace hF := ob hF
        obtain ⟨x131, hx131, hF⟩ := hF
        refine el_pv (v := .int .i64 x131) (pv_add he110 rfl hx131) (by decide) ?_
        refine el_pv (v := .int .i64 x131) (pv_move rfl) (by decide) ?_
        refine el_nil ?_
        refine hQ113 _ _ _ ?_
        refine thn_n ?_
        replace hS := hS.keep 0
        exact ⟨x131, he108, he109, rfl, hS, hF⟩
      · refine cw_cond_t rfl (bnot_f hb130) ?_
        refine cw_seq ?_
        refine cw_gen ?_
        intro Q132 hQ132
        refine cw_reg ?_
        refine el_pv (v := .bool false) (pv_assign rfl) (by decide) ?_
        refine el_nil ?_
        refine hQ132 _ _ _ ?_
        refine thn_n ?_
        refine cw_ret ?_
        refine hQ118 _ _ _ ?_
        refine inb_r ?_
        refine hQ117 _ _ _ ?_
        refine thn_r ?_
        refine hQ113 _ _ _ ?_
        refine thn_r ?_
        refine hQ104 _ _ _ ?_
        refine inb_r ?_
        refine hQ102 _ _ _ ?_
        refine thn_r ?_
        replace hF := exL hF hK106
        refine fin1 rfl rfl ?_
        have hr := Option.some.inj hF
        exact ⟨congrArg (fun (r : Bool) => Ending.returned (.bool r)) hr, hS.below⟩
    · refine cw_cond_f rfl hb116 ?_
      refine cw_exit ?_
      refine hQ115 _ _ _ ?_
      refine thn_x ?_
      refine hQ113 _ _ _ ?_
      refine thn_x ?_
      replace hF := exA hF hK106
      refine hQ104 _ _ _ ?_
      refine inb_s ?_
      refine hQ102 _ _ _ ?_
      refine thn_n ?_
      refine cw_seq ?_
      refine cw_gen ?_
      intro Q133 hQ133
      refine cw_reg ?_
      refine el_pv (v := .bool true) (pv_assign rfl) (by decide) ?_
      refine el_nil ?_
      refine hQ133 _ _ _ ?_
      refine thn_n ?_
      refine cw_ret ?_
      refine fin1 rfl rfl ?_
      have hr := Option.some.inj hF
      exact ⟨congrArg (fun (r : Bool) => Ending.returned (.bool r)) hr, hS.below⟩
set_option maxHeartbeats 4000000 in
theorem impl_rowsValid_ok {w0 : World} {a0 : Int} {u1 : Value} {a1 : List (List Int)} (ha1 : (sliceR (sliceR intR 3) 24).rd w0 [u1] a1) {N : Nat} {r : Bool} (hF : impl_rowsValid N a0 a1 = some r) :
    Calls Try.prog 72 #[.int .i64 a0, u1] w0 fun e w' => e = .returned (.bool r) ∧ Ext w0 w' := by
  unfold impl_rowsValid at hF
  refine calls_E Try.func72 rfl rfl (of_decide_eq_true rfl) ?_
  have hS := Sat.start w0
  refine cw_seq ?_
  refine cw_gen ?_
  intro Q101 hQ101
  refine cw_reg ?_
  refine el_pv (v := .bool false) (pv_assign rfl) (by decide) ?_
  refine el_nil ?_
  refine hQ101 _ _ _ ?_
  refine thn_n ?_
  refine cw_seq ?_
  refine cw_gen ?_
  intro Q102 hQ102
  refine cw_seq ?_
  refine cw_gen ?_
  intro Q103 hQ103
  refine cw_reg ?_
  refine el_pv (v := .int .i64 a0) (pv_move rfl) (by decide) ?_
  replace hF := ob hF
  obtain ⟨r104, hr104, hF⟩ := hF
  refine el_call goes76 (impl_within_ok hr104) (congrArg List.toArray (mapc rfl (mapc rfl (mapc rfl rfl)))) (by decide) ?_
  rintro _ w105 ⟨rfl, hx106⟩
  refine ⟨_, rfl, ?_⟩
  replace hS := hS.ext hx106
  refine el_pv (v := .bool (!r104)) (pv_not rfl) (by decide) ?_
  refine el_pv (v := .bool (!r104)) (pv_move rfl) (by decide) ?_
  replace hF := oif hF
  rcases hF with ⟨hb107, hF⟩ | ⟨hb107, hF⟩
  · refine el_on rfl (bnot_t hb107) ?_
    refine el_pv (v := u1) (pv_move rfl) (by decide) ?_
    refine el_on rfl (bnot_t hb107) ?_
    refine el_pv (v := .int .i64 (a1.length : Int)) (pv_len rfl ha1) (by decide) ?_
    refine el_on rfl (bnot_t hb107) ?_
    refine el_pv (v := .bool (decide (4000 < (a1.length : Int)))) (pv_gtr rfl rfl) (by decide) ?_
    refine el_pv (v := .bool (decide (4000 < (a1.length : Int)))) (pv_pick_f rfl (bnot_t hb107) rfl) (by decide) ?_
    refine el_nil ?_
    refine hQ103 _ _ _ ?_
    refine thn_n ?_
    replace hF := oif hF
    rcases hF with ⟨hb108, hF⟩ | ⟨hb108, hF⟩
    · refine cw_cond_t rfl hb108 ?_
      refine cw_seq ?_
      refine cw_gen ?_
      intro Q109 hQ109
      refine cw_reg ?_
      refine el_pv (v := .bool false) (pv_assign rfl) (by decide) ?_
      refine el_nil ?_
      refine hQ109 _ _ _ ?_
      refine thn_n ?_
      refine cw_ret ?_
      refine hQ102 _ _ _ ?_
      refine thn_r ?_
      refine fin1 rfl rfl ?_
      have hr := Option.some.inj hF
      exact ⟨congrArg (fun (r : Bool) => Ending.returned (.bool r)) hr, hS.below⟩
    · refine cw_cond_f rfl hb108 ?_
      refine cw_skip ?_
      refine hQ102 _ _ _ ?_
      refine thn_n ?_
      refine cw_seq ?_
      refine cw_gen ?_
      intro Q110 hQ110
      refine cw_seq ?_
      refine cw_gen ?_
      intro Q111 hQ111
      refine cw_reg ?_
      refine el_pv (v := u1) (pv_move rfl) (by decide) ?_
      refine el_pv (v := .int .i64 (a1.length : Int)) (pv_len rfl ha1) (by decide) ?_
      refine el_pv (v := .int .i64 0) (pv_move rfl) (by decide) ?_
      refine el_nil ?_
      refine hQ111 _ _ _ ?_
      refine thn_n ?_
      refine cw_block ?_
      refine cw_gen ?_
      intro Q112 hQ112
      obtain ⟨s113, hL, hK114⟩ := ob hF
      refine cw_loopS (fun k e w => ∃ (x115 : Int), e 0 = .int .i64 a0 ∧ e 1 = u1 ∧ e 15 = u1 ∧ e 16 = .int .i64 (a1.length : Int) ∧ e 17 = .int .i64 x115 ∧ Sat w0 w [] ∧ impl_rowsValid_L1 N k a0 a1 a1 (a1.length : Int) x115 = some s113) N ?_ ?_ ?_
      · exact ⟨0, rfl, rfl, rfl, rfl, rfl, hS, hL⟩
      · rintro e w ⟨_, _, _, _, _, _, _, hz⟩; exact nomatch (show none = some _ from hz)
      · rintro k e122 w121 ⟨x115, he116, he117, he118, he119, he120, hS, hF⟩
        refine cw_gen ?_
        intro Q123 hQ123
        refine cw_seq ?_
        refine cw_gen ?_
        intro Q124 hQ124
        refine cw_reg ?_
        refine el_pv (v := .bool (decide (x115 < (a1.length : Int)))) (pv_lss he120 he119) (by decide) ?_
        refine el_nil ?_
        refine hQ124 _ _ _ ?_
        refine thn_n ?_
        refine cw_seq ?_
        refine cw_gen ?_
        intro Q125 hQ125
        replace hF := oif hF
        rcases hF with ⟨hb126, hF⟩ | ⟨hb126, hF⟩
        · refine cw_cond_t rfl hb126 ?_
          refine cw_skip ?_
          refine hQ125 _ _ _ ?_
          refine thn_n ?_
          refine cw_seq ?_
          refine cw_gen ?_
          intro Q127 hQ127
          refine cw_block ?_
          refine cw_gen ?_
          intro Q128 hQ128
          refine cw_seq ?_
          refine cw_gen ?_
          intro Q129 hQ129
          refine cw_reg ?_
          refine el_pv (v := .int .i64 x115) (pv_move he120) (by decide) ?_
          replace hF := ob hF
          obtain ⟨x130, hx130, hF⟩ := hF
          refine el_index (wA := w0) he118 ha1 rfl (by decide) he120 hx130 (by decide) ?_
          intro b131 of132 c133 hr134 hm135
          obtain ⟨v136, rfl⟩ := slice_one hr134
          refine el_pv (v := v136) (pv_loadc rfl ((cells_up hS.below hm135) 0 _ rfl)) (by decide) ?_
          refine el_pv (v := .int .i64 x115) (pv_assign rfl) (by decide) ?_
          refine el_pv (v := v136) (pv_assign rfl) (by decide) ?_
          refine el_nil ?_
          refine hQ129 _ _ _ ?_
          refine thn_n ?_
          refine cw_seq ?_
          refine cw_gen ?_
          intro Q137 hQ137
          refine cw_reg ?_
          refine el_pv (v := v136) (pv_move rfl) (by decide) ?_
          refine el_pv (v := .int .i64 (x130.length : Int)) (pv_len rfl hr134) (by decide) ?_
          refine el_pv (v := .int .i64 a0) (pv_move he116) (by decide) ?_
          refine el_pv (v := .bool ((x130.length : Int) != a0)) (pv_neq rfl rfl) (by decide) ?_
          refine el_pv (v := .bool ((x130.length : Int) != a0)) (pv_move rfl) (by decide) ?_
          replace hF := oif hF
          rcases hF with ⟨hb138, hF⟩ | ⟨hb138, hF⟩
          · refine el_off rfl hb138 rfl (by decide) ?_
            refine el_off rfl hb138 rfl (by decide) ?_
            refine el_off rfl hb138 rfl (by decide) ?_
            refine el_pv (v := .bool true) (pv_pick_t rfl hb138 rfl) (by decide) ?_
            refine el_pv (v := .bool true) (pv_move rfl) (by decide) ?_
            refine el_off rfl rfl rfl (by decide) ?_
            refine el_off rfl rfl rfl (by decide) ?_
            refine el_off rfl rfl rfl (by decide) ?_
            refine el_offu rfl (by decide) ?_
            refine el_offu rfl (by decide) ?_
            refine el_offu rfl (by decide) ?_
            refine el_offu rfl (by decide) ?_
            refine el_offu rfl (by decide) ?_
            refine el_offu rfl (by decide) ?_
            refine el_offu rfl (by decide) ?_
            refine el_offu rfl (by decide) ?_
            refine el_off rfl rfl rfl (by decide) ?_
            refine el_pv (v := .bool true) (pv_pick_t rfl rfl rfl) (by decide) ?_
            refine el_nil ?_
            refine hQ137 _ _ _ ?_
            refine thn_n ?_
            refine cw_cond_t rfl rfl ?_
            refine cw_seq ?_
            refine cw_gen ?_
            intro Q139 hQ139
            refine cw_reg ?_
            refine el_pv (v := .bool false) (pv_assign rfl) (by decide) ?_
            refine el_nil ?_
            refine hQ139 _ _ _ ?_
            refine thn_n ?_
            refine cw_ret ?_
            refine hQ128 _ _ _ ?_
            refine inb_r ?_
            refine hQ127 _ _ _ ?_
            refine thn_r ?_
            refine hQ123 _ _ _ ?_
            refine thn_r ?_
            refine hQ112 _ _ _ ?_
            refine inb_r ?_
            refine hQ110 _ _ _ ?_
            refine thn_r ?_
            replace hF := exL hF hK114
            refine fin1 rfl rfl ?_
            have hr := Option.some.inj hF
            exact ⟨congrArg (fun (r : Bool) => Ending.returned (.bool r)) hr, hS.below⟩
          · refine el_on rfl hb138 ?_
            refine el_pv (v := v136) (pv_move rfl) (by decide) ?_
            refine el_on rfl hb138 ?_
            replace hF := ob hF
            obtain ⟨r140, hr140, hF⟩ := hF
            refine el_call goes77 (impl_AreValidValues_ok (hS.up hr134) hr140) (congrArg List.toArray (mapc rfl rfl)) (by decide) ?_
            rintro _ w141 ⟨rfl, hx142⟩
            refine ⟨_, rfl, ?_⟩
            replace hS := hS.ext hx142
            refine el_on rfl hb138 ?_
            refine el_pv (v := .bool (!r140)) (pv_not rfl) (by decide) ?_
            refine el_pv (v := .bool (!r140)) (pv_pick_f rfl hb138 rfl) (by decide) ?_
            refine el_pv (v := .bool (!r140)) (pv_move rfl) (by decide) ?_
            replace hF := oif hF
            rcases hF with ⟨hb143, hF⟩ | ⟨hb143, hF⟩
            · refine el_on rfl (bnot_t hb143) ?_
              refine el_pv (v := .int .i64 x115) (pv_move rfl) (by decide) ?_
              refine el_on rfl (bnot_t hb143) ?_
              refine el_pv (v := .bool (decide (0 < x115))) (pv_gtr rfl rfl) (by decide) ?_
              refine el_on rfl (bnot_t hb143) ?_
              refine el_pv (v := .bool (decide (0 < x115))) (pv_move rfl) (by decide) ?_
              replace hF := oif hF
              rcases hF with ⟨hb144, hF⟩ | ⟨hb144, hF⟩
              · refine el_on rfl hb144 ?_
                refine el_pv (v := u1) (pv_move he117) (by decide) ?_
                refine el_on rfl hb144 ?_
                refine el_pv (v := .int .i64 x115) (pv_move rfl) (by decide) ?_
                refine el_on rfl hb144 ?_
                replace hF := ob hF
                obtain ⟨x145, hx145, hF⟩ := hF
                refine el_pv (v := .int .i64 x145) (pv_sub rfl rfl hx145) (by decide) ?_
                refine el_on rfl hb144 ?_
                replace hF := ob hF
                obtain ⟨x146, hx146, hF⟩ := hF
                refine el_index (wA := w0) rfl ha1 rfl (by decide) rfl hx146 (by decide) ?_
                intro b147 of148 c149 hr150 hm151
                obtain ⟨v152, rfl⟩ := slice_one hr150
                refine el_on rfl hb144 ?_
                refine el_pv (v := v152) (pv_loadc rfl ((cells_up hS.below hm151) 0 _ rfl)) (by decide) ?_
                refine el_on rfl hb144 ?_
                refine el_pv (v := v136) (pv_move rfl) (by decide) ?_
                refine el_on rfl hb144 ?_
                replace hF := ob hF
                obtain ⟨r153, hr153, hF⟩ := hF
                refine el_call goes73 (impl_CompareRows_ok (hS.up hr150) (hS.up hr134) hr153) (congrArg List.toArray (mapc rfl (mapc rfl rfl))) (by decide) ?_
                rintro _ w154 ⟨rfl, hx155⟩
                refine ⟨_, rfl, ?_⟩
                replace hS := hS.ext hx155
                refine el_on rfl hb144 ?_
                refine el_pv (v := .bool (decide (0 ≤ r153))) (pv_geq rfl rfl) (by decide) ?_
                refine el_on rfl (bnot_t hb143) ?_
                refine el_pv (v := .bool (decide (0 ≤ r153))) (pv_pick_t rfl hb144 rfl) (by decide) ?_
                refine el_pv (v := .bool (decide (0 ≤ r153))) (pv_pick_f rfl (bnot_t hb143) rfl) (by decide) ?_
                refine el_nil ?_
                refine hQ137 _ _ _ ?_
                refine thn_n ?_
                replace hF := oif hF
                rcases hF with ⟨hb156, hF⟩ | ⟨hb156, hF⟩
                · refine cw_cond_t rfl hb156 ?_
                  refine cw_seq ?_
                  refine cw_gen ?_
                  intro Q157 hQ157
                  refine cw_reg ?_
                  refine el_pv (v := .bool false) (pv_assign rfl) (by decide) ?_
                  refine el_nil ?_
                  refine hQ157 _ _ _ ?_
                  refine thn_n ?_
                  refine cw_ret ?_
                  refine hQ128 _ _ _ ?_
                  refine inb_r ?_
                  refine hQ127 _ _ _ ?_
                  refine thn_r ?_
                  refine hQ123 _ _ _ ?_
                  refine thn_r ?_
                  refine hQ112 _ _ _ ?_
                  refine inb_r ?_
                  refine hQ110 _ _ _ ?_
                  refine thn_r ?_
                  replace hF := exL hF hK114
                  refine fin1 rfl rfl ?_
                  have hr := Option.some.inj hF
                  exact ⟨congrArg (fun (r : Bool) => Ending.returned (.bool r)) hr, hS.below⟩
                · refine cw_cond_f rfl hb156 ?_
                  refine cw_skip ?_
                  refine hQ128 _ _ _ ?_
                  refine inb_n ?_
                  refine hQ127 _ _ _ ?_
                  refine thn_n ?_
                  refine cw_reg ?_
                  replace hF := ob hF
                  obtain ⟨x158, hx158, hF⟩ := hF
                  refine el_pv (v := .int .i64 x158) (pv_add he120 rfl hx158) (by decide) ?_
                  refine el_pv (v := .int .i64 x158) (pv_move rfl) (by decide) ?_
                  refine el_nil ?_
                  refine hQ123 _ _ _ ?_
                  refine thn_n ?_
                  replace hS := hS.keep 0
                  exact ⟨x158, he116, he117, he118, he119, rfl, hS, hF⟩
              · refine el_off rfl hb144 rfl (by decide) ?_
                refine el_off rfl hb144 rfl (by decide) ?_
                refine el_off rfl hb144 rfl (by decide) ?_
                refine el_off rfl hb144 rfl (by decide) ?_
                refine el_off rfl hb144 rfl (by decide) ?_
                refine el_off rfl hb144 rfl (by decide) ?_
                refine el_off rfl hb144 rfl (by decide) ?_
                refine el_off rfl hb144 rfl (by decide) ?_
                refine el_on rfl (bnot_t hb143) ?_
                refine el_pv (v := .bool false) (pv_pick_f rfl hb144 rfl) (by decide) ?_
                refine el_pv (v := .bool false) (pv_pick_f rfl (bnot_t hb143) rfl) (by decide) ?_
                refine el_nil ?_
                refine hQ137 _ _ _ ?_
                refine thn_n ?_
                refine cw_cond_f rfl rfl ?_
                refine cw_skip ?_
                refine hQ128 _ _ _ ?_
                refine inb_n ?_
                refine hQ127 _ _ _ ?_
                refine thn_n ?_
                refine cw_reg ?_
                replace hF := ob hF
                obtain ⟨x159, hx159, hF⟩ := hF
                refine el_pv (v := .int .i64 x159) (pv_add he120 rfl hx159) (by decide) ?_
                refine el_pv (v := .int .i64 x159) (pv_move rfl) (by decide) ?_
                refine el_nil ?_
                refine hQ123 _ _ _ ?_
                refine thn_n ?_
                replace hS := hS.keep 0
                exact ⟨x159, he116, he117, he118, he119, rfl, hS, hF⟩
            · refine el_off rfl (bnot_f hb143) rfl (by decide) ?_
              refine el_off rfl (bnot_f hb143) rfl (by decide) ?_
              refine el_off rfl (bnot_f hb143) rfl (by decide) ?_
              refine el_offu rfl (by decide) ?_
              refine el_offu rfl (by decide) ?_
              refine el_offu rfl (by decide) ?_
              refine el_offu rfl (by decide) ?_
              refine el_offu rfl (by decide) ?_
              refine el_offu rfl (by decide) ?_
              refine el_offu rfl (by decide) ?_
              refine el_offu rfl (by decide) ?_
              refine el_off rfl (bnot_f hb143) rfl (by decide) ?_
              refine el_pv (v := .bool true) (pv_pick_t rfl (bnot_f hb143) rfl) (by decide) ?_
              refine el_nil ?_
              refine hQ137 _ _ _ ?_
              refine thn_n ?_
              refine cw_cond_t rfl rfl ?_
              refine cw_seq ?_
              refine cw_gen ?_
              intro Q160 hQ160
              refine cw_reg ?_
              refine el_pv (v := .bool false) (pv_assign rfl) (by decide) ?_
              refine el_nil ?_
              refine hQ160 _ _ _ ?_
              refine thn_n ?_
              refine cw_ret ?_
              refine hQ128 _ _ _ ?_
              refine inb_r ?_
              refine hQ127 _ _ _ ?_
              refine thn_r ?_
              refine hQ123 _ _ _ ?_
              refine thn_r ?_
              refine hQ112 _ _ _ ?_
              refine inb_r ?_
              refine hQ110 _ _ _ ?_
              refine thn_r ?_
              replace hF := exL hF hK114
              refine fin1 rfl rfl ?_
              have hr := Option.some.inj hF
              exact ⟨congrArg (fun (r : Bool) => Ending.returned (.bool r)) hr, hS.below⟩
        · refine cw_cond_f rfl hb126 ?_
          refine cw_exit ?_
          refine hQ125 _ _ _ ?_
          refine thn_x ?_
          refine hQ123 _ _ _ ?_
          refine thn_x ?_
          replace hF := exA hF hK114
          refine hQ112 _ _ _ ?_
          refine inb_s ?_
          refine hQ110 _ _ _ ?_
          refine thn_n ?_
          refine cw_seq ?_
          refine cw_gen ?_
          intro Q161 hQ161
          refine cw_reg ?_
          refine el_pv (v := .bool true) (pv_assign rfl) (by decide) ?_
          refine el_nil ?_
          refine hQ161 _ _ _ ?_
          refine thn_n ?_
          refine cw_ret ?_
          refine fin1 rfl rfl ?_
          have hr := Option.some.inj hF
          exact ⟨congrArg (fun (r : Bool) => Ending.returned (.bool r)) hr, hS.below⟩
  · refine el_off rfl (bnot_f hb107) rfl (by decide) ?_
    refine el_off rfl (bnot_f hb107) rfl (by decide) ?_
    refine el_off rfl (bnot_f hb107) rfl (by decide) ?_
    refine el_pv (v := .bool true) (pv_pick_t rfl (bnot_f hb107) rfl) (by decide) ?_
    refine el_nil ?_
    refine hQ103 _ _ _ ?_
    refine thn_n ?_
    refine cw_cond_t rfl rfl ?_
    refine cw_seq ?_
    refine cw_gen ?_
    intro Q162 hQ162
    refine cw_reg ?_
    refine el_pv (v := .bool false) (pv_assign rfl) (by decide) ?_
    refine el_nil ?_
    refine hQ162 _ _ _ ?_
    refine thn_n ?_
    refine cw_ret ?_
    refine hQ102 _ _ _ ?_
    refine thn_r ?_
    refine fin1 rfl rfl ?_
    have hr := Option.some.inj hF
    exact ⟨congrArg (fun (r : Bool) => Ending.returned (.bool r)) hr, hS.below⟩
set_option maxHeartbeats 4000000 in
theorem impl_IsValidRelation_ok {w0 : World} {a0 : Int} {u1 : Value} {a1 : List (List Int)} (ha1 : (sliceR (sliceR intR 3) 24).rd w0 [u1] a1) {N : Nat} {r : Bool} (hF : impl_IsValidRelation N a0 a1 = some r) :
    Calls Try.prog 60 #[.agg #[.int .i64 a0, u1]] w0 fun e w' => e = .returned (.bool r) ∧ Ext w0 w' := by
  unfold impl_IsValidRelation at hF
  refine calls_E Try.func60 rfl rfl (of_decide_eq_true rfl) ?_
  have hS := Sat.start w0
  refine cw_seq ?_
  refine cw_gen ?_
  intro Q101 hQ101
  refine cw_reg ?_
  refine el_box [.int .i64 a0, u1] rfl hS (by decide) ?_
  intro w102 b103 hS hx104
  refine el_pv (v := .bool false) (pv_assign rfl) (by decide) ?_
  refine el_nil ?_
  refine hQ101 _ _ _ ?_
  refine thn_n ?_
  refine cw_seq ?_
  refine cw_gen ?_
  intro Q106 hQ106
  refine cw_reg ?_
  refine el_pv (v := .pointer (some ⟨b103, 0 + 0, none⟩)) (pv_fieldAddr rfl) (by decide) ?_
  refine el_pv (v := .int .i64 a0) (pv_loadc rfl ((hS.boxAt 0 rfl) 0 _ rfl)) (by decide) ?_
  refine el_pv (v := .pointer (some ⟨b103, 0 + 1, none⟩)) (pv_fieldAddr rfl) (by decide) ?_
  refine el_pv (v := u1) (pv_loadc rfl ((hS.boxAt 0 rfl) 1 _ rfl)) (by decide) ?_
  replace hF := ob hF
  obtain ⟨r107, hr107, hF⟩ := hF
  refine el_call goes72 (impl_rowsValid_ok (hS.up ha1) hr107) (congrArg List.toArray (mapc rfl (mapc rfl rfl))) (by decide) ?_
  rintro _ w108 ⟨rfl, hx109⟩
  refine ⟨_, rfl, ?_⟩
  replace hS := hS.ext hx109
  refine el_pv (v := .bool r107) (pv_assign rfl) (by decide) ?_
  refine el_nil ?_
  refine hQ106 _ _ _ ?_
  refine thn_n ?_
  refine cw_ret ?_
  refine fin1 rfl rfl ?_
  have hr := Option.some.inj hF
  exact ⟨congrArg (fun (r : Bool) => Ending.returned (.bool r)) hr, hS.below⟩
set_option maxHeartbeats 4000000 in
theorem impl_isLetters_ok {w0 : World} {a0 : ByteArray} {a1 : Int} (_ : a0.size ≤ 9223372036854775807) {N : Nat} {r : Bool} (hF : impl_isLetters N a0 a1 = some r) :
    Calls Try.prog 79 #[.string a0, .int .i64 a1] w0 fun e w' => e = .returned (.bool r) ∧ Ext w0 w' := by
  unfold impl_isLetters at hF
  refine calls_E Try.func79 rfl rfl (of_decide_eq_true rfl) ?_
  have hS := Sat.start w0
  refine cw_seq ?_
  refine cw_gen ?_
  intro Q101 hQ101
  refine cw_reg ?_
  refine el_pv (v := .bool false) (pv_assign rfl) (by decide) ?_
  refine el_nil ?_
  refine hQ101 _ _ _ ?_
  refine thn_n ?_
  refine cw_seq ?_
  refine cw_gen ?_
  intro Q102 hQ102
  refine cw_seq ?_
  refine cw_gen ?_
  intro Q103 hQ103
  refine cw_reg ?_
  refine el_pv (v := .string a0) (pv_move rfl) (by decide) ?_
  refine el_pv (v := .int .i64 (a0.size : Int)) (pv_lenS Try.underlying9 rfl) (by decide) ?_
  refine el_pv (v := .bool (decide ((a0.size : Int) < 1))) (pv_lss rfl rfl) (by decide) ?_
  refine el_pv (v := .bool (decide ((a0.size : Int) < 1))) (pv_move rfl) (by decide) ?_
  replace hF := oif hF
  rcases hF with ⟨hb104, hF⟩ | ⟨hb104, hF⟩
  · refine el_off rfl hb104 rfl (by decide) ?_
    refine el_off rfl hb104 rfl (by decide) ?_
    refine el_off rfl hb104 rfl (by decide) ?_
    refine el_off rfl hb104 rfl (by decide) ?_
    refine el_pv (v := .bool true) (pv_pick_t rfl hb104 rfl) (by decide) ?_
    refine el_nil ?_
    refine hQ103 _ _ _ ?_
    refine thn_n ?_
    refine cw_cond_t rfl rfl ?_
    refine cw_seq ?_
    refine cw_gen ?_
    intro Q105 hQ105
    refine cw_reg ?_
    refine el_pv (v := .bool false) (pv_assign rfl) (by decide) ?_
    refine el_nil ?_
    refine hQ105 _ _ _ ?_
    refine thn_n ?_
    refine cw_ret ?_
    refine hQ102 _ _ _ ?_
    refine thn_r ?_
    refine fin1 rfl rfl ?_
    have hr := Option.some.inj hF
    exact ⟨congrArg (fun (r : Bool) => Ending.returned (.bool r)) hr, hS.below⟩
  · refine el_on rfl hb104 ?_
    refine el_pv (v := .string a0) (pv_move rfl) (by decide) ?_
    refine el_on rfl hb104 ?_
    refine el_pv (v := .int .i64 (a0.size : Int)) (pv_lenS Try.underlying9 rfl) (by decide) ?_
    refine el_on rfl hb104 ?_
    refine el_pv (v := .int .i64 a1) (pv_move rfl) (by decide) ?_
    refine el_on rfl hb104 ?_
    refine el_pv (v := .bool (decide (a1 < (a0.size : Int)))) (pv_gtr rfl rfl) (by decide) ?_
    refine el_pv (v := .bool (decide (a1 < (a0.size : Int)))) (pv_pick_f rfl hb104 rfl) (by decide) ?_
    refine el_nil ?_
    refine hQ103 _ _ _ ?_
    refine thn_n ?_
    replace hF := oif hF
    rcases hF with ⟨hb106, hF⟩ | ⟨hb106, hF⟩
    · refine cw_cond_t rfl hb106 ?_
      refine cw_seq ?_
      refine cw_gen ?_
      intro Q107 hQ107
      refine cw_reg ?_
      refine el_pv (v := .bool false) (pv_assign rfl) (by decide) ?_
      refine el_nil ?_
      refine hQ107 _ _ _ ?_
      refine thn_n ?_
      refine cw_ret ?_
      refine hQ102 _ _ _ ?_
      refine thn_r ?_
      refine fin1 rfl rfl ?_
      have hr := Option.some.inj hF
      exact ⟨congrArg (fun (r : Bool) => Ending.returned (.bool r)) hr, hS.below⟩
    · refine cw_cond_f rfl hb106 ?_
      refine cw_skip ?_
      refine hQ102 _ _ _ ?_
      refine thn_n ?_
      refine cw_seq ?_
      refine cw_gen ?_
      intro Q108 hQ108
      refine cw_seq ?_
      refine cw_gen ?_
      intro Q109 hQ109
      refine cw_reg ?_
      refine el_pv (v := .int .i64 0) (pv_assign rfl) (by decide) ?_
      refine el_nil ?_
      refine hQ109 _ _ _ ?_
      refine thn_n ?_
      refine cw_block ?_
      refine cw_gen ?_
      intro Q110 hQ110
      obtain ⟨s111, hL, hK112⟩ := ob hF
      refine cw_loopS (fun k e w => ∃ (x113 : Int), e 0 = .string a0 ∧ e 5 = .int .i64 x113 ∧ Sat w0 w [] ∧ impl_isLetters_L1 N k a0 x113 = some s111) N ?_ ?_ ?_
      · exact ⟨0, rfl, rfl, hS, hL⟩
      · rintro e w ⟨_, _, _, _, hz⟩; exact nomatch (show none = some _ from hz)
      · rintro k e117 w116 ⟨x113, he114, he115, hS, hF⟩
        refine cw_gen ?_
        intro Q118 hQ118
        refine cw_seq ?_
        refine cw_gen ?_
        intro Q119 hQ119
        refine cw_seq ?_
        refine cw_gen ?_
        intro Q120 hQ120
        refine cw_reg ?_
        refine el_pv (v := .int .i64 x113) (pv_move he115) (by decide) ?_
        refine el_pv (v := .string a0) (pv_move he114) (by decide) ?_
        refine el_pv (v := .int .i64 (a0.size : Int)) (pv_lenS Try.underlying9 rfl) (by decide) ?_
        refine el_pv (v := .bool (decide (x113 < (a0.size : Int)))) (pv_lss rfl rfl) (by decide) ?_
        refine el_nil ?_
        refine hQ120 _ _ _ ?_
        refine thn_n ?_
        replace hF := oif hF
        rcases hF with ⟨hb121, hF⟩ | ⟨hb121, hF⟩
        · refine cw_cond_t rfl hb121 ?_
          refine cw_skip ?_
          refine hQ119 _ _ _ ?_
          refine thn_n ?_
          refine cw_seq ?_
          refine cw_gen ?_
          intro Q122 hQ122
          refine cw_block ?_
          refine cw_gen ?_
          intro Q123 hQ123
          refine cw_seq ?_
          refine cw_gen ?_
          intro Q124 hQ124
          refine cw_reg ?_
          refine el_pv (v := .string a0) (pv_move he114) (by decide) ?_
          refine el_pv (v := .int .i64 x113) (pv_move he115) (by decide) ?_
          replace hF := ob hF
          obtain ⟨x125, hx125, hF⟩ := hF
          refine el_pv (v := .int .u8 x125) (pv_bx Try.underlying9 rfl rfl hx125) (by decide) ?_
          refine el_pv (v := .bool (decide (x125 < 97))) (pv_lss rfl rfl) (by decide) ?_
          refine el_pv (v := .bool (decide (x125 < 97))) (pv_move rfl) (by decide) ?_
          replace hF := oif hF
          rcases hF with ⟨hb126, hF⟩ | ⟨hb126, hF⟩
          · refine el_off rfl hb126 rfl (by decide) ?_
            refine el_off rfl hb126 rfl (by decide) ?_
            refine el_off rfl hb126 rfl (by decide) ?_
            refine el_off rfl hb126 rfl (by decide) ?_
            refine el_pv (v := .bool true) (pv_pick_t rfl hb126 rfl) (by decide) ?_
            refine el_nil ?_
            refine hQ124 _ _ _ ?_
            refine thn_n ?_
            refine cw_cond_t rfl rfl ?_
            refine cw_seq ?_
            refine cw_gen ?_
            intro Q127 hQ127
            refine cw_reg ?_
            refine el_pv (v := .bool false) (pv_assign rfl) (by decide) ?_
            refine el_nil ?_
            refine hQ127 _ _ _ ?_
            refine thn_n ?_
            refine cw_ret ?_
            refine hQ123 _ _ _ ?_
            refine inb_r ?_
            refine hQ122 _ _ _ ?_
            refine thn_r ?_
            refine hQ118 _ _ _ ?_
            refine thn_r ?_
            refine hQ110 _ _ _ ?_
            refine inb_r ?_
            refine hQ108 _ _ _ ?_
            refine thn_r ?_
            replace hF := exL hF hK112
            refine fin1 rfl rfl ?_
            have hr := Option.some.inj hF
            exact ⟨congrArg (fun (r : Bool) => Ending.returned (.bool r)) hr, hS.below⟩
          · refine el_on rfl hb126 ?_
            refine el_pv (v := .string a0) (pv_move he114) (by decide) ?_
            refine el_on rfl hb126 ?_
            refine el_pv (v := .int .i64 x113) (pv_move he115) (by decide) ?_
            refine el_on rfl hb126 ?_
            replace hF := ob hF
            obtain ⟨x128, hx128, hF⟩ := hF
            refine el_pv (v := .int .u8 x128) (pv_bx Try.underlying9 rfl rfl hx128) (by decide) ?_
            refine el_on rfl hb126 ?_
            refine el_pv (v := .bool (decide (122 < x128))) (pv_gtr rfl rfl) (by decide) ?_
            refine el_pv (v := .bool (decide (122 < x128))) (pv_pick_f rfl hb126 rfl) (by decide) ?_
            refine el_nil ?_
            refine hQ124 _ _ _ ?_
            refine thn_n ?_
            replace hF := oif hF
            rcases hF with ⟨hb129, hF⟩ | ⟨hb129, hF⟩
            · refine cw_cond_t rfl hb129 ?_
              refine cw_seq ?_
              refine cw_gen ?_
              intro Q130 hQ130
              refine cw_reg ?_
              refine el_pv (v := .bool false) (pv_assign rfl) (by decide) ?_
              refine el_nil ?_
              refine hQ130 _ _ _ ?_
              refine thn_n ?_
              refine cw_ret ?_
              refine hQ123 _ _ _ ?_
              refine inb_r ?_
              refine hQ122 _ _ _ ?_
              refine thn_r ?_
              refine hQ118 _ _ _ ?_
              refine thn_r ?_
              refine hQ110 _ _ _ ?_
              refine inb_r ?_
              refine hQ108 _ _ _ ?_
              refine thn_r ?_
              replace hF := exL hF hK112
              refine fin1 rfl rfl ?_
              have hr := Option.some.inj hF
              exact ⟨congrArg (fun (r : Bool) => Ending.returned (.bool r)) hr, hS.below⟩
            · refine cw_cond_f rfl hb129 ?_
              refine cw_skip ?_
              refine hQ123 _ _ _ ?_
              refine inb_n ?_
              refine hQ122 _ _ _ ?_
              refine thn_n ?_
              refine cw_reg ?_
              refine el_pv (v := .int .i64 x113) (pv_move he115) (by decide) ?_
              replace hF := ob hF
              obtain ⟨x131, hx131, hF⟩ := hF
              refine el_pv (v := .int .i64 x131) (pv_add rfl rfl hx131) (by decide) ?_
              refine el_pv (v := .int .i64 x131) (pv_assign rfl) (by decide) ?_
              refine el_nil ?_
              refine hQ118 _ _ _ ?_
              refine thn_n ?_
              replace hS := hS.keep 0
              exact ⟨x131, he114, rfl, hS, hF⟩
        · refine cw_cond_f rfl hb121 ?_
          refine cw_exit ?_
          refine hQ119 _ _ _ ?_
          refine thn_x ?_
          refine hQ118 _ _ _ ?_
          refine thn_x ?_
          replace hF := exA hF hK112
          refine hQ110 _ _ _ ?_
          refine inb_s ?_
          refine hQ108 _ _ _ ?_
          refine thn_n ?_
          refine cw_seq ?_
          refine cw_gen ?_
          intro Q132 hQ132
          refine cw_reg ?_
          refine el_pv (v := .bool true) (pv_assign rfl) (by decide) ?_
          refine el_nil ?_
          refine hQ132 _ _ _ ?_
          refine thn_n ?_
          refine cw_ret ?_
          refine fin1 rfl rfl ?_
          have hr := Option.some.inj hF
          exact ⟨congrArg (fun (r : Bool) => Ending.returned (.bool r)) hr, hS.below⟩
end Go.Proofs.Ytnanddmadghnnaa
