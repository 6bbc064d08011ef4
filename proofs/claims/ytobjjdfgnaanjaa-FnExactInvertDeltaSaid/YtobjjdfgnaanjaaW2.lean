/- The walks through functions of the program: each hands back what it comes to. No condition but that it comes to something. -/
import Derived.Test.YtobjjdfgnaanjaaW1
import Derived.Test.YtobjjdfgnaanjaaW2D
namespace Go.Proofs.Ytobjjdfgnaanjaa
open Go.RowKit
set_option maxRecDepth 100000
set_option maxHeartbeats 4000000 in
theorem laws_toRelation_ok {w0 : World} {a0 : Int} {u1 : Value} {a1 : List (List Int)} (ha1 : (sliceR (sliceR intR 3) 22).rd w0 [u1] a1) {N : Nat} {r : Int × List (List Int)} (hF : laws_toRelation N a0 a1 = some r) :
    Calls Try.prog 27 #[.agg #[.int .i64 a0, u1]] w0 fun e w' => ∃ q0, e = .returned (.agg #[.int .i64 r.1, q0]) ∧ Sat w0 w' [Own (sliceR (sliceR intR 3) 22) [q0] r.2] := by
  unfold laws_toRelation at hF
  refine calls_E Try.func27 rfl rfl (of_decide_eq_true rfl) ?_
  have hS := Sat.start w0
  refine cw_seq ?_
  refine cw_gen ?_
  intro Q101 hQ101
  refine cw_reg ?_
  refine el_box [.int .i64 a0, u1] rfl hS (by decide) ?_
  intro w102 b103 hS hx104
  refine el_alloc hS (by decide) ?_
  intro w106 b107 hS hx108
  refine el_nil ?_
  refine hQ101 _ _ _ ?_
  refine thn_n ?_
  refine cw_seq ?_
  refine cw_gen ?_
  intro Q110 hQ110
  refine cw_reg ?_
  refine el_alloc hS (by decide) ?_
  intro w111 b112 hS hx113
  refine el_nil ?_
  refine hQ110 _ _ _ ?_
  refine thn_n ?_
  refine cw_seq ?_
  refine cw_gen ?_
  intro Q115 hQ115
  refine cw_reg ?_
  refine el_pv (v := .pointer (some ⟨b103, 0 + 0, none⟩)) (pv_fieldAddr rfl) (by decide) ?_
  refine el_pv (v := .int .i64 a0) (pv_loadc rfl ((hS.boxAt 2 rfl) 0 _ rfl)) (by decide) ?_
  refine el_pv (v := .pointer (some ⟨b112, 0 + 0, none⟩)) (pv_fieldAddr rfl) (by decide) ?_
  refine el_storev (hS.top 0 rfl) rfl [.int .i64 a0] rfl rfl (of_decide_eq_true rfl) (all_cons rfl rfl) ?_
  intro w116 hS
  replace hS : Sat w0 w116 [Box b112 40 [.int .i64 a0, (.slice none 0 0)], Box b107 40 [.int .i64 0, (.slice none 0 0)], Box b103 35 [.int .i64 a0, u1]] := hS
  refine el_nil ?_
  refine hQ115 _ _ _ ?_
  refine thn_n ?_
  refine cw_seq ?_
  refine cw_gen ?_
  intro Q117 hQ117
  refine cw_reg ?_
  refine el_pv (v := .pointer (some ⟨b103, 0 + 1, none⟩)) (pv_fieldAddr rfl) (by decide) ?_
  refine el_pv (v := u1) (pv_loadc rfl ((hS.boxAt 2 rfl) 1 _ rfl)) (by decide) ?_
  replace hF := ob hF
  obtain ⟨r118, hr118, hF⟩ := hF
  refine el_call goes69 (laws_toIntSS_ok (hS.up ha1) hr118) (congrArg List.toArray (mapc rfl rfl)) (by decide) ?_
  rintro _ w121 ⟨v119, rfl, hS'⟩
  refine ⟨_, rfl, ?_⟩
  have hx122 := hS'.below
  replace hS := hS.call1 hS'
  refine el_pv (v := .pointer (some ⟨b112, 0 + 1, none⟩)) (pv_fieldAddr rfl) (by decide) ?_
  refine el_storev (hS.top 1 rfl) rfl [v119] (cells_of rfl (oc (hS.rdAt (R := (sliceR (sliceR intR 3) 22)) 0 rfl))) rfl (of_decide_eq_true rfl) (all_cons (oc (hS.rdAt (R := (sliceR (sliceR intR 3) 22)) 0 rfl)) rfl) ?_
  intro w123 hS
  replace hS : Sat w0 w123 [Box b112 40 [.int .i64 a0, v119], Own (sliceR (sliceR intR 3) 22) [v119] r118, Box b107 40 [.int .i64 0, (.slice none 0 0)], Box b103 35 [.int .i64 a0, u1]] := hS
  refine el_nil ?_
  refine hQ117 _ _ _ ?_
  refine thn_n ?_
  refine cw_seq ?_
  refine cw_gen ?_
  intro Q124 hQ124
  refine cw_reg ?_
  refine el_pv (v := .agg #[.int .i64 a0, v119]) (pv_loada (cs := [.int .i64 a0, v119]) rfl rfl (boxc0 (hS.boxAt 0 rfl))) (by decide) ?_
  refine el_storev (hS.top 2 rfl) rfl [.int .i64 a0, v119] rfl rfl (of_decide_eq_true rfl) (all_cons rfl (all_cons (oc (hS.rdAt (R := (sliceR (sliceR intR 3) 22)) 1 rfl)) rfl)) ?_
  intro w125 hS
  replace hS : Sat w0 w125 [Box b107 40 [.int .i64 a0, v119], Box b112 40 [.int .i64 a0, v119], Own (sliceR (sliceR intR 3) 22) [v119] r118, Box b103 35 [.int .i64 a0, u1]] := hS
  refine el_nil ?_
  refine hQ124 _ _ _ ?_
  refine thn_n ?_
  refine cw_ret ?_
  refine finC (cs := [.int .i64 a0, v119]) rfl rfl rfl (boxc0 (hS.boxAt 0 rfl))  ?_
  replace hS : Sat w0 w125 [Own (sliceR (sliceR intR 3) 22) [v119] r118, Box b107 40 [.int .i64 a0, v119], Box b112 40 [.int .i64 a0, v119], Box b103 35 [.int .i64 a0, u1]] := hS.top 2 rfl
  have hr := Option.some.inj hF
  exact ⟨v119, congrArg (fun (r : Int × List (List Int)) => Ending.returned (.agg #[.int .i64 r.1, v119])) hr, Eq.mp (congrArg (fun (r : Int × List (List Int)) => Sat w0 w125 [Own (sliceR (sliceR intR 3) 22) [v119] r.2]) hr) (hS.keep 1)⟩
set_option maxHeartbeats 4000000 in
theorem laws_toDelta_ok {w0 : World} {a0 : ByteArray} {a1 : Int} {u2 : Value} {a2 : List (List Int)} {a3 : Int} {u4 : Value} {a4 : List (List Int)} (ha0 : a0.size ≤ 9223372036854775807) (ha2 : (sliceR (sliceR intR 3) 22).rd w0 [u2] a2) (ha4 : (sliceR (sliceR intR 3) 22).rd w0 [u4] a4) {N : Nat} {r : ByteArray × (Int × List (List Int)) × (Int × List (List Int))} (hF : laws_toDelta N a0 a1 a2 a3 a4 = some r) :
    Calls Try.prog 16 #[.agg #[.string a0, .int .i64 a1, u2, .int .i64 a3, u4]] w0 fun e w' => ∃ q0 q1, e = .returned (.agg #[.string r.1, .int .i64 r.2.1.1, q0, .int .i64 r.2.2.1, q1]) ∧ Sat w0 w' [Own (sliceR (sliceR intR 3) 22) [q0] r.2.1.2, Own (sliceR (sliceR intR 3) 22) [q1] r.2.2.2] ∧ r.1.size ≤ 9223372036854775807 := by
  unfold laws_toDelta at hF
  refine calls_E Try.func16 rfl rfl (of_decide_eq_true rfl) ?_
  have hS := Sat.start w0
  refine cw_seq ?_
  refine cw_gen ?_
  intro Q101 hQ101
  refine cw_reg ?_
  refine el_box [.string a0, .int .i64 a1, u2, .int .i64 a3, u4] rfl hS (by decide) ?_
  intro w102 b103 hS hx104
  refine el_alloc hS (by decide) ?_
  intro w106 b107 hS hx108
  refine el_nil ?_
  refine hQ101 _ _ _ ?_
  refine thn_n ?_
  refine cw_seq ?_
  refine cw_gen ?_
  intro Q110 hQ110
  refine cw_reg ?_
  refine el_alloc hS (by decide) ?_
  intro w111 b112 hS hx113
  refine el_nil ?_
  refine hQ110 _ _ _ ?_
  refine thn_n ?_
  refine cw_seq ?_
  refine cw_gen ?_
  intro Q115 hQ115
  refine cw_reg ?_
  refine el_pv (v := .pointer (some ⟨b103, 0 + 0, none⟩)) (pv_fieldAddr rfl) (by decide) ?_
  refine el_pv (v := .string a0) (pv_loadc rfl ((hS.boxAt 2 rfl) 0 _ rfl)) (by decide) ?_
  refine el_pv (v := .pointer (some ⟨b112, 0 + 0, none⟩)) (pv_fieldAddr rfl) (by decide) ?_
  refine el_storev (hS.top 0 rfl) rfl [.string a0] rfl rfl (of_decide_eq_true rfl) (all_cons rfl rfl) ?_
  intro w116 hS
  replace hS : Sat w0 w116 [Box b112 42 [.string a0, .int .i64 0, (.slice none 0 0), .int .i64 0, (.slice none 0 0)], Box b107 42 [.string ByteArray.empty, .int .i64 0, (.slice none 0 0), .int .i64 0, (.slice none 0 0)], Box b103 37 [.string a0, .int .i64 a1, u2, .int .i64 a3, u4]] := hS
  refine el_nil ?_
  refine hQ115 _ _ _ ?_
  refine thn_n ?_
  refine cw_seq ?_
  refine cw_gen ?_
  intro Q117 hQ117
  refine cw_reg ?_
  refine el_pv (v := .pointer (some ⟨b103, 0 + 1, none⟩)) (pv_fieldAddr rfl) (by decide) ?_
  refine el_pv (v := .agg #[.int .i64 a1, u2]) (pv_loada (cs := [.int .i64 a1, u2]) rfl rfl (boxc (hS.boxAt 2 rfl) 1 2)) (by decide) ?_
  replace hF := ob hF
  obtain ⟨r118, hr118, hF⟩ := hF
  refine el_call goes27 (laws_toRelation_ok (hS.up ha2) hr118) (congrArg List.toArray (mapc rfl rfl)) (by decide) ?_
  rintro _ w121 ⟨v119, rfl, hS'⟩
  refine ⟨_, rfl, ?_⟩
  have hx122 := hS'.below
  replace hS := hS.call1 hS'
  refine el_pv (v := .pointer (some ⟨b112, 0 + 1, none⟩)) (pv_fieldAddr rfl) (by decide) ?_
  refine el_storev (hS.top 1 rfl) rfl [.int .i64 r118.1, v119] rfl rfl (of_decide_eq_true rfl) (all_cons rfl (all_cons (oc (hS.rdAt (R := (sliceR (sliceR intR 3) 22)) 0 rfl)) rfl)) ?_
  intro w123 hS
  replace hS : Sat w0 w123 [Box b112 42 [.string a0, .int .i64 r118.1, v119, .int .i64 0, (.slice none 0 0)], Own (sliceR (sliceR intR 3) 22) [v119] r118.2, Box b107 42 [.string ByteArray.empty, .int .i64 0, (.slice none 0 0), .int .i64 0, (.slice none 0 0)], Box b103 37 [.string a0, .int .i64 a1, u2, .int .i64 a3, u4]] := hS
  refine el_nil ?_
  refine hQ117 _ _ _ ?_
  refine thn_n ?_
  refine cw_seq ?_
  refine cw_gen ?_
  intro Q124 hQ124
  refine cw_reg ?_
  refine el_pv (v := .pointer (some ⟨b103, 0 + 3, none⟩)) (pv_fieldAddr rfl) (by decide) ?_
  refine el_pv (v := .agg #[.int .i64 a3, u4]) (pv_loada (cs := [.int .i64 a3, u4]) rfl rfl (boxc (hS.boxAt 3 rfl) 3 2)) (by decide) ?_
  replace hF := ob hF
  obtain ⟨r125, hr125, hF⟩ := hF
  refine el_call goes27 (laws_toRelation_ok (hS.up ha4) hr125) (congrArg List.toArray (mapc rfl rfl)) (by decide) ?_
  rintro _ w128 ⟨v126, rfl, hS'⟩
  refine ⟨_, rfl, ?_⟩
  have hx129 := hS'.below
  replace hS := hS.call1 hS'
  refine el_pv (v := .pointer (some ⟨b112, 0 + 3, none⟩)) (pv_fieldAddr rfl) (by decide) ?_
  refine el_storev (hS.top 1 rfl) rfl [.int .i64 r125.1, v126] rfl rfl (of_decide_eq_true rfl) (all_cons rfl (all_cons (oc (hS.rdAt (R := (sliceR (sliceR intR 3) 22)) 0 rfl)) rfl)) ?_
  intro w130 hS
  replace hS : Sat w0 w130 [Box b112 42 [.string a0, .int .i64 r118.1, v119, .int .i64 r125.1, v126], Own (sliceR (sliceR intR 3) 22) [v126] r125.2, Own (sliceR (sliceR intR 3) 22) [v119] r118.2, Box b107 42 [.string ByteArray.empty, .int .i64 0, (.slice none 0 0), .int .i64 0, (.slice none 0 0)], Box b103 37 [.string a0, .int .i64 a1, u2, .int .i64 a3, u4]] := hS
  refine el_nil ?_
  refine hQ124 _ _ _ ?_
  refine thn_n ?_
  refine cw_seq ?_
  refine cw_gen ?_
  intro Q131 hQ131
  refine cw_reg ?_
  refine el_pv (v := .agg #[.string a0, .int .i64 r118.1, v119, .int .i64 r125.1, v126]) (pv_loada (cs := [.string a0, .int .i64 r118.1, v119, .int .i64 r125.1, v126]) rfl rfl (boxc0 (hS.boxAt 0 rfl))) (by decide) ?_
  refine el_storev (hS.top 3 rfl) rfl [.string a0, .int .i64 r118.1, v119, .int .i64 r125.1, v126] rfl rfl (of_decide_eq_true rfl) (all_cons rfl (all_cons rfl (all_cons (oc (hS.rdAt (R := (sliceR (sliceR intR 3) 22)) 2 rfl)) (all_cons rfl (all_cons (oc (hS.rdAt (R := (sliceR (sliceR intR 3) 22)) 1 rfl)) rfl))))) ?_
  intro w132 hS
  replace hS : Sat w0 w132 [Box b107 42 [.string a0, .int .i64 r118.1, v119, .int .i64 r125.1, v126], Box b112 42 [.string a0, .int .i64 r118.1, v119, .int .i64 r125.1, v126], Own (sliceR (sliceR intR 3) 22) [v126] r125.2, Own (sliceR (sliceR intR 3) 22) [v119] r118.2, Box b103 37 [.string a0, .int .i64 a1, u2, .int .i64 a3, u4]] := hS
  refine el_nil ?_
  refine hQ131 _ _ _ ?_
  refine thn_n ?_
  refine cw_ret ?_
  refine finC (cs := [.string a0, .int .i64 r118.1, v119, .int .i64 r125.1, v126]) rfl rfl rfl (boxc0 (hS.boxAt 0 rfl))  ?_
  replace hS : Sat w0 w132 [Own (sliceR (sliceR intR 3) 22) [v126] r125.2, Box b107 42 [.string a0, .int .i64 r118.1, v119, .int .i64 r125.1, v126], Box b112 42 [.string a0, .int .i64 r118.1, v119, .int .i64 r125.1, v126], Own (sliceR (sliceR intR 3) 22) [v119] r118.2, Box b103 37 [.string a0, .int .i64 a1, u2, .int .i64 a3, u4]] := hS.top 2 rfl
  replace hS : Sat w0 w132 [Own (sliceR (sliceR intR 3) 22) [v119] r118.2, Own (sliceR (sliceR intR 3) 22) [v126] r125.2, Box b107 42 [.string a0, .int .i64 r118.1, v119, .int .i64 r125.1, v126], Box b112 42 [.string a0, .int .i64 r118.1, v119, .int .i64 r125.1, v126], Box b103 37 [.string a0, .int .i64 a1, u2, .int .i64 a3, u4]] := hS.top 3 rfl
  have hr := Option.some.inj hF
  exact ⟨v119, v126, congrArg (fun (r : ByteArray × (Int × List (List Int)) × (Int × List (List Int))) => Ending.returned (.agg #[.string r.1, .int .i64 r.2.1.1, v119, .int .i64 r.2.2.1, v126])) hr, Eq.mp (congrArg (fun (r : ByteArray × (Int × List (List Int)) × (Int × List (List Int))) => Sat w0 w132 [Own (sliceR (sliceR intR 3) 22) [v119] r.2.1.2, Own (sliceR (sliceR intR 3) 22) [v126] r.2.2.2]) hr) (hS.keep 2), Eq.mp (congrArg (fun (r : ByteArray × (Int × List (List Int)) × (Int × List (List Int))) => r.1.size ≤ 9223372036854775807) hr) ha0⟩
set_option maxHeartbeats 4000000 in
theorem impl_sameRows_ok {w0 : World} {u0 : Value} {a0 : List (List Int)} {u1 : Value} {a1 : List (List Int)} (ha0 : (sliceR (sliceR intR 3) 22).rd w0 [u0] a0) (ha1 : (sliceR (sliceR intR 3) 22).rd w0 [u1] a1) {N : Nat} {r : Bool} (hF : impl_sameRows N a0 a1 = some r) :
    Calls Try.prog 82 #[u0, u1] w0 fun e w' => e = .returned (.bool r) ∧ Ext w0 w' := by
  unfold impl_sameRows at hF
  refine calls_E Try.func82 rfl rfl (of_decide_eq_true rfl) ?_
  have hS := Sat.start w0
  refine cw_seq ?_
  refine cw_gen ?_
  intro Q101 hQ101
  refine cw_reg ?_
  refine el_pv (v := .bool false) (pv_assign rfl) (by decide) ?_
  refine el_nil ?_
  refine hQ101 _ _ _ ?_
  refine thn_n ?_
  refine cw_seq ?_
  refine cw_gen ?_
  intro Q102 hQ102
  refine cw_seq ?_
  refine cw_gen ?_
  intro Q103 hQ103
  refine cw_reg ?_
  refine el_pv (v := u0) (pv_move rfl) (by decide) ?_
  refine el_pv (v := .int .i64 (a0.length : Int)) (pv_len rfl ha0) (by decide) ?_
  refine el_pv (v := u1) (pv_move rfl) (by decide) ?_
  refine el_pv (v := .int .i64 (a1.length : Int)) (pv_len rfl ha1) (by decide) ?_
  refine el_pv (v := .bool ((a0.length : Int) != (a1.length : Int))) (pv_neq rfl rfl) (by decide) ?_
  refine el_nil ?_
  refine hQ103 _ _ _ ?_
  refine thn_n ?_
  replace hF := oif hF
  rcases hF with ⟨hb104, hF⟩ | ⟨hb104, hF⟩
  · refine cw_cond_t rfl hb104 ?_
    refine cw_seq ?_
    refine cw_gen ?_
    intro Q105 hQ105
    refine cw_reg ?_
    refine el_pv (v := .bool false) (pv_assign rfl) (by decide) ?_
    refine el_nil ?_
    refine hQ105 _ _ _ ?_
    refine thn_n ?_
    refine cw_ret ?_
    refine hQ102 _ _ _ ?_
    refine thn_r ?_
    refine fin1 rfl rfl ?_
    have hr := Option.some.inj hF
    exact ⟨congrArg (fun (r : Bool) => Ending.returned (.bool r)) hr, hS.below⟩
  · refine cw_cond_f rfl hb104 ?_
    refine cw_skip ?_
    refine hQ102 _ _ _ ?_
    refine thn_n ?_
    refine cw_seq ?_
    refine cw_gen ?_
    intro Q106 hQ106
    refine cw_seq ?_
    refine cw_gen ?_
    intro Q107 hQ107
    refine cw_reg ?_
    refine el_pv (v := u0) (pv_move rfl) (by decide) ?_
    refine el_pv (v := .int .i64 (a0.length : Int)) (pv_len rfl ha0) (by decide) ?_
    refine el_pv (v := .int .i64 0) (pv_move rfl) (by decide) ?_
    refine el_nil ?_
    refine hQ107 _ _ _ ?_
    refine thn_n ?_
    refine cw_block ?_
    refine cw_gen ?_
    intro Q108 hQ108
    obtain ⟨s109, hL, hK110⟩ := ob hF
    refine cw_loopS (fun k e w => ∃ (x111 : Int), e 0 = u0 ∧ e 1 = u1 ∧ e 12 = .int .i64 (a0.length : Int) ∧ e 13 = .int .i64 x111 ∧ Sat w0 w [] ∧ impl_sameRows_L1 N k a0 a1 (a0.length : Int) x111 = some s109) N ?_ ?_ ?_
    · exact ⟨0, rfl, rfl, rfl, rfl, hS, hL⟩
    · rintro e w ⟨_, _, _, _, _, _, hz⟩; exact nomatch (show none = some _ from hz)
    · rintro k e117 w116 ⟨x111, he112, he113, he114, he115, hS, hF⟩
      refine cw_gen ?_
      intro Q118 hQ118
      refine cw_seq ?_
      refine cw_gen ?_
      intro Q119 hQ119
      refine cw_reg ?_
      refine el_pv (v := .bool (decide (x111 < (a0.length : Int)))) (pv_lss he115 he114) (by decide) ?_
      refine el_nil ?_
      refine hQ119 _ _ _ ?_
      refine thn_n ?_
      refine cw_seq ?_
      refine cw_gen ?_
      intro Q120 hQ120
      replace hF := oif hF
      rcases hF with ⟨hb121, hF⟩ | ⟨hb121, hF⟩
      · refine cw_cond_t rfl hb121 ?_
        refine cw_skip ?_
        refine hQ120 _ _ _ ?_
        refine thn_n ?_
        refine cw_seq ?_
        refine cw_gen ?_
        intro Q122 hQ122
        refine cw_block ?_
        refine cw_gen ?_
        intro Q123 hQ123
        refine cw_seq ?_
        refine cw_gen ?_
        intro Q124 hQ124
        refine cw_reg ?_
        refine el_pv (v := .int .i64 x111) (pv_move he115) (by decide) ?_
        refine el_pv (v := .int .i64 x111) (pv_assign rfl) (by decide) ?_
        refine el_nil ?_
        refine hQ124 _ _ _ ?_
        refine thn_n ?_
        refine cw_seq ?_
        refine cw_gen ?_
        intro Q125 hQ125
        refine cw_regq (by kernel_rfl) (by kernel_rfl) ?_
        refine ql_pv (v := u0) (pv_move he112) (by decide) ?_
        refine ql_pv (v := .int .i64 x111) (pv_move rfl) (by decide) ?_
        replace hF := ob hF
        obtain ⟨x126, hx126, hF⟩ := hF
        refine ql_index (wA := w0) rfl ha0 rfl (by decide) rfl hx126 (by decide) ?_
        intro b127 of128 c129 hr130 hm131
        obtain ⟨v132, rfl⟩ := slice_one hr130
        refine ql_pv (v := v132) (pv_loadc rfl ((cells_up hS.below hm131) 0 _ rfl)) (by decide) ?_
        refine ql_pv (v := u1) (pv_move he113) (by decide) ?_
        refine ql_pv (v := .int .i64 x111) (pv_move rfl) (by decide) ?_
        replace hF := ob hF
        obtain ⟨x133, hx133, hF⟩ := hF
        refine ql_index (wA := w0) rfl ha1 rfl (by decide) rfl hx133 (by decide) ?_
        intro b134 of135 c136 hr137 hm138
        obtain ⟨v139, rfl⟩ := slice_one hr137
        refine ql_pv (v := v139) (pv_loadc rfl ((cells_up hS.below hm138) 0 _ rfl)) (by decide) ?_
        replace hF := ob hF
        obtain ⟨r140, hr140, hF⟩ := hF
        refine ql_call (.bool r140) goes49 (fun w' hw' => impl_sameInts_ok (rd_up (hS.up hr130) hw') (rd_up (hS.up hr137) hw') hr140) (congrArg List.toArray (mapc rfl (mapc rfl rfl))) (by decide) ?_
        refine ql_pv (v := .bool (!r140)) (pv_not rfl) (by decide) ?_
        refine ql_nil ?_
        intro w141 hx142
        replace hS := hS.ext hx142
        refine hQ125 _ _ _ ?_
        refine thn_n ?_
        replace hF := oif hF
        rcases hF with ⟨hb143, hF⟩ | ⟨hb143, hF⟩
        · refine cw_cond_f rfl (bnot_t hb143) ?_
          refine cw_skip ?_
          refine hQ123 _ _ _ ?_
          refine inb_n ?_
          refine hQ122 _ _ _ ?_
          refine thn_n ?_
          refine cw_reg ?_
          replace hF := ob hF
          obtain ⟨x144, hx144, hF⟩ := hF
          refine el_pv (v := .int .i64 x144) (pv_add he115 rfl hx144) (by decide) ?_
          refine el_pv (v := .int .i64 x144) (pv_move rfl) (by decide) ?_
          refine el_nil ?_
          refine hQ118 _ _ _ ?_
          refine thn_n ?_
          replace hS := hS.keep 0
          exact ⟨x144, he112, he113, he114, rfl, hS, hF⟩
        · refine cw_cond_t rfl (bnot_f hb143) ?_
          refine cw_seq ?_
          refine cw_gen ?_
          intro Q145 hQ145
          refine cw_reg ?_
          refine el_pv (v := .bool false) (pv_assign rfl) (by decide) ?_
          refine el_nil ?_
          refine hQ145 _ _ _ ?_
          refine thn_n ?_
          refine cw_ret ?_
          refine hQ123 _ _ _ ?_
          refine inb_r ?_
          refine hQ122 _ _ _ ?_
          refine thn_r ?_
          refine hQ118 _ _ _ ?_
          refine thn_r ?_
          refine hQ108 _ _ _ ?_
          refine inb_r ?_
          refine hQ106 _ _ _ ?_
          refine thn_r ?_
          replace hF := exL hF hK110
          refine fin1 rfl rfl ?_
          have hr := Option.some.inj hF
          exact ⟨congrArg (fun (r : Bool) => Ending.returned (.bool r)) hr, hS.below⟩
      · refine cw_cond_f rfl hb121 ?_
        refine cw_exit ?_
        refine hQ120 _ _ _ ?_
        refine thn_x ?_
        refine hQ118 _ _ _ ?_
        refine thn_x ?_
        replace hF := exA hF hK110
        refine hQ108 _ _ _ ?_
        refine inb_s ?_
        refine hQ106 _ _ _ ?_
        refine thn_n ?_
        refine cw_seq ?_
        refine cw_gen ?_
        intro Q146 hQ146
        refine cw_reg ?_
        refine el_pv (v := .bool true) (pv_assign rfl) (by decide) ?_
        refine el_nil ?_
        refine hQ146 _ _ _ ?_
        refine thn_n ?_
        refine cw_ret ?_
        refine fin1 rfl rfl ?_
        have hr := Option.some.inj hF
        exact ⟨congrArg (fun (r : Bool) => Ending.returned (.bool r)) hr, hS.below⟩
set_option maxHeartbeats 4000000 in
theorem impl_EqualRelations_ok {w0 : World} {a0 : Int} {u1 : Value} {a1 : List (List Int)} {a2 : Int} {u3 : Value} {a3 : List (List Int)} (ha1 : (sliceR (sliceR intR 3) 22).rd w0 [u1] a1) (ha3 : (sliceR (sliceR intR 3) 22).rd w0 [u3] a3) {N : Nat} {r : Bool} (hF : impl_EqualRelations N a0 a1 a2 a3 = some r) :
    Calls Try.prog 54 #[.agg #[.int .i64 a0, u1], .agg #[.int .i64 a2, u3]] w0 fun e w' => e = .returned (.bool r) ∧ Ext w0 w' := by
  unfold impl_EqualRelations at hF
  refine calls_E Try.func54 rfl rfl (of_decide_eq_true rfl) ?_
  have hS := Sat.start w0
  refine cw_seq ?_
  refine cw_gen ?_
  intro Q101 hQ101
  refine cw_reg ?_
  refine el_box [.int .i64 a0, u1] rfl hS (by decide) ?_
  intro w102 b103 hS hx104
  refine el_box [.int .i64 a2, u3] rfl hS (by decide) ?_
  intro w106 b107 hS hx108
  refine el_pv (v := .bool false) (pv_assign rfl) (by decide) ?_
  refine el_nil ?_
  refine hQ101 _ _ _ ?_
  refine thn_n ?_
  refine cw_seq ?_
  refine cw_gen ?_
  intro Q110 hQ110
  refine cw_reg ?_
  refine el_pv (v := .pointer (some ⟨b103, 0 + 0, none⟩)) (pv_fieldAddr rfl) (by decide) ?_
  refine el_pv (v := .int .i64 a0) (pv_loadc rfl ((hS.boxAt 1 rfl) 0 _ rfl)) (by decide) ?_
  refine el_pv (v := .pointer (some ⟨b107, 0 + 0, none⟩)) (pv_fieldAddr rfl) (by decide) ?_
  refine el_pv (v := .int .i64 a2) (pv_loadc rfl ((hS.boxAt 0 rfl) 0 _ rfl)) (by decide) ?_
  refine el_pv (v := .bool (a0 == a2)) (pv_eql rfl rfl) (by decide) ?_
  refine el_pv (v := .bool (a0 == a2)) (pv_move rfl) (by decide) ?_
  replace hF := oif hF
  rcases hF with ⟨hb111, hF⟩ | ⟨hb111, hF⟩
  · refine el_on rfl hb111 ?_
    refine el_pv (v := .pointer (some ⟨b103, 0 + 1, none⟩)) (pv_fieldAddr rfl) (by decide) ?_
    refine el_on rfl hb111 ?_
    refine el_pv (v := u1) (pv_loadc rfl ((hS.boxAt 1 rfl) 1 _ rfl)) (by decide) ?_
    refine el_on rfl hb111 ?_
    refine el_pv (v := .pointer (some ⟨b107, 0 + 1, none⟩)) (pv_fieldAddr rfl) (by decide) ?_
    refine el_on rfl hb111 ?_
    refine el_pv (v := u3) (pv_loadc rfl ((hS.boxAt 0 rfl) 1 _ rfl)) (by decide) ?_
    refine el_on rfl hb111 ?_
    replace hF := ob hF
    obtain ⟨r112, hr112, hF⟩ := hF
    refine el_call goes82 (impl_sameRows_ok (hS.up ha1) (hS.up ha3) hr112) (congrArg List.toArray (mapc rfl (mapc rfl rfl))) (by decide) ?_
    rintro _ w113 ⟨rfl, hx114⟩
    refine ⟨_, rfl, ?_⟩
    replace hS := hS.ext hx114
    refine el_pv (v := .bool r112) (pv_pick_t rfl hb111 rfl) (by decide) ?_
    refine el_pv (v := .bool r112) (pv_assign rfl) (by decide) ?_
    refine el_nil ?_
    refine hQ110 _ _ _ ?_
    refine thn_n ?_
    refine cw_ret ?_
    refine fin1 rfl rfl ?_
    have hr := Option.some.inj hF
    exact ⟨congrArg (fun (r : Bool) => Ending.returned (.bool r)) hr, hS.below⟩
  · refine el_off rfl hb111 rfl (by decide) ?_
    refine el_off rfl hb111 rfl (by decide) ?_
    refine el_off rfl hb111 rfl (by decide) ?_
    refine el_off rfl hb111 rfl (by decide) ?_
    refine el_off rfl hb111 rfl (by decide) ?_
    refine el_pv (v := .bool false) (pv_pick_f rfl hb111 rfl) (by decide) ?_
    refine el_pv (v := .bool false) (pv_assign rfl) (by decide) ?_
    refine el_nil ?_
    refine hQ110 _ _ _ ?_
    refine thn_n ?_
    refine cw_ret ?_
    refine fin1 rfl rfl ?_
    have hr := Option.some.inj hF
    exact ⟨congrArg (fun (r : Bool) => Ending.returned (.bool r)) hr, hS.below⟩
set_option maxHeartbeats 4000000 in
theorem impl_EqualDeltas_ok {w0 : World} {a0 : ByteArray} {a1 : Int} {u2 : Value} {a2 : List (List Int)} {a3 : Int} {u4 : Value} {a4 : List (List Int)} {a5 : ByteArray} {a6 : Int} {u7 : Value} {a7 : List (List Int)} {a8 : Int} {u9 : Value} {a9 : List (List Int)} (_ : a0.size ≤ 9223372036854775807) (ha2 : (sliceR (sliceR intR 3) 22).rd w0 [u2] a2) (ha4 : (sliceR (sliceR intR 3) 22).rd w0 [u4] a4) (_ : a5.size ≤ 9223372036854775807) (ha7 : (sliceR (sliceR intR 3) 22).rd w0 [u7] a7) (ha9 : (sliceR (sliceR intR 3) 22).rd w0 [u9] a9) {N : Nat} {r : Bool} (hF : impl_EqualDeltas N a0 a1 a2 a3 a4 a5 a6 a7 a8 a9 = some r) :
    Calls Try.prog 17 #[.agg #[.string a0, .int .i64 a1, u2, .int .i64 a3, u4], .agg #[.string a5, .int .i64 a6, u7, .int .i64 a8, u9]] w0 fun e w' => e = .returned (.bool r) ∧ Ext w0 w' := by
  unfold impl_EqualDeltas at hF
  refine calls_E Try.func17 rfl rfl (of_decide_eq_true rfl) ?_
  have hS := Sat.start w0
  refine cw_seq ?_
  refine cw_gen ?_
  intro Q101 hQ101
  refine cw_reg ?_
  refine el_box [.string a0, .int .i64 a1, u2, .int .i64 a3, u4] rfl hS (by decide) ?_
  intro w102 b103 hS hx104
  refine el_box [.string a5, .int .i64 a6, u7, .int .i64 a8, u9] rfl hS (by decide) ?_
  intro w106 b107 hS hx108
  refine el_pv (v := .bool false) (pv_assign rfl) (by decide) ?_
  refine el_nil ?_
  refine hQ101 _ _ _ ?_
  refine thn_n ?_
  refine cw_seq ?_
  refine cw_gen ?_
  intro Q110 hQ110
  refine cw_reg ?_
  refine el_pv (v := .pointer (some ⟨b103, 0 + 0, none⟩)) (pv_fieldAddr rfl) (by decide) ?_
  refine el_pv (v := .string a0) (pv_loadc rfl ((hS.boxAt 1 rfl) 0 _ rfl)) (by decide) ?_
  refine el_pv (v := .pointer (some ⟨b107, 0 + 0, none⟩)) (pv_fieldAddr rfl) (by decide) ?_
  refine el_pv (v := .string a5) (pv_loadc rfl ((hS.boxAt 0 rfl) 0 _ rfl)) (by decide) ?_
  refine el_pv (v := .bool (eqS a0 a5)) (pv_eqlS rfl rfl) (by decide) ?_
  refine el_pv (v := .bool (eqS a0 a5)) (pv_move rfl) (by decide) ?_
  replace hF := oif hF
  rcases hF with ⟨hb111, hF⟩ | ⟨hb111, hF⟩
  · refine el_on rfl hb111 ?_
    refine el_pv (v := .pointer (some ⟨b103, 0 + 1, none⟩)) (pv_fieldAddr rfl) (by decide) ?_
    refine el_on rfl hb111 ?_
    refine el_pv (v := .agg #[.int .i64 a1, u2]) (pv_loada (cs := [.int .i64 a1, u2]) rfl rfl (boxc (hS.boxAt 1 rfl) 1 2)) (by decide) ?_
    refine el_on rfl hb111 ?_
    refine el_pv (v := .pointer (some ⟨b107, 0 + 1, none⟩)) (pv_fieldAddr rfl) (by decide) ?_
    refine el_on rfl hb111 ?_
    refine el_pv (v := .agg #[.int .i64 a6, u7]) (pv_loada (cs := [.int .i64 a6, u7]) rfl rfl (boxc (hS.boxAt 0 rfl) 1 2)) (by decide) ?_
    refine el_on rfl hb111 ?_
    replace hF := ob hF
    obtain ⟨r112, hr112, hF⟩ := hF
    refine el_call goes54 (impl_EqualRelations_ok (hS.up ha2) (hS.up ha7) hr112) (congrArg List.toArray (mapc rfl (mapc rfl rfl))) (by decide) ?_
    rintro _ w113 ⟨rfl, hx114⟩
    refine ⟨_, rfl, ?_⟩
    replace hS := hS.ext hx114
    refine el_pv (v := .bool r112) (pv_pick_t rfl hb111 rfl) (by decide) ?_
    refine el_pv (v := .bool r112) (pv_move rfl) (by decide) ?_
    replace hF := oif hF
    rcases hF with ⟨hb115, hF⟩ | ⟨hb115, hF⟩
    · refine el_on rfl hb115 ?_
      refine el_pv (v := .pointer (some ⟨b103, 0 + 3, none⟩)) (pv_fieldAddr rfl) (by decide) ?_
      refine el_on rfl hb115 ?_
      refine el_pv (v := .agg #[.int .i64 a3, u4]) (pv_loada (cs := [.int .i64 a3, u4]) rfl rfl (boxc (hS.boxAt 1 rfl) 3 2)) (by decide) ?_
      refine el_on rfl hb115 ?_
      refine el_pv (v := .pointer (some ⟨b107, 0 + 3, none⟩)) (pv_fieldAddr rfl) (by decide) ?_
      refine el_on rfl hb115 ?_
      refine el_pv (v := .agg #[.int .i64 a8, u9]) (pv_loada (cs := [.int .i64 a8, u9]) rfl rfl (boxc (hS.boxAt 0 rfl) 3 2)) (by decide) ?_
      refine el_on rfl hb115 ?_
      replace hF := ob hF
      obtain ⟨r116, hr116, hF⟩ := hF
      refine el_call goes54 (impl_EqualRelations_ok (hS.up ha4) (hS.up ha9) hr116) (congrArg List.toArray (mapc rfl (mapc rfl rfl))) (by decide) ?_
      rintro _ w117 ⟨rfl, hx118⟩
      refine ⟨_, rfl, ?_⟩
      replace hS := hS.ext hx118
      refine el_pv (v := .bool r116) (pv_pick_t rfl hb115 rfl) (by decide) ?_
      refine el_pv (v := .bool r116) (pv_assign rfl) (by decide) ?_
      refine el_nil ?_
      refine hQ110 _ _ _ ?_
      refine thn_n ?_
      refine cw_ret ?_
      refine fin1 rfl rfl ?_
      have hr := Option.some.inj hF
      exact ⟨congrArg (fun (r : Bool) => Ending.returned (.bool r)) hr, hS.below⟩
    · refine el_off rfl hb115 rfl (by decide) ?_
      refine el_off rfl hb115 rfl (by decide) ?_
      refine el_off rfl hb115 rfl (by decide) ?_
      refine el_off rfl hb115 rfl (by decide) ?_
      refine el_off rfl hb115 rfl (by decide) ?_
      refine el_pv (v := .bool false) (pv_pick_f rfl hb115 rfl) (by decide) ?_
      refine el_pv (v := .bool false) (pv_assign rfl) (by decide) ?_
      refine el_nil ?_
      refine hQ110 _ _ _ ?_
      refine thn_n ?_
      refine cw_ret ?_
      refine fin1 rfl rfl ?_
      have hr := Option.some.inj hF
      exact ⟨congrArg (fun (r : Bool) => Ending.returned (.bool r)) hr, hS.below⟩
  · refine el_off rfl hb111 rfl (by decide) ?_
    refine el_off rfl hb111 rfl (by decide) ?_
    refine el_off rfl hb111 rfl (by decide) ?_
    refine el_off rfl hb111 rfl (by decide) ?_
    refine el_off rfl hb111 rfl (by decide) ?_
    refine el_pv (v := .bool false) (pv_pick_f rfl hb111 rfl) (by decide) ?_
    refine el_pv (v := .bool false) (pv_move rfl) (by decide) ?_
    refine el_off rfl rfl rfl (by decide) ?_
    refine el_off rfl rfl rfl (by decide) ?_
    refine el_off rfl rfl rfl (by decide) ?_
    refine el_off rfl rfl rfl (by decide) ?_
    refine el_off rfl rfl rfl (by decide) ?_
    refine el_pv (v := .bool false) (pv_pick_f rfl rfl rfl) (by decide) ?_
    refine el_pv (v := .bool false) (pv_assign rfl) (by decide) ?_
    refine el_nil ?_
    refine hQ110 _ _ _ ?_
    refine thn_n ?_
    refine cw_ret ?_
    refine fin1 rfl rfl ?_
    have hr := Option.some.inj hF
    exact ⟨congrArg (fun (r : Bool) => Ending.returned (.bool r)) hr, hS.below⟩
set_option maxHeartbeats 4000000 in
theorem laws_eqIntSS_ok {w0 : World} {u0 : Value} {a0 : List (List Int)} {u1 : Value} {a1 : List (List Int)} (ha0 : (sliceR (sliceR intR 3) 22).rd w0 [u0] a0) (ha1 : (sliceR (sliceR intR 3) 22).rd w0 [u1] a1) {N : Nat} {r : Bool} (hF : laws_eqIntSS N a0 a1 = some r) :
    Calls Try.prog 72 #[u0, u1] w0 fun e w' => e = .returned (.bool r) ∧ Ext w0 w' := by
  unfold laws_eqIntSS at hF
  refine calls_E Try.func72 rfl rfl (of_decide_eq_true rfl) ?_
  have hS := Sat.start w0
  refine cw_seq ?_
  refine cw_gen ?_
  intro Q101 hQ101
  refine cw_reg ?_
  refine el_pv (v := .bool false) (pv_assign rfl) (by decide) ?_
  refine el_nil ?_
  refine hQ101 _ _ _ ?_
  refine thn_n ?_
  refine cw_seq ?_
  refine cw_gen ?_
  intro Q102 hQ102
  refine cw_seq ?_
  refine cw_gen ?_
  intro Q103 hQ103
  refine cw_reg ?_
  refine el_pv (v := u0) (pv_move rfl) (by decide) ?_
  refine el_pv (v := .int .i64 (a0.length : Int)) (pv_len rfl ha0) (by decide) ?_
  refine el_pv (v := u1) (pv_move rfl) (by decide) ?_
  refine el_pv (v := .int .i64 (a1.length : Int)) (pv_len rfl ha1) (by decide) ?_
  refine el_pv (v := .bool ((a0.length : Int) != (a1.length : Int))) (pv_neq rfl rfl) (by decide) ?_
  refine el_nil ?_
  refine hQ103 _ _ _ ?_
  refine thn_n ?_
  replace hF := oif hF
  rcases hF with ⟨hb104, hF⟩ | ⟨hb104, hF⟩
  · refine cw_cond_t rfl hb104 ?_
    refine cw_seq ?_
    refine cw_gen ?_
    intro Q105 hQ105
    refine cw_reg ?_
    refine el_pv (v := .bool false) (pv_assign rfl) (by decide) ?_
    refine el_nil ?_
    refine hQ105 _ _ _ ?_
    refine thn_n ?_
    refine cw_ret ?_
    refine hQ102 _ _ _ ?_
    refine thn_r ?_
    refine fin1 rfl rfl ?_
    have hr := Option.some.inj hF
    exact ⟨congrArg (fun (r : Bool) => Ending.returned (.bool r)) hr, hS.below⟩
  · refine cw_cond_f rfl hb104 ?_
    refine cw_skip ?_
    refine hQ102 _ _ _ ?_
    refine thn_n ?_
    refine cw_seq ?_
    refine cw_gen ?_
    intro Q106 hQ106
    refine cw_seq ?_
    refine cw_gen ?_
    intro Q107 hQ107
    refine cw_reg ?_
    refine el_pv (v := .int .i64 0) (pv_assign rfl) (by decide) ?_
    refine el_nil ?_
    refine hQ107 _ _ _ ?_
    refine thn_n ?_
    refine cw_block ?_
    refine cw_gen ?_
    intro Q108 hQ108
    obtain ⟨s109, hL, hK110⟩ := ob hF
    refine cw_loopS (fun k e w => ∃ (x111 : Int), e 0 = u0 ∧ e 1 = u1 ∧ e 5 = .int .i64 x111 ∧ Sat w0 w [] ∧ laws_eqIntSS_L1 N k a0 a1 x111 = some s109) N ?_ ?_ ?_
    · exact ⟨0, rfl, rfl, rfl, hS, hL⟩
    · rintro e w ⟨_, _, _, _, _, hz⟩; exact nomatch (show none = some _ from hz)
    · rintro k e116 w115 ⟨x111, he112, he113, he114, hS, hF⟩
      refine cw_gen ?_
      intro Q117 hQ117
      refine cw_seq ?_
      refine cw_gen ?_
      intro Q118 hQ118
      refine cw_seq ?_
      refine cw_gen ?_
      intro Q119 hQ119
      refine cw_reg ?_
      refine el_pv (v := .int .i64 x111) (pv_move he114) (by decide) ?_
      refine el_pv (v := u0) (pv_move he112) (by decide) ?_
      refine el_pv (v := .int .i64 (a0.length : Int)) (pv_len rfl ha0) (by decide) ?_
      refine el_pv (v := .bool (decide (x111 < (a0.length : Int)))) (pv_lss rfl rfl) (by decide) ?_
      refine el_nil ?_
      refine hQ119 _ _ _ ?_
      refine thn_n ?_
      replace hF := oif hF
      rcases hF with ⟨hb120, hF⟩ | ⟨hb120, hF⟩
      · refine cw_cond_t rfl hb120 ?_
        refine cw_skip ?_
        refine hQ118 _ _ _ ?_
        refine thn_n ?_
        refine cw_seq ?_
        refine cw_gen ?_
        intro Q121 hQ121
        refine cw_block ?_
        refine cw_gen ?_
        intro Q122 hQ122
        refine cw_seq ?_
        refine cw_gen ?_
        intro Q123 hQ123
        refine cw_regq (by kernel_rfl) (by kernel_rfl) ?_
        refine ql_pv (v := u0) (pv_move he112) (by decide) ?_
        refine ql_pv (v := .int .i64 x111) (pv_move he114) (by decide) ?_
        replace hF := ob hF
        obtain ⟨x124, hx124, hF⟩ := hF
        refine ql_index (wA := w0) rfl ha0 rfl (by decide) rfl hx124 (by decide) ?_
        intro b125 of126 c127 hr128 hm129
        obtain ⟨v130, rfl⟩ := slice_one hr128
        refine ql_pv (v := v130) (pv_loadc rfl ((cells_up hS.below hm129) 0 _ rfl)) (by decide) ?_
        refine ql_pv (v := u1) (pv_move he113) (by decide) ?_
        refine ql_pv (v := .int .i64 x111) (pv_move he114) (by decide) ?_
        replace hF := ob hF
        obtain ⟨x131, hx131, hF⟩ := hF
        refine ql_index (wA := w0) rfl ha1 rfl (by decide) rfl hx131 (by decide) ?_
        intro b132 of133 c134 hr135 hm136
        obtain ⟨v137, rfl⟩ := slice_one hr135
        refine ql_pv (v := v137) (pv_loadc rfl ((cells_up hS.below hm136) 0 _ rfl)) (by decide) ?_
        replace hF := ob hF
        obtain ⟨r138, hr138, hF⟩ := hF
        refine ql_call (.bool r138) goes51 (fun w' hw' => laws_eqIntS_ok (rd_up (hS.up hr128) hw') (rd_up (hS.up hr135) hw') hr138) (congrArg List.toArray (mapc rfl (mapc rfl rfl))) (by decide) ?_
        refine ql_pv (v := .bool (!r138)) (pv_not rfl) (by decide) ?_
        refine ql_nil ?_
        intro w139 hx140
        replace hS := hS.ext hx140
        refine hQ123 _ _ _ ?_
        refine thn_n ?_
        replace hF := oif hF
        rcases hF with ⟨hb141, hF⟩ | ⟨hb141, hF⟩
        · refine cw_cond_f rfl (bnot_t hb141) ?_
          refine cw_skip ?_
          refine hQ122 _ _ _ ?_
          refine inb_n ?_
          refine hQ121 _ _ _ ?_
          refine thn_n ?_
          refine cw_reg ?_
          refine el_pv (v := .int .i64 x111) (pv_move he114) (by decide) ?_
          replace hF := ob hF
          obtain ⟨x142, hx142, hF⟩ := hF
          refine el_pv (v := .int .i64 x142) (pv_add rfl rfl hx142) (by decide) ?_
          refine el_pv (v := .int .i64 x142) (pv_assign rfl) (by decide) ?_
          refine el_nil ?_
          refine hQ117 _ _ _ ?_
          refine thn_n ?_
          replace hS := hS.keep 0
          exact ⟨x142, he112, he113, rfl, hS, hF⟩
        · refine cw_cond_t rfl (bnot_f hb141) ?_
          refine cw_seq ?_
          refine cw_gen ?_
          intro Q143 hQ143
          refine cw_reg ?_
          refine el_pv (v := .bool false) (pv_assign rfl) (by decide) ?_
          refine el_nil ?_
          refine hQ143 _ _ _ ?_
          refine thn_n ?_
          refine cw_ret ?_
          refine hQ122 _ _ _ ?_
          refine inb_r ?_
          refine hQ121 _ _ _ ?_
          refine thn_r ?_
          refine hQ117 _ _ _ ?_
          refine thn_r ?_
          refine hQ108 _ _ _ ?_
          refine inb_r ?_
          refine hQ106 _ _ _ ?_
          refine thn_r ?_
          replace hF := exL hF hK110
          refine fin1 rfl rfl ?_
          have hr := Option.some.inj hF
          exact ⟨congrArg (fun (r : Bool) => Ending.returned (.bool r)) hr, hS.below⟩
      · refine cw_cond_f rfl hb120 ?_
        refine cw_exit ?_
        refine hQ118 _ _ _ ?_
        refine thn_x ?_
        refine hQ117 _ _ _ ?_
        refine thn_x ?_
        replace hF := exA hF hK110
        refine hQ108 _ _ _ ?_
        refine inb_s ?_
        refine hQ106 _ _ _ ?_
        refine thn_n ?_
        refine cw_seq ?_
        refine cw_gen ?_
        intro Q144 hQ144
        refine cw_reg ?_
        refine el_pv (v := .bool true) (pv_assign rfl) (by decide) ?_
        refine el_nil ?_
        refine hQ144 _ _ _ ?_
        refine thn_n ?_
        refine cw_ret ?_
        refine fin1 rfl rfl ?_
        have hr := Option.some.inj hF
        exact ⟨congrArg (fun (r : Bool) => Ending.returned (.bool r)) hr, hS.below⟩
set_option maxHeartbeats 4000000 in
theorem laws_eqRelation_ok {w0 : World} {a0 : Int} {u1 : Value} {a1 : List (List Int)} {a2 : Int} {u3 : Value} {a3 : List (List Int)} (ha1 : (sliceR (sliceR intR 3) 22).rd w0 [u1] a1) (ha3 : (sliceR (sliceR intR 3) 22).rd w0 [u3] a3) {N : Nat} {r : Bool} (hF : laws_eqRelation N a0 a1 a2 a3 = some r) :
    Calls Try.prog 29 #[.agg #[.int .i64 a0, u1], .agg #[.int .i64 a2, u3]] w0 fun e w' => e = .returned (.bool r) ∧ Ext w0 w' := by
  unfold laws_eqRelation at hF
  refine calls_E Try.func29 rfl rfl (of_decide_eq_true rfl) ?_
  have hS := Sat.start w0
  refine cw_seq ?_
  refine cw_gen ?_
  intro Q101 hQ101
  refine cw_reg ?_
  refine el_box [.int .i64 a0, u1] rfl hS (by decide) ?_
  intro w102 b103 hS hx104
  refine el_box [.int .i64 a2, u3] rfl hS (by decide) ?_
  intro w106 b107 hS hx108
  refine el_pv (v := .bool false) (pv_assign rfl) (by decide) ?_
  refine el_nil ?_
  refine hQ101 _ _ _ ?_
  refine thn_n ?_
  refine cw_seq ?_
  refine cw_gen ?_
  intro Q110 hQ110
  refine cw_seq ?_
  refine cw_gen ?_
  intro Q111 hQ111
  refine cw_reg ?_
  refine el_pv (v := .pointer (some ⟨b103, 0 + 0, none⟩)) (pv_fieldAddr rfl) (by decide) ?_
  refine el_pv (v := .int .i64 a0) (pv_loadc rfl ((hS.boxAt 1 rfl) 0 _ rfl)) (by decide) ?_
  refine el_pv (v := .pointer (some ⟨b107, 0 + 0, none⟩)) (pv_fieldAddr rfl) (by decide) ?_
  refine el_pv (v := .int .i64 a2) (pv_loadc rfl ((hS.boxAt 0 rfl) 0 _ rfl)) (by decide) ?_
  refine el_pv (v := .bool (a0 != a2)) (pv_neq rfl rfl) (by decide) ?_
  refine el_nil ?_
  refine hQ111 _ _ _ ?_
  refine thn_n ?_
  replace hF := oif hF
  rcases hF with ⟨hb112, hF⟩ | ⟨hb112, hF⟩
  · refine cw_cond_t rfl hb112 ?_
    refine cw_seq ?_
    refine cw_gen ?_
    intro Q113 hQ113
    refine cw_reg ?_
    refine el_pv (v := .bool false) (pv_assign rfl) (by decide) ?_
    refine el_nil ?_
    refine hQ113 _ _ _ ?_
    refine thn_n ?_
    refine cw_ret ?_
    refine hQ110 _ _ _ ?_
    refine thn_r ?_
    refine fin1 rfl rfl ?_
    have hr := Option.some.inj hF
    exact ⟨congrArg (fun (r : Bool) => Ending.returned (.bool r)) hr, hS.below⟩
  · refine cw_cond_f rfl hb112 ?_
    refine cw_skip ?_
    refine hQ110 _ _ _ ?_
    refine thn_n ?_
    refine cw_seq ?_
    refine cw_gen ?_
    intro Q114 hQ114
    refine cw_seq ?_
    refine cw_gen ?_
    intro Q115 hQ115
    refine cw_reg ?_
    refine el_pv (v := .pointer (some ⟨b103, 0 + 1, none⟩)) (pv_fieldAddr rfl) (by decide) ?_
    refine el_pv (v := u1) (pv_loadc rfl ((hS.boxAt 1 rfl) 1 _ rfl)) (by decide) ?_
    refine el_pv (v := .pointer (some ⟨b107, 0 + 1, none⟩)) (pv_fieldAddr rfl) (by decide) ?_
    refine el_pv (v := u3) (pv_loadc rfl ((hS.boxAt 0 rfl) 1 _ rfl)) (by decide) ?_
    replace hF := ob hF
    obtain ⟨r116, hr116, hF⟩ := hF
    refine el_call goes72 (laws_eqIntSS_ok (hS.up ha1) (hS.up ha3) hr116) (congrArg List.toArray (mapc rfl (mapc rfl rfl))) (by decide) ?_
    rintro _ w117 ⟨rfl, hx118⟩
    refine ⟨_, rfl, ?_⟩
    replace hS := hS.ext hx118
    refine el_pv (v := .bool (!r116)) (pv_not rfl) (by decide) ?_
    refine el_nil ?_
    refine hQ115 _ _ _ ?_
    refine thn_n ?_
    replace hF := oif hF
    rcases hF with ⟨hb119, hF⟩ | ⟨hb119, hF⟩
    · refine cw_cond_f rfl (bnot_t hb119) ?_
      refine cw_skip ?_
      refine hQ114 _ _ _ ?_
      refine thn_n ?_
      refine cw_seq ?_
      refine cw_gen ?_
      intro Q120 hQ120
      refine cw_reg ?_
      refine el_pv (v := .bool true) (pv_assign rfl) (by decide) ?_
      refine el_nil ?_
      refine hQ120 _ _ _ ?_
      refine thn_n ?_
      refine cw_ret ?_
      refine fin1 rfl rfl ?_
      have hr := Option.some.inj hF
      exact ⟨congrArg (fun (r : Bool) => Ending.returned (.bool r)) hr, hS.below⟩
    · refine cw_cond_t rfl (bnot_f hb119) ?_
      refine cw_seq ?_
      refine cw_gen ?_
      intro Q121 hQ121
      refine cw_reg ?_
      refine el_pv (v := .bool false) (pv_assign rfl) (by decide) ?_
      refine el_nil ?_
      refine hQ121 _ _ _ ?_
      refine thn_n ?_
      refine cw_ret ?_
      refine hQ114 _ _ _ ?_
      refine thn_r ?_
      refine fin1 rfl rfl ?_
      have hr := Option.some.inj hF
      exact ⟨congrArg (fun (r : Bool) => Ending.returned (.bool r)) hr, hS.below⟩
set_option maxHeartbeats 4000000 in
theorem laws_eqDelta_ok {w0 : World} {a0 : ByteArray} {a1 : Int} {u2 : Value} {a2 : List (List Int)} {a3 : Int} {u4 : Value} {a4 : List (List Int)} {a5 : ByteArray} {a6 : Int} {u7 : Value} {a7 : List (List Int)} {a8 : Int} {u9 : Value} {a9 : List (List Int)} (_ : a0.size ≤ 9223372036854775807) (ha2 : (sliceR (sliceR intR 3) 22).rd w0 [u2] a2) (ha4 : (sliceR (sliceR intR 3) 22).rd w0 [u4] a4) (_ : a5.size ≤ 9223372036854775807) (ha7 : (sliceR (sliceR intR 3) 22).rd w0 [u7] a7) (ha9 : (sliceR (sliceR intR 3) 22).rd w0 [u9] a9) {N : Nat} {r : Bool} (hF : laws_eqDelta N a0 a1 a2 a3 a4 a5 a6 a7 a8 a9 = some r) :
    Calls Try.prog 18 #[.agg #[.string a0, .int .i64 a1, u2, .int .i64 a3, u4], .agg #[.string a5, .int .i64 a6, u7, .int .i64 a8, u9]] w0 fun e w' => e = .returned (.bool r) ∧ Ext w0 w' := by
  unfold laws_eqDelta at hF
  refine calls_E Try.func18 rfl rfl (of_decide_eq_true rfl) ?_
  have hS := Sat.start w0
  refine cw_seq ?_
  refine cw_gen ?_
  intro Q101 hQ101
  refine cw_reg ?_
  refine el_box [.string a0, .int .i64 a1, u2, .int .i64 a3, u4] rfl hS (by decide) ?_
  intro w102 b103 hS hx104
  refine el_box [.string a5, .int .i64 a6, u7, .int .i64 a8, u9] rfl hS (by decide) ?_
  intro w106 b107 hS hx108
  refine el_pv (v := .bool false) (pv_assign rfl) (by decide) ?_
  refine el_nil ?_
  refine hQ101 _ _ _ ?_
  refine thn_n ?_
  refine cw_seq ?_
  refine cw_gen ?_
  intro Q110 hQ110
  refine cw_seq ?_
  refine cw_gen ?_
  intro Q111 hQ111
  refine cw_reg ?_
  refine el_pv (v := .pointer (some ⟨b103, 0 + 0, none⟩)) (pv_fieldAddr rfl) (by decide) ?_
  refine el_pv (v := .string a0) (pv_loadc rfl ((hS.boxAt 1 rfl) 0 _ rfl)) (by decide) ?_
  refine el_pv (v := .pointer (some ⟨b107, 0 + 0, none⟩)) (pv_fieldAddr rfl) (by decide) ?_
  refine el_pv (v := .string a5) (pv_loadc rfl ((hS.boxAt 0 rfl) 0 _ rfl)) (by decide) ?_
  refine el_pv (v := .bool (!(eqS a0 a5))) (pv_neqS rfl rfl) (by decide) ?_
  refine el_nil ?_
  refine hQ111 _ _ _ ?_
  refine thn_n ?_
  replace hF := oif hF
  rcases hF with ⟨hb112, hF⟩ | ⟨hb112, hF⟩
  · refine cw_cond_f rfl (bnot_t hb112) ?_
    refine cw_skip ?_
    refine hQ110 _ _ _ ?_
    refine thn_n ?_
    refine cw_seq ?_
    refine cw_gen ?_
    intro Q113 hQ113
    refine cw_seq ?_
    refine cw_gen ?_
    intro Q114 hQ114
    refine cw_reg ?_
    refine el_pv (v := .pointer (some ⟨b103, 0 + 1, none⟩)) (pv_fieldAddr rfl) (by decide) ?_
    refine el_pv (v := .agg #[.int .i64 a1, u2]) (pv_loada (cs := [.int .i64 a1, u2]) rfl rfl (boxc (hS.boxAt 1 rfl) 1 2)) (by decide) ?_
    refine el_pv (v := .pointer (some ⟨b107, 0 + 1, none⟩)) (pv_fieldAddr rfl) (by decide) ?_
    refine el_pv (v := .agg #[.int .i64 a6, u7]) (pv_loada (cs := [.int .i64 a6, u7]) rfl rfl (boxc (hS.boxAt 0 rfl) 1 2)) (by decide) ?_
    replace hF := ob hF
    obtain ⟨r115, hr115, hF⟩ := hF
    refine el_call goes29 (laws_eqRelation_ok (hS.up ha2) (hS.up ha7) hr115) (congrArg List.toArray (mapc rfl (mapc rfl rfl))) (by decide) ?_
    rintro _ w116 ⟨rfl, hx117⟩
    refine ⟨_, rfl, ?_⟩
    replace hS := hS.ext hx117
    refine el_pv (v := .bool (!r115)) (pv_not rfl) (by decide) ?_
    refine el_nil ?_
    refine hQ114 _ _ _ ?_
    refine thn_n ?_
    replace hF := oif hF
    rcases hF with ⟨hb118, hF⟩ | ⟨hb118, hF⟩
    · refine cw_cond_f rfl (bnot_t hb118) ?_
      refine cw_skip ?_
      refine hQ113 _ _ _ ?_
      refine thn_n ?_
      refine cw_seq ?_
      refine cw_gen ?_
      intro Q119 hQ119
      refine cw_seq ?_
      refine cw_gen ?_
      intro Q120 hQ120
      refine cw_reg ?_
      refine el_pv (v := .pointer (some ⟨b103, 0 + 3, none⟩)) (pv_fieldAddr rfl) (by decide) ?_
      refine el_pv (v := .agg #[.int .i64 a3, u4]) (pv_loada (cs := [.int .i64 a3, u4]) rfl rfl (boxc (hS.boxAt 1 rfl) 3 2)) (by decide) ?_
      refine el_pv (v := .pointer (some ⟨b107, 0 + 3, none⟩)) (pv_fieldAddr rfl) (by decide) ?_
      refine el_pv (v := .agg #[.int .i64 a8, u9]) (pv_loada (cs := [.int .i64 a8, u9]) rfl rfl (boxc (hS.boxAt 0 rfl) 3 2)) (by decide) ?_
      replace hF := ob hF
      obtain ⟨r121, hr121, hF⟩ := hF
      refine el_call goes29 (laws_eqRelation_ok (hS.up ha4) (hS.up ha9) hr121) (congrArg List.toArray (mapc rfl (mapc rfl rfl))) (by decide) ?_
      rintro _ w122 ⟨rfl, hx123⟩
      refine ⟨_, rfl, ?_⟩
      replace hS := hS.ext hx123
      refine el_pv (v := .bool (!r121)) (pv_not rfl) (by decide) ?_
      refine el_nil ?_
      refine hQ120 _ _ _ ?_
      refine thn_n ?_
      replace hF := oif hF
      rcases hF with ⟨hb124, hF⟩ | ⟨hb124, hF⟩
      · refine cw_cond_f rfl (bnot_t hb124) ?_
        refine cw_skip ?_
        refine hQ119 _ _ _ ?_
        refine thn_n ?_
        refine cw_seq ?_
        refine cw_gen ?_
        intro Q125 hQ125
        refine cw_reg ?_
        refine el_pv (v := .bool true) (pv_assign rfl) (by decide) ?_
        refine el_nil ?_
        refine hQ125 _ _ _ ?_
        refine thn_n ?_
        refine cw_ret ?_
        refine fin1 rfl rfl ?_
        have hr := Option.some.inj hF
        exact ⟨congrArg (fun (r : Bool) => Ending.returned (.bool r)) hr, hS.below⟩
      · refine cw_cond_t rfl (bnot_f hb124) ?_
        refine cw_seq ?_
        refine cw_gen ?_
        intro Q126 hQ126
        refine cw_reg ?_
        refine el_pv (v := .bool false) (pv_assign rfl) (by decide) ?_
        refine el_nil ?_
        refine hQ126 _ _ _ ?_
        refine thn_n ?_
        refine cw_ret ?_
        refine hQ119 _ _ _ ?_
        refine thn_r ?_
        refine fin1 rfl rfl ?_
        have hr := Option.some.inj hF
        exact ⟨congrArg (fun (r : Bool) => Ending.returned (.bool r)) hr, hS.below⟩
    · refine cw_cond_t rfl (bnot_f hb118) ?_
      refine cw_seq ?_
      refine cw_gen ?_
      intro Q127 hQ127
      refine cw_reg ?_
      refine el_pv (v := .bool false) (pv_assign rfl) (by decide) ?_
      refine el_nil ?_
      refine hQ127 _ _ _ ?_
      refine thn_n ?_
      refine cw_ret ?_
      refine hQ113 _ _ _ ?_
      refine thn_r ?_
      refine fin1 rfl rfl ?_
      have hr := Option.some.inj hF
      exact ⟨congrArg (fun (r : Bool) => Ending.returned (.bool r)) hr, hS.below⟩
  · refine cw_cond_t rfl (bnot_f hb112) ?_
    refine cw_seq ?_
    refine cw_gen ?_
    intro Q128 hQ128
    refine cw_reg ?_
    refine el_pv (v := .bool false) (pv_assign rfl) (by decide) ?_
    refine el_nil ?_
    refine hQ128 _ _ _ ?_
    refine thn_n ?_
    refine cw_ret ?_
    refine hQ110 _ _ _ ?_
    refine thn_r ?_
    refine fin1 rfl rfl ?_
    have hr := Option.some.inj hF
    exact ⟨congrArg (fun (r : Bool) => Ending.returned (.bool r)) hr, hS.below⟩
set_option maxHeartbeats 4000000 in
theorem laws_FnExactEqualDeltas_ok {w0 : World} {a0 : ByteArray} {a1 : Int} {u2 : Value} {a2 : List (List Int)} {a3 : Int} {u4 : Value} {a4 : List (List Int)} {a5 : ByteArray} {a6 : Int} {u7 : Value} {a7 : List (List Int)} {a8 : Int} {u9 : Value} {a9 : List (List Int)} (ha0 : a0.size ≤ 9223372036854775807) (ha2 : (sliceR (sliceR intR 3) 22).rd w0 [u2] a2) (ha4 : (sliceR (sliceR intR 3) 22).rd w0 [u4] a4) (ha5 : a5.size ≤ 9223372036854775807) (ha7 : (sliceR (sliceR intR 3) 22).rd w0 [u7] a7) (ha9 : (sliceR (sliceR intR 3) 22).rd w0 [u9] a9) {N : Nat} {r : Bool} (hF : laws_FnExactEqualDeltas N a0 a1 a2 a3 a4 a5 a6 a7 a8 a9 = some r) :
    Calls Try.prog 4 #[.agg #[.string a0, .int .i64 a1, u2, .int .i64 a3, u4], .agg #[.string a5, .int .i64 a6, u7, .int .i64 a8, u9]] w0 fun e w' => e = .returned (.bool r) ∧ Ext w0 w' := by
  unfold laws_FnExactEqualDeltas at hF
  refine calls_E Try.func4 rfl rfl (of_decide_eq_true rfl) ?_
  have hS := Sat.start w0
  refine cw_seq ?_
  refine cw_gen ?_
  intro Q101 hQ101
  refine cw_reg ?_
  refine el_box [.string a0, .int .i64 a1, u2, .int .i64 a3, u4] rfl hS (by decide) ?_
  intro w102 b103 hS hx104
  refine el_box [.string a5, .int .i64 a6, u7, .int .i64 a8, u9] rfl hS (by decide) ?_
  intro w106 b107 hS hx108
  refine el_pv (v := .bool false) (pv_assign rfl) (by decide) ?_
  refine el_nil ?_
  refine hQ101 _ _ _ ?_
  refine thn_n ?_
  refine cw_seq ?_
  refine cw_gen ?_
  intro Q110 hQ110
  refine cw_reg ?_
  refine el_pv (v := .int .i64 1048576) (pv_assign rfl) (by decide) ?_
  refine el_nil ?_
  refine hQ110 _ _ _ ?_
  refine thn_n ?_
  refine cw_seq ?_
  refine cw_gen ?_
  intro Q111 hQ111
  refine cw_reg ?_
  refine el_pv (v := .agg #[.string a0, .int .i64 a1, u2, .int .i64 a3, u4]) (pv_loada (cs := [.string a0, .int .i64 a1, u2, .int .i64 a3, u4]) rfl rfl (boxc0 (hS.boxAt 1 rfl))) (by decide) ?_
  refine el_pv (v := .int .i64 1048576) (pv_move rfl) (by decide) ?_
  replace hF := ob hF
  obtain ⟨r112, hr112, hF⟩ := hF
  refine el_call goes14 (laws_szDelta_ok ha0 (hS.up ha2) (hS.up ha4) hr112) (congrArg List.toArray (mapc rfl (mapc rfl rfl))) (by decide) ?_
  rintro _ w113 ⟨rfl, hx114⟩
  refine ⟨_, rfl, ?_⟩
  replace hS := hS.ext hx114
  refine el_pv (v := .int .i64 r112) (pv_assign rfl) (by decide) ?_
  refine el_nil ?_
  refine hQ111 _ _ _ ?_
  refine thn_n ?_
  refine cw_seq ?_
  refine cw_gen ?_
  intro Q115 hQ115
  refine cw_seq ?_
  refine cw_gen ?_
  intro Q116 hQ116
  refine cw_reg ?_
  refine el_pv (v := .int .i64 r112) (pv_move rfl) (by decide) ?_
  refine el_pv (v := .bool (decide (r112 < 0))) (pv_lss rfl rfl) (by decide) ?_
  refine el_nil ?_
  refine hQ116 _ _ _ ?_
  refine thn_n ?_
  replace hF := oif hF
  rcases hF with ⟨hb117, hF⟩ | ⟨hb117, hF⟩
  · refine cw_cond_t rfl hb117 ?_
    refine cw_seq ?_
    refine cw_gen ?_
    intro Q118 hQ118
    refine cw_reg ?_
    refine el_pv (v := .bool true) (pv_assign rfl) (by decide) ?_
    refine el_nil ?_
    refine hQ118 _ _ _ ?_
    refine thn_n ?_
    refine cw_ret ?_
    refine hQ115 _ _ _ ?_
    refine thn_r ?_
    refine fin1 rfl rfl ?_
    have hr := Option.some.inj hF
    exact ⟨congrArg (fun (r : Bool) => Ending.returned (.bool r)) hr, hS.below⟩
  · refine cw_cond_f rfl hb117 ?_
    refine cw_skip ?_
    refine hQ115 _ _ _ ?_
    refine thn_n ?_
    refine cw_seq ?_
    refine cw_gen ?_
    intro Q119 hQ119
    refine cw_reg ?_
    refine el_pv (v := .agg #[.string a5, .int .i64 a6, u7, .int .i64 a8, u9]) (pv_loada (cs := [.string a5, .int .i64 a6, u7, .int .i64 a8, u9]) rfl rfl (boxc0 (hS.boxAt 0 rfl))) (by decide) ?_
    refine el_pv (v := .int .i64 r112) (pv_move rfl) (by decide) ?_
    replace hF := ob hF
    obtain ⟨r120, hr120, hF⟩ := hF
    refine el_call goes14 (laws_szDelta_ok ha5 (hS.up ha7) (hS.up ha9) hr120) (congrArg List.toArray (mapc rfl (mapc rfl rfl))) (by decide) ?_
    rintro _ w121 ⟨rfl, hx122⟩
    refine ⟨_, rfl, ?_⟩
    replace hS := hS.ext hx122
    refine el_pv (v := .int .i64 r120) (pv_assign rfl) (by decide) ?_
    refine el_nil ?_
    refine hQ119 _ _ _ ?_
    refine thn_n ?_
    refine cw_seq ?_
    refine cw_gen ?_
    intro Q123 hQ123
    refine cw_seq ?_
    refine cw_gen ?_
    intro Q124 hQ124
    refine cw_reg ?_
    refine el_pv (v := .int .i64 r120) (pv_move rfl) (by decide) ?_
    refine el_pv (v := .bool (decide (r120 < 0))) (pv_lss rfl rfl) (by decide) ?_
    refine el_nil ?_
    refine hQ124 _ _ _ ?_
    refine thn_n ?_
    replace hF := oif hF
    rcases hF with ⟨hb125, hF⟩ | ⟨hb125, hF⟩
    · refine cw_cond_t rfl hb125 ?_
      refine cw_seq ?_
      refine cw_gen ?_
      intro Q126 hQ126
      refine cw_reg ?_
      refine el_pv (v := .bool true) (pv_assign rfl) (by decide) ?_
      refine el_nil ?_
      refine hQ126 _ _ _ ?_
      refine thn_n ?_
      refine cw_ret ?_
      refine hQ123 _ _ _ ?_
      refine thn_r ?_
      refine fin1 rfl rfl ?_
      have hr := Option.some.inj hF
      exact ⟨congrArg (fun (r : Bool) => Ending.returned (.bool r)) hr, hS.below⟩
    · refine cw_cond_f rfl hb125 ?_
      refine cw_skip ?_
      refine hQ123 _ _ _ ?_
      refine thn_n ?_
      refine cw_seq ?_
      refine cw_gen ?_
      intro Q127 hQ127
      obtain ⟨C, hCd⟩ : ∃ C : World → Prop, ∀ w, C w ↔ ∃ G, Sat w0 w ([Box b107 37 [.string a5, .int .i64 a6, u7, .int .i64 a8, u9], Box b103 37 [.string a0, .int .i64 a1, u2, .int .i64 a3, u4]] ++ G) := ⟨_, fun _ => Iff.rfl⟩
      refine cw_regb [0, 1, 2, 3, 4, 5] C (by kernel_rfl) ?_
      intro w128 hx129
      replace hS := hS.ext hx129
      replace hS : Sat w0 w128 [Box b103 37 [.string a0, .int .i64 a1, u2, .int .i64 a3, u4], Box b107 37 [.string a5, .int .i64 a6, u7, .int .i64 a8, u9]] := hS.top 1 rfl
      replace hS : Sat w0 w128 [Box b107 37 [.string a5, .int .i64 a6, u7, .int .i64 a8, u9], Box b103 37 [.string a0, .int .i64 a1, u2, .int .i64 a3, u4]] := hS.top 1 rfl
      have hC := (hCd _).2 ⟨_, hS⟩
      refine al_p (v := .agg #[.string a0, .int .i64 a1, u2, .int .i64 a3, u4]) (by kernel_rfl) 0 rfl rfl (by decide) hC (by kernel_rfl) (by kernel_rfl) (sv_on rfl (fun w' hw' => by obtain ⟨_, hS⟩ := (hCd _).1 hw'; exact (pv_loada (cs := [.string a0, .int .i64 a1, u2, .int .i64 a3, u4]) rfl rfl (boxc0 (hS.boxAt 1 rfl))))) ?_
      refine al_p (v := .agg #[.string a5, .int .i64 a6, u7, .int .i64 a8, u9]) (by kernel_rfl) 2 rfl rfl (by decide) hC (by kernel_rfl) (by kernel_rfl) (sv_on rfl (fun w' hw' => by obtain ⟨_, hS⟩ := (hCd _).1 hw'; exact (pv_loada (cs := [.string a5, .int .i64 a6, u7, .int .i64 a8, u9]) rfl rfl (boxc0 (hS.boxAt 0 rfl))))) ?_
      refine al_one 1 (by kernel_rfl) rfl ?_
      replace hF := ob hF
      obtain ⟨r130, hr130, hF⟩ := hF
      refine el_call goes16 (laws_toDelta_ok ha0 (hS.up ha2) (hS.up ha4) hr130) (congrArg List.toArray (mapc rfl rfl)) (by decide) ?_
      rintro _ w136 ⟨v132, v134, rfl, hS', hz131⟩
      refine ⟨_, rfl, ?_⟩
      have hx137 := hS'.below
      replace hS := hS.call2 hS'
      refine el_nil ?_
      replace hS : Sat w0 w136 [Box b103 37 [.string a0, .int .i64 a1, u2, .int .i64 a3, u4], Own (sliceR (sliceR intR 3) 22) [v132] r130.2.1.2, Own (sliceR (sliceR intR 3) 22) [v134] r130.2.2.2, Box b107 37 [.string a5, .int .i64 a6, u7, .int .i64 a8, u9]] := hS.top 3 rfl
      replace hS : Sat w0 w136 [Box b107 37 [.string a5, .int .i64 a6, u7, .int .i64 a8, u9], Box b103 37 [.string a0, .int .i64 a1, u2, .int .i64 a3, u4], Own (sliceR (sliceR intR 3) 22) [v132] r130.2.1.2, Own (sliceR (sliceR intR 3) 22) [v134] r130.2.2.2] := hS.top 3 rfl
      have hC := (hCd _).2 ⟨_, hS⟩
      have hoc138 := oc (hS.rdAt (R := (sliceR (sliceR intR 3) 22)) 2 rfl)
      have hoc139 := oc (hS.rdAt (R := (sliceR (sliceR intR 3) 22)) 3 rfl)
      refine ⟨fun _ => hC, ?_⟩
      refine al_one 3 (by kernel_rfl) rfl ?_
      replace hF := ob hF
      obtain ⟨r140, hr140, hF⟩ := hF
      refine el_call goes16 (laws_toDelta_ok ha5 (hS.up ha7) (hS.up ha9) hr140) (congrArg List.toArray (mapc rfl rfl)) (by decide) ?_
      rintro _ w146 ⟨v142, v144, rfl, hS', hz141⟩
      refine ⟨_, rfl, ?_⟩
      have hx147 := hS'.below
      replace hS := hS.call2 hS'
      refine el_nil ?_
      replace hS : Sat w0 w146 [Box b103 37 [.string a0, .int .i64 a1, u2, .int .i64 a3, u4], Own (sliceR (sliceR intR 3) 22) [v142] r140.2.1.2, Own (sliceR (sliceR intR 3) 22) [v144] r140.2.2.2, Box b107 37 [.string a5, .int .i64 a6, u7, .int .i64 a8, u9], Own (sliceR (sliceR intR 3) 22) [v132] r130.2.1.2, Own (sliceR (sliceR intR 3) 22) [v134] r130.2.2.2] := hS.top 3 rfl
      replace hS : Sat w0 w146 [Box b107 37 [.string a5, .int .i64 a6, u7, .int .i64 a8, u9], Box b103 37 [.string a0, .int .i64 a1, u2, .int .i64 a3, u4], Own (sliceR (sliceR intR 3) 22) [v142] r140.2.1.2, Own (sliceR (sliceR intR 3) 22) [v144] r140.2.2.2, Own (sliceR (sliceR intR 3) 22) [v132] r130.2.1.2, Own (sliceR (sliceR intR 3) 22) [v134] r130.2.2.2] := hS.top 3 rfl
      have hC := (hCd _).2 ⟨_, hS⟩
      have hoc148 := oc (hS.rdAt (R := (sliceR (sliceR intR 3) 22)) 2 rfl)
      have hoc149 := oc (hS.rdAt (R := (sliceR (sliceR intR 3) 22)) 3 rfl)
      refine ⟨fun _ => hC, ?_⟩
      refine al_one 4 (by kernel_rfl) rfl ?_
      replace hF := ob hF
      obtain ⟨r150, hr150, hF⟩ := hF
      refine el_call goes15 (spec_EqualDeltas_ok hz131 (hS.rdAt (R := (sliceR (sliceR intR 3) 22)) 4 rfl) (hS.rdAt (R := (sliceR (sliceR intR 3) 22)) 5 rfl) hz141 (hS.rdAt (R := (sliceR (sliceR intR 3) 22)) 2 rfl) (hS.rdAt (R := (sliceR (sliceR intR 3) 22)) 3 rfl) hr150) (congrArg List.toArray (mapc rfl (mapc rfl rfl))) (by decide) ?_
      rintro _ w151 ⟨rfl, hx152⟩
      refine ⟨_, rfl, ?_⟩
      replace hS := hS.ext hx152
      refine el_nil ?_
      replace hS : Sat w0 w151 [Box b103 37 [.string a0, .int .i64 a1, u2, .int .i64 a3, u4], Box b107 37 [.string a5, .int .i64 a6, u7, .int .i64 a8, u9], Own (sliceR (sliceR intR 3) 22) [v142] r140.2.1.2, Own (sliceR (sliceR intR 3) 22) [v144] r140.2.2.2, Own (sliceR (sliceR intR 3) 22) [v132] r130.2.1.2, Own (sliceR (sliceR intR 3) 22) [v134] r130.2.2.2] := hS.top 1 rfl
      replace hS : Sat w0 w151 [Box b107 37 [.string a5, .int .i64 a6, u7, .int .i64 a8, u9], Box b103 37 [.string a0, .int .i64 a1, u2, .int .i64 a3, u4], Own (sliceR (sliceR intR 3) 22) [v142] r140.2.1.2, Own (sliceR (sliceR intR 3) 22) [v144] r140.2.2.2, Own (sliceR (sliceR intR 3) 22) [v132] r130.2.1.2, Own (sliceR (sliceR intR 3) 22) [v134] r130.2.2.2] := hS.top 1 rfl
      have hC := (hCd _).2 ⟨_, hS⟩
      refine ⟨fun _ => hC, ?_⟩
      refine al_p (v := .bool r150) (by kernel_rfl) 5 rfl rfl (by decide) hC (by kernel_rfl) (by kernel_rfl) (sv_on rfl (fun w' hw' => by obtain ⟨_, hS⟩ := (hCd _).1 hw'; exact (pv_assign rfl))) ?_
      refine al_nil (by kernel_rfl) ?_
      refine hQ127 _ _ _ ?_
      refine thn_n ?_
      refine cw_seq ?_
      refine cw_gen ?_
      intro Q153 hQ153
      refine cw_reg ?_
      refine el_pv (v := .agg #[.string a0, .int .i64 a1, u2, .int .i64 a3, u4]) (pv_loada (cs := [.string a0, .int .i64 a1, u2, .int .i64 a3, u4]) rfl rfl (boxc0 (hS.boxAt 1 rfl))) (by decide) ?_
      replace hF := ob hF
      obtain ⟨r154, hr154, hF⟩ := hF
      refine el_call goes16 (laws_toDelta_ok ha0 (hS.up ha2) (hS.up ha4) hr154) (congrArg List.toArray (mapc rfl rfl)) (by decide) ?_
      rintro _ w160 ⟨v156, v158, rfl, hS', hz155⟩
      refine ⟨_, rfl, ?_⟩
      have hx161 := hS'.below
      replace hS := hS.call2 hS'
      refine el_alloc hS (by decide) ?_
      intro w162 b163 hS hx164
      refine el_storev (hS.top 0 rfl) rfl [.string r154.1, .int .i64 r154.2.1.1, v156, .int .i64 r154.2.2.1, v158] rfl rfl (of_decide_eq_true rfl) (all_cons rfl (all_cons rfl (all_cons (oc (hS.rdAt (R := (sliceR (sliceR intR 3) 22)) 1 rfl)) (all_cons rfl (all_cons (oc (hS.rdAt (R := (sliceR (sliceR intR 3) 22)) 2 rfl)) rfl))))) ?_
      intro w166 hS
      replace hS : Sat w0 w166 [Box b163 42 [.string r154.1, .int .i64 r154.2.1.1, v156, .int .i64 r154.2.2.1, v158], Own (sliceR (sliceR intR 3) 22) [v156] r154.2.1.2, Own (sliceR (sliceR intR 3) 22) [v158] r154.2.2.2, Box b107 37 [.string a5, .int .i64 a6, u7, .int .i64 a8, u9], Box b103 37 [.string a0, .int .i64 a1, u2, .int .i64 a3, u4], Own (sliceR (sliceR intR 3) 22) [v142] r140.2.1.2, Own (sliceR (sliceR intR 3) 22) [v144] r140.2.2.2, Own (sliceR (sliceR intR 3) 22) [v132] r130.2.1.2, Own (sliceR (sliceR intR 3) 22) [v134] r130.2.2.2] := hS
      refine el_nil ?_
      refine hQ153 _ _ _ ?_
      refine thn_n ?_
      refine cw_seq ?_
      refine cw_gen ?_
      intro Q167 hQ167
      refine cw_reg ?_
      refine el_pv (v := .agg #[.string a5, .int .i64 a6, u7, .int .i64 a8, u9]) (pv_loada (cs := [.string a5, .int .i64 a6, u7, .int .i64 a8, u9]) rfl rfl (boxc0 (hS.boxAt 3 rfl))) (by decide) ?_
      replace hF := ob hF
      obtain ⟨r168, hr168, hF⟩ := hF
      refine el_call goes16 (laws_toDelta_ok ha5 (hS.up ha7) (hS.up ha9) hr168) (congrArg List.toArray (mapc rfl rfl)) (by decide) ?_
      rintro _ w174 ⟨v170, v172, rfl, hS', hz169⟩
      refine ⟨_, rfl, ?_⟩
      have hx175 := hS'.below
      replace hS := hS.call2 hS'
      refine el_alloc hS (by decide) ?_
      intro w176 b177 hS hx178
      refine el_storev (hS.top 0 rfl) rfl [.string r168.1, .int .i64 r168.2.1.1, v170, .int .i64 r168.2.2.1, v172] rfl rfl (of_decide_eq_true rfl) (all_cons rfl (all_cons rfl (all_cons (oc (hS.rdAt (R := (sliceR (sliceR intR 3) 22)) 1 rfl)) (all_cons rfl (all_cons (oc (hS.rdAt (R := (sliceR (sliceR intR 3) 22)) 2 rfl)) rfl))))) ?_
      intro w180 hS
      replace hS : Sat w0 w180 [Box b177 42 [.string r168.1, .int .i64 r168.2.1.1, v170, .int .i64 r168.2.2.1, v172], Own (sliceR (sliceR intR 3) 22) [v170] r168.2.1.2, Own (sliceR (sliceR intR 3) 22) [v172] r168.2.2.2, Box b163 42 [.string r154.1, .int .i64 r154.2.1.1, v156, .int .i64 r154.2.2.1, v158], Own (sliceR (sliceR intR 3) 22) [v156] r154.2.1.2, Own (sliceR (sliceR intR 3) 22) [v158] r154.2.2.2, Box b107 37 [.string a5, .int .i64 a6, u7, .int .i64 a8, u9], Box b103 37 [.string a0, .int .i64 a1, u2, .int .i64 a3, u4], Own (sliceR (sliceR intR 3) 22) [v142] r140.2.1.2, Own (sliceR (sliceR intR 3) 22) [v144] r140.2.2.2, Own (sliceR (sliceR intR 3) 22) [v132] r130.2.1.2, Own (sliceR (sliceR intR 3) 22) [v134] r130.2.2.2] := hS
      refine el_nil ?_
      refine hQ167 _ _ _ ?_
      refine thn_n ?_
      refine cw_seq ?_
      refine cw_gen ?_
      intro Q181 hQ181
      refine cw_reg ?_
      refine el_pv (v := .agg #[.string r154.1, .int .i64 r154.2.1.1, v156, .int .i64 r154.2.2.1, v158]) (pv_loada (cs := [.string r154.1, .int .i64 r154.2.1.1, v156, .int .i64 r154.2.2.1, v158]) rfl rfl (boxc0 (hS.boxAt 3 rfl))) (by decide) ?_
      refine el_pv (v := .agg #[.string r168.1, .int .i64 r168.2.1.1, v170, .int .i64 r168.2.2.1, v172]) (pv_loada (cs := [.string r168.1, .int .i64 r168.2.1.1, v170, .int .i64 r168.2.2.1, v172]) rfl rfl (boxc0 (hS.boxAt 0 rfl))) (by decide) ?_
      replace hF := ob hF
      obtain ⟨r182, hr182, hF⟩ := hF
      refine el_call goes17 (impl_EqualDeltas_ok hz155 (hS.rdAt (R := (sliceR (sliceR intR 3) 22)) 4 rfl) (hS.rdAt (R := (sliceR (sliceR intR 3) 22)) 5 rfl) hz169 (hS.rdAt (R := (sliceR (sliceR intR 3) 22)) 1 rfl) (hS.rdAt (R := (sliceR (sliceR intR 3) 22)) 2 rfl) hr182) (congrArg List.toArray (mapc rfl (mapc rfl rfl))) (by decide) ?_
      rintro _ w183 ⟨rfl, hx184⟩
      refine ⟨_, rfl, ?_⟩
      replace hS := hS.ext hx184
      refine el_pv (v := .bool r182) (pv_assign rfl) (by decide) ?_
      refine el_nil ?_
      refine hQ181 _ _ _ ?_
      refine thn_n ?_
      refine cw_seq ?_
      refine cw_gen ?_
      intro Q185 hQ185
      refine cw_seq ?_
      refine cw_gen ?_
      intro Q186 hQ186
      refine cw_reg ?_
      refine el_pv (v := .bool r182) (pv_move rfl) (by decide) ?_
      refine el_pv (v := .bool r150) (pv_move rfl) (by decide) ?_
      refine el_pv (v := .bool (r182 != r150)) (pv_neqB Try.underlying4 rfl rfl) (by decide) ?_
      refine el_nil ?_
      refine hQ186 _ _ _ ?_
      refine thn_n ?_
      replace hF := oif hF
      rcases hF with ⟨hb187, hF⟩ | ⟨hb187, hF⟩
      · refine cw_cond_t rfl hb187 ?_
        refine cw_seq ?_
        refine cw_gen ?_
        intro Q188 hQ188
        refine cw_reg ?_
        refine el_pv (v := .bool false) (pv_assign rfl) (by decide) ?_
        refine el_nil ?_
        refine hQ188 _ _ _ ?_
        refine thn_n ?_
        refine cw_ret ?_
        refine hQ185 _ _ _ ?_
        refine thn_r ?_
        refine fin1 rfl rfl ?_
        have hr := Option.some.inj hF
        exact ⟨congrArg (fun (r : Bool) => Ending.returned (.bool r)) hr, hS.below⟩
      · refine cw_cond_f rfl hb187 ?_
        refine cw_skip ?_
        refine hQ185 _ _ _ ?_
        refine thn_n ?_
        refine cw_seq ?_
        refine cw_gen ?_
        intro Q189 hQ189
        refine cw_seq ?_
        refine cw_gen ?_
        intro Q190 hQ190
        obtain ⟨C, hCd⟩ : ∃ C : World → Prop, ∀ w, C w ↔ ∃ G, Sat w0 w ([Box b177 42 [.string r168.1, .int .i64 r168.2.1.1, v170, .int .i64 r168.2.2.1, v172], Box b163 42 [.string r154.1, .int .i64 r154.2.1.1, v156, .int .i64 r154.2.2.1, v158], Box b107 37 [.string a5, .int .i64 a6, u7, .int .i64 a8, u9], Box b103 37 [.string a0, .int .i64 a1, u2, .int .i64 a3, u4], Own (sliceR (sliceR intR 3) 22) [v170] r168.2.1.2, Own (sliceR (sliceR intR 3) 22) [v172] r168.2.2.2, Own (sliceR (sliceR intR 3) 22) [v156] r154.2.1.2, Own (sliceR (sliceR intR 3) 22) [v158] r154.2.2.2, Own (sliceR (sliceR intR 3) 22) [v142] r140.2.1.2, Own (sliceR (sliceR intR 3) 22) [v144] r140.2.2.2, Own (sliceR (sliceR intR 3) 22) [v132] r130.2.1.2, Own (sliceR (sliceR intR 3) 22) [v134] r130.2.2.2] ++ G) := ⟨_, fun _ => Iff.rfl⟩
        refine cw_regb [0, 1, 2, 3, 4] C (by kernel_rfl) ?_
        intro w191 hx192
        replace hS := hS.ext hx192
        replace hS : Sat w0 w191 [Own (sliceR (sliceR intR 3) 22) [v134] r130.2.2.2, Box b177 42 [.string r168.1, .int .i64 r168.2.1.1, v170, .int .i64 r168.2.2.1, v172], Own (sliceR (sliceR intR 3) 22) [v170] r168.2.1.2, Own (sliceR (sliceR intR 3) 22) [v172] r168.2.2.2, Box b163 42 [.string r154.1, .int .i64 r154.2.1.1, v156, .int .i64 r154.2.2.1, v158], Own (sliceR (sliceR intR 3) 22) [v156] r154.2.1.2, Own (sliceR (sliceR intR 3) 22) [v158] r154.2.2.2, Box b107 37 [.string a5, .int .i64 a6, u7, .int .i64 a8, u9], Box b103 37 [.string a0, .int .i64 a1, u2, .int .i64 a3, u4], Own (sliceR (sliceR intR 3) 22) [v142] r140.2.1.2, Own (sliceR (sliceR intR 3) 22) [v144] r140.2.2.2, Own (sliceR (sliceR intR 3) 22) [v132] r130.2.1.2] := hS.top 11 rfl
        replace hS : Sat w0 w191 [Own (sliceR (sliceR intR 3) 22) [v132] r130.2.1.2, Own (sliceR (sliceR intR 3) 22) [v134] r130.2.2.2, Box b177 42 [.string r168.1, .int .i64 r168.2.1.1, v170, .int .i64 r168.2.2.1, v172], Own (sliceR (sliceR intR 3) 22) [v170] r168.2.1.2, Own (sliceR (sliceR intR 3) 22) [v172] r168.2.2.2, Box b163 42 [.string r154.1, .int .i64 r154.2.1.1, v156, .int .i64 r154.2.2.1, v158], Own (sliceR (sliceR intR 3) 22) [v156] r154.2.1.2, Own (sliceR (sliceR intR 3) 22) [v158] r154.2.2.2, Box b107 37 [.string a5, .int .i64 a6, u7, .int .i64 a8, u9], Box b103 37 [.string a0, .int .i64 a1, u2, .int .i64 a3, u4], Own (sliceR (sliceR intR 3) 22) [v142] r140.2.1.2, Own (sliceR (sliceR intR 3) 22) [v144] r140.2.2.2] := hS.top 11 rfl
        replace hS : Sat w0 w191 [Own (sliceR (sliceR intR 3) 22) [v144] r140.2.2.2, Own (sliceR (sliceR intR 3) 22) [v132] r130.2.1.2, Own (sliceR (sliceR intR 3) 22) [v134] r130.2.2.2, Box b177 42 [.string r168.1, .int .i64 r168.2.1.1, v170, .int .i64 r168.2.2.1, v172], Own (sliceR (sliceR intR 3) 22) [v170] r168.2.1.2, Own (sliceR (sliceR intR 3) 22) [v172] r168.2.2.2, Box b163 42 [.string r154.1, .int .i64 r154.2.1.1, v156, .int .i64 r154.2.2.1, v158], Own (sliceR (sliceR intR 3) 22) [v156] r154.2.1.2, Own (sliceR (sliceR intR 3) 22) [v158] r154.2.2.2, Box b107 37 [.string a5, .int .i64 a6, u7, .int .i64 a8, u9], Box b103 37 [.string a0, .int .i64 a1, u2, .int .i64 a3, u4], Own (sliceR (sliceR intR 3) 22) [v142] r140.2.1.2] := hS.top 11 rfl
        replace hS : Sat w0 w191 [Own (sliceR (sliceR intR 3) 22) [v142] r140.2.1.2, Own (sliceR (sliceR intR 3) 22) [v144] r140.2.2.2, Own (sliceR (sliceR intR 3) 22) [v132] r130.2.1.2, Own (sliceR (sliceR intR 3) 22) [v134] r130.2.2.2, Box b177 42 [.string r168.1, .int .i64 r168.2.1.1, v170, .int .i64 r168.2.2.1, v172], Own (sliceR (sliceR intR 3) 22) [v170] r168.2.1.2, Own (sliceR (sliceR intR 3) 22) [v172] r168.2.2.2, Box b163 42 [.string r154.1, .int .i64 r154.2.1.1, v156, .int .i64 r154.2.2.1, v158], Own (sliceR (sliceR intR 3) 22) [v156] r154.2.1.2, Own (sliceR (sliceR intR 3) 22) [v158] r154.2.2.2, Box b107 37 [.string a5, .int .i64 a6, u7, .int .i64 a8, u9], Box b103 37 [.string a0, .int .i64 a1, u2, .int .i64 a3, u4]] := hS.top 11 rfl
        replace hS : Sat w0 w191 [Own (sliceR (sliceR intR 3) 22) [v158] r154.2.2.2, Own (sliceR (sliceR intR 3) 22) [v142] r140.2.1.2, Own (sliceR (sliceR intR 3) 22) [v144] r140.2.2.2, Own (sliceR (sliceR intR 3) 22) [v132] r130.2.1.2, Own (sliceR (sliceR intR 3) 22) [v134] r130.2.2.2, Box b177 42 [.string r168.1, .int .i64 r168.2.1.1, v170, .int .i64 r168.2.2.1, v172], Own (sliceR (sliceR intR 3) 22) [v170] r168.2.1.2, Own (sliceR (sliceR intR 3) 22) [v172] r168.2.2.2, Box b163 42 [.string r154.1, .int .i64 r154.2.1.1, v156, .int .i64 r154.2.2.1, v158], Own (sliceR (sliceR intR 3) 22) [v156] r154.2.1.2, Box b107 37 [.string a5, .int .i64 a6, u7, .int .i64 a8, u9], Box b103 37 [.string a0, .int .i64 a1, u2, .int .i64 a3, u4]] := hS.top 9 rfl
        replace hS : Sat w0 w191 [Own (sliceR (sliceR intR 3) 22) [v156] r154.2.1.2, Own (sliceR (sliceR intR 3) 22) [v158] r154.2.2.2, Own (sliceR (sliceR intR 3) 22) [v142] r140.2.1.2, Own (sliceR (sliceR intR 3) 22) [v144] r140.2.2.2, Own (sliceR (sliceR intR 3) 22) [v132] r130.2.1.2, Own (sliceR (sliceR intR 3) 22) [v134] r130.2.2.2, Box b177 42 [.string r168.1, .int .i64 r168.2.1.1, v170, .int .i64 r168.2.2.1, v172], Own (sliceR (sliceR intR 3) 22) [v170] r168.2.1.2, Own (sliceR (sliceR intR 3) 22) [v172] r168.2.2.2, Box b163 42 [.string r154.1, .int .i64 r154.2.1.1, v156, .int .i64 r154.2.2.1, v158], Box b107 37 [.string a5, .int .i64 a6, u7, .int .i64 a8, u9], Box b103 37 [.string a0, .int .i64 a1, u2, .int .i64 a3, u4]] := hS.top 9 rfl
        replace hS : Sat w0 w191 [Own (sliceR (sliceR intR 3) 22) [v172] r168.2.2.2, Own (sliceR (sliceR intR 3) 22) [v156] r154.2.1.2, Own (sliceR (sliceR intR 3) 22) [v158] r154.2.2.2, Own (sliceR (sliceR intR 3) 22) [v142] r140.2.1.2, Own (sliceR (sliceR intR 3) 22) [v144] r140.2.2.2, Own (sliceR (sliceR intR 3) 22) [v132] r130.2.1.2, Own (sliceR (sliceR intR 3) 22) [v134] r130.2.2.2, Box b177 42 [.string r168.1, .int .i64 r168.2.1.1, v170, .int .i64 r168.2.2.1, v172], Own (sliceR (sliceR intR 3) 22) [v170] r168.2.1.2, Box b163 42 [.string r154.1, .int .i64 r154.2.1.1, v156, .int .i64 r154.2.2.1, v158], Box b107 37 [.string a5, .int .i64 a6, u7, .int .i64 a8, u9], Box b103 37 [.string a0, .int .i64 a1, u2, .int .i64 a3, u4]] := hS.top 8 rfl
        replace hS : Sat w0 w191 [Own (sliceR (sliceR intR 3) 22) [v170] r168.2.1.2, Own (sliceR (sliceR intR 3) 22) [v172] r168.2.2.2, Own (sliceR (sliceR intR 3) 22) [v156] r154.2.1.2, Own (sliceR (sliceR intR 3) 22) [v158] r154.2.2.2, Own (sliceR (sliceR intR 3) 22) [v142] r140.2.1.2, Own (sliceR (sliceR intR 3) 22) [v144] r140.2.2.2, Own (sliceR (sliceR intR 3) 22) [v132] r130.2.1.2, Own (sliceR (sliceR intR 3) 22) [v134] r130.2.2.2, Box b177 42 [.string r168.1, .int .i64 r168.2.1.1, v170, .int .i64 r168.2.2.1, v172], Box b163 42 [.string r154.1, .int .i64 r154.2.1.1, v156, .int .i64 r154.2.2.1, v158], Box b107 37 [.string a5, .int .i64 a6, u7, .int .i64 a8, u9], Box b103 37 [.string a0, .int .i64 a1, u2, .int .i64 a3, u4]] := hS.top 8 rfl
        replace hS : Sat w0 w191 [Box b103 37 [.string a0, .int .i64 a1, u2, .int .i64 a3, u4], Own (sliceR (sliceR intR 3) 22) [v170] r168.2.1.2, Own (sliceR (sliceR intR 3) 22) [v172] r168.2.2.2, Own (sliceR (sliceR intR 3) 22) [v156] r154.2.1.2, Own (sliceR (sliceR intR 3) 22) [v158] r154.2.2.2, Own (sliceR (sliceR intR 3) 22) [v142] r140.2.1.2, Own (sliceR (sliceR intR 3) 22) [v144] r140.2.2.2, Own (sliceR (sliceR intR 3) 22) [v132] r130.2.1.2, Own (sliceR (sliceR intR 3) 22) [v134] r130.2.2.2, Box b177 42 [.string r168.1, .int .i64 r168.2.1.1, v170, .int .i64 r168.2.2.1, v172], Box b163 42 [.string r154.1, .int .i64 r154.2.1.1, v156, .int .i64 r154.2.2.1, v158], Box b107 37 [.string a5, .int .i64 a6, u7, .int .i64 a8, u9]] := hS.top 11 rfl
        replace hS : Sat w0 w191 [Box b107 37 [.string a5, .int .i64 a6, u7, .int .i64 a8, u9], Box b103 37 [.string a0, .int .i64 a1, u2, .int .i64 a3, u4], Own (sliceR (sliceR intR 3) 22) [v170] r168.2.1.2, Own (sliceR (sliceR intR 3) 22) [v172] r168.2.2.2, Own (sliceR (sliceR intR 3) 22) [v156] r154.2.1.2, Own (sliceR (sliceR intR 3) 22) [v158] r154.2.2.2, Own (sliceR (sliceR intR 3) 22) [v142] r140.2.1.2, Own (sliceR (sliceR intR 3) 22) [v144] r140.2.2.2, Own (sliceR (sliceR intR 3) 22) [v132] r130.2.1.2, Own (sliceR (sliceR intR 3) 22) [v134] r130.2.2.2, Box b177 42 [.string r168.1, .int .i64 r168.2.1.1, v170, .int .i64 r168.2.2.1, v172], Box b163 42 [.string r154.1, .int .i64 r154.2.1.1, v156, .int .i64 r154.2.2.1, v158]] := hS.top 11 rfl
        replace hS : Sat w0 w191 [Box b163 42 [.string r154.1, .int .i64 r154.2.1.1, v156, .int .i64 r154.2.2.1, v158], Box b107 37 [.string a5, .int .i64 a6, u7, .int .i64 a8, u9], Box b103 37 [.string a0, .int .i64 a1, u2, .int .i64 a3, u4], Own (sliceR (sliceR intR 3) 22) [v170] r168.2.1.2, Own (sliceR (sliceR intR 3) 22) [v172] r168.2.2.2, Own (sliceR (sliceR intR 3) 22) [v156] r154.2.1.2, Own (sliceR (sliceR intR 3) 22) [v158] r154.2.2.2, Own (sliceR (sliceR intR 3) 22) [v142] r140.2.1.2, Own (sliceR (sliceR intR 3) 22) [v144] r140.2.2.2, Own (sliceR (sliceR intR 3) 22) [v132] r130.2.1.2, Own (sliceR (sliceR intR 3) 22) [v134] r130.2.2.2, Box b177 42 [.string r168.1, .int .i64 r168.2.1.1, v170, .int .i64 r168.2.2.1, v172]] := hS.top 11 rfl
        replace hS : Sat w0 w191 [Box b177 42 [.string r168.1, .int .i64 r168.2.1.1, v170, .int .i64 r168.2.2.1, v172], Box b163 42 [.string r154.1, .int .i64 r154.2.1.1, v156, .int .i64 r154.2.2.1, v158], Box b107 37 [.string a5, .int .i64 a6, u7, .int .i64 a8, u9], Box b103 37 [.string a0, .int .i64 a1, u2, .int .i64 a3, u4], Own (sliceR (sliceR intR 3) 22) [v170] r168.2.1.2, Own (sliceR (sliceR intR 3) 22) [v172] r168.2.2.2, Own (sliceR (sliceR intR 3) 22) [v156] r154.2.1.2, Own (sliceR (sliceR intR 3) 22) [v158] r154.2.2.2, Own (sliceR (sliceR intR 3) 22) [v142] r140.2.1.2, Own (sliceR (sliceR intR 3) 22) [v144] r140.2.2.2, Own (sliceR (sliceR intR 3) 22) [v132] r130.2.1.2, Own (sliceR (sliceR intR 3) 22) [v134] r130.2.2.2] := hS.top 11 rfl
        have hC := (hCd _).2 ⟨_, hS⟩
        refine al_p (v := .agg #[.string r154.1, .int .i64 r154.2.1.1, v156, .int .i64 r154.2.2.1, v158]) (by kernel_rfl) 0 rfl rfl (by decide) hC (by kernel_rfl) (by kernel_rfl) (sv_on rfl (fun w' hw' => by obtain ⟨_, hS⟩ := (hCd _).1 hw'; exact (pv_loada (cs := [.string r154.1, .int .i64 r154.2.1.1, v156, .int .i64 r154.2.2.1, v158]) rfl rfl (boxc0 (hS.boxAt 1 rfl))))) ?_
        refine al_p (v := .agg #[.string a0, .int .i64 a1, u2, .int .i64 a3, u4]) (by kernel_rfl) 1 rfl rfl (by decide) hC (by kernel_rfl) (by kernel_rfl) (sv_on rfl (fun w' hw' => by obtain ⟨_, hS⟩ := (hCd _).1 hw'; exact (pv_loada (cs := [.string a0, .int .i64 a1, u2, .int .i64 a3, u4]) rfl rfl (boxc0 (hS.boxAt 3 rfl))))) ?_
        refine al_one 2 (by kernel_rfl) rfl ?_
        replace hF := ob hF
        obtain ⟨r193, hr193, hF⟩ := hF
        refine el_call goes16 (laws_toDelta_ok ha0 (hS.up ha2) (hS.up ha4) hr193) (congrArg List.toArray (mapc rfl rfl)) (by decide) ?_
        rintro _ w199 ⟨v195, v197, rfl, hS', hz194⟩
        refine ⟨_, rfl, ?_⟩
        have hx200 := hS'.below
        replace hS := hS.call2 hS'
        refine el_nil ?_
        replace hS : Sat w0 w199 [Own (sliceR (sliceR intR 3) 22) [v134] r130.2.2.2, Own (sliceR (sliceR intR 3) 22) [v195] r193.2.1.2, Own (sliceR (sliceR intR 3) 22) [v197] r193.2.2.2, Box b177 42 [.string r168.1, .int .i64 r168.2.1.1, v170, .int .i64 r168.2.2.1, v172], Box b163 42 [.string r154.1, .int .i64 r154.2.1.1, v156, .int .i64 r154.2.2.1, v158], Box b107 37 [.string a5, .int .i64 a6, u7, .int .i64 a8, u9], Box b103 37 [.string a0, .int .i64 a1, u2, .int .i64 a3, u4], Own (sliceR (sliceR intR 3) 22) [v170] r168.2.1.2, Own (sliceR (sliceR intR 3) 22) [v172] r168.2.2.2, Own (sliceR (sliceR intR 3) 22) [v156] r154.2.1.2, Own (sliceR (sliceR intR 3) 22) [v158] r154.2.2.2, Own (sliceR (sliceR intR 3) 22) [v142] r140.2.1.2, Own (sliceR (sliceR intR 3) 22) [v144] r140.2.2.2, Own (sliceR (sliceR intR 3) 22) [v132] r130.2.1.2] := hS.top 13 rfl
        replace hS : Sat w0 w199 [Own (sliceR (sliceR intR 3) 22) [v132] r130.2.1.2, Own (sliceR (sliceR intR 3) 22) [v134] r130.2.2.2, Own (sliceR (sliceR intR 3) 22) [v195] r193.2.1.2, Own (sliceR (sliceR intR 3) 22) [v197] r193.2.2.2, Box b177 42 [.string r168.1, .int .i64 r168.2.1.1, v170, .int .i64 r168.2.2.1, v172], Box b163 42 [.string r154.1, .int .i64 r154.2.1.1, v156, .int .i64 r154.2.2.1, v158], Box b107 37 [.string a5, .int .i64 a6, u7, .int .i64 a8, u9], Box b103 37 [.string a0, .int .i64 a1, u2, .int .i64 a3, u4], Own (sliceR (sliceR intR 3) 22) [v170] r168.2.1.2, Own (sliceR (sliceR intR 3) 22) [v172] r168.2.2.2, Own (sliceR (sliceR intR 3) 22) [v156] r154.2.1.2, Own (sliceR (sliceR intR 3) 22) [v158] r154.2.2.2, Own (sliceR (sliceR intR 3) 22) [v142] r140.2.1.2, Own (sliceR (sliceR intR 3) 22) [v144] r140.2.2.2] := hS.top 13 rfl
        replace hS : Sat w0 w199 [Own (sliceR (sliceR intR 3) 22) [v144] r140.2.2.2, Own (sliceR (sliceR intR 3) 22) [v132] r130.2.1.2, Own (sliceR (sliceR intR 3) 22) [v134] r130.2.2.2, Own (sliceR (sliceR intR 3) 22) [v195] r193.2.1.2, Own (sliceR (sliceR intR 3) 22) [v197] r193.2.2.2, Box b177 42 [.string r168.1, .int .i64 r168.2.1.1, v170, .int .i64 r168.2.2.1, v172], Box b163 42 [.string r154.1, .int .i64 r154.2.1.1, v156, .int .i64 r154.2.2.1, v158], Box b107 37 [.string a5, .int .i64 a6, u7, .int .i64 a8, u9], Box b103 37 [.string a0, .int .i64 a1, u2, .int .i64 a3, u4], Own (sliceR (sliceR intR 3) 22) [v170] r168.2.1.2, Own (sliceR (sliceR intR 3) 22) [v172] r168.2.2.2, Own (sliceR (sliceR intR 3) 22) [v156] r154.2.1.2, Own (sliceR (sliceR intR 3) 22) [v158] r154.2.2.2, Own (sliceR (sliceR intR 3) 22) [v142] r140.2.1.2] := hS.top 13 rfl
        replace hS : Sat w0 w199 [Own (sliceR (sliceR intR 3) 22) [v142] r140.2.1.2, Own (sliceR (sliceR intR 3) 22) [v144] r140.2.2.2, Own (sliceR (sliceR intR 3) 22) [v132] r130.2.1.2, Own (sliceR (sliceR intR 3) 22) [v134] r130.2.2.2, Own (sliceR (sliceR intR 3) 22) [v195] r193.2.1.2, Own (sliceR (sliceR intR 3) 22) [v197] r193.2.2.2, Box b177 42 [.string r168.1, .int .i64 r168.2.1.1, v170, .int .i64 r168.2.2.1, v172], Box b163 42 [.string r154.1, .int .i64 r154.2.1.1, v156, .int .i64 r154.2.2.1, v158], Box b107 37 [.string a5, .int .i64 a6, u7, .int .i64 a8, u9], Box b103 37 [.string a0, .int .i64 a1, u2, .int .i64 a3, u4], Own (sliceR (sliceR intR 3) 22) [v170] r168.2.1.2, Own (sliceR (sliceR intR 3) 22) [v172] r168.2.2.2, Own (sliceR (sliceR intR 3) 22) [v156] r154.2.1.2, Own (sliceR (sliceR intR 3) 22) [v158] r154.2.2.2] := hS.top 13 rfl
        replace hS : Sat w0 w199 [Own (sliceR (sliceR intR 3) 22) [v158] r154.2.2.2, Own (sliceR (sliceR intR 3) 22) [v142] r140.2.1.2, Own (sliceR (sliceR intR 3) 22) [v144] r140.2.2.2, Own (sliceR (sliceR intR 3) 22) [v132] r130.2.1.2, Own (sliceR (sliceR intR 3) 22) [v134] r130.2.2.2, Own (sliceR (sliceR intR 3) 22) [v195] r193.2.1.2, Own (sliceR (sliceR intR 3) 22) [v197] r193.2.2.2, Box b177 42 [.string r168.1, .int .i64 r168.2.1.1, v170, .int .i64 r168.2.2.1, v172], Box b163 42 [.string r154.1, .int .i64 r154.2.1.1, v156, .int .i64 r154.2.2.1, v158], Box b107 37 [.string a5, .int .i64 a6, u7, .int .i64 a8, u9], Box b103 37 [.string a0, .int .i64 a1, u2, .int .i64 a3, u4], Own (sliceR (sliceR intR 3) 22) [v170] r168.2.1.2, Own (sliceR (sliceR intR 3) 22) [v172] r168.2.2.2, Own (sliceR (sliceR intR 3) 22) [v156] r154.2.1.2] := hS.top 13 rfl
        replace hS : Sat w0 w199 [Own (sliceR (sliceR intR 3) 22) [v156] r154.2.1.2, Own (sliceR (sliceR intR 3) 22) [v158] r154.2.2.2, Own (sliceR (sliceR intR 3) 22) [v142] r140.2.1.2, Own (sliceR (sliceR intR 3) 22) [v144] r140.2.2.2, Own (sliceR (sliceR intR 3) 22) [v132] r130.2.1.2, Own (sliceR (sliceR intR 3) 22) [v134] r130.2.2.2, Own (sliceR (sliceR intR 3) 22) [v195] r193.2.1.2, Own (sliceR (sliceR intR 3) 22) [v197] r193.2.2.2, Box b177 42 [.string r168.1, .int .i64 r168.2.1.1, v170, .int .i64 r168.2.2.1, v172], Box b163 42 [.string r154.1, .int .i64 r154.2.1.1, v156, .int .i64 r154.2.2.1, v158], Box b107 37 [.string a5, .int .i64 a6, u7, .int .i64 a8, u9], Box b103 37 [.string a0, .int .i64 a1, u2, .int .i64 a3, u4], Own (sliceR (sliceR intR 3) 22) [v170] r168.2.1.2, Own (sliceR (sliceR intR 3) 22) [v172] r168.2.2.2] := hS.top 13 rfl
        replace hS : Sat w0 w199 [Own (sliceR (sliceR intR 3) 22) [v172] r168.2.2.2, Own (sliceR (sliceR intR 3) 22) [v156] r154.2.1.2, Own (sliceR (sliceR intR 3) 22) [v158] r154.2.2.2, Own (sliceR (sliceR intR 3) 22) [v142] r140.2.1.2, Own (sliceR (sliceR intR 3) 22) [v144] r140.2.2.2, Own (sliceR (sliceR intR 3) 22) [v132] r130.2.1.2, Own (sliceR (sliceR intR 3) 22) [v134] r130.2.2.2, Own (sliceR (sliceR intR 3) 22) [v195] r193.2.1.2, Own (sliceR (sliceR intR 3) 22) [v197] r193.2.2.2, Box b177 42 [.string r168.1, .int .i64 r168.2.1.1, v170, .int .i64 r168.2.2.1, v172], Box b163 42 [.string r154.1, .int .i64 r154.2.1.1, v156, .int .i64 r154.2.2.1, v158], Box b107 37 [.string a5, .int .i64 a6, u7, .int .i64 a8, u9], Box b103 37 [.string a0, .int .i64 a1, u2, .int .i64 a3, u4], Own (sliceR (sliceR intR 3) 22) [v170] r168.2.1.2] := hS.top 13 rfl
        replace hS : Sat w0 w199 [Own (sliceR (sliceR intR 3) 22) [v170] r168.2.1.2, Own (sliceR (sliceR intR 3) 22) [v172] r168.2.2.2, Own (sliceR (sliceR intR 3) 22) [v156] r154.2.1.2, Own (sliceR (sliceR intR 3) 22) [v158] r154.2.2.2, Own (sliceR (sliceR intR 3) 22) [v142] r140.2.1.2, Own (sliceR (sliceR intR 3) 22) [v144] r140.2.2.2, Own (sliceR (sliceR intR 3) 22) [v132] r130.2.1.2, Own (sliceR (sliceR intR 3) 22) [v134] r130.2.2.2, Own (sliceR (sliceR intR 3) 22) [v195] r193.2.1.2, Own (sliceR (sliceR intR 3) 22) [v197] r193.2.2.2, Box b177 42 [.string r168.1, .int .i64 r168.2.1.1, v170, .int .i64 r168.2.2.1, v172], Box b163 42 [.string r154.1, .int .i64 r154.2.1.1, v156, .int .i64 r154.2.2.1, v158], Box b107 37 [.string a5, .int .i64 a6, u7, .int .i64 a8, u9], Box b103 37 [.string a0, .int .i64 a1, u2, .int .i64 a3, u4]] := hS.top 13 rfl
        replace hS : Sat w0 w199 [Box b103 37 [.string a0, .int .i64 a1, u2, .int .i64 a3, u4], Own (sliceR (sliceR intR 3) 22) [v170] r168.2.1.2, Own (sliceR (sliceR intR 3) 22) [v172] r168.2.2.2, Own (sliceR (sliceR intR 3) 22) [v156] r154.2.1.2, Own (sliceR (sliceR intR 3) 22) [v158] r154.2.2.2, Own (sliceR (sliceR intR 3) 22) [v142] r140.2.1.2, Own (sliceR (sliceR intR 3) 22) [v144] r140.2.2.2, Own (sliceR (sliceR intR 3) 22) [v132] r130.2.1.2, Own (sliceR (sliceR intR 3) 22) [v134] r130.2.2.2, Own (sliceR (sliceR intR 3) 22) [v195] r193.2.1.2, Own (sliceR (sliceR intR 3) 22) [v197] r193.2.2.2, Box b177 42 [.string r168.1, .int .i64 r168.2.1.1, v170, .int .i64 r168.2.2.1, v172], Box b163 42 [.string r154.1, .int .i64 r154.2.1.1, v156, .int .i64 r154.2.2.1, v158], Box b107 37 [.string a5, .int .i64 a6, u7, .int .i64 a8, u9]] := hS.top 13 rfl
        replace hS : Sat w0 w199 [Box b107 37 [.string a5, .int .i64 a6, u7, .int .i64 a8, u9], Box b103 37 [.string a0, .int .i64 a1, u2, .int .i64 a3, u4], Own (sliceR (sliceR intR 3) 22) [v170] r168.2.1.2, Own (sliceR (sliceR intR 3) 22) [v172] r168.2.2.2, Own (sliceR (sliceR intR 3) 22) [v156] r154.2.1.2, Own (sliceR (sliceR intR 3) 22) [v158] r154.2.2.2, Own (sliceR (sliceR intR 3) 22) [v142] r140.2.1.2, Own (sliceR (sliceR intR 3) 22) [v144] r140.2.2.2, Own (sliceR (sliceR intR 3) 22) [v132] r130.2.1.2, Own (sliceR (sliceR intR 3) 22) [v134] r130.2.2.2, Own (sliceR (sliceR intR 3) 22) [v195] r193.2.1.2, Own (sliceR (sliceR intR 3) 22) [v197] r193.2.2.2, Box b177 42 [.string r168.1, .int .i64 r168.2.1.1, v170, .int .i64 r168.2.2.1, v172], Box b163 42 [.string r154.1, .int .i64 r154.2.1.1, v156, .int .i64 r154.2.2.1, v158]] := hS.top 13 rfl
        replace hS : Sat w0 w199 [Box b163 42 [.string r154.1, .int .i64 r154.2.1.1, v156, .int .i64 r154.2.2.1, v158], Box b107 37 [.string a5, .int .i64 a6, u7, .int .i64 a8, u9], Box b103 37 [.string a0, .int .i64 a1, u2, .int .i64 a3, u4], Own (sliceR (sliceR intR 3) 22) [v170] r168.2.1.2, Own (sliceR (sliceR intR 3) 22) [v172] r168.2.2.2, Own (sliceR (sliceR intR 3) 22) [v156] r154.2.1.2, Own (sliceR (sliceR intR 3) 22) [v158] r154.2.2.2, Own (sliceR (sliceR intR 3) 22) [v142] r140.2.1.2, Own (sliceR (sliceR intR 3) 22) [v144] r140.2.2.2, Own (sliceR (sliceR intR 3) 22) [v132] r130.2.1.2, Own (sliceR (sliceR intR 3) 22) [v134] r130.2.2.2, Own (sliceR (sliceR intR 3) 22) [v195] r193.2.1.2, Own (sliceR (sliceR intR 3) 22) [v197] r193.2.2.2, Box b177 42 [.string r168.1, .int .i64 r168.2.1.1, v170, .int .i64 r168.2.2.1, v172]] := hS.top 13 rfl
        replace hS : Sat w0 w199 [Box b177 42 [.string r168.1, .int .i64 r168.2.1.1, v170, .int .i64 r168.2.2.1, v172], Box b163 42 [.string r154.1, .int .i64 r154.2.1.1, v156, .int .i64 r154.2.2.1, v158], Box b107 37 [.string a5, .int .i64 a6, u7, .int .i64 a8, u9], Box b103 37 [.string a0, .int .i64 a1, u2, .int .i64 a3, u4], Own (sliceR (sliceR intR 3) 22) [v170] r168.2.1.2, Own (sliceR (sliceR intR 3) 22) [v172] r168.2.2.2, Own (sliceR (sliceR intR 3) 22) [v156] r154.2.1.2, Own (sliceR (sliceR intR 3) 22) [v158] r154.2.2.2, Own (sliceR (sliceR intR 3) 22) [v142] r140.2.1.2, Own (sliceR (sliceR intR 3) 22) [v144] r140.2.2.2, Own (sliceR (sliceR intR 3) 22) [v132] r130.2.1.2, Own (sliceR (sliceR intR 3) 22) [v134] r130.2.2.2, Own (sliceR (sliceR intR 3) 22) [v195] r193.2.1.2, Own (sliceR (sliceR intR 3) 22) [v197] r193.2.2.2] := hS.top 13 rfl
        have hC := (hCd _).2 ⟨_, hS⟩
        have hoc201 := oc (hS.rdAt (R := (sliceR (sliceR intR 3) 22)) 4 rfl)
        have hoc202 := oc (hS.rdAt (R := (sliceR (sliceR intR 3) 22)) 5 rfl)
        have hoc203 := oc (hS.rdAt (R := (sliceR (sliceR intR 3) 22)) 6 rfl)
        have hoc204 := oc (hS.rdAt (R := (sliceR (sliceR intR 3) 22)) 7 rfl)
        have hoc205 := oc (hS.rdAt (R := (sliceR (sliceR intR 3) 22)) 8 rfl)
        have hoc206 := oc (hS.rdAt (R := (sliceR (sliceR intR 3) 22)) 9 rfl)
        have hoc207 := oc (hS.rdAt (R := (sliceR (sliceR intR 3) 22)) 10 rfl)
        have hoc208 := oc (hS.rdAt (R := (sliceR (sliceR intR 3) 22)) 11 rfl)
        have hoc209 := oc (hS.rdAt (R := (sliceR (sliceR intR 3) 22)) 12 rfl)
        have hoc210 := oc (hS.rdAt (R := (sliceR (sliceR intR 3) 22)) 13 rfl)
        refine ⟨fun _ => hC, ?_⟩
        refine al_one 3 (by kernel_rfl) rfl ?_
        replace hF := ob hF
        obtain ⟨r211, hr211, hF⟩ := hF
        refine el_call goes18 (laws_eqDelta_ok hz155 (hS.rdAt (R := (sliceR (sliceR intR 3) 22)) 6 rfl) (hS.rdAt (R := (sliceR (sliceR intR 3) 22)) 7 rfl) hz194 (hS.rdAt (R := (sliceR (sliceR intR 3) 22)) 12 rfl) (hS.rdAt (R := (sliceR (sliceR intR 3) 22)) 13 rfl) hr211) (congrArg List.toArray (mapc rfl (mapc rfl rfl))) (by decide) ?_
        rintro _ w212 ⟨rfl, hx213⟩
        refine ⟨_, rfl, ?_⟩
        replace hS := hS.ext hx213
        refine el_nil ?_
        replace hS : Sat w0 w212 [Own (sliceR (sliceR intR 3) 22) [v134] r130.2.2.2, Box b177 42 [.string r168.1, .int .i64 r168.2.1.1, v170, .int .i64 r168.2.2.1, v172], Box b163 42 [.string r154.1, .int .i64 r154.2.1.1, v156, .int .i64 r154.2.2.1, v158], Box b107 37 [.string a5, .int .i64 a6, u7, .int .i64 a8, u9], Box b103 37 [.string a0, .int .i64 a1, u2, .int .i64 a3, u4], Own (sliceR (sliceR intR 3) 22) [v170] r168.2.1.2, Own (sliceR (sliceR intR 3) 22) [v172] r168.2.2.2, Own (sliceR (sliceR intR 3) 22) [v156] r154.2.1.2, Own (sliceR (sliceR intR 3) 22) [v158] r154.2.2.2, Own (sliceR (sliceR intR 3) 22) [v142] r140.2.1.2, Own (sliceR (sliceR intR 3) 22) [v144] r140.2.2.2, Own (sliceR (sliceR intR 3) 22) [v132] r130.2.1.2, Own (sliceR (sliceR intR 3) 22) [v195] r193.2.1.2, Own (sliceR (sliceR intR 3) 22) [v197] r193.2.2.2] := hS.top 11 rfl
        replace hS : Sat w0 w212 [Own (sliceR (sliceR intR 3) 22) [v132] r130.2.1.2, Own (sliceR (sliceR intR 3) 22) [v134] r130.2.2.2, Box b177 42 [.string r168.1, .int .i64 r168.2.1.1, v170, .int .i64 r168.2.2.1, v172], Box b163 42 [.string r154.1, .int .i64 r154.2.1.1, v156, .int .i64 r154.2.2.1, v158], Box b107 37 [.string a5, .int .i64 a6, u7, .int .i64 a8, u9], Box b103 37 [.string a0, .int .i64 a1, u2, .int .i64 a3, u4], Own (sliceR (sliceR intR 3) 22) [v170] r168.2.1.2, Own (sliceR (sliceR intR 3) 22) [v172] r168.2.2.2, Own (sliceR (sliceR intR 3) 22) [v156] r154.2.1.2, Own (sliceR (sliceR intR 3) 22) [v158] r154.2.2.2, Own (sliceR (sliceR intR 3) 22) [v142] r140.2.1.2, Own (sliceR (sliceR intR 3) 22) [v144] r140.2.2.2, Own (sliceR (sliceR intR 3) 22) [v195] r193.2.1.2, Own (sliceR (sliceR intR 3) 22) [v197] r193.2.2.2] := hS.top 11 rfl
        replace hS : Sat w0 w212 [Own (sliceR (sliceR intR 3) 22) [v144] r140.2.2.2, Own (sliceR (sliceR intR 3) 22) [v132] r130.2.1.2, Own (sliceR (sliceR intR 3) 22) [v134] r130.2.2.2, Box b177 42 [.string r168.1, .int .i64 r168.2.1.1, v170, .int .i64 r168.2.2.1, v172], Box b163 42 [.string r154.1, .int .i64 r154.2.1.1, v156, .int .i64 r154.2.2.1, v158], Box b107 37 [.string a5, .int .i64 a6, u7, .int .i64 a8, u9], Box b103 37 [.string a0, .int .i64 a1, u2, .int .i64 a3, u4], Own (sliceR (sliceR intR 3) 22) [v170] r168.2.1.2, Own (sliceR (sliceR intR 3) 22) [v172] r168.2.2.2, Own (sliceR (sliceR intR 3) 22) [v156] r154.2.1.2, Own (sliceR (sliceR intR 3) 22) [v158] r154.2.2.2, Own (sliceR (sliceR intR 3) 22) [v142] r140.2.1.2, Own (sliceR (sliceR intR 3) 22) [v195] r193.2.1.2, Own (sliceR (sliceR intR 3) 22) [v197] r193.2.2.2] := hS.top 11 rfl
        replace hS : Sat w0 w212 [Own (sliceR (sliceR intR 3) 22) [v142] r140.2.1.2, Own (sliceR (sliceR intR 3) 22) [v144] r140.2.2.2, Own (sliceR (sliceR intR 3) 22) [v132] r130.2.1.2, Own (sliceR (sliceR intR 3) 22) [v134] r130.2.2.2, Box b177 42 [.string r168.1, .int .i64 r168.2.1.1, v170, .int .i64 r168.2.2.1, v172], Box b163 42 [.string r154.1, .int .i64 r154.2.1.1, v156, .int .i64 r154.2.2.1, v158], Box b107 37 [.string a5, .int .i64 a6, u7, .int .i64 a8, u9], Box b103 37 [.string a0, .int .i64 a1, u2, .int .i64 a3, u4], Own (sliceR (sliceR intR 3) 22) [v170] r168.2.1.2, Own (sliceR (sliceR intR 3) 22) [v172] r168.2.2.2, Own (sliceR (sliceR intR 3) 22) [v156] r154.2.1.2, Own (sliceR (sliceR intR 3) 22) [v158] r154.2.2.2, Own (sliceR (sliceR intR 3) 22) [v195] r193.2.1.2, Own (sliceR (sliceR intR 3) 22) [v197] r193.2.2.2] := hS.top 11 rfl
        replace hS : Sat w0 w212 [Own (sliceR (sliceR intR 3) 22) [v158] r154.2.2.2, Own (sliceR (sliceR intR 3) 22) [v142] r140.2.1.2, Own (sliceR (sliceR intR 3) 22) [v144] r140.2.2.2, Own (sliceR (sliceR intR 3) 22) [v132] r130.2.1.2, Own (sliceR (sliceR intR 3) 22) [v134] r130.2.2.2, Box b177 42 [.string r168.1, .int .i64 r168.2.1.1, v170, .int .i64 r168.2.2.1, v172], Box b163 42 [.string r154.1, .int .i64 r154.2.1.1, v156, .int .i64 r154.2.2.1, v158], Box b107 37 [.string a5, .int .i64 a6, u7, .int .i64 a8, u9], Box b103 37 [.string a0, .int .i64 a1, u2, .int .i64 a3, u4], Own (sliceR (sliceR intR 3) 22) [v170] r168.2.1.2, Own (sliceR (sliceR intR 3) 22) [v172] r168.2.2.2, Own (sliceR (sliceR intR 3) 22) [v156] r154.2.1.2, Own (sliceR (sliceR intR 3) 22) [v195] r193.2.1.2, Own (sliceR (sliceR intR 3) 22) [v197] r193.2.2.2] := hS.top 11 rfl
        replace hS : Sat w0 w212 [Own (sliceR (sliceR intR 3) 22) [v156] r154.2.1.2, Own (sliceR (sliceR intR 3) 22) [v158] r154.2.2.2, Own (sliceR (sliceR intR 3) 22) [v142] r140.2.1.2, Own (sliceR (sliceR intR 3) 22) [v144] r140.2.2.2, Own (sliceR (sliceR intR 3) 22) [v132] r130.2.1.2, Own (sliceR (sliceR intR 3) 22) [v134] r130.2.2.2, Box b177 42 [.string r168.1, .int .i64 r168.2.1.1, v170, .int .i64 r168.2.2.1, v172], Box b163 42 [.string r154.1, .int .i64 r154.2.1.1, v156, .int .i64 r154.2.2.1, v158], Box b107 37 [.string a5, .int .i64 a6, u7, .int .i64 a8, u9], Box b103 37 [.string a0, .int .i64 a1, u2, .int .i64 a3, u4], Own (sliceR (sliceR intR 3) 22) [v170] r168.2.1.2, Own (sliceR (sliceR intR 3) 22) [v172] r168.2.2.2, Own (sliceR (sliceR intR 3) 22) [v195] r193.2.1.2, Own (sliceR (sliceR intR 3) 22) [v197] r193.2.2.2] := hS.top 11 rfl
        replace hS : Sat w0 w212 [Own (sliceR (sliceR intR 3) 22) [v172] r168.2.2.2, Own (sliceR (sliceR intR 3) 22) [v156] r154.2.1.2, Own (sliceR (sliceR intR 3) 22) [v158] r154.2.2.2, Own (sliceR (sliceR intR 3) 22) [v142] r140.2.1.2, Own (sliceR (sliceR intR 3) 22) [v144] r140.2.2.2, Own (sliceR (sliceR intR 3) 22) [v132] r130.2.1.2, Own (sliceR (sliceR intR 3) 22) [v134] r130.2.2.2, Box b177 42 [.string r168.1, .int .i64 r168.2.1.1, v170, .int .i64 r168.2.2.1, v172], Box b163 42 [.string r154.1, .int .i64 r154.2.1.1, v156, .int .i64 r154.2.2.1, v158], Box b107 37 [.string a5, .int .i64 a6, u7, .int .i64 a8, u9], Box b103 37 [.string a0, .int .i64 a1, u2, .int .i64 a3, u4], Own (sliceR (sliceR intR 3) 22) [v170] r168.2.1.2, Own (sliceR (sliceR intR 3) 22) [v195] r193.2.1.2, Own (sliceR (sliceR intR 3) 22) [v197] r193.2.2.2] := hS.top 11 rfl
        replace hS : Sat w0 w212 [Own (sliceR (sliceR intR 3) 22) [v170] r168.2.1.2, Own (sliceR (sliceR intR 3) 22) [v172] r168.2.2.2, Own (sliceR (sliceR intR 3) 22) [v156] r154.2.1.2, Own (sliceR (sliceR intR 3) 22) [v158] r154.2.2.2, Own (sliceR (sliceR intR 3) 22) [v142] r140.2.1.2, Own (sliceR (sliceR intR 3) 22) [v144] r140.2.2.2, Own (sliceR (sliceR intR 3) 22) [v132] r130.2.1.2, Own (sliceR (sliceR intR 3) 22) [v134] r130.2.2.2, Box b177 42 [.string r168.1, .int .i64 r168.2.1.1, v170, .int .i64 r168.2.2.1, v172], Box b163 42 [.string r154.1, .int .i64 r154.2.1.1, v156, .int .i64 r154.2.2.1, v158], Box b107 37 [.string a5, .int .i64 a6, u7, .int .i64 a8, u9], Box b103 37 [.string a0, .int .i64 a1, u2, .int .i64 a3, u4], Own (sliceR (sliceR intR 3) 22) [v195] r193.2.1.2, Own (sliceR (sliceR intR 3) 22) [v197] r193.2.2.2] := hS.top 11 rfl
        replace hS : Sat w0 w212 [Box b103 37 [.string a0, .int .i64 a1, u2, .int .i64 a3, u4], Own (sliceR (sliceR intR 3) 22) [v170] r168.2.1.2, Own (sliceR (sliceR intR 3) 22) [v172] r168.2.2.2, Own (sliceR (sliceR intR 3) 22) [v156] r154.2.1.2, Own (sliceR (sliceR intR 3) 22) [v158] r154.2.2.2, Own (sliceR (sliceR intR 3) 22) [v142] r140.2.1.2, Own (sliceR (sliceR intR 3) 22) [v144] r140.2.2.2, Own (sliceR (sliceR intR 3) 22) [v132] r130.2.1.2, Own (sliceR (sliceR intR 3) 22) [v134] r130.2.2.2, Box b177 42 [.string r168.1, .int .i64 r168.2.1.1, v170, .int .i64 r168.2.2.1, v172], Box b163 42 [.string r154.1, .int .i64 r154.2.1.1, v156, .int .i64 r154.2.2.1, v158], Box b107 37 [.string a5, .int .i64 a6, u7, .int .i64 a8, u9], Own (sliceR (sliceR intR 3) 22) [v195] r193.2.1.2, Own (sliceR (sliceR intR 3) 22) [v197] r193.2.2.2] := hS.top 11 rfl
        replace hS : Sat w0 w212 [Box b107 37 [.string a5, .int .i64 a6, u7, .int .i64 a8, u9], Box b103 37 [.string a0, .int .i64 a1, u2, .int .i64 a3, u4], Own (sliceR (sliceR intR 3) 22) [v170] r168.2.1.2, Own (sliceR (sliceR intR 3) 22) [v172] r168.2.2.2, Own (sliceR (sliceR intR 3) 22) [v156] r154.2.1.2, Own (sliceR (sliceR intR 3) 22) [v158] r154.2.2.2, Own (sliceR (sliceR intR 3) 22) [v142] r140.2.1.2, Own (sliceR (sliceR intR 3) 22) [v144] r140.2.2.2, Own (sliceR (sliceR intR 3) 22) [v132] r130.2.1.2, Own (sliceR (sliceR intR 3) 22) [v134] r130.2.2.2, Box b177 42 [.string r168.1, .int .i64 r168.2.1.1, v170, .int .i64 r168.2.2.1, v172], Box b163 42 [.string r154.1, .int .i64 r154.2.1.1, v156, .int .i64 r154.2.2.1, v158], Own (sliceR (sliceR intR 3) 22) [v195] r193.2.1.2, Own (sliceR (sliceR intR 3) 22) [v197] r193.2.2.2] := hS.top 11 rfl
        replace hS : Sat w0 w212 [Box b163 42 [.string r154.1, .int .i64 r154.2.1.1, v156, .int .i64 r154.2.2.1, v158], Box b107 37 [.string a5, .int .i64 a6, u7, .int .i64 a8, u9], Box b103 37 [.string a0, .int .i64 a1, u2, .int .i64 a3, u4], Own (sliceR (sliceR intR 3) 22) [v170] r168.2.1.2, Own (sliceR (sliceR intR 3) 22) [v172] r168.2.2.2, Own (sliceR (sliceR intR 3) 22) [v156] r154.2.1.2, Own (sliceR (sliceR intR 3) 22) [v158] r154.2.2.2, Own (sliceR (sliceR intR 3) 22) [v142] r140.2.1.2, Own (sliceR (sliceR intR 3) 22) [v144] r140.2.2.2, Own (sliceR (sliceR intR 3) 22) [v132] r130.2.1.2, Own (sliceR (sliceR intR 3) 22) [v134] r130.2.2.2, Box b177 42 [.string r168.1, .int .i64 r168.2.1.1, v170, .int .i64 r168.2.2.1, v172], Own (sliceR (sliceR intR 3) 22) [v195] r193.2.1.2, Own (sliceR (sliceR intR 3) 22) [v197] r193.2.2.2] := hS.top 11 rfl
        replace hS : Sat w0 w212 [Box b177 42 [.string r168.1, .int .i64 r168.2.1.1, v170, .int .i64 r168.2.2.1, v172], Box b163 42 [.string r154.1, .int .i64 r154.2.1.1, v156, .int .i64 r154.2.2.1, v158], Box b107 37 [.string a5, .int .i64 a6, u7, .int .i64 a8, u9], Box b103 37 [.string a0, .int .i64 a1, u2, .int .i64 a3, u4], Own (sliceR (sliceR intR 3) 22) [v170] r168.2.1.2, Own (sliceR (sliceR intR 3) 22) [v172] r168.2.2.2, Own (sliceR (sliceR intR 3) 22) [v156] r154.2.1.2, Own (sliceR (sliceR intR 3) 22) [v158] r154.2.2.2, Own (sliceR (sliceR intR 3) 22) [v142] r140.2.1.2, Own (sliceR (sliceR intR 3) 22) [v144] r140.2.2.2, Own (sliceR (sliceR intR 3) 22) [v132] r130.2.1.2, Own (sliceR (sliceR intR 3) 22) [v134] r130.2.2.2, Own (sliceR (sliceR intR 3) 22) [v195] r193.2.1.2, Own (sliceR (sliceR intR 3) 22) [v197] r193.2.2.2] := hS.top 11 rfl
        have hC := (hCd _).2 ⟨_, hS⟩
        refine ⟨fun _ => hC, ?_⟩
        refine al_p (v := .bool (!r211)) (by kernel_rfl) 4 rfl rfl (by decide) hC (by kernel_rfl) (by kernel_rfl) (sv_on rfl (fun w' hw' => by obtain ⟨_, hS⟩ := (hCd _).1 hw'; exact (pv_not rfl))) ?_
        refine al_nil (by kernel_rfl) ?_
        refine hQ190 _ _ _ ?_
        refine thn_n ?_
        replace hF := oif hF
        rcases hF with ⟨hb214, hF⟩ | ⟨hb214, hF⟩
        · refine cw_cond_f rfl (bnot_t hb214) ?_
          refine cw_skip ?_
          refine hQ189 _ _ _ ?_
          refine thn_n ?_
          refine cw_seq ?_
          refine cw_gen ?_
          intro Q215 hQ215
          refine cw_seq ?_
          refine cw_gen ?_
          intro Q216 hQ216
          obtain ⟨C, hCd⟩ : ∃ C : World → Prop, ∀ w, C w ↔ ∃ G, Sat w0 w ([Box b177 42 [.string r168.1, .int .i64 r168.2.1.1, v170, .int .i64 r168.2.2.1, v172], Box b163 42 [.string r154.1, .int .i64 r154.2.1.1, v156, .int .i64 r154.2.2.1, v158], Box b107 37 [.string a5, .int .i64 a6, u7, .int .i64 a8, u9], Box b103 37 [.string a0, .int .i64 a1, u2, .int .i64 a3, u4], Own (sliceR (sliceR intR 3) 22) [v170] r168.2.1.2, Own (sliceR (sliceR intR 3) 22) [v172] r168.2.2.2, Own (sliceR (sliceR intR 3) 22) [v156] r154.2.1.2, Own (sliceR (sliceR intR 3) 22) [v158] r154.2.2.2, Own (sliceR (sliceR intR 3) 22) [v142] r140.2.1.2, Own (sliceR (sliceR intR 3) 22) [v144] r140.2.2.2, Own (sliceR (sliceR intR 3) 22) [v132] r130.2.1.2, Own (sliceR (sliceR intR 3) 22) [v134] r130.2.2.2, Own (sliceR (sliceR intR 3) 22) [v195] r193.2.1.2, Own (sliceR (sliceR intR 3) 22) [v197] r193.2.2.2] ++ G) := ⟨_, fun _ => Iff.rfl⟩
          refine cw_regb [0, 1, 2, 3, 4] C (by kernel_rfl) ?_
          intro w217 hx218
          replace hS := hS.ext hx218
          replace hS : Sat w0 w217 [Own (sliceR (sliceR intR 3) 22) [v197] r193.2.2.2, Box b177 42 [.string r168.1, .int .i64 r168.2.1.1, v170, .int .i64 r168.2.2.1, v172], Box b163 42 [.string r154.1, .int .i64 r154.2.1.1, v156, .int .i64 r154.2.2.1, v158], Box b107 37 [.string a5, .int .i64 a6, u7, .int .i64 a8, u9], Box b103 37 [.string a0, .int .i64 a1, u2, .int .i64 a3, u4], Own (sliceR (sliceR intR 3) 22) [v170] r168.2.1.2, Own (sliceR (sliceR intR 3) 22) [v172] r168.2.2.2, Own (sliceR (sliceR intR 3) 22) [v156] r154.2.1.2, Own (sliceR (sliceR intR 3) 22) [v158] r154.2.2.2, Own (sliceR (sliceR intR 3) 22) [v142] r140.2.1.2, Own (sliceR (sliceR intR 3) 22) [v144] r140.2.2.2, Own (sliceR (sliceR intR 3) 22) [v132] r130.2.1.2, Own (sliceR (sliceR intR 3) 22) [v134] r130.2.2.2, Own (sliceR (sliceR intR 3) 22) [v195] r193.2.1.2] := hS.top 13 rfl
          replace hS : Sat w0 w217 [Own (sliceR (sliceR intR 3) 22) [v195] r193.2.1.2, Own (sliceR (sliceR intR 3) 22) [v197] r193.2.2.2, Box b177 42 [.string r168.1, .int .i64 r168.2.1.1, v170, .int .i64 r168.2.2.1, v172], Box b163 42 [.string r154.1, .int .i64 r154.2.1.1, v156, .int .i64 r154.2.2.1, v158], Box b107 37 [.string a5, .int .i64 a6, u7, .int .i64 a8, u9], Box b103 37 [.string a0, .int .i64 a1, u2, .int .i64 a3, u4], Own (sliceR (sliceR intR 3) 22) [v170] r168.2.1.2, Own (sliceR (sliceR intR 3) 22) [v172] r168.2.2.2, Own (sliceR (sliceR intR 3) 22) [v156] r154.2.1.2, Own (sliceR (sliceR intR 3) 22) [v158] r154.2.2.2, Own (sliceR (sliceR intR 3) 22) [v142] r140.2.1.2, Own (sliceR (sliceR intR 3) 22) [v144] r140.2.2.2, Own (sliceR (sliceR intR 3) 22) [v132] r130.2.1.2, Own (sliceR (sliceR intR 3) 22) [v134] r130.2.2.2] := hS.top 13 rfl
          replace hS : Sat w0 w217 [Own (sliceR (sliceR intR 3) 22) [v134] r130.2.2.2, Own (sliceR (sliceR intR 3) 22) [v195] r193.2.1.2, Own (sliceR (sliceR intR 3) 22) [v197] r193.2.2.2, Box b177 42 [.string r168.1, .int .i64 r168.2.1.1, v170, .int .i64 r168.2.2.1, v172], Box b163 42 [.string r154.1, .int .i64 r154.2.1.1, v156, .int .i64 r154.2.2.1, v158], Box b107 37 [.string a5, .int .i64 a6, u7, .int .i64 a8, u9], Box b103 37 [.string a0, .int .i64 a1, u2, .int .i64 a3, u4], Own (sliceR (sliceR intR 3) 22) [v170] r168.2.1.2, Own (sliceR (sliceR intR 3) 22) [v172] r168.2.2.2, Own (sliceR (sliceR intR 3) 22) [v156] r154.2.1.2, Own (sliceR (sliceR intR 3) 22) [v158] r154.2.2.2, Own (sliceR (sliceR intR 3) 22) [v142] r140.2.1.2, Own (sliceR (sliceR intR 3) 22) [v144] r140.2.2.2, Own (sliceR (sliceR intR 3) 22) [v132] r130.2.1.2] := hS.top 13 rfl
          replace hS : Sat w0 w217 [Own (sliceR (sliceR intR 3) 22) [v132] r130.2.1.2, Own (sliceR (sliceR intR 3) 22) [v134] r130.2.2.2, Own (sliceR (sliceR intR 3) 22) [v195] r193.2.1.2, Own (sliceR (sliceR intR 3) 22) [v197] r193.2.2.2, Box b177 42 [.string r168.1, .int .i64 r168.2.1.1, v170, .int .i64 r168.2.2.1, v172], Box b163 42 [.string r154.1, .int .i64 r154.2.1.1, v156, .int .i64 r154.2.2.1, v158], Box b107 37 [.string a5, .int .i64 a6, u7, .int .i64 a8, u9], Box b103 37 [.string a0, .int .i64 a1, u2, .int .i64 a3, u4], Own (sliceR (sliceR intR 3) 22) [v170] r168.2.1.2, Own (sliceR (sliceR intR 3) 22) [v172] r168.2.2.2, Own (sliceR (sliceR intR 3) 22) [v156] r154.2.1.2, Own (sliceR (sliceR intR 3) 22) [v158] r154.2.2.2, Own (sliceR (sliceR intR 3) 22) [v142] r140.2.1.2, Own (sliceR (sliceR intR 3) 22) [v144] r140.2.2.2] := hS.top 13 rfl
          replace hS : Sat w0 w217 [Own (sliceR (sliceR intR 3) 22) [v144] r140.2.2.2, Own (sliceR (sliceR intR 3) 22) [v132] r130.2.1.2, Own (sliceR (sliceR intR 3) 22) [v134] r130.2.2.2, Own (sliceR (sliceR intR 3) 22) [v195] r193.2.1.2, Own (sliceR (sliceR intR 3) 22) [v197] r193.2.2.2, Box b177 42 [.string r168.1, .int .i64 r168.2.1.1, v170, .int .i64 r168.2.2.1, v172], Box b163 42 [.string r154.1, .int .i64 r154.2.1.1, v156, .int .i64 r154.2.2.1, v158], Box b107 37 [.string a5, .int .i64 a6, u7, .int .i64 a8, u9], Box b103 37 [.string a0, .int .i64 a1, u2, .int .i64 a3, u4], Own (sliceR (sliceR intR 3) 22) [v170] r168.2.1.2, Own (sliceR (sliceR intR 3) 22) [v172] r168.2.2.2, Own (sliceR (sliceR intR 3) 22) [v156] r154.2.1.2, Own (sliceR (sliceR intR 3) 22) [v158] r154.2.2.2, Own (sliceR (sliceR intR 3) 22) [v142] r140.2.1.2] := hS.top 13 rfl
          replace hS : Sat w0 w217 [Own (sliceR (sliceR intR 3) 22) [v142] r140.2.1.2, Own (sliceR (sliceR intR 3) 22) [v144] r140.2.2.2, Own (sliceR (sliceR intR 3) 22) [v132] r130.2.1.2, Own (sliceR (sliceR intR 3) 22) [v134] r130.2.2.2, Own (sliceR (sliceR intR 3) 22) [v195] r193.2.1.2, Own (sliceR (sliceR intR 3) 22) [v197] r193.2.2.2, Box b177 42 [.string r168.1, .int .i64 r168.2.1.1, v170, .int .i64 r168.2.2.1, v172], Box b163 42 [.string r154.1, .int .i64 r154.2.1.1, v156, .int .i64 r154.2.2.1, v158], Box b107 37 [.string a5, .int .i64 a6, u7, .int .i64 a8, u9], Box b103 37 [.string a0, .int .i64 a1, u2, .int .i64 a3, u4], Own (sliceR (sliceR intR 3) 22) [v170] r168.2.1.2, Own (sliceR (sliceR intR 3) 22) [v172] r168.2.2.2, Own (sliceR (sliceR intR 3) 22) [v156] r154.2.1.2, Own (sliceR (sliceR intR 3) 22) [v158] r154.2.2.2] := hS.top 13 rfl
          replace hS : Sat w0 w217 [Own (sliceR (sliceR intR 3) 22) [v158] r154.2.2.2, Own (sliceR (sliceR intR 3) 22) [v142] r140.2.1.2, Own (sliceR (sliceR intR 3) 22) [v144] r140.2.2.2, Own (sliceR (sliceR intR 3) 22) [v132] r130.2.1.2, Own (sliceR (sliceR intR 3) 22) [v134] r130.2.2.2, Own (sliceR (sliceR intR 3) 22) [v195] r193.2.1.2, Own (sliceR (sliceR intR 3) 22) [v197] r193.2.2.2, Box b177 42 [.string r168.1, .int .i64 r168.2.1.1, v170, .int .i64 r168.2.2.1, v172], Box b163 42 [.string r154.1, .int .i64 r154.2.1.1, v156, .int .i64 r154.2.2.1, v158], Box b107 37 [.string a5, .int .i64 a6, u7, .int .i64 a8, u9], Box b103 37 [.string a0, .int .i64 a1, u2, .int .i64 a3, u4], Own (sliceR (sliceR intR 3) 22) [v170] r168.2.1.2, Own (sliceR (sliceR intR 3) 22) [v172] r168.2.2.2, Own (sliceR (sliceR intR 3) 22) [v156] r154.2.1.2] := hS.top 13 rfl
          replace hS : Sat w0 w217 [Own (sliceR (sliceR intR 3) 22) [v156] r154.2.1.2, Own (sliceR (sliceR intR 3) 22) [v158] r154.2.2.2, Own (sliceR (sliceR intR 3) 22) [v142] r140.2.1.2, Own (sliceR (sliceR intR 3) 22) [v144] r140.2.2.2, Own (sliceR (sliceR intR 3) 22) [v132] r130.2.1.2, Own (sliceR (sliceR intR 3) 22) [v134] r130.2.2.2, Own (sliceR (sliceR intR 3) 22) [v195] r193.2.1.2, Own (sliceR (sliceR intR 3) 22) [v197] r193.2.2.2, Box b177 42 [.string r168.1, .int .i64 r168.2.1.1, v170, .int .i64 r168.2.2.1, v172], Box b163 42 [.string r154.1, .int .i64 r154.2.1.1, v156, .int .i64 r154.2.2.1, v158], Box b107 37 [.string a5, .int .i64 a6, u7, .int .i64 a8, u9], Box b103 37 [.string a0, .int .i64 a1, u2, .int .i64 a3, u4], Own (sliceR (sliceR intR 3) 22) [v170] r168.2.1.2, Own (sliceR (sliceR intR 3) 22) [v172] r168.2.2.2] := hS.top 13 rfl
          replace hS : Sat w0 w217 [Own (sliceR (sliceR intR 3) 22) [v172] r168.2.2.2, Own (sliceR (sliceR intR 3) 22) [v156] r154.2.1.2, Own (sliceR (sliceR intR 3) 22) [v158] r154.2.2.2, Own (sliceR (sliceR intR 3) 22) [v142] r140.2.1.2, Own (sliceR (sliceR intR 3) 22) [v144] r140.2.2.2, Own (sliceR (sliceR intR 3) 22) [v132] r130.2.1.2, Own (sliceR (sliceR intR 3) 22) [v134] r130.2.2.2, Own (sliceR (sliceR intR 3) 22) [v195] r193.2.1.2, Own (sliceR (sliceR intR 3) 22) [v197] r193.2.2.2, Box b177 42 [.string r168.1, .int .i64 r168.2.1.1, v170, .int .i64 r168.2.2.1, v172], Box b163 42 [.string r154.1, .int .i64 r154.2.1.1, v156, .int .i64 r154.2.2.1, v158], Box b107 37 [.string a5, .int .i64 a6, u7, .int .i64 a8, u9], Box b103 37 [.string a0, .int .i64 a1, u2, .int .i64 a3, u4], Own (sliceR (sliceR intR 3) 22) [v170] r168.2.1.2] := hS.top 13 rfl
          replace hS : Sat w0 w217 [Own (sliceR (sliceR intR 3) 22) [v170] r168.2.1.2, Own (sliceR (sliceR intR 3) 22) [v172] r168.2.2.2, Own (sliceR (sliceR intR 3) 22) [v156] r154.2.1.2, Own (sliceR (sliceR intR 3) 22) [v158] r154.2.2.2, Own (sliceR (sliceR intR 3) 22) [v142] r140.2.1.2, Own (sliceR (sliceR intR 3) 22) [v144] r140.2.2.2, Own (sliceR (sliceR intR 3) 22) [v132] r130.2.1.2, Own (sliceR (sliceR intR 3) 22) [v134] r130.2.2.2, Own (sliceR (sliceR intR 3) 22) [v195] r193.2.1.2, Own (sliceR (sliceR intR 3) 22) [v197] r193.2.2.2, Box b177 42 [.string r168.1, .int .i64 r168.2.1.1, v170, .int .i64 r168.2.2.1, v172], Box b163 42 [.string r154.1, .int .i64 r154.2.1.1, v156, .int .i64 r154.2.2.1, v158], Box b107 37 [.string a5, .int .i64 a6, u7, .int .i64 a8, u9], Box b103 37 [.string a0, .int .i64 a1, u2, .int .i64 a3, u4]] := hS.top 13 rfl
          replace hS : Sat w0 w217 [Box b103 37 [.string a0, .int .i64 a1, u2, .int .i64 a3, u4], Own (sliceR (sliceR intR 3) 22) [v170] r168.2.1.2, Own (sliceR (sliceR intR 3) 22) [v172] r168.2.2.2, Own (sliceR (sliceR intR 3) 22) [v156] r154.2.1.2, Own (sliceR (sliceR intR 3) 22) [v158] r154.2.2.2, Own (sliceR (sliceR intR 3) 22) [v142] r140.2.1.2, Own (sliceR (sliceR intR 3) 22) [v144] r140.2.2.2, Own (sliceR (sliceR intR 3) 22) [v132] r130.2.1.2, Own (sliceR (sliceR intR 3) 22) [v134] r130.2.2.2, Own (sliceR (sliceR intR 3) 22) [v195] r193.2.1.2, Own (sliceR (sliceR intR 3) 22) [v197] r193.2.2.2, Box b177 42 [.string r168.1, .int .i64 r168.2.1.1, v170, .int .i64 r168.2.2.1, v172], Box b163 42 [.string r154.1, .int .i64 r154.2.1.1, v156, .int .i64 r154.2.2.1, v158], Box b107 37 [.string a5, .int .i64 a6, u7, .int .i64 a8, u9]] := hS.top 13 rfl
          replace hS : Sat w0 w217 [Box b107 37 [.string a5, .int .i64 a6, u7, .int .i64 a8, u9], Box b103 37 [.string a0, .int .i64 a1, u2, .int .i64 a3, u4], Own (sliceR (sliceR intR 3) 22) [v170] r168.2.1.2, Own (sliceR (sliceR intR 3) 22) [v172] r168.2.2.2, Own (sliceR (sliceR intR 3) 22) [v156] r154.2.1.2, Own (sliceR (sliceR intR 3) 22) [v158] r154.2.2.2, Own (sliceR (sliceR intR 3) 22) [v142] r140.2.1.2, Own (sliceR (sliceR intR 3) 22) [v144] r140.2.2.2, Own (sliceR (sliceR intR 3) 22) [v132] r130.2.1.2, Own (sliceR (sliceR intR 3) 22) [v134] r130.2.2.2, Own (sliceR (sliceR intR 3) 22) [v195] r193.2.1.2, Own (sliceR (sliceR intR 3) 22) [v197] r193.2.2.2, Box b177 42 [.string r168.1, .int .i64 r168.2.1.1, v170, .int .i64 r168.2.2.1, v172], Box b163 42 [.string r154.1, .int .i64 r154.2.1.1, v156, .int .i64 r154.2.2.1, v158]] := hS.top 13 rfl
          replace hS : Sat w0 w217 [Box b163 42 [.string r154.1, .int .i64 r154.2.1.1, v156, .int .i64 r154.2.2.1, v158], Box b107 37 [.string a5, .int .i64 a6, u7, .int .i64 a8, u9], Box b103 37 [.string a0, .int .i64 a1, u2, .int .i64 a3, u4], Own (sliceR (sliceR intR 3) 22) [v170] r168.2.1.2, Own (sliceR (sliceR intR 3) 22) [v172] r168.2.2.2, Own (sliceR (sliceR intR 3) 22) [v156] r154.2.1.2, Own (sliceR (sliceR intR 3) 22) [v158] r154.2.2.2, Own (sliceR (sliceR intR 3) 22) [v142] r140.2.1.2, Own (sliceR (sliceR intR 3) 22) [v144] r140.2.2.2, Own (sliceR (sliceR intR 3) 22) [v132] r130.2.1.2, Own (sliceR (sliceR intR 3) 22) [v134] r130.2.2.2, Own (sliceR (sliceR intR 3) 22) [v195] r193.2.1.2, Own (sliceR (sliceR intR 3) 22) [v197] r193.2.2.2, Box b177 42 [.string r168.1, .int .i64 r168.2.1.1, v170, .int .i64 r168.2.2.1, v172]] := hS.top 13 rfl
          replace hS : Sat w0 w217 [Box b177 42 [.string r168.1, .int .i64 r168.2.1.1, v170, .int .i64 r168.2.2.1, v172], Box b163 42 [.string r154.1, .int .i64 r154.2.1.1, v156, .int .i64 r154.2.2.1, v158], Box b107 37 [.string a5, .int .i64 a6, u7, .int .i64 a8, u9], Box b103 37 [.string a0, .int .i64 a1, u2, .int .i64 a3, u4], Own (sliceR (sliceR intR 3) 22) [v170] r168.2.1.2, Own (sliceR (sliceR intR 3) 22) [v172] r168.2.2.2, Own (sliceR (sliceR intR 3) 22) [v156] r154.2.1.2, Own (sliceR (sliceR intR 3) 22) [v158] r154.2.2.2, Own (sliceR (sliceR intR 3) 22) [v142] r140.2.1.2, Own (sliceR (sliceR intR 3) 22) [v144] r140.2.2.2, Own (sliceR (sliceR intR 3) 22) [v132] r130.2.1.2, Own (sliceR (sliceR intR 3) 22) [v134] r130.2.2.2, Own (sliceR (sliceR intR 3) 22) [v195] r193.2.1.2, Own (sliceR (sliceR intR 3) 22) [v197] r193.2.2.2] := hS.top 13 rfl
          have hC := (hCd _).2 ⟨_, hS⟩
          refine al_p (v := .agg #[.string r168.1, .int .i64 r168.2.1.1, v170, .int .i64 r168.2.2.1, v172]) (by kernel_rfl) 0 rfl rfl (by decide) hC (by kernel_rfl) (by kernel_rfl) (sv_on rfl (fun w' hw' => by obtain ⟨_, hS⟩ := (hCd _).1 hw'; exact (pv_loada (cs := [.string r168.1, .int .i64 r168.2.1.1, v170, .int .i64 r168.2.2.1, v172]) rfl rfl (boxc0 (hS.boxAt 0 rfl))))) ?_
          refine al_p (v := .agg #[.string a5, .int .i64 a6, u7, .int .i64 a8, u9]) (by kernel_rfl) 1 rfl rfl (by decide) hC (by kernel_rfl) (by kernel_rfl) (sv_on rfl (fun w' hw' => by obtain ⟨_, hS⟩ := (hCd _).1 hw'; exact (pv_loada (cs := [.string a5, .int .i64 a6, u7, .int .i64 a8, u9]) rfl rfl (boxc0 (hS.boxAt 2 rfl))))) ?_
          refine al_one 2 (by kernel_rfl) rfl ?_
          replace hF := ob hF
          obtain ⟨r219, hr219, hF⟩ := hF
          refine el_call goes16 (laws_toDelta_ok ha5 (hS.up ha7) (hS.up ha9) hr219) (congrArg List.toArray (mapc rfl rfl)) (by decide) ?_
          rintro _ w225 ⟨v221, v223, rfl, hS', hz220⟩
          refine ⟨_, rfl, ?_⟩
          have hx226 := hS'.below
          replace hS := hS.call2 hS'
          refine el_nil ?_
          replace hS : Sat w0 w225 [Own (sliceR (sliceR intR 3) 22) [v197] r193.2.2.2, Own (sliceR (sliceR intR 3) 22) [v221] r219.2.1.2, Own (sliceR (sliceR intR 3) 22) [v223] r219.2.2.2, Box b177 42 [.string r168.1, .int .i64 r168.2.1.1, v170, .int .i64 r168.2.2.1, v172], Box b163 42 [.string r154.1, .int .i64 r154.2.1.1, v156, .int .i64 r154.2.2.1, v158], Box b107 37 [.string a5, .int .i64 a6, u7, .int .i64 a8, u9], Box b103 37 [.string a0, .int .i64 a1, u2, .int .i64 a3, u4], Own (sliceR (sliceR intR 3) 22) [v170] r168.2.1.2, Own (sliceR (sliceR intR 3) 22) [v172] r168.2.2.2, Own (sliceR (sliceR intR 3) 22) [v156] r154.2.1.2, Own (sliceR (sliceR intR 3) 22) [v158] r154.2.2.2, Own (sliceR (sliceR intR 3) 22) [v142] r140.2.1.2, Own (sliceR (sliceR intR 3) 22) [v144] r140.2.2.2, Own (sliceR (sliceR intR 3) 22) [v132] r130.2.1.2, Own (sliceR (sliceR intR 3) 22) [v134] r130.2.2.2, Own (sliceR (sliceR intR 3) 22) [v195] r193.2.1.2] := hS.top 15 rfl
          replace hS : Sat w0 w225 [Own (sliceR (sliceR intR 3) 22) [v195] r193.2.1.2, Own (sliceR (sliceR intR 3) 22) [v197] r193.2.2.2, Own (sliceR (sliceR intR 3) 22) [v221] r219.2.1.2, Own (sliceR (sliceR intR 3) 22) [v223] r219.2.2.2, Box b177 42 [.string r168.1, .int .i64 r168.2.1.1, v170, .int .i64 r168.2.2.1, v172], Box b163 42 [.string r154.1, .int .i64 r154.2.1.1, v156, .int .i64 r154.2.2.1, v158], Box b107 37 [.string a5, .int .i64 a6, u7, .int .i64 a8, u9], Box b103 37 [.string a0, .int .i64 a1, u2, .int .i64 a3, u4], Own (sliceR (sliceR intR 3) 22) [v170] r168.2.1.2, Own (sliceR (sliceR intR 3) 22) [v172] r168.2.2.2, Own (sliceR (sliceR intR 3) 22) [v156] r154.2.1.2, Own (sliceR (sliceR intR 3) 22) [v158] r154.2.2.2, Own (sliceR (sliceR intR 3) 22) [v142] r140.2.1.2, Own (sliceR (sliceR intR 3) 22) [v144] r140.2.2.2, Own (sliceR (sliceR intR 3) 22) [v132] r130.2.1.2, Own (sliceR (sliceR intR 3) 22) [v134] r130.2.2.2] := hS.top 15 rfl
          replace hS : Sat w0 w225 [Own (sliceR (sliceR intR 3) 22) [v134] r130.2.2.2, Own (sliceR (sliceR intR 3) 22) [v195] r193.2.1.2, Own (sliceR (sliceR intR 3) 22) [v197] r193.2.2.2, Own (sliceR (sliceR intR 3) 22) [v221] r219.2.1.2, Own (sliceR (sliceR intR 3) 22) [v223] r219.2.2.2, Box b177 42 [.string r168.1, .int .i64 r168.2.1.1, v170, .int .i64 r168.2.2.1, v172], Box b163 42 [.string r154.1, .int .i64 r154.2.1.1, v156, .int .i64 r154.2.2.1, v158], Box b107 37 [.string a5, .int .i64 a6, u7, .int .i64 a8, u9], Box b103 37 [.string a0, .int .i64 a1, u2, .int .i64 a3, u4], Own (sliceR (sliceR intR 3) 22) [v170] r168.2.1.2, Own (sliceR (sliceR intR 3) 22) [v172] r168.2.2.2, Own (sliceR (sliceR intR 3) 22) [v156] r154.2.1.2, Own (sliceR (sliceR intR 3) 22) [v158] r154.2.2.2, Own (sliceR (sliceR intR 3) 22) [v142] r140.2.1.2, Own (sliceR (sliceR intR 3) 22) [v144] r140.2.2.2, Own (sliceR (sliceR intR 3) 22) [v132] r130.2.1.2] := hS.top 15 rfl
          replace hS : Sat w0 w225 [Own (sliceR (sliceR intR 3) 22) [v132] r130.2.1.2, Own (sliceR (sliceR intR 3) 22) [v134] r130.2.2.2, Own (sliceR (sliceR intR 3) 22) [v195] r193.2.1.2, Own (sliceR (sliceR intR 3) 22) [v197] r193.2.2.2, Own (sliceR (sliceR intR 3) 22) [v221] r219.2.1.2, Own (sliceR (sliceR intR 3) 22) [v223] r219.2.2.2, Box b177 42 [.string r168.1, .int .i64 r168.2.1.1, v170, .int .i64 r168.2.2.1, v172], Box b163 42 [.string r154.1, .int .i64 r154.2.1.1, v156, .int .i64 r154.2.2.1, v158], Box b107 37 [.string a5, .int .i64 a6, u7, .int .i64 a8, u9], Box b103 37 [.string a0, .int .i64 a1, u2, .int .i64 a3, u4], Own (sliceR (sliceR intR 3) 22) [v170] r168.2.1.2, Own (sliceR (sliceR intR 3) 22) [v172] r168.2.2.2, Own (sliceR (sliceR intR 3) 22) [v156] r154.2.1.2, Own (sliceR (sliceR intR 3) 22) [v158] r154.2.2.2, Own (sliceR (sliceR intR 3) 22) [v142] r140.2.1.2, Own (sliceR (sliceR intR 3) 22) [v144] r140.2.2.2] := hS.top 15 rfl
          replace hS : Sat w0 w225 [Own (sliceR (sliceR intR 3) 22) [v144] r140.2.2.2, Own (sliceR (sliceR intR 3) 22) [v132] r130.2.1.2, Own (sliceR (sliceR intR 3) 22) [v134] r130.2.2.2, Own (sliceR (sliceR intR 3) 22) [v195] r193.2.1.2, Own (sliceR (sliceR intR 3) 22) [v197] r193.2.2.2, Own (sliceR (sliceR intR 3) 22) [v221] r219.2.1.2, Own (sliceR (sliceR intR 3) 22) [v223] r219.2.2.2, Box b177 42 [.string r168.1, .int .i64 r168.2.1.1, v170, .int .i64 r168.2.2.1, v172], Box b163 42 [.string r154.1, .int .i64 r154.2.1.1, v156, .int .i64 r154.2.2.1, v158], Box b107 37 [.string a5, .int .i64 a6, u7, .int .i64 a8, u9], Box b103 37 [.string a0, .int .i64 a1, u2, .int .i64 a3, u4], Own (sliceR (sliceR intR 3) 22) [v170] r168.2.1.2, Own (sliceR (sliceR intR 3) 22) [v172] r168.2.2.2, Own (sliceR (sliceR intR 3) 22) [v156] r154.2.1.2, Own (sliceR (sliceR intR 3) 22) [v158] r154.2.2.2, Own (sliceR (sliceR intR 3) 22) [v142] r140.2.1.2] := hS.top 15 rfl
          replace hS : Sat w0 w225 [Own (sliceR (sliceR intR 3) 22) [v142] r140.2.1.2, Own (sliceR (sliceR intR 3) 22) [v144] r140.2.2.2, Own (sliceR (sliceR intR 3) 22) [v132] r130.2.1.2, Own (sliceR (sliceR intR 3) 22) [v134] r130.2.2.2, Own (sliceR (sliceR intR 3) 22) [v195] r193.2.1.2, Own (sliceR (sliceR intR 3) 22) [v197] r193.2.2.2, Own (sliceR (sliceR intR 3) 22) [v221] r219.2.1.2, Own (sliceR (sliceR intR 3) 22) [v223] r219.2.2.2, Box b177 42 [.string r168.1, .int .i64 r168.2.1.1, v170, .int .i64 r168.2.2.1, v172], Box b163 42 [.string r154.1, .int .i64 r154.2.1.1, v156, .int .i64 r154.2.2.1, v158], Box b107 37 [.string a5, .int .i64 a6, u7, .int .i64 a8, u9], Box b103 37 [.string a0, .int .i64 a1, u2, .int .i64 a3, u4], Own (sliceR (sliceR intR 3) 22) [v170] r168.2.1.2, Own (sliceR (sliceR intR 3) 22) [v172] r168.2.2.2, Own (sliceR (sliceR intR 3) 22) [v156] r154.2.1.2, Own (sliceR (sliceR intR 3) 22) [v158] r154.2.2.2] := hS.top 15 rfl
          replace hS : Sat w0 w225 [Own (sliceR (sliceR intR 3) 22) [v158] r154.2.2.2, Own (sliceR (sliceR intR 3) 22) [v142] r140.2.1.2, Own (sliceR (sliceR intR 3) 22) [v144] r140.2.2.2, Own (sliceR (sliceR intR 3) 22) [v132] r130.2.1.2, Own (sliceR (sliceR intR 3) 22) [v134] r130.2.2.2, Own (sliceR (sliceR intR 3) 22) [v195] r193.2.1.2, Own (sliceR (sliceR intR 3) 22) [v197] r193.2.2.2, Own (sliceR (sliceR intR 3) 22) [v221] r219.2.1.2, Own (sliceR (sliceR intR 3) 22) [v223] r219.2.2.2, Box b177 42 [.string r168.1, .int .i64 r168.2.1.1, v170, .int .i64 r168.2.2.1, v172], Box b163 42 [.string r154.1, .int .i64 r154.2.1.1, v156, .int .i64 r154.2.2.1, v158], Box b107 37 [.string a5, .int .i64 a6, u7, .int .i64 a8, u9], Box b103 37 [.string a0, .int .i64 a1, u2, .int .i64 a3, u4], Own (sliceR (sliceR intR 3) 22) [v170] r168.2.1.2, Own (sliceR (sliceR intR 3) 22) [v172] r168.2.2.2, Own (sliceR (sliceR intR 3) 22) [v156] r154.2.1.2] := hS.top 15 rfl
          replace hS : Sat w0 w225 [Own (sliceR (sliceR intR 3) 22) [v156] r154.2.1.2, Own (sliceR (sliceR intR 3) 22) [v158] r154.2.2.2, Own (sliceR (sliceR intR 3) 22) [v142] r140.2.1.2, Own (sliceR (sliceR intR 3) 22) [v144] r140.2.2.2, Own (sliceR (sliceR intR 3) 22) [v132] r130.2.1.2, Own (sliceR (sliceR intR 3) 22) [v134] r130.2.2.2, Own (sliceR (sliceR intR 3) 22) [v195] r193.2.1.2, Own (sliceR (sliceR intR 3) 22) [v197] r193.2.2.2, Own (sliceR (sliceR intR 3) 22) [v221] r219.2.1.2, Own (sliceR (sliceR intR 3) 22) [v223] r219.2.2.2, Box b177 42 [.string r168.1, .int .i64 r168.2.1.1, v170, .int .i64 r168.2.2.1, v172], Box b163 42 [.string r154.1, .int .i64 r154.2.1.1, v156, .int .i64 r154.2.2.1, v158], Box b107 37 [.string a5, .int .i64 a6, u7, .int .i64 a8, u9], Box b103 37 [.string a0, .int .i64 a1, u2, .int .i64 a3, u4], Own (sliceR (sliceR intR 3) 22) [v170] r168.2.1.2, Own (sliceR (sliceR intR 3) 22) [v172] r168.2.2.2] := hS.top 15 rfl
          replace hS : Sat w0 w225 [Own (sliceR (sliceR intR 3) 22) [v172] r168.2.2.2, Own (sliceR (sliceR intR 3) 22) [v156] r154.2.1.2, Own (sliceR (sliceR intR 3) 22) [v158] r154.2.2.2, Own (sliceR (sliceR intR 3) 22) [v142] r140.2.1.2, Own (sliceR (sliceR intR 3) 22) [v144] r140.2.2.2, Own (sliceR (sliceR intR 3) 22) [v132] r130.2.1.2, Own (sliceR (sliceR intR 3) 22) [v134] r130.2.2.2, Own (sliceR (sliceR intR 3) 22) [v195] r193.2.1.2, Own (sliceR (sliceR intR 3) 22) [v197] r193.2.2.2, Own (sliceR (sliceR intR 3) 22) [v221] r219.2.1.2, Own (sliceR (sliceR intR 3) 22) [v223] r219.2.2.2, Box b177 42 [.string r168.1, .int .i64 r168.2.1.1, v170, .int .i64 r168.2.2.1, v172], Box b163 42 [.string r154.1, .int .i64 r154.2.1.1, v156, .int .i64 r154.2.2.1, v158], Box b107 37 [.string a5, .int .i64 a6, u7, .int .i64 a8, u9], Box b103 37 [.string a0, .int .i64 a1, u2, .int .i64 a3, u4], Own (sliceR (sliceR intR 3) 22) [v170] r168.2.1.2] := hS.top 15 rfl
          replace hS : Sat w0 w225 [Own (sliceR (sliceR intR 3) 22) [v170] r168.2.1.2, Own (sliceR (sliceR intR 3) 22) [v172] r168.2.2.2, Own (sliceR (sliceR intR 3) 22) [v156] r154.2.1.2, Own (sliceR (sliceR intR 3) 22) [v158] r154.2.2.2, Own (sliceR (sliceR intR 3) 22) [v142] r140.2.1.2, Own (sliceR (sliceR intR 3) 22) [v144] r140.2.2.2, Own (sliceR (sliceR intR 3) 22) [v132] r130.2.1.2, Own (sliceR (sliceR intR 3) 22) [v134] r130.2.2.2, Own (sliceR (sliceR intR 3) 22) [v195] r193.2.1.2, Own (sliceR (sliceR intR 3) 22) [v197] r193.2.2.2, Own (sliceR (sliceR intR 3) 22) [v221] r219.2.1.2, Own (sliceR (sliceR intR 3) 22) [v223] r219.2.2.2, Box b177 42 [.string r168.1, .int .i64 r168.2.1.1, v170, .int .i64 r168.2.2.1, v172], Box b163 42 [.string r154.1, .int .i64 r154.2.1.1, v156, .int .i64 r154.2.2.1, v158], Box b107 37 [.string a5, .int .i64 a6, u7, .int .i64 a8, u9], Box b103 37 [.string a0, .int .i64 a1, u2, .int .i64 a3, u4]] := hS.top 15 rfl
          replace hS : Sat w0 w225 [Box b103 37 [.string a0, .int .i64 a1, u2, .int .i64 a3, u4], Own (sliceR (sliceR intR 3) 22) [v170] r168.2.1.2, Own (sliceR (sliceR intR 3) 22) [v172] r168.2.2.2, Own (sliceR (sliceR intR 3) 22) [v156] r154.2.1.2, Own (sliceR (sliceR intR 3) 22) [v158] r154.2.2.2, Own (sliceR (sliceR intR 3) 22) [v142] r140.2.1.2, Own (sliceR (sliceR intR 3) 22) [v144] r140.2.2.2, Own (sliceR (sliceR intR 3) 22) [v132] r130.2.1.2, Own (sliceR (sliceR intR 3) 22) [v134] r130.2.2.2, Own (sliceR (sliceR intR 3) 22) [v195] r193.2.1.2, Own (sliceR (sliceR intR 3) 22) [v197] r193.2.2.2, Own (sliceR (sliceR intR 3) 22) [v221] r219.2.1.2, Own (sliceR (sliceR intR 3) 22) [v223] r219.2.2.2, Box b177 42 [.string r168.1, .int .i64 r168.2.1.1, v170, .int .i64 r168.2.2.1, v172], Box b163 42 [.string r154.1, .int .i64 r154.2.1.1, v156, .int .i64 r154.2.2.1, v158], Box b107 37 [.string a5, .int .i64 a6, u7, .int .i64 a8, u9]] := hS.top 15 rfl
          replace hS : Sat w0 w225 [Box b107 37 [.string a5, .int .i64 a6, u7, .int .i64 a8, u9], Box b103 37 [.string a0, .int .i64 a1, u2, .int .i64 a3, u4], Own (sliceR (sliceR intR 3) 22) [v170] r168.2.1.2, Own (sliceR (sliceR intR 3) 22) [v172] r168.2.2.2, Own (sliceR (sliceR intR 3) 22) [v156] r154.2.1.2, Own (sliceR (sliceR intR 3) 22) [v158] r154.2.2.2, Own (sliceR (sliceR intR 3) 22) [v142] r140.2.1.2, Own (sliceR (sliceR intR 3) 22) [v144] r140.2.2.2, Own (sliceR (sliceR intR 3) 22) [v132] r130.2.1.2, Own (sliceR (sliceR intR 3) 22) [v134] r130.2.2.2, Own (sliceR (sliceR intR 3) 22) [v195] r193.2.1.2, Own (sliceR (sliceR intR 3) 22) [v197] r193.2.2.2, Own (sliceR (sliceR intR 3) 22) [v221] r219.2.1.2, Own (sliceR (sliceR intR 3) 22) [v223] r219.2.2.2, Box b177 42 [.string r168.1, .int .i64 r168.2.1.1, v170, .int .i64 r168.2.2.1, v172], Box b163 42 [.string r154.1, .int .i64 r154.2.1.1, v156, .int .i64 r154.2.2.1, v158]] := hS.top 15 rfl
          replace hS : Sat w0 w225 [Box b163 42 [.string r154.1, .int .i64 r154.2.1.1, v156, .int .i64 r154.2.2.1, v158], Box b107 37 [.string a5, .int .i64 a6, u7, .int .i64 a8, u9], Box b103 37 [.string a0, .int .i64 a1, u2, .int .i64 a3, u4], Own (sliceR (sliceR intR 3) 22) [v170] r168.2.1.2, Own (sliceR (sliceR intR 3) 22) [v172] r168.2.2.2, Own (sliceR (sliceR intR 3) 22) [v156] r154.2.1.2, Own (sliceR (sliceR intR 3) 22) [v158] r154.2.2.2, Own (sliceR (sliceR intR 3) 22) [v142] r140.2.1.2, Own (sliceR (sliceR intR 3) 22) [v144] r140.2.2.2, Own (sliceR (sliceR intR 3) 22) [v132] r130.2.1.2, Own (sliceR (sliceR intR 3) 22) [v134] r130.2.2.2, Own (sliceR (sliceR intR 3) 22) [v195] r193.2.1.2, Own (sliceR (sliceR intR 3) 22) [v197] r193.2.2.2, Own (sliceR (sliceR intR 3) 22) [v221] r219.2.1.2, Own (sliceR (sliceR intR 3) 22) [v223] r219.2.2.2, Box b177 42 [.string r168.1, .int .i64 r168.2.1.1, v170, .int .i64 r168.2.2.1, v172]] := hS.top 15 rfl
          replace hS : Sat w0 w225 [Box b177 42 [.string r168.1, .int .i64 r168.2.1.1, v170, .int .i64 r168.2.2.1, v172], Box b163 42 [.string r154.1, .int .i64 r154.2.1.1, v156, .int .i64 r154.2.2.1, v158], Box b107 37 [.string a5, .int .i64 a6, u7, .int .i64 a8, u9], Box b103 37 [.string a0, .int .i64 a1, u2, .int .i64 a3, u4], Own (sliceR (sliceR intR 3) 22) [v170] r168.2.1.2, Own (sliceR (sliceR intR 3) 22) [v172] r168.2.2.2, Own (sliceR (sliceR intR 3) 22) [v156] r154.2.1.2, Own (sliceR (sliceR intR 3) 22) [v158] r154.2.2.2, Own (sliceR (sliceR intR 3) 22) [v142] r140.2.1.2, Own (sliceR (sliceR intR 3) 22) [v144] r140.2.2.2, Own (sliceR (sliceR intR 3) 22) [v132] r130.2.1.2, Own (sliceR (sliceR intR 3) 22) [v134] r130.2.2.2, Own (sliceR (sliceR intR 3) 22) [v195] r193.2.1.2, Own (sliceR (sliceR intR 3) 22) [v197] r193.2.2.2, Own (sliceR (sliceR intR 3) 22) [v221] r219.2.1.2, Own (sliceR (sliceR intR 3) 22) [v223] r219.2.2.2] := hS.top 15 rfl
          have hC := (hCd _).2 ⟨_, hS⟩
          have hoc227 := oc (hS.rdAt (R := (sliceR (sliceR intR 3) 22)) 4 rfl)
          have hoc228 := oc (hS.rdAt (R := (sliceR (sliceR intR 3) 22)) 5 rfl)
          have hoc229 := oc (hS.rdAt (R := (sliceR (sliceR intR 3) 22)) 6 rfl)
          have hoc230 := oc (hS.rdAt (R := (sliceR (sliceR intR 3) 22)) 7 rfl)
          have hoc231 := oc (hS.rdAt (R := (sliceR (sliceR intR 3) 22)) 8 rfl)
          have hoc232 := oc (hS.rdAt (R := (sliceR (sliceR intR 3) 22)) 9 rfl)
          have hoc233 := oc (hS.rdAt (R := (sliceR (sliceR intR 3) 22)) 10 rfl)
          have hoc234 := oc (hS.rdAt (R := (sliceR (sliceR intR 3) 22)) 11 rfl)
          have hoc235 := oc (hS.rdAt (R := (sliceR (sliceR intR 3) 22)) 12 rfl)
          have hoc236 := oc (hS.rdAt (R := (sliceR (sliceR intR 3) 22)) 13 rfl)
          have hoc237 := oc (hS.rdAt (R := (sliceR (sliceR intR 3) 22)) 14 rfl)
          have hoc238 := oc (hS.rdAt (R := (sliceR (sliceR intR 3) 22)) 15 rfl)
          refine ⟨fun _ => hC, ?_⟩
          refine al_one 3 (by kernel_rfl) rfl ?_
          replace hF := ob hF
          obtain ⟨r239, hr239, hF⟩ := hF
          refine el_call goes18 (laws_eqDelta_ok hz169 (hS.rdAt (R := (sliceR (sliceR intR 3) 22)) 4 rfl) (hS.rdAt (R := (sliceR (sliceR intR 3) 22)) 5 rfl) hz220 (hS.rdAt (R := (sliceR (sliceR intR 3) 22)) 14 rfl) (hS.rdAt (R := (sliceR (sliceR intR 3) 22)) 15 rfl) hr239) (congrArg List.toArray (mapc rfl (mapc rfl rfl))) (by decide) ?_
          rintro _ w240 ⟨rfl, hx241⟩
          refine ⟨_, rfl, ?_⟩
          replace hS := hS.ext hx241
          refine el_nil ?_
          replace hS : Sat w0 w240 [Own (sliceR (sliceR intR 3) 22) [v197] r193.2.2.2, Box b177 42 [.string r168.1, .int .i64 r168.2.1.1, v170, .int .i64 r168.2.2.1, v172], Box b163 42 [.string r154.1, .int .i64 r154.2.1.1, v156, .int .i64 r154.2.2.1, v158], Box b107 37 [.string a5, .int .i64 a6, u7, .int .i64 a8, u9], Box b103 37 [.string a0, .int .i64 a1, u2, .int .i64 a3, u4], Own (sliceR (sliceR intR 3) 22) [v170] r168.2.1.2, Own (sliceR (sliceR intR 3) 22) [v172] r168.2.2.2, Own (sliceR (sliceR intR 3) 22) [v156] r154.2.1.2, Own (sliceR (sliceR intR 3) 22) [v158] r154.2.2.2, Own (sliceR (sliceR intR 3) 22) [v142] r140.2.1.2, Own (sliceR (sliceR intR 3) 22) [v144] r140.2.2.2, Own (sliceR (sliceR intR 3) 22) [v132] r130.2.1.2, Own (sliceR (sliceR intR 3) 22) [v134] r130.2.2.2, Own (sliceR (sliceR intR 3) 22) [v195] r193.2.1.2, Own (sliceR (sliceR intR 3) 22) [v221] r219.2.1.2, Own (sliceR (sliceR intR 3) 22) [v223] r219.2.2.2] := hS.top 13 rfl
          replace hS : Sat w0 w240 [Own (sliceR (sliceR intR 3) 22) [v195] r193.2.1.2, Own (sliceR (sliceR intR 3) 22) [v197] r193.2.2.2, Box b177 42 [.string r168.1, .int .i64 r168.2.1.1, v170, .int .i64 r168.2.2.1, v172], Box b163 42 [.string r154.1, .int .i64 r154.2.1.1, v156, .int .i64 r154.2.2.1, v158], Box b107 37 [.string a5, .int .i64 a6, u7, .int .i64 a8, u9], Box b103 37 [.string a0, .int .i64 a1, u2, .int .i64 a3, u4], Own (sliceR (sliceR intR 3) 22) [v170] r168.2.1.2, Own (sliceR (sliceR intR 3) 22) [v172] r168.2.2.2, Own (sliceR (sliceR intR 3) 22) [v156] r154.2.1.2, Own (sliceR (sliceR intR 3) 22) [v158] r154.2.2.2, Own (sliceR (sliceR intR 3) 22) [v142] r140.2.1.2, Own (sliceR (sliceR intR 3) 22) [v144] r140.2.2.2, Own (sliceR (sliceR intR 3) 22) [v132] r130.2.1.2, Own (sliceR (sliceR intR 3) 22) [v134] r130.2.2.2, Own (sliceR (sliceR intR 3) 22) [v221] r219.2.1.2, Own (sliceR (sliceR intR 3) 22) [v223] r219.2.2.2] := hS.top 13 rfl
          replace hS : Sat w0 w240 [Own (sliceR (sliceR intR 3) 22) [v134] r130.2.2.2, Own (sliceR (sliceR intR 3) 22) [v195] r193.2.1.2, Own (sliceR (sliceR intR 3) 22) [v197] r193.2.2.2, Box b177 42 [.string r168.1, .int .i64 r168.2.1.1, v170, .int .i64 r168.2.2.1, v172], Box b163 42 [.string r154.1, .int .i64 r154.2.1.1, v156, .int .i64 r154.2.2.1, v158], Box b107 37 [.string a5, .int .i64 a6, u7, .int .i64 a8, u9], Box b103 37 [.string a0, .int .i64 a1, u2, .int .i64 a3, u4], Own (sliceR (sliceR intR 3) 22) [v170] r168.2.1.2, Own (sliceR (sliceR intR 3) 22) [v172] r168.2.2.2, Own (sliceR (sliceR intR 3) 22) [v156] r154.2.1.2, Own (sliceR (sliceR intR 3) 22) [v158] r154.2.2.2, Own (sliceR (sliceR intR 3) 22) [v142] r140.2.1.2, Own (sliceR (sliceR intR 3) 22) [v144] r140.2.2.2, Own (sliceR (sliceR intR 3) 22) [v132] r130.2.1.2, Own (sliceR (sliceR intR 3) 22) [v221] r219.2.1.2, Own (sliceR (sliceR intR 3) 22) [v223] r219.2.2.2] := hS.top 13 rfl
          replace hS : Sat w0 w240 [Own (sliceR (sliceR intR 3) 22) [v132] r130.2.1.2, Own (sliceR (sliceR intR 3) 22) [v134] r130.2.2.2, Own (sliceR (sliceR intR 3) 22) [v195] r193.2.1.2, Own (sliceR (sliceR intR 3) 22) [v197] r193.2.2.2, Box b177 42 [.string r168.1, .int .i64 r168.2.1.1, v170, .int .i64 r168.2.2.1, v172], Box b163 42 [.string r154.1, .int .i64 r154.2.1.1, v156, .int .i64 r154.2.2.1, v158], Box b107 37 [.string a5, .int .i64 a6, u7, .int .i64 a8, u9], Box b103 37 [.string a0, .int .i64 a1, u2, .int .i64 a3, u4], Own (sliceR (sliceR intR 3) 22) [v170] r168.2.1.2, Own (sliceR (sliceR intR 3) 22) [v172] r168.2.2.2, Own (sliceR (sliceR intR 3) 22) [v156] r154.2.1.2, Own (sliceR (sliceR intR 3) 22) [v158] r154.2.2.2, Own (sliceR (sliceR intR 3) 22) [v142] r140.2.1.2, Own (sliceR (sliceR intR 3) 22) [v144] r140.2.2.2, Own (sliceR (sliceR intR 3) 22) [v221] r219.2.1.2, Own (sliceR (sliceR intR 3) 22) [v223] r219.2.2.2] := hS.top 13 rfl
          replace hS : Sat w0 w240 [Own (sliceR (sliceR intR 3) 22) [v144] r140.2.2.2, Own (sliceR (sliceR intR 3) 22) [v132] r130.2.1.2, Own (sliceR (sliceR intR 3) 22) [v134] r130.2.2.2, Own (sliceR (sliceR intR 3) 22) [v195] r193.2.1.2, Own (sliceR (sliceR intR 3) 22) [v197] r193.2.2.2, Box b177 42 [.string r168.1, .int .i64 r168.2.1.1, v170, .int .i64 r168.2.2.1, v172], Box b163 42 [.string r154.1, .int .i64 r154.2.1.1, v156, .int .i64 r154.2.2.1, v158], Box b107 37 [.string a5, .int .i64 a6, u7, .int .i64 a8, u9], Box b103 37 [.string a0, .int .i64 a1, u2, .int .i64 a3, u4], Own (sliceR (sliceR intR 3) 22) [v170] r168.2.1.2, Own (sliceR (sliceR intR 3) 22) [v172] r168.2.2.2, Own (sliceR (sliceR intR 3) 22) [v156] r154.2.1.2, Own (sliceR (sliceR intR 3) 22) [v158] r154.2.2.2, Own (sliceR (sliceR intR 3) 22) [v142] r140.2.1.2, Own (sliceR (sliceR intR 3) 22) [v221] r219.2.1.2, Own (sliceR (sliceR intR 3) 22) [v223] r219.2.2.2] := hS.top 13 rfl
          replace hS : Sat w0 w240 [Own (sliceR (sliceR intR 3) 22) [v142] r140.2.1.2, Own (sliceR (sliceR intR 3) 22) [v144] r140.2.2.2, Own (sliceR (sliceR intR 3) 22) [v132] r130.2.1.2, Own (sliceR (sliceR intR 3) 22) [v134] r130.2.2.2, Own (sliceR (sliceR intR 3) 22) [v195] r193.2.1.2, Own (sliceR (sliceR intR 3) 22) [v197] r193.2.2.2, Box b177 42 [.string r168.1, .int .i64 r168.2.1.1, v170, .int .i64 r168.2.2.1, v172], Box b163 42 [.string r154.1, .int .i64 r154.2.1.1, v156, .int .i64 r154.2.2.1, v158], Box b107 37 [.string a5, .int .i64 a6, u7, .int .i64 a8, u9], Box b103 37 [.string a0, .int .i64 a1, u2, .int .i64 a3, u4], Own (sliceR (sliceR intR 3) 22) [v170] r168.2.1.2, Own (sliceR (sliceR intR 3) 22) [v172] r168.2.2.2, Own (sliceR (sliceR intR 3) 22) [v156] r154.2.1.2, Own (sliceR (sliceR intR 3) 22) [v158] r154.2.2.2, Own (sliceR (sliceR intR 3) 22) [v221] r219.2.1.2, Own (sliceR (sliceR intR 3) 22) [v223] r219.2.2.2] := hS.top 13 rfl
          replace hS : Sat w0 w240 [Own (sliceR (sliceR intR 3) 22) [v158] r154.2.2.2, Own (sliceR (sliceR intR 3) 22) [v142] r140.2.1.2, Own (sliceR (sliceR intR 3) 22) [v144] r140.2.2.2, Own (sliceR (sliceR intR 3) 22) [v132] r130.2.1.2, Own (sliceR (sliceR intR 3) 22) [v134] r130.2.2.2, Own (sliceR (sliceR intR 3) 22) [v195] r193.2.1.2, Own (sliceR (sliceR intR 3) 22) [v197] r193.2.2.2, Box b177 42 [.string r168.1, .int .i64 r168.2.1.1, v170, .int .i64 r168.2.2.1, v172], Box b163 42 [.string r154.1, .int .i64 r154.2.1.1, v156, .int .i64 r154.2.2.1, v158], Box b107 37 [.string a5, .int .i64 a6, u7, .int .i64 a8, u9], Box b103 37 [.string a0, .int .i64 a1, u2, .int .i64 a3, u4], Own (sliceR (sliceR intR 3) 22) [v170] r168.2.1.2, Own (sliceR (sliceR intR 3) 22) [v172] r168.2.2.2, Own (sliceR (sliceR intR 3) 22) [v156] r154.2.1.2, Own (sliceR (sliceR intR 3) 22) [v221] r219.2.1.2, Own (sliceR (sliceR intR 3) 22) [v223] r219.2.2.2] := hS.top 13 rfl
          replace hS : Sat w0 w240 [Own (sliceR (sliceR intR 3) 22) [v156] r154.2.1.2, Own (sliceR (sliceR intR 3) 22) [v158] r154.2.2.2, Own (sliceR (sliceR intR 3) 22) [v142] r140.2.1.2, Own (sliceR (sliceR intR 3) 22) [v144] r140.2.2.2, Own (sliceR (sliceR intR 3) 22) [v132] r130.2.1.2, Own (sliceR (sliceR intR 3) 22) [v134] r130.2.2.2, Own (sliceR (sliceR intR 3) 22) [v195] r193.2.1.2, Own (sliceR (sliceR intR 3) 22) [v197] r193.2.2.2, Box b177 42 [.string r168.1, .int .i64 r168.2.1.1, v170, .int .i64 r168.2.2.1, v172], Box b163 42 [.string r154.1, .int .i64 r154.2.1.1, v156, .int .i64 r154.2.2.1, v158], Box b107 37 [.string a5, .int .i64 a6, u7, .int .i64 a8, u9], Box b103 37 [.string a0, .int .i64 a1, u2, .int .i64 a3, u4], Own (sliceR (sliceR intR 3) 22) [v170] r168.2.1.2, Own (sliceR (sliceR intR 3) 22) [v172] r168.2.2.2, Own (sliceR (sliceR intR 3) 22) [v221] r219.2.1.2, Own (sliceR (sliceR intR 3) 22) [v223] r219.2.2.2] := hS.top 13 rfl
          replace hS : Sat w0 w240 [Own (sliceR (sliceR intR 3) 22) [v172] r168.2.2.2, Own (sliceR (sliceR intR 3) 22) [v156] r154.2.1.2, Own (sliceR (sliceR intR 3) 22) [v158] r154.2.2.2, Own (sliceR (sliceR intR 3) 22) [v142] r140.2.1.2, Own (sliceR (sliceR intR 3) 22) [v144] r140.2.2.2, Own (sliceR (sliceR intR 3) 22) [v132] r130.2.1.2, Own (sliceR (sliceR intR 3) 22) [v134] r130.2.2.2, Own (sliceR (sliceR intR 3) 22) [v195] r193.2.1.2, Own (sliceR (sliceR intR 3) 22) [v197] r193.2.2.2, Box b177 42 [.string r168.1, .int .i64 r168.2.1.1, v170, .int .i64 r168.2.2.1, v172], Box b163 42 [.string r154.1, .int .i64 r154.2.1.1, v156, .int .i64 r154.2.2.1, v158], Box b107 37 [.string a5, .int .i64 a6, u7, .int .i64 a8, u9], Box b103 37 [.string a0, .int .i64 a1, u2, .int .i64 a3, u4], Own (sliceR (sliceR intR 3) 22) [v170] r168.2.1.2, Own (sliceR (sliceR intR 3) 22) [v221] r219.2.1.2, Own (sliceR (sliceR intR 3) 22) [v223] r219.2.2.2] := hS.top 13 rfl
          replace hS : Sat w0 w240 [Own (sliceR (sliceR intR 3) 22) [v170] r168.2.1.2, Own (sliceR (sliceR intR 3) 22) [v172] r168.2.2.2, Own (sliceR (sliceR intR 3) 22) [v156] r154.2.1.2, Own (sliceR (sliceR intR 3) 22) [v158] r154.2.2.2, Own (sliceR (sliceR intR 3) 22) [v142] r140.2.1.2, Own (sliceR (sliceR intR 3) 22) [v144] r140.2.2.2, Own (sliceR (sliceR intR 3) 22) [v132] r130.2.1.2, Own (sliceR (sliceR intR 3) 22) [v134] r130.2.2.2, Own (sliceR (sliceR intR 3) 22) [v195] r193.2.1.2, Own (sliceR (sliceR intR 3) 22) [v197] r193.2.2.2, Box b177 42 [.string r168.1, .int .i64 r168.2.1.1, v170, .int .i64 r168.2.2.1, v172], Box b163 42 [.string r154.1, .int .i64 r154.2.1.1, v156, .int .i64 r154.2.2.1, v158], Box b107 37 [.string a5, .int .i64 a6, u7, .int .i64 a8, u9], Box b103 37 [.string a0, .int .i64 a1, u2, .int .i64 a3, u4], Own (sliceR (sliceR intR 3) 22) [v221] r219.2.1.2, Own (sliceR (sliceR intR 3) 22) [v223] r219.2.2.2] := hS.top 13 rfl
          replace hS : Sat w0 w240 [Box b103 37 [.string a0, .int .i64 a1, u2, .int .i64 a3, u4], Own (sliceR (sliceR intR 3) 22) [v170] r168.2.1.2, Own (sliceR (sliceR intR 3) 22) [v172] r168.2.2.2, Own (sliceR (sliceR intR 3) 22) [v156] r154.2.1.2, Own (sliceR (sliceR intR 3) 22) [v158] r154.2.2.2, Own (sliceR (sliceR intR 3) 22) [v142] r140.2.1.2, Own (sliceR (sliceR intR 3) 22) [v144] r140.2.2.2, Own (sliceR (sliceR intR 3) 22) [v132] r130.2.1.2, Own (sliceR (sliceR intR 3) 22) [v134] r130.2.2.2, Own (sliceR (sliceR intR 3) 22) [v195] r193.2.1.2, Own (sliceR (sliceR intR 3) 22) [v197] r193.2.2.2, Box b177 42 [.string r168.1, .int .i64 r168.2.1.1, v170, .int .i64 r168.2.2.1, v172], Box b163 42 [.string r154.1, .int .i64 r154.2.1.1, v156, .int .i64 r154.2.2.1, v158], Box b107 37 [.string a5, .int .i64 a6, u7, .int .i64 a8, u9], Own (sliceR (sliceR intR 3) 22) [v221] r219.2.1.2, Own (sliceR (sliceR intR 3) 22) [v223] r219.2.2.2] := hS.top 13 rfl
          replace hS : Sat w0 w240 [Box b107 37 [.string a5, .int .i64 a6, u7, .int .i64 a8, u9], Box b103 37 [.string a0, .int .i64 a1, u2, .int .i64 a3, u4], Own (sliceR (sliceR intR 3) 22) [v170] r168.2.1.2, Own (sliceR (sliceR intR 3) 22) [v172] r168.2.2.2, Own (sliceR (sliceR intR 3) 22) [v156] r154.2.1.2, Own (sliceR (sliceR intR 3) 22) [v158] r154.2.2.2, Own (sliceR (sliceR intR 3) 22) [v142] r140.2.1.2, Own (sliceR (sliceR intR 3) 22) [v144] r140.2.2.2, Own (sliceR (sliceR intR 3) 22) [v132] r130.2.1.2, Own (sliceR (sliceR intR 3) 22) [v134] r130.2.2.2, Own (sliceR (sliceR intR 3) 22) [v195] r193.2.1.2, Own (sliceR (sliceR intR 3) 22) [v197] r193.2.2.2, Box b177 42 [.string r168.1, .int .i64 r168.2.1.1, v170, .int .i64 r168.2.2.1, v172], Box b163 42 [.string r154.1, .int .i64 r154.2.1.1, v156, .int .i64 r154.2.2.1, v158], Own (sliceR (sliceR intR 3) 22) [v221] r219.2.1.2, Own (sliceR (sliceR intR 3) 22) [v223] r219.2.2.2] := hS.top 13 rfl
          replace hS : Sat w0 w240 [Box b163 42 [.string r154.1, .int .i64 r154.2.1.1, v156, .int .i64 r154.2.2.1, v158], Box b107 37 [.string a5, .int .i64 a6, u7, .int .i64 a8, u9], Box b103 37 [.string a0, .int .i64 a1, u2, .int .i64 a3, u4], Own (sliceR (sliceR intR 3) 22) [v170] r168.2.1.2, Own (sliceR (sliceR intR 3) 22) [v172] r168.2.2.2, Own (sliceR (sliceR intR 3) 22) [v156] r154.2.1.2, Own (sliceR (sliceR intR 3) 22) [v158] r154.2.2.2, Own (sliceR (sliceR intR 3) 22) [v142] r140.2.1.2, Own (sliceR (sliceR intR 3) 22) [v144] r140.2.2.2, Own (sliceR (sliceR intR 3) 22) [v132] r130.2.1.2, Own (sliceR (sliceR intR 3) 22) [v134] r130.2.2.2, Own (sliceR (sliceR intR 3) 22) [v195] r193.2.1.2, Own (sliceR (sliceR intR 3) 22) [v197] r193.2.2.2, Box b177 42 [.string r168.1, .int .i64 r168.2.1.1, v170, .int .i64 r168.2.2.1, v172], Own (sliceR (sliceR intR 3) 22) [v221] r219.2.1.2, Own (sliceR (sliceR intR 3) 22) [v223] r219.2.2.2] := hS.top 13 rfl
          replace hS : Sat w0 w240 [Box b177 42 [.string r168.1, .int .i64 r168.2.1.1, v170, .int .i64 r168.2.2.1, v172], Box b163 42 [.string r154.1, .int .i64 r154.2.1.1, v156, .int .i64 r154.2.2.1, v158], Box b107 37 [.string a5, .int .i64 a6, u7, .int .i64 a8, u9], Box b103 37 [.string a0, .int .i64 a1, u2, .int .i64 a3, u4], Own (sliceR (sliceR intR 3) 22) [v170] r168.2.1.2, Own (sliceR (sliceR intR 3) 22) [v172] r168.2.2.2, Own (sliceR (sliceR intR 3) 22) [v156] r154.2.1.2, Own (sliceR (sliceR intR 3) 22) [v158] r154.2.2.2, Own (sliceR (sliceR intR 3) 22) [v142] r140.2.1.2, Own (sliceR (sliceR intR 3) 22) [v144] r140.2.2.2, Own (sliceR (sliceR intR 3) 22) [v132] r130.2.1.2, Own (sliceR (sliceR intR 3) 22) [v134] r130.2.2.2, Own (sliceR (sliceR intR 3) 22) [v195] r193.2.1.2, Own (sliceR (sliceR intR 3) 22) [v197] r193.2.2.2, Own (sliceR (sliceR intR 3) 22) [v221] r219.2.1.2, Own (sliceR (sliceR intR 3) 22) [v223] r219.2.2.2] := hS.top 13 rfl
          have hC := (hCd _).2 ⟨_, hS⟩
          refine ⟨fun _ => hC, ?_⟩
          refine al_p (v := .bool (!r239)) (by kernel_rfl) 4 rfl rfl (by decide) hC (by kernel_rfl) (by kernel_rfl) (sv_on rfl (fun w' hw' => by obtain ⟨_, hS⟩ := (hCd _).1 hw'; exact (pv_not rfl))) ?_
          refine al_nil (by kernel_rfl) ?_
          refine hQ216 _ _ _ ?_
          refine thn_n ?_
          replace hF := oif hF
          rcases hF with ⟨hb242, hF⟩ | ⟨hb242, hF⟩
          · refine cw_cond_f rfl (bnot_t hb242) ?_
            refine cw_skip ?_
            refine hQ215 _ _ _ ?_
            refine thn_n ?_
            refine cw_seq ?_
            refine cw_gen ?_
            intro Q243 hQ243
            refine cw_reg ?_
            refine el_pv (v := .bool true) (pv_assign rfl) (by decide) ?_
            refine el_nil ?_
            refine hQ243 _ _ _ ?_
            refine thn_n ?_
            refine cw_ret ?_
            refine fin1 rfl rfl ?_
            have hr := Option.some.inj hF
            exact ⟨congrArg (fun (r : Bool) => Ending.returned (.bool r)) hr, hS.below⟩
          · refine cw_cond_t rfl (bnot_f hb242) ?_
            refine cw_seq ?_
            refine cw_gen ?_
            intro Q244 hQ244
            refine cw_reg ?_
            refine el_pv (v := .bool false) (pv_assign rfl) (by decide) ?_
            refine el_nil ?_
            refine hQ244 _ _ _ ?_
            refine thn_n ?_
            refine cw_ret ?_
            refine hQ215 _ _ _ ?_
            refine thn_r ?_
            refine fin1 rfl rfl ?_
            have hr := Option.some.inj hF
            exact ⟨congrArg (fun (r : Bool) => Ending.returned (.bool r)) hr, hS.below⟩
        · refine cw_cond_t rfl (bnot_f hb214) ?_
          refine cw_seq ?_
          refine cw_gen ?_
          intro Q245 hQ245
          refine cw_reg ?_
          refine el_pv (v := .bool false) (pv_assign rfl) (by decide) ?_
          refine el_nil ?_
          refine hQ245 _ _ _ ?_
          refine thn_n ?_
          refine cw_ret ?_
          refine hQ189 _ _ _ ?_
          refine thn_r ?_
          refine fin1 rfl rfl ?_
          have hr := Option.some.inj hF
          exact ⟨congrArg (fun (r : Bool) => Ending.returned (.bool r)) hr, hS.below⟩
set_option maxHeartbeats 4000000 in
theorem spec_l5Copy_ok {w0 : World} {a0 : Int} {u1 : Value} {a1 : List (List Int)} (ha1 : (sliceR (sliceR intR 3) 22).rd w0 [u1] a1) {N : Nat} {r : Int × List (List Int)} (hF : spec_l5Copy N a0 a1 = some r) :
    Calls Try.prog 55 #[.agg #[.int .i64 a0, u1]] w0 fun e w' => ∃ q0, e = .returned (.agg #[.int .i64 r.1, q0]) ∧ Sat w0 w' [Own (sliceR (sliceR intR 3) 22) [q0] r.2] := by
  unfold spec_l5Copy at hF
  refine calls_E Try.func55 rfl rfl (of_decide_eq_true rfl) ?_
  have hS := Sat.start w0
  refine cw_seq ?_
  refine cw_gen ?_
  intro Q101 hQ101
  refine cw_reg ?_
  refine el_box [.int .i64 a0, u1] rfl hS (by decide) ?_
  intro w102 b103 hS hx104
  refine el_alloc hS (by decide) ?_
  intro w106 b107 hS hx108
  refine el_nil ?_
  refine hQ101 _ _ _ ?_
  refine thn_n ?_
  refine cw_seq ?_
  refine cw_gen ?_
  intro Q110 hQ110
  refine cw_reg ?_
  refine el_pv (v := .pointer (some ⟨b103, 0 + 0, none⟩)) (pv_fieldAddr rfl) (by decide) ?_
  refine el_pv (v := .int .i64 a0) (pv_loadc rfl ((hS.boxAt 1 rfl) 0 _ rfl)) (by decide) ?_
  refine el_pv (v := .agg #[.int .i64 a0, (.slice none 0 0)]) (pv_build [(0, [.int .i64 a0])] [.int .i64 a0, (.slice none 0 0)] (partc rfl rfl) rfl) (by decide) ?_
  refine el_alloc hS (by decide) ?_
  intro w111 b112 hS hx113
  refine el_storev (hS.top 0 rfl) rfl [.int .i64 a0, (.slice none 0 0)] rfl rfl (of_decide_eq_true rfl) (all_cons rfl (all_cons rfl rfl)) ?_
  intro w115 hS
  replace hS : Sat w0 w115 [Box b112 40 [.int .i64 a0, (.slice none 0 0)], Box b107 40 [.int .i64 0, (.slice none 0 0)], Box b103 40 [.int .i64 a0, u1]] := hS
  refine el_nil ?_
  refine hQ110 _ _ _ ?_
  refine thn_n ?_
  refine cw_seq ?_
  refine cw_gen ?_
  intro Q116 hQ116
  refine cw_seq ?_
  refine cw_gen ?_
  intro Q117 hQ117
  refine cw_reg ?_
  refine el_pv (v := .int .i64 0) (pv_assign rfl) (by decide) ?_
  refine el_nil ?_
  refine hQ117 _ _ _ ?_
  refine thn_n ?_
  refine cw_block ?_
  refine cw_gen ?_
  intro Q118 hQ118
  replace hS := hS.nil (sliceR intR 3) 22
  obtain ⟨s120, hL, hK121⟩ := ob hF
  refine cw_loopS (fun k e w => ∃ (v123 : Value), ∃ (x122 : List (List Int)), ∃ (x124 : Int), e 1 = .pointer (some ⟨b103, 0, none⟩) ∧ e 2 = .pointer (some ⟨b107, 0, none⟩) ∧ e 3 = .pointer (some ⟨b112, 0, none⟩) ∧ e 4 = .int .i64 x124 ∧ Sat w0 w [Own (sliceR (sliceR intR 3) 22) [v123] x122, Box b112 40 [.int .i64 a0, v123], Box b107 40 [.int .i64 0, (.slice none 0 0)], Box b103 40 [.int .i64 a0, u1]] ∧ spec_l5Copy_L1 N k a0 a1 0 [] a0 x122 x124 = some s120) N ?_ ?_ ?_
  · exact ⟨(.slice none 0 0), [], 0, rfl, rfl, rfl, rfl, hS, hL⟩
  · rintro e w ⟨_, _, _, _, _, _, _, _, hz⟩; exact nomatch (show none = some _ from hz)
  · rintro k e130 w129 ⟨v123, x122, x124, he125, he126, he127, he128, hS, hF⟩
    refine cw_gen ?_
    intro Q131 hQ131
    refine cw_seq ?_
    refine cw_gen ?_
    intro Q132 hQ132
    refine cw_seq ?_
    refine cw_gen ?_
    intro Q133 hQ133
    refine cw_reg ?_
    refine el_pv (v := .int .i64 x124) (pv_move he128) (by decide) ?_
    refine el_pv (v := .pointer (some ⟨b103, 0 + 1, none⟩)) (pv_fieldAddr he125) (by decide) ?_
    refine el_pv (v := u1) (pv_loadc rfl ((hS.boxAt 3 rfl) 1 _ rfl)) (by decide) ?_
    refine el_pv (v := .int .i64 (a1.length : Int)) (pv_len rfl ha1) (by decide) ?_
    refine el_pv (v := .bool (decide (x124 < (a1.length : Int)))) (pv_lss rfl rfl) (by decide) ?_
    refine el_nil ?_
    refine hQ133 _ _ _ ?_
    refine thn_n ?_
    replace hF := oif hF
    rcases hF with ⟨hb134, hF⟩ | ⟨hb134, hF⟩
    · refine cw_cond_t rfl hb134 ?_
      refine cw_skip ?_
      refine hQ132 _ _ _ ?_
      refine thn_n ?_
      refine cw_seq ?_
      refine cw_gen ?_
      intro Q135 hQ135
      refine cw_block ?_
      refine cw_gen ?_
      intro Q136 hQ136
      obtain ⟨C, hCd⟩ : ∃ C : World → Prop, ∀ w, C w ↔ ∃ G, Sat w0 w ([Box b112 40 [.int .i64 a0, v123], Box b107 40 [.int .i64 0, (.slice none 0 0)], Box b103 40 [.int .i64 a0, u1]] ++ G) := ⟨_, fun _ => Iff.rfl⟩
      refine cw_regb [0, 1, 2, 3, 4, 5, 6, 7, 8, 9, 10, 11] C (by kernel_rfl) ?_
      intro w137 hx138
      replace hS := hS.ext hx138
      replace hS : Sat w0 w137 [Box b103 40 [.int .i64 a0, u1], Own (sliceR (sliceR intR 3) 22) [v123] x122, Box b112 40 [.int .i64 a0, v123], Box b107 40 [.int .i64 0, (.slice none 0 0)]] := hS.top 3 rfl
      replace hS : Sat w0 w137 [Box b107 40 [.int .i64 0, (.slice none 0 0)], Box b103 40 [.int .i64 a0, u1], Own (sliceR (sliceR intR 3) 22) [v123] x122, Box b112 40 [.int .i64 a0, v123]] := hS.top 3 rfl
      replace hS : Sat w0 w137 [Box b112 40 [.int .i64 a0, v123], Box b107 40 [.int .i64 0, (.slice none 0 0)], Box b103 40 [.int .i64 a0, u1], Own (sliceR (sliceR intR 3) 22) [v123] x122] := hS.top 3 rfl
      have hC := (hCd _).2 ⟨_, hS⟩
      refine al_p (v := .pointer (some ⟨b112, 0 + 1, none⟩)) (by kernel_rfl) 0 rfl rfl (by decide) hC (by kernel_rfl) (by kernel_rfl) (sv_on rfl (fun w' hw' => by obtain ⟨_, hS⟩ := (hCd _).1 hw'; exact (pv_fieldAddr he127))) ?_
      refine al_p (v := v123) (by kernel_rfl) 1 rfl rfl (by decide) hC (by kernel_rfl) (by kernel_rfl) (sv_on rfl (fun w' hw' => by obtain ⟨_, hS⟩ := (hCd _).1 hw'; exact (pv_loadc rfl ((hS.boxAt 0 rfl) 1 _ rfl)))) ?_
      refine al_p (v := .pointer (some ⟨b103, 0 + 1, none⟩)) (by kernel_rfl) 3 rfl rfl (by decide) hC (by kernel_rfl) (by kernel_rfl) (sv_on rfl (fun w' hw' => by obtain ⟨_, hS⟩ := (hCd _).1 hw'; exact (pv_fieldAddr he125))) ?_
      refine al_p (v := u1) (by kernel_rfl) 4 rfl rfl (by decide) hC (by kernel_rfl) (by kernel_rfl) (sv_on rfl (fun w' hw' => by obtain ⟨_, hS⟩ := (hCd _).1 hw'; exact (pv_loadc rfl ((hS.boxAt 2 rfl) 1 _ rfl)))) ?_
      refine al_p (v := .int .i64 x124) (by kernel_rfl) 5 rfl rfl (by decide) hC (by kernel_rfl) (by kernel_rfl) (sv_on rfl (fun w' hw' => by obtain ⟨_, hS⟩ := (hCd _).1 hw'; exact (pv_move he128))) ?_
      replace hF := ob hF
      obtain ⟨x139, hx139, hF⟩ := hF
      refine al_index (wA := w0) (by kernel_rfl) 6 rfl hC (by kernel_rfl) (by kernel_rfl) rfl ha1 rfl (by decide) rfl hx139 (by decide) ?_
      intro b140 of141 c142 hr143 hm144
      obtain ⟨v145, rfl⟩ := slice_one hr143
      refine al_p (v := v145) (by kernel_rfl) 7 rfl rfl (by decide) hC (by kernel_rfl) (by kernel_rfl) (sv_on rfl (fun w' hw' => by obtain ⟨_, hS⟩ := (hCd _).1 hw'; exact (pv_loadc rfl ((cells_up hS.below hm144) 0 _ rfl)))) ?_
      refine al_one 2 (by kernel_rfl) rfl ?_
      refine el_buildSlice0 intR hS (by decide) ?_
      intro w146 v148 hS hx147
      refine el_nil ?_
      replace hS : Sat w0 w146 [Box b103 40 [.int .i64 a0, u1], Own (sliceR intR 3) [v148] [], Box b112 40 [.int .i64 a0, v123], Box b107 40 [.int .i64 0, (.slice none 0 0)], Own (sliceR (sliceR intR 3) 22) [v123] x122] := hS.top 3 rfl
      replace hS : Sat w0 w146 [Box b107 40 [.int .i64 0, (.slice none 0 0)], Box b103 40 [.int .i64 a0, u1], Own (sliceR intR 3) [v148] [], Box b112 40 [.int .i64 a0, v123], Own (sliceR (sliceR intR 3) 22) [v123] x122] := hS.top 3 rfl
      replace hS : Sat w0 w146 [Box b112 40 [.int .i64 a0, v123], Box b107 40 [.int .i64 0, (.slice none 0 0)], Box b103 40 [.int .i64 a0, u1], Own (sliceR intR 3) [v148] [], Own (sliceR (sliceR intR 3) 22) [v123] x122] := hS.top 3 rfl
      have hC := (hCd _).2 ⟨_, hS⟩
      have hoc150 := oc (hS.rdAt (R := (sliceR intR 3)) 3 rfl)
      have hoc151 := oc (hS.rdAt (R := (sliceR (sliceR intR 3) 22)) 4 rfl)
      refine ⟨fun _ => hC, ?_⟩
      refine al_one 8 (by kernel_rfl) rfl ?_
      replace hF := ob hF
      obtain ⟨x154, hx154, hF⟩ := hF
      obtain ⟨ao155, c156, hv157, hn158, hrow159⟩ := row_ints (hS.up hr143)
      replace hS : Sat w0 w146 [Own (sliceR intR 3) [v148] [], Box b112 40 [.int .i64 a0, v123], Box b107 40 [.int .i64 0, (.slice none 0 0)], Box b103 40 [.int .i64 a0, u1], Own (sliceR (sliceR intR 3) 22) [v123] x122] := hS.top 3 rfl
      replace hS := hS.ints (xs := x139)
      refine el_append rfl (by decide) rfl (by decide) hS rfl (rfl.trans hv157) rfl hn158 hrow159 hx154 (by decide) ?_
      intro w152 v153 hS
      refine el_nil ?_
      replace hS : Sat w0 w152 [Box b103 40 [.int .i64 a0, u1], Own (sliceR intR 3) [v153] x154, Box b112 40 [.int .i64 a0, v123], Box b107 40 [.int .i64 0, (.slice none 0 0)], Own (sliceR (sliceR intR 3) 22) [v123] x122] := hS.top 3 rfl
      replace hS : Sat w0 w152 [Box b107 40 [.int .i64 0, (.slice none 0 0)], Box b103 40 [.int .i64 a0, u1], Own (sliceR intR 3) [v153] x154, Box b112 40 [.int .i64 a0, v123], Own (sliceR (sliceR intR 3) 22) [v123] x122] := hS.top 3 rfl
      replace hS : Sat w0 w152 [Box b112 40 [.int .i64 a0, v123], Box b107 40 [.int .i64 0, (.slice none 0 0)], Box b103 40 [.int .i64 a0, u1], Own (sliceR intR 3) [v153] x154, Own (sliceR (sliceR intR 3) 22) [v123] x122] := hS.top 3 rfl
      have hC := (hCd _).2 ⟨_, hS⟩
      have hoc161 := oc (hS.rdAt (R := (sliceR intR 3)) 3 rfl)
      refine ⟨fun _ => hC, ?_⟩
      refine al_one 9 (by kernel_rfl) rfl ?_
      refine el_buildSlice1 [v153] (cells_of rfl (oc (hS.rdAt (R := (sliceR intR 3)) 3 rfl))) (by rfl) (by decide) rfl (by decide) hS (by decide) ?_
      intro w162 b164 hS hx163
      refine el_nil ?_
      replace hS : Sat w0 w162 [Box b103 40 [.int .i64 a0, u1], Box b164 22 [v153], Box b112 40 [.int .i64 a0, v123], Box b107 40 [.int .i64 0, (.slice none 0 0)], Own (sliceR intR 3) [v153] x154, Own (sliceR (sliceR intR 3) 22) [v123] x122] := hS.top 3 rfl
      replace hS : Sat w0 w162 [Box b107 40 [.int .i64 0, (.slice none 0 0)], Box b103 40 [.int .i64 a0, u1], Box b164 22 [v153], Box b112 40 [.int .i64 a0, v123], Own (sliceR intR 3) [v153] x154, Own (sliceR (sliceR intR 3) 22) [v123] x122] := hS.top 3 rfl
      replace hS : Sat w0 w162 [Box b112 40 [.int .i64 a0, v123], Box b107 40 [.int .i64 0, (.slice none 0 0)], Box b103 40 [.int .i64 a0, u1], Box b164 22 [v153], Own (sliceR intR 3) [v153] x154, Own (sliceR (sliceR intR 3) 22) [v123] x122] := hS.top 3 rfl
      have hC := (hCd _).2 ⟨_, hS⟩
      refine ⟨fun _ => hC, ?_⟩
      refine al_one 10 (by kernel_rfl) rfl ?_
      replace hF := ob hF
      obtain ⟨x168, hx168, hF⟩ := hF
      have hrow169 := hS.boxRow 3 rfl
      replace hS : Sat w0 w162 [Own (sliceR (sliceR intR 3) 22) [v123] x122, Box b112 40 [.int .i64 a0, v123], Box b107 40 [.int .i64 0, (.slice none 0 0)], Box b103 40 [.int .i64 a0, u1], Box b164 22 [v153], Own (sliceR intR 3) [v153] x154] := hS.top 5 rfl
      replace hS : Sat w0 w162 [Own (sliceR intR 3) [v153] x154, Own (sliceR (sliceR intR 3) 22) [v123] x122, Box b112 40 [.int .i64 a0, v123], Box b107 40 [.int .i64 0, (.slice none 0 0)], Box b103 40 [.int .i64 a0, u1], Box b164 22 [v153]] := hS.top 5 rfl
      replace hS := hS.one
      refine el_append rfl (by decide) rfl (by decide) hS rfl rfl rfl (by simp) hrow169 hx168 (by decide) ?_
      intro w166 v167 hS
      refine el_nil ?_
      replace hS : Sat w0 w166 [Box b103 40 [.int .i64 a0, u1], Own (sliceR (sliceR intR 3) 22) [v167] x168, Box b112 40 [.int .i64 a0, v123], Box b107 40 [.int .i64 0, (.slice none 0 0)], Box b164 22 [v153]] := hS.top 3 rfl
      replace hS : Sat w0 w166 [Box b107 40 [.int .i64 0, (.slice none 0 0)], Box b103 40 [.int .i64 a0, u1], Own (sliceR (sliceR intR 3) 22) [v167] x168, Box b112 40 [.int .i64 a0, v123], Box b164 22 [v153]] := hS.top 3 rfl
      replace hS : Sat w0 w166 [Box b112 40 [.int .i64 a0, v123], Box b107 40 [.int .i64 0, (.slice none 0 0)], Box b103 40 [.int .i64 a0, u1], Own (sliceR (sliceR intR 3) 22) [v167] x168, Box b164 22 [v153]] := hS.top 3 rfl
      have hC := (hCd _).2 ⟨_, hS⟩
      have hoc171 := oc (hS.rdAt (R := (sliceR (sliceR intR 3) 22)) 3 rfl)
      refine ⟨fun _ => hC, ?_⟩
      refine al_p (v := .pointer (some ⟨b112, 0 + 1, none⟩)) (by kernel_rfl) 11 rfl rfl (by decide) hC (by kernel_rfl) (by kernel_rfl) (sv_on rfl (fun w' hw' => by obtain ⟨_, hS⟩ := (hCd _).1 hw'; exact (pv_fieldAddr he127))) ?_
      refine al_one 12 (by kernel_rfl) rfl ?_
      refine el_storev (hS.top 0 rfl) rfl [v167] (cells_of rfl (oc (hS.rdAt (R := (sliceR (sliceR intR 3) 22)) 3 rfl))) rfl (of_decide_eq_true rfl) (all_cons (oc (hS.rdAt (R := (sliceR (sliceR intR 3) 22)) 3 rfl)) rfl) ?_
      intro w172 hS
      replace hS : Sat w0 w172 [Box b112 40 [.int .i64 a0, v167], Box b107 40 [.int .i64 0, (.slice none 0 0)], Box b103 40 [.int .i64 a0, u1], Own (sliceR (sliceR intR 3) 22) [v167] x168, Box b164 22 [v153]] := hS
      refine el_nil ?_
      refine ⟨fun h => (nomatch (show false = true from h)), ?_⟩
      refine al_nil (by kernel_rfl) ?_
      refine hQ136 _ _ _ ?_
      refine inb_n ?_
      refine hQ135 _ _ _ ?_
      refine thn_n ?_
      refine cw_reg ?_
      refine el_pv (v := .int .i64 x124) (pv_move he128) (by decide) ?_
      replace hF := ob hF
      obtain ⟨x173, hx173, hF⟩ := hF
      refine el_pv (v := .int .i64 x173) (pv_add rfl rfl hx173) (by decide) ?_
      refine el_pv (v := .int .i64 x173) (pv_assign rfl) (by decide) ?_
      refine el_nil ?_
      refine hQ131 _ _ _ ?_
      refine thn_n ?_
      replace hS : Sat w0 w172 [Box b103 40 [.int .i64 a0, u1], Box b112 40 [.int .i64 a0, v167], Box b107 40 [.int .i64 0, (.slice none 0 0)], Own (sliceR (sliceR intR 3) 22) [v167] x168, Box b164 22 [v153]] := hS.top 2 rfl
      replace hS : Sat w0 w172 [Box b107 40 [.int .i64 0, (.slice none 0 0)], Box b103 40 [.int .i64 a0, u1], Box b112 40 [.int .i64 a0, v167], Own (sliceR (sliceR intR 3) 22) [v167] x168, Box b164 22 [v153]] := hS.top 2 rfl
      replace hS : Sat w0 w172 [Box b112 40 [.int .i64 a0, v167], Box b107 40 [.int .i64 0, (.slice none 0 0)], Box b103 40 [.int .i64 a0, u1], Own (sliceR (sliceR intR 3) 22) [v167] x168, Box b164 22 [v153]] := hS.top 2 rfl
      replace hS : Sat w0 w172 [Own (sliceR (sliceR intR 3) 22) [v167] x168, Box b112 40 [.int .i64 a0, v167], Box b107 40 [.int .i64 0, (.slice none 0 0)], Box b103 40 [.int .i64 a0, u1], Box b164 22 [v153]] := hS.top 3 rfl
      replace hS := hS.keep 4
      exact ⟨v167, x168, x173, he125, he126, he127, rfl, hS, hF⟩
    · refine cw_cond_f rfl hb134 ?_
      refine cw_exit ?_
      refine hQ132 _ _ _ ?_
      refine thn_x ?_
      refine hQ131 _ _ _ ?_
      refine thn_x ?_
      replace hF := exB hF hK121
      refine hQ118 _ _ _ ?_
      refine inb_s ?_
      refine hQ116 _ _ _ ?_
      refine thn_n ?_
      refine cw_seq ?_
      refine cw_gen ?_
      intro Q174 hQ174
      refine cw_reg ?_
      refine el_pv (v := .agg #[.int .i64 a0, v123]) (pv_loada (cs := [.int .i64 a0, v123]) he127 rfl (boxc0 (hS.boxAt 1 rfl))) (by decide) ?_
      refine el_storev (hS.top 2 rfl) he126 [.int .i64 a0, v123] rfl rfl (of_decide_eq_true rfl) (all_cons rfl (all_cons (oc (hS.rdAt (R := (sliceR (sliceR intR 3) 22)) 0 rfl)) rfl)) ?_
      intro w175 hS
      replace hS : Sat w0 w175 [Box b107 40 [.int .i64 a0, v123], Own (sliceR (sliceR intR 3) 22) [v123] x122, Box b112 40 [.int .i64 a0, v123], Box b103 40 [.int .i64 a0, u1]] := hS
      refine el_nil ?_
      refine hQ174 _ _ _ ?_
      refine thn_n ?_
      refine cw_ret ?_
      refine finC (cs := [.int .i64 a0, v123]) rfl he126 rfl (boxc0 (hS.boxAt 0 rfl))  ?_
      replace hS : Sat w0 w175 [Own (sliceR (sliceR intR 3) 22) [v123] x122, Box b107 40 [.int .i64 a0, v123], Box b112 40 [.int .i64 a0, v123], Box b103 40 [.int .i64 a0, u1]] := hS.top 1 rfl
      have hr := Option.some.inj hF
      exact ⟨v123, congrArg (fun (r : Int × List (List Int)) => Ending.returned (.agg #[.int .i64 r.1, v123])) hr, Eq.mp (congrArg (fun (r : Int × List (List Int)) => Sat w0 w175 [Own (sliceR (sliceR intR 3) 22) [v123] r.2]) hr) (hS.keep 1)⟩
set_option maxHeartbeats 4000000 in
theorem spec_InvertDelta_ok {w0 : World} {a0 : ByteArray} {a1 : Int} {u2 : Value} {a2 : List (List Int)} {a3 : Int} {u4 : Value} {a4 : List (List Int)} (ha0 : a0.size ≤ 9223372036854775807) (ha2 : (sliceR (sliceR intR 3) 22).rd w0 [u2] a2) (ha4 : (sliceR (sliceR intR 3) 22).rd w0 [u4] a4) {N : Nat} {r : ByteArray × (Int × List (List Int)) × (Int × List (List Int))} (hF : spec_InvertDelta N a0 a1 a2 a3 a4 = some r) :
    Calls Try.prog 19 #[.agg #[.string a0, .int .i64 a1, u2, .int .i64 a3, u4]] w0 fun e w' => ∃ q0 q1, e = .returned (.agg #[.string r.1, .int .i64 r.2.1.1, q0, .int .i64 r.2.2.1, q1]) ∧ Sat w0 w' [Own (sliceR (sliceR intR 3) 22) [q0] r.2.1.2, Own (sliceR (sliceR intR 3) 22) [q1] r.2.2.2] ∧ r.1.size ≤ 9223372036854775807 := by
  unfold spec_InvertDelta at hF
  refine calls_E Try.func19 rfl rfl (of_decide_eq_true rfl) ?_
  have hS := Sat.start w0
  refine cw_seq ?_
  refine cw_gen ?_
  intro Q101 hQ101
  refine cw_reg ?_
  refine el_box [.string a0, .int .i64 a1, u2, .int .i64 a3, u4] rfl hS (by decide) ?_
  intro w102 b103 hS hx104
  refine el_alloc hS (by decide) ?_
  intro w106 b107 hS hx108
  refine el_nil ?_
  refine hQ101 _ _ _ ?_
  refine thn_n ?_
  refine cw_seq ?_
  refine cw_gen ?_
  intro Q110 hQ110
  refine cw_reg ?_
  refine el_pv (v := .pointer (some ⟨b103, 0 + 3, none⟩)) (pv_fieldAddr rfl) (by decide) ?_
  refine el_pv (v := .agg #[.int .i64 a3, u4]) (pv_loada (cs := [.int .i64 a3, u4]) rfl rfl (boxc (hS.boxAt 1 rfl) 3 2)) (by decide) ?_
  replace hF := ob hF
  obtain ⟨r111, hr111, hF⟩ := hF
  refine el_call goes55 (spec_l5Copy_ok (hS.up ha4) hr111) (congrArg List.toArray (mapc rfl rfl)) (by decide) ?_
  rintro _ w114 ⟨v112, rfl, hS'⟩
  refine ⟨_, rfl, ?_⟩
  have hx115 := hS'.below
  replace hS := hS.call1 hS'
  refine el_alloc hS (by decide) ?_
  intro w116 b117 hS hx118
  refine el_storev (hS.top 0 rfl) rfl [.int .i64 r111.1, v112] rfl rfl (of_decide_eq_true rfl) (all_cons rfl (all_cons (oc (hS.rdAt (R := (sliceR (sliceR intR 3) 22)) 1 rfl)) rfl)) ?_
  intro w120 hS
  replace hS : Sat w0 w120 [Box b117 40 [.int .i64 r111.1, v112], Own (sliceR (sliceR intR 3) 22) [v112] r111.2, Box b107 42 [.string ByteArray.empty, .int .i64 0, (.slice none 0 0), .int .i64 0, (.slice none 0 0)], Box b103 42 [.string a0, .int .i64 a1, u2, .int .i64 a3, u4]] := hS
  refine el_nil ?_
  refine hQ110 _ _ _ ?_
  refine thn_n ?_
  refine cw_seq ?_
  refine cw_gen ?_
  intro Q121 hQ121
  refine cw_reg ?_
  refine el_pv (v := .pointer (some ⟨b103, 0 + 1, none⟩)) (pv_fieldAddr rfl) (by decide) ?_
  refine el_pv (v := .agg #[.int .i64 a1, u2]) (pv_loada (cs := [.int .i64 a1, u2]) rfl rfl (boxc (hS.boxAt 3 rfl) 1 2)) (by decide) ?_
  replace hF := ob hF
  obtain ⟨r122, hr122, hF⟩ := hF
  refine el_call goes55 (spec_l5Copy_ok (hS.up ha2) hr122) (congrArg List.toArray (mapc rfl rfl)) (by decide) ?_
  rintro _ w125 ⟨v123, rfl, hS'⟩
  refine ⟨_, rfl, ?_⟩
  have hx126 := hS'.below
  replace hS := hS.call1 hS'
  refine el_alloc hS (by decide) ?_
  intro w127 b128 hS hx129
  refine el_storev (hS.top 0 rfl) rfl [.int .i64 r122.1, v123] rfl rfl (of_decide_eq_true rfl) (all_cons rfl (all_cons (oc (hS.rdAt (R := (sliceR (sliceR intR 3) 22)) 1 rfl)) rfl)) ?_
  intro w131 hS
  replace hS : Sat w0 w131 [Box b128 40 [.int .i64 r122.1, v123], Own (sliceR (sliceR intR 3) 22) [v123] r122.2, Box b117 40 [.int .i64 r111.1, v112], Own (sliceR (sliceR intR 3) 22) [v112] r111.2, Box b107 42 [.string ByteArray.empty, .int .i64 0, (.slice none 0 0), .int .i64 0, (.slice none 0 0)], Box b103 42 [.string a0, .int .i64 a1, u2, .int .i64 a3, u4]] := hS
  refine el_nil ?_
  refine hQ121 _ _ _ ?_
  refine thn_n ?_
  refine cw_seq ?_
  refine cw_gen ?_
  intro Q132 hQ132
  refine cw_reg ?_
  refine el_pv (v := .pointer (some ⟨b103, 0 + 0, none⟩)) (pv_fieldAddr rfl) (by decide) ?_
  refine el_pv (v := .string a0) (pv_loadc rfl ((hS.boxAt 5 rfl) 0 _ rfl)) (by decide) ?_
  refine el_pv (v := .agg #[.int .i64 r111.1, v112]) (pv_loada (cs := [.int .i64 r111.1, v112]) rfl rfl (boxc0 (hS.boxAt 2 rfl))) (by decide) ?_
  refine el_pv (v := .agg #[.int .i64 r122.1, v123]) (pv_loada (cs := [.int .i64 r122.1, v123]) rfl rfl (boxc0 (hS.boxAt 0 rfl))) (by decide) ?_
  refine el_pv (v := .agg #[.string a0, .int .i64 r111.1, v112, .int .i64 r122.1, v123]) (pv_build [(0, [.string a0]), (1, [.int .i64 r111.1, v112]), (2, [.int .i64 r122.1, v123])] [.string a0, .int .i64 r111.1, v112, .int .i64 r122.1, v123] (partc rfl (partc rfl (partc rfl rfl))) rfl) (by decide) ?_
  refine el_storev (hS.top 4 rfl) rfl [.string a0, .int .i64 r111.1, v112, .int .i64 r122.1, v123] rfl rfl (of_decide_eq_true rfl) (all_cons rfl (all_cons rfl (all_cons (oc (hS.rdAt (R := (sliceR (sliceR intR 3) 22)) 3 rfl)) (all_cons rfl (all_cons (oc (hS.rdAt (R := (sliceR (sliceR intR 3) 22)) 1 rfl)) rfl))))) ?_
  intro w133 hS
  replace hS : Sat w0 w133 [Box b107 42 [.string a0, .int .i64 r111.1, v112, .int .i64 r122.1, v123], Box b128 40 [.int .i64 r122.1, v123], Own (sliceR (sliceR intR 3) 22) [v123] r122.2, Box b117 40 [.int .i64 r111.1, v112], Own (sliceR (sliceR intR 3) 22) [v112] r111.2, Box b103 42 [.string a0, .int .i64 a1, u2, .int .i64 a3, u4]] := hS
  refine el_nil ?_
  refine hQ132 _ _ _ ?_
  refine thn_n ?_
  refine cw_ret ?_
  refine finC (cs := [.string a0, .int .i64 r111.1, v112, .int .i64 r122.1, v123]) rfl rfl rfl (boxc0 (hS.boxAt 0 rfl))  ?_
  replace hS : Sat w0 w133 [Own (sliceR (sliceR intR 3) 22) [v123] r122.2, Box b107 42 [.string a0, .int .i64 r111.1, v112, .int .i64 r122.1, v123], Box b128 40 [.int .i64 r122.1, v123], Box b117 40 [.int .i64 r111.1, v112], Own (sliceR (sliceR intR 3) 22) [v112] r111.2, Box b103 42 [.string a0, .int .i64 a1, u2, .int .i64 a3, u4]] := hS.top 2 rfl
  replace hS : Sat w0 w133 [Own (sliceR (sliceR intR 3) 22) [v112] r111.2, Own (sliceR (sliceR intR 3) 22) [v123] r122.2, Box b107 42 [.string a0, .int .i64 r111.1, v112, .int .i64 r122.1, v123], Box b128 40 [.int .i64 r122.1, v123], Box b117 40 [.int .i64 r111.1, v112], Box b103 42 [.string a0, .int .i64 a1, u2, .int .i64 a3, u4]] := hS.top 4 rfl
  have hr := Option.some.inj hF
  exact ⟨v112, v123, congrArg (fun (r : ByteArray × (Int × List (List Int)) × (Int × List (List Int))) => Ending.returned (.agg #[.string r.1, .int .i64 r.2.1.1, v112, .int .i64 r.2.2.1, v123])) hr, Eq.mp (congrArg (fun (r : ByteArray × (Int × List (List Int)) × (Int × List (List Int))) => Sat w0 w133 [Own (sliceR (sliceR intR 3) 22) [v112] r.2.1.2, Own (sliceR (sliceR intR 3) 22) [v123] r.2.2.2]) hr) (hS.keep 2), Eq.mp (congrArg (fun (r : ByteArray × (Int × List (List Int)) × (Int × List (List Int))) => r.1.size ≤ 9223372036854775807) hr) ha0⟩
set_option maxHeartbeats 4000000 in
theorem impl_copyInts_ok {w0 : World} {u0 : Value} {a0 : List Int} (ha0 : (sliceR intR 3).rd w0 [u0] a0) {N : Nat} {r : (List Int)} (hF : impl_copyInts N a0 = some r) :
    Calls Try.prog 93 #[u0] w0 fun e w' => ∃ q0, e = .returned (q0) ∧ Sat w0 w' [Own (sliceR intR 3) [q0] r] := by
  unfold impl_copyInts at hF
  refine calls_E Try.func93 rfl rfl (of_decide_eq_true rfl) ?_
  have hS := Sat.start w0
  refine cw_seq ?_
  refine cw_gen ?_
  intro Q101 hQ101
  refine cw_reg ?_
  refine el_pv (v := (.slice none 0 0)) (pv_assign rfl) (by decide) ?_
  refine el_nil ?_
  refine hQ101 _ _ _ ?_
  refine thn_n ?_
  refine cw_seq ?_
  refine cw_gen ?_
  intro Q102 hQ102
  refine cw_reg ?_
  refine el_buildSlice0 intR hS (by decide) ?_
  intro w103 v105 hS hx104
  refine el_pv (v := u0) (pv_move rfl) (by decide) ?_
  replace hF := ob hF
  obtain ⟨x109, hx109, hF⟩ := hF
  obtain ⟨ao110, c111, hv112, hn113, hrow114⟩ := row_ints (hS.up ha0)
  replace hS := hS.ints (xs := a0)
  refine el_append rfl (by decide) rfl (by decide) hS rfl (rfl.trans hv112) rfl hn113 hrow114 hx109 (by decide) ?_
  intro w107 v108 hS
  refine el_pv (v := v108) (pv_assign rfl) (by decide) ?_
  refine el_nil ?_
  refine hQ102 _ _ _ ?_
  refine thn_n ?_
  refine cw_ret ?_
  refine fin1 rfl rfl ?_
  have hr := Option.some.inj hF
  exact ⟨v108, congrArg (fun (r : (List Int)) => Ending.returned (v108)) hr, Eq.mp (congrArg (fun (r : (List Int)) => Sat w0 w107 [Own (sliceR intR 3) [v108] r]) hr) (hS.keep 1)⟩
end Go.Proofs.Ytobjjdfgnaanjaa
