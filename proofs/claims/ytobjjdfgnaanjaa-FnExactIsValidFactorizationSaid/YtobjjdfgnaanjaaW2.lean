/- The walks through functions of the program: each hands back what it comes to. No condition but that it comes to something. -/
import Derived.Test.YtobjjdfgnaanjaaW1
import Derived.Test.YtobjjdfgnaanjaaW2D
namespace Go.Proofs.Ytobjjdfgnaanjaa
open Go.RowKit
set_option maxRecDepth 100000
set_option maxHeartbeats 4000000 in
theorem laws_toRelation_ok {w0 : World} {a0 : Int} {u1 : Value} {a1 : List (List Int)} (ha1 : (sliceR (sliceR intR 3) 22).rd w0 [u1] a1) {N : Nat} {r : Int × List (List Int)} (hF : laws_toRelation N a0 a1 = some r) :
    Calls Try.prog 27 #[.agg #[.int .i64 a0, u1]] w0 fun e w' => ∃ q0, e = .returned (.agg #[.int .i64 r.1, q0]) ∧ Sat w0 w' [Own (sliceR (sliceR intR 3) 22) [q0] r.2] := by
  unfold laws_toRelation at hF
  refine calls_E Try.func27 rfl rfl (of_decide_eq_true rfl) ?_
  have hS := Sat.start w0
  refine cw_seq ?_
  refine cw_gen ?_
  intro Q101 hQ101
  refine cw_reg ?_
  refine el_box [.int .i64 a0, u1] rfl hS (by decide) ?_
  intro w102 b103 hS hx104
  refine el_alloc hS (by decide) ?_
  intro w106 b107 hS hx108
  refine el_nil ?_
  refine hQ101 _ _ _ ?_
  refine thn_n ?_
  refine cw_seq ?_
  refine cw_gen ?_
  intro Q110 hQ110
  refine cw_reg ?_
  refine el_alloc hS (by decide) ?_
  intro w111 b112 hS hx113
  refine el_nil ?_
  refine hQ110 _ _ _ ?_
  refine thn_n ?_
  refine cw_seq ?_
  refine cw_gen ?_
  intro Q115 hQ115
  refine cw_reg ?_
  refine el_pv (v := .pointer (some ⟨b103, 0 + 0, none⟩)) (pv_fieldAddr rfl) (by decide) ?_
  refine el_pv (v := .int .i64 a0) (pv_loadc rfl ((hS.boxAt 2 rfl) 0 _ rfl)) (by decide) ?_
  refine el_pv (v := .pointer (some ⟨b112, 0 + 0, none⟩)) (pv_fieldAddr rfl) (by decide) ?_
  refine el_storev (hS.top 0 rfl) rfl [.int .i64 a0] rfl rfl (of_decide_eq_true rfl) (all_cons rfl rfl) ?_
  intro w116 hS
  replace hS : Sat w0 w116 [Box b112 40 [.int .i64 a0, (.slice none 0 0)], Box b107 40 [.int .i64 0, (.slice none 0 0)], Box b103 35 [.int .i64 a0, u1]] := hS
  refine el_nil ?_
  refine hQ115 _ _ _ ?_
  refine thn_n ?_
  refine cw_seq ?_
  refine cw_gen ?_
  intro Q117 hQ117
  refine cw_reg ?_
  refine el_pv (v := .pointer (some ⟨b103, 0 + 1, none⟩)) (pv_fieldAddr rfl) (by decide) ?_
  refine el_pv (v := u1) (pv_loadc rfl ((hS.boxAt 2 rfl) 1 _ rfl)) (by decide) ?_
  replace hF := ob hF
  obtain ⟨r118, hr118, hF⟩ := hF
  refine el_call goes69 (laws_toIntSS_ok (hS.up ha1) hr118) (congrArg List.toArray (mapc rfl rfl)) (by decide) ?_
  rintro _ w121 ⟨v119, rfl, hS'⟩
  refine ⟨_, rfl, ?_⟩
  have hx122 := hS'.below
  replace hS := hS.call1 hS'
  refine el_pv (v := .pointer (some ⟨b112, 0 + 1, none⟩)) (pv_fieldAddr rfl) (by decide) ?_
  refine el_storev (hS.top 1 rfl) rfl [v119] (cells_of rfl (oc (hS.rdAt (R := (sliceR (sliceR intR 3) 22)) 0 rfl))) rfl (of_decide_eq_true rfl) (all_cons (oc (hS.rdAt (R := (sliceR (sliceR intR 3) 22)) 0 rfl)) rfl) ?_
  intro w123 hS
  replace hS : Sat w0 w123 [Box b112 40 [.int .i64 a0, v119], Own (sliceR (sliceR intR 3) 22) [v119] r118, Box b107 40 [.int .i64 0, (.slice none 0 0)], Box b103 35 [.int .i64 a0, u1]] := hS
  refine el_nil ?_
  refine hQ117 _ _ _ ?_
  refine thn_n ?_
  refine cw_seq ?_
  refine cw_gen ?_
  intro Q124 hQ124
  refine cw_reg ?_
  refine el_pv (v := .agg #[.int .i64 a0, v119]) (pv_loada (cs := [.int .i64 a0, v119]) rfl rfl (boxc0 (hS.boxAt 0 rfl))) (by decide) ?_
  refine el_storev (hS.top 2 rfl) rfl [.int .i64 a0, v119] rfl rfl (of_decide_eq_true rfl) (all_cons rfl (all_cons (oc (hS.rdAt (R := (sliceR (sliceR intR 3) 22)) 1 rfl)) rfl)) ?_
  intro w125 hS
  replace hS : Sat w0 w125 [Box b107 40 [.int .i64 a0, v119], Box b112 40 [.int .i64 a0, v119], Own (sliceR (sliceR intR 3) 22) [v119] r118, Box b103 35 [.int .i64 a0, u1]] := hS
  refine el_nil ?_
  refine hQ124 _ _ _ ?_
  refine thn_n ?_
  refine cw_ret ?_
  refine finC (cs := [.int .i64 a0, v119]) rfl rfl rfl (boxc0 (hS.boxAt 0 rfl))  ?_
  replace hS : Sat w0 w125 [Own (sliceR (sliceR intR 3) 22) [v119] r118, Box b107 40 [.int .i64 a0, v119], Box b112 40 [.int .i64 a0, v119], Box b103 35 [.int .i64 a0, u1]] := hS.top 2 rfl
  have hr := Option.some.inj hF
  exact ⟨v119, congrArg (fun (r : Int × List (List Int)) => Ending.returned (.agg #[.int .i64 r.1, v119])) hr, Eq.mp (congrArg (fun (r : Int × List (List Int)) => Sat w0 w125 [Own (sliceR (sliceR intR 3) 22) [v119] r.2]) hr) (hS.keep 1)⟩
set_option maxHeartbeats 4000000 in
theorem laws_toDelta_ok {w0 : World} {a0 : ByteArray} {a1 : Int} {u2 : Value} {a2 : List (List Int)} {a3 : Int} {u4 : Value} {a4 : List (List Int)} (ha2 : (sliceR (sliceR intR 3) 22).rd w0 [u2] a2) (ha4 : (sliceR (sliceR intR 3) 22).rd w0 [u4] a4) {N : Nat} {r : ByteArray × (Int × List (List Int)) × (Int × List (List Int))} (hF : laws_toDelta N a0 a1 a2 a3 a4 = some r) :
    Calls Try.prog 16 #[.agg #[.string a0, .int .i64 a1, u2, .int .i64 a3, u4]] w0 fun e w' => ∃ q0 q1, e = .returned (.agg #[.string r.1, .int .i64 r.2.1.1, q0, .int .i64 r.2.2.1, q1]) ∧ Sat w0 w' [Own (sliceR (sliceR intR 3) 22) [q0] r.2.1.2, Own (sliceR (sliceR intR 3) 22) [q1] r.2.2.2] := by
  unfold laws_toDelta at hF
  refine calls_E Try.func16 rfl rfl (of_decide_eq_true rfl) ?_
  have hS := Sat.start w0
  refine cw_seq ?_
  refine cw_gen ?_
  intro Q101 hQ101
  refine cw_reg ?_
  refine el_box [.string a0, .int .i64 a1, u2, .int .i64 a3, u4] rfl hS (by decide) ?_
  intro w102 b103 hS hx104
  refine el_alloc hS (by decide) ?_
  intro w106 b107 hS hx108
  refine el_nil ?_
  refine hQ101 _ _ _ ?_
  refine thn_n ?_
  refine cw_seq ?_
  refine cw_gen ?_
  intro Q110 hQ110
  refine cw_reg ?_
  refine el_alloc hS (by decide) ?_
  intro w111 b112 hS hx113
  refine el_nil ?_
  refine hQ110 _ _ _ ?_
  refine thn_n ?_
  refine cw_seq ?_
  refine cw_gen ?_
  intro Q115 hQ115
  refine cw_reg ?_
  refine el_pv (v := .pointer (some ⟨b103, 0 + 0, none⟩)) (pv_fieldAddr rfl) (by decide) ?_
  refine el_pv (v := .string a0) (pv_loadc rfl ((hS.boxAt 2 rfl) 0 _ rfl)) (by decide) ?_
  refine el_pv (v := .pointer (some ⟨b112, 0 + 0, none⟩)) (pv_fieldAddr rfl) (by decide) ?_
  refine el_storev (hS.top 0 rfl) rfl [.string a0] rfl rfl (of_decide_eq_true rfl) (all_cons rfl rfl) ?_
  intro w116 hS
  replace hS : Sat w0 w116 [Box b112 42 [.string a0, .int .i64 0, (.slice none 0 0), .int .i64 0, (.slice none 0 0)], Box b107 42 [.string ByteArray.empty, .int .i64 0, (.slice none 0 0), .int .i64 0, (.slice none 0 0)], Box b103 37 [.string a0, .int .i64 a1, u2, .int .i64 a3, u4]] := hS
  refine el_nil ?_
  refine hQ115 _ _ _ ?_
  refine thn_n ?_
  refine cw_seq ?_
  refine cw_gen ?_
  intro Q117 hQ117
  refine cw_reg ?_
  refine el_pv (v := .pointer (some ⟨b103, 0 + 1, none⟩)) (pv_fieldAddr rfl) (by decide) ?_
  refine el_pv (v := .agg #[.int .i64 a1, u2]) (pv_loada (cs := [.int .i64 a1, u2]) rfl rfl (boxc (hS.boxAt 2 rfl) 1 2)) (by decide) ?_
  replace hF := ob hF
  obtain ⟨r118, hr118, hF⟩ := hF
  refine el_call goes27 (laws_toRelation_ok (hS.up ha2) hr118) (congrArg List.toArray (mapc rfl rfl)) (by decide) ?_
  rintro _ w121 ⟨v119, rfl, hS'⟩
  refine ⟨_, rfl, ?_⟩
  have hx122 := hS'.below
  replace hS := hS.call1 hS'
  refine el_pv (v := .pointer (some ⟨b112, 0 + 1, none⟩)) (pv_fieldAddr rfl) (by decide) ?_
  refine el_storev (hS.top 1 rfl) rfl [.int .i64 r118.1, v119] rfl rfl (of_decide_eq_true rfl) (all_cons rfl (all_cons (oc (hS.rdAt (R := (sliceR (sliceR intR 3) 22)) 0 rfl)) rfl)) ?_
  intro w123 hS
  replace hS : Sat w0 w123 [Box b112 42 [.string a0, .int .i64 r118.1, v119, .int .i64 0, (.slice none 0 0)], Own (sliceR (sliceR intR 3) 22) [v119] r118.2, Box b107 42 [.string ByteArray.empty, .int .i64 0, (.slice none 0 0), .int .i64 0, (.slice none 0 0)], Box b103 37 [.string a0, .int .i64 a1, u2, .int .i64 a3, u4]] := hS
  refine el_nil ?_
  refine hQ117 _ _ _ ?_
  refine thn_n ?_
  refine cw_seq ?_
  refine cw_gen ?_
  intro Q124 hQ124
  refine cw_reg ?_
  refine el_pv (v := .pointer (some ⟨b103, 0 + 3, none⟩)) (pv_fieldAddr rfl) (by decide) ?_
  refine el_pv (v := .agg #[.int .i64 a3, u4]) (pv_loada (cs := [.int .i64 a3, u4]) rfl rfl (boxc (hS.boxAt 3 rfl) 3 2)) (by decide) ?_
  replace hF := ob hF
  obtain ⟨r125, hr125, hF⟩ := hF
  refine el_call goes27 (laws_toRelation_ok (hS.up ha4) hr125) (congrArg List.toArray (mapc rfl rfl)) (by decide) ?_
  rintro _ w128 ⟨v126, rfl, hS'⟩
  refine ⟨_, rfl, ?_⟩
  have hx129 := hS'.below
  replace hS := hS.call1 hS'
  refine el_pv (v := .pointer (some ⟨b112, 0 + 3, none⟩)) (pv_fieldAddr rfl) (by decide) ?_
  refine el_storev (hS.top 1 rfl) rfl [.int .i64 r125.1, v126] rfl rfl (of_decide_eq_true rfl) (all_cons rfl (all_cons (oc (hS.rdAt (R := (sliceR (sliceR intR 3) 22)) 0 rfl)) rfl)) ?_
  intro w130 hS
  replace hS : Sat w0 w130 [Box b112 42 [.string a0, .int .i64 r118.1, v119, .int .i64 r125.1, v126], Own (sliceR (sliceR intR 3) 22) [v126] r125.2, Own (sliceR (sliceR intR 3) 22) [v119] r118.2, Box b107 42 [.string ByteArray.empty, .int .i64 0, (.slice none 0 0), .int .i64 0, (.slice none 0 0)], Box b103 37 [.string a0, .int .i64 a1, u2, .int .i64 a3, u4]] := hS
  refine el_nil ?_
  refine hQ124 _ _ _ ?_
  refine thn_n ?_
  refine cw_seq ?_
  refine cw_gen ?_
  intro Q131 hQ131
  refine cw_reg ?_
  refine el_pv (v := .agg #[.string a0, .int .i64 r118.1, v119, .int .i64 r125.1, v126]) (pv_loada (cs := [.string a0, .int .i64 r118.1, v119, .int .i64 r125.1, v126]) rfl rfl (boxc0 (hS.boxAt 0 rfl))) (by decide) ?_
  refine el_storev (hS.top 3 rfl) rfl [.string a0, .int .i64 r118.1, v119, .int .i64 r125.1, v126] rfl rfl (of_decide_eq_true rfl) (all_cons rfl (all_cons rfl (all_cons (oc (hS.rdAt (R := (sliceR (sliceR intR 3) 22)) 2 rfl)) (all_cons rfl (all_cons (oc (hS.rdAt (R := (sliceR (sliceR intR 3) 22)) 1 rfl)) rfl))))) ?_
  intro w132 hS
  replace hS : Sat w0 w132 [Box b107 42 [.string a0, .int .i64 r118.1, v119, .int .i64 r125.1, v126], Box b112 42 [.string a0, .int .i64 r118.1, v119, .int .i64 r125.1, v126], Own (sliceR (sliceR intR 3) 22) [v126] r125.2, Own (sliceR (sliceR intR 3) 22) [v119] r118.2, Box b103 37 [.string a0, .int .i64 a1, u2, .int .i64 a3, u4]] := hS
  refine el_nil ?_
  refine hQ131 _ _ _ ?_
  refine thn_n ?_
  refine cw_ret ?_
  refine finC (cs := [.string a0, .int .i64 r118.1, v119, .int .i64 r125.1, v126]) rfl rfl rfl (boxc0 (hS.boxAt 0 rfl))  ?_
  replace hS : Sat w0 w132 [Own (sliceR (sliceR intR 3) 22) [v126] r125.2, Box b107 42 [.string a0, .int .i64 r118.1, v119, .int .i64 r125.1, v126], Box b112 42 [.string a0, .int .i64 r118.1, v119, .int .i64 r125.1, v126], Own (sliceR (sliceR intR 3) 22) [v119] r118.2, Box b103 37 [.string a0, .int .i64 a1, u2, .int .i64 a3, u4]] := hS.top 2 rfl
  replace hS : Sat w0 w132 [Own (sliceR (sliceR intR 3) 22) [v119] r118.2, Own (sliceR (sliceR intR 3) 22) [v126] r125.2, Box b107 42 [.string a0, .int .i64 r118.1, v119, .int .i64 r125.1, v126], Box b112 42 [.string a0, .int .i64 r118.1, v119, .int .i64 r125.1, v126], Box b103 37 [.string a0, .int .i64 a1, u2, .int .i64 a3, u4]] := hS.top 3 rfl
  have hr := Option.some.inj hF
  exact ⟨v119, v126, congrArg (fun (r : ByteArray × (Int × List (List Int)) × (Int × List (List Int))) => Ending.returned (.agg #[.string r.1, .int .i64 r.2.1.1, v119, .int .i64 r.2.2.1, v126])) hr, Eq.mp (congrArg (fun (r : ByteArray × (Int × List (List Int)) × (Int × List (List Int))) => Sat w0 w132 [Own (sliceR (sliceR intR 3) 22) [v119] r.2.1.2, Own (sliceR (sliceR intR 3) 22) [v126] r.2.2.2]) hr) (hS.keep 2)⟩
set_option maxHeartbeats 4000000 in
theorem impl_sameRows_ok {w0 : World} {u0 : Value} {a0 : List (List Int)} {u1 : Value} {a1 : List (List Int)} (ha0 : (sliceR (sliceR intR 3) 22).rd w0 [u0] a0) (ha1 : (sliceR (sliceR intR 3) 22).rd w0 [u1] a1) {N : Nat} {r : Bool} (hF : impl_sameRows N a0 a1 = some r) :
    Calls Try.prog 82 #[u0, u1] w0 fun e w' => e = .returned (.bool r) ∧ Ext w0 w' := by
  unfold impl_sameRows at hF
  refine calls_E Try.func82 rfl rfl (of_decide_eq_true rfl) ?_
  have hS := Sat.start w0
  refine cw_seq ?_
  refine cw_gen ?_
  intro Q101 hQ101
  refine cw_reg ?_
  refine el_pv (v := .bool false) (pv_assign rfl) (by decide) ?_
  refine el_nil ?_
  refine hQ101 _ _ _ ?_
  refine thn_n ?_
  refine cw_seq ?_
  refine cw_gen ?_
  intro Q102 hQ102
  refine cw_seq ?_
  refine cw_gen ?_
  intro Q103 hQ103
  refine cw_reg ?_
  refine el_pv (v := u0) (pv_move rfl) (by decide) ?_
  refine el_pv (v := .int .i64 (a0.length : Int)) (pv_len rfl ha0) (by decide) ?_
  refine el_pv (v := u1) (pv_move rfl) (by decide) ?_
  refine el_pv (v := .int .i64 (a1.length : Int)) (pv_len rfl ha1) (by decide) ?_
  refine el_pv (v := .bool ((a0.length : Int) != (a1.length : Int))) (pv_neq rfl rfl) (by decide) ?_
  refine el_nil ?_
  refine hQ103 _ _ _ ?_
  refine thn_n ?_
  replace hF := oif hF
  rcases hF with ⟨hb104, hF⟩ | ⟨hb104, hF⟩
  · refine cw_cond_t rfl hb104 ?_
    refine cw_seq ?_
    refine cw_gen ?_
    intro Q105 hQ105
    refine cw_reg ?_
    refine el_pv (v := .bool false) (pv_assign rfl) (by decide) ?_
    refine el_nil ?_
    refine hQ105 _ _ _ ?_
    refine thn_n ?_
    refine cw_ret ?_
    refine hQ102 _ _ _ ?_
    refine thn_r ?_
    refine fin1 rfl rfl ?_
    have hr := Option.some.inj hF
    exact ⟨congrArg (fun (r : Bool) => Ending.returned (.bool r)) hr, hS.below⟩
  · refine cw_cond_f rfl hb104 ?_
    refine cw_skip ?_
    refine hQ102 _ _ _ ?_
    refine thn_n ?_
    refine cw_seq ?_
    refine cw_gen ?_
    intro Q106 hQ106
    refine cw_seq ?_
    refine cw_gen ?_
    intro Q107 hQ107
    refine cw_reg ?_
    refine el_pv (v := u0) (pv_move rfl) (by decide) ?_
    refine el_pv (v := .int .i64 (a0.length : Int)) (pv_len rfl ha0) (by decide) ?_
    refine el_pv (v := .int .i64 0) (pv_move rfl) (by decide) ?_
    refine el_nil ?_
    refine hQ107 _ _ _ ?_
    refine thn_n ?_
    refine cw_block ?_
    refine cw_gen ?_
    intro Q108 hQ108
    obtain ⟨s109, hL, hK110⟩ := ob hF
    refine cw_loopS (fun k e w => ∃ (x111 : Int), e 0 = u0 ∧ e 1 = u1 ∧ e 12 = .int .i64 (a0.length : Int) ∧ e 13 = .int .i64 x111 ∧ Sat w0 w [] ∧ impl_sameRows_L1 N k a0 a1 (a0.length : Int) x111 = some s109) N ?_ ?_ ?_
    · exact ⟨0, rfl, rfl, rfl, rfl, hS, hL⟩
    · rintro e w ⟨_, _, _, _, _, _, hz⟩; exact nomatch (show none = some _ from hz)
    · rintro k e117 w116 ⟨x111, he112, he113, he114, he115, hS, hF⟩
      refine cw_gen ?_
      intro Q118 hQ118
      refine cw_seq ?_
      refine cw_gen ?_
      intro Q119 hQ119
      refine cw_reg ?_
      refine el_pv (v := .bool (decide (x111 < (a0.length : Int)))) (pv_lss he115 he114) (by decide) ?_
      refine el_nil ?_
      refine hQ119 _ _ _ ?_
      refine thn_n ?_
      refine cw_seq ?_
      refine cw_gen ?_
      intro Q120 hQ120
      replace hF := oif hF
      rcases hF with ⟨hb121, hF⟩ | ⟨hb121, hF⟩
      · refine cw_cond_t rfl hb121 ?_
        refine cw_skip ?_
        refine hQ120 _ _ _ ?_
        refine thn_n ?_
        refine cw_seq ?_
        refine cw_gen ?_
        intro Q122 hQ122
        refine cw_block ?_
        refine cw_gen ?_
        intro Q123 hQ123
        refine cw_seq ?_
        refine cw_gen ?_
        intro Q124 hQ124
        refine cw_reg ?_
        refine el_pv (v := .int .i64 x111) (pv_move he115) (by decide) ?_
        refine el_pv (v := .int .i64 x111) (pv_assign rfl) (by decide) ?_
        refine el_nil ?_
        refine hQ124 _ _ _ ?_
        refine thn_n ?_
        refine cw_seq ?_
        refine cw_gen ?_
        intro Q125 hQ125
        refine cw_regq (by kernel_rfl) (by kernel_rfl) ?_
        refine ql_pv (v := u0) (pv_move he112) (by decide) ?_
        refine ql_pv (v := .int .i64 x111) (pv_move rfl) (by decide) ?_
        replace hF := ob hF
        obtain ⟨x126, hx126, hF⟩ := hF
        refine ql_index (wA := w0) rfl ha0 rfl (by decide) rfl hx126 (by decide) ?_
        intro b127 of128 c129 hr130 hm131
        obtain ⟨v132, rfl⟩ := slice_one hr130
        refine ql_pv (v := v132) (pv_loadc rfl ((cells_up hS.below hm131) 0 _ rfl)) (by decide) ?_
        refine ql_pv (v := u1) (pv_move he113) (by decide) ?_
        refine ql_pv (v := .int .i64 x111) (pv_move rfl) (by decide) ?_
        replace hF := ob hF
        obtain ⟨x133, hx133, hF⟩ := hF
        refine ql_index (wA := w0) rfl ha1 rfl (by decide) rfl hx133 (by decide) ?_
        intro b134 of135 c136 hr137 hm138
        obtain ⟨v139, rfl⟩ := slice_one hr137
        refine ql_pv (v := v139) (pv_loadc rfl ((cells_up hS.below hm138) 0 _ rfl)) (by decide) ?_
        replace hF := ob hF
        obtain ⟨r140, hr140, hF⟩ := hF
        refine ql_call (.bool r140) goes49 (fun w' hw' => impl_sameInts_ok (rd_up (hS.up hr130) hw') (rd_up (hS.up hr137) hw') hr140) (congrArg List.toArray (mapc rfl (mapc rfl rfl))) (by decide) ?_
        refine ql_pv (v := .bool (!r140)) (pv_not rfl) (by decide) ?_
        refine ql_nil ?_
        intro w141 hx142
        replace hS := hS.ext hx142
        refine hQ125 _ _ _ ?_
        refine thn_n ?_
        replace hF := oif hF
        rcases hF with ⟨hb143, hF⟩ | ⟨hb143, hF⟩
        · refine cw_cond_f rfl (bnot_t hb143) ?_
          refine cw_skip ?_
          refine hQ123 _ _ _ ?_
          refine inb_n ?_
          refine hQ122 _ _ _ ?_
          refine thn_n ?_
          refine cw_reg ?_
          replace hF := ob hF
          obtain ⟨x144, hx144, hF⟩ := hF
          refine el_pv (v := .int .i64 x144) (pv_add he115 rfl hx144) (by decide) ?_
          refine el_pv (v := .int .i64 x144) (pv_move rfl) (by decide) ?_
          refine el_nil ?_
          refine hQ118 _ _ _ ?_
          refine thn_n ?_
          replace hS := hS.keep 0
          exact ⟨x144, he112, he113, he114, rfl, hS, hF⟩
        · refine cw_cond_t rfl (bnot_f hb143) ?_
          refine cw_seq ?_
          refine cw_gen ?_
          intro Q145 hQ145
          refine cw_reg ?_
          refine el_pv (v := .bool false) (pv_assign rfl) (by decide) ?_
          refine el_nil ?_
          refine hQ145 _ _ _ ?_
          refine thn_n ?_
          refine cw_ret ?_
          refine hQ123 _ _ _ ?_
          refine inb_r ?_
          refine hQ122 _ _ _ ?_
          refine thn_r ?_
          refine hQ118 _ _ _ ?_
          refine thn_r ?_
          refine hQ108 _ _ _ ?_
          refine inb_r ?_
          refine hQ106 _ _ _ ?_
          refine thn_r ?_
          replace hF := exL hF hK110
          refine fin1 rfl rfl ?_
          have hr := Option.some.inj hF
          exact ⟨congrArg (fun (r : Bool) => Ending.returned (.bool r)) hr, hS.below⟩
      · refine cw_cond_f rfl hb121 ?_
        refine cw_exit ?_
        refine hQ120 _ _ _ ?_
        refine thn_x ?_
        refine hQ118 _ _ _ ?_
        refine thn_x ?_
        replace hF := exA hF hK110
        refine hQ108 _ _ _ ?_
        refine inb_s ?_
        refine hQ106 _ _ _ ?_
        refine thn_n ?_
        refine cw_seq ?_
        refine cw_gen ?_
        intro Q146 hQ146
        refine cw_reg ?_
        refine el_pv (v := .bool true) (pv_assign rfl) (by decide) ?_
        refine el_nil ?_
        refine hQ146 _ _ _ ?_
        refine thn_n ?_
        refine cw_ret ?_
        refine fin1 rfl rfl ?_
        have hr := Option.some.inj hF
        exact ⟨congrArg (fun (r : Bool) => Ending.returned (.bool r)) hr, hS.below⟩
set_option maxHeartbeats 4000000 in
theorem impl_EqualRelations_ok {w0 : World} {a0 : Int} {u1 : Value} {a1 : List (List Int)} {a2 : Int} {u3 : Value} {a3 : List (List Int)} (ha1 : (sliceR (sliceR intR 3) 22).rd w0 [u1] a1) (ha3 : (sliceR (sliceR intR 3) 22).rd w0 [u3] a3) {N : Nat} {r : Bool} (hF : impl_EqualRelations N a0 a1 a2 a3 = some r) :
    Calls Try.prog 54 #[.agg #[.int .i64 a0, u1], .agg #[.int .i64 a2, u3]] w0 fun e w' => e = .returned (.bool r) ∧ Ext w0 w' := by
  unfold impl_EqualRelations at hF
  refine calls_E Try.func54 rfl rfl (of_decide_eq_true rfl) ?_
  have hS := Sat.start w0
  refine cw_seq ?_
  refine cw_gen ?_
  intro Q101 hQ101
  refine cw_reg ?_
  refine el_box [.int .i64 a0, u1] rfl hS (by decide) ?_
  intro w102 b103 hS hx104
  refine el_box [.int .i64 a2, u3] rfl hS (by decide) ?_
  intro w106 b107 hS hx108
  refine el_pv (v := .bool false) (pv_assign rfl) (by decide) ?_
  refine el_nil ?_
  refine hQ101 _ _ _ ?_
  refine thn_n ?_
  refine cw_seq ?_
  refine cw_gen ?_
  intro Q110 hQ110
  refine cw_reg ?_
  refine el_pv (v := .pointer (some ⟨b103, 0 + 0, none⟩)) (pv_fieldAddr rfl) (by decide) ?_
  refine el_pv (v := .int .i64 a0) (pv_loadc rfl ((hS.boxAt 1 rfl) 0 _ rfl)) (by decide) ?_
  refine el_pv (v := .pointer (some ⟨b107, 0 + 0, none⟩)) (pv_fieldAddr rfl) (by decide) ?_
  refine el_pv (v := .int .i64 a2) (pv_loadc rfl ((hS.boxAt 0 rfl) 0 _ rfl)) (by decide) ?_
  refine el_pv (v := .bool (a0 == a2)) (pv_eql rfl rfl) (by decide) ?_
  refine el_pv (v := .bool (a0 == a2)) (pv_move rfl) (by decide) ?_
  replace hF := oif hF
  rcases hF with ⟨hb111, hF⟩ | ⟨hb111, hF⟩
  · refine el_on rfl hb111 ?_
    refine el_pv (v := .pointer (some ⟨b103, 0 + 1, none⟩)) (pv_fieldAddr rfl) (by decide) ?_
    refine el_on rfl hb111 ?_
    refine el_pv (v := u1) (pv_loadc rfl ((hS.boxAt 1 rfl) 1 _ rfl)) (by decide) ?_
    refine el_on rfl hb111 ?_
    refine el_pv (v := .pointer (some ⟨b107, 0 + 1, none⟩)) (pv_fieldAddr rfl) (by decide) ?_
    refine el_on rfl hb111 ?_
    refine el_pv (v := u3) (pv_loadc rfl ((hS.boxAt 0 rfl) 1 _ rfl)) (by decide) ?_
    refine el_on rfl hb111 ?_
    replace hF := ob hF
    obtain ⟨r112, hr112, hF⟩ := hF
    refine el_call goes82 (impl_sameRows_ok (hS.up ha1) (hS.up ha3) hr112) (congrArg List.toArray (mapc rfl (mapc rfl rfl))) (by decide) ?_
    rintro _ w113 ⟨rfl, hx114⟩
    refine ⟨_, rfl, ?_⟩
    replace hS := hS.ext hx114
    refine el_pv (v := .bool r112) (pv_pick_t rfl hb111 rfl) (by decide) ?_
    refine el_pv (v := .bool r112) (pv_assign rfl) (by decide) ?_
    refine el_nil ?_
    refine hQ110 _ _ _ ?_
    refine thn_n ?_
    refine cw_ret ?_
    refine fin1 rfl rfl ?_
    have hr := Option.some.inj hF
    exact ⟨congrArg (fun (r : Bool) => Ending.returned (.bool r)) hr, hS.below⟩
  · refine el_off rfl hb111 rfl (by decide) ?_
    refine el_off rfl hb111 rfl (by decide) ?_
    refine el_off rfl hb111 rfl (by decide) ?_
    refine el_off rfl hb111 rfl (by decide) ?_
    refine el_off rfl hb111 rfl (by decide) ?_
    refine el_pv (v := .bool false) (pv_pick_f rfl hb111 rfl) (by decide) ?_
    refine el_pv (v := .bool false) (pv_assign rfl) (by decide) ?_
    refine el_nil ?_
    refine hQ110 _ _ _ ?_
    refine thn_n ?_
    refine cw_ret ?_
    refine fin1 rfl rfl ?_
    have hr := Option.some.inj hF
    exact ⟨congrArg (fun (r : Bool) => Ending.returned (.bool r)) hr, hS.below⟩
set_option maxHeartbeats 4000000 in
theorem impl_EqualDeltas_ok {w0 : World} {a0 : ByteArray} {a1 : Int} {u2 : Value} {a2 : List (List Int)} {a3 : Int} {u4 : Value} {a4 : List (List Int)} {a5 : ByteArray} {a6 : Int} {u7 : Value} {a7 : List (List Int)} {a8 : Int} {u9 : Value} {a9 : List (List Int)} (ha2 : (sliceR (sliceR intR 3) 22).rd w0 [u2] a2) (ha4 : (sliceR (sliceR intR 3) 22).rd w0 [u4] a4) (ha7 : (sliceR (sliceR intR 3) 22).rd w0 [u7] a7) (ha9 : (sliceR (sliceR intR 3) 22).rd w0 [u9] a9) {N : Nat} {r : Bool} (hF : impl_EqualDeltas N a0 a1 a2 a3 a4 a5 a6 a7 a8 a9 = some r) :
    Calls Try.prog 17 #[.agg #[.string a0, .int .i64 a1, u2, .int .i64 a3, u4], .agg #[.string a5, .int .i64 a6, u7, .int .i64 a8, u9]] w0 fun e w' => e = .returned (.bool r) ∧ Ext w0 w' := by
  unfold impl_EqualDeltas at hF
  refine calls_E Try.func17 rfl rfl (of_decide_eq_true rfl) ?_
  have hS := Sat.start w0
  refine cw_seq ?_
  refine cw_gen ?_
  intro Q101 hQ101
  refine cw_reg ?_
  refine el_box [.string a0, .int .i64 a1, u2, .int .i64 a3, u4] rfl hS (by decide) ?_
  intro w102 b103 hS hx104
  refine el_box [.string a5, .int .i64 a6, u7, .int .i64 a8, u9] rfl hS (by decide) ?_
  intro w106 b107 hS hx108
  refine el_pv (v := .bool false) (pv_assign rfl) (by decide) ?_
  refine el_nil ?_
  refine hQ101 _ _ _ ?_
  refine thn_n ?_
  refine cw_seq ?_
  refine cw_gen ?_
  intro Q110 hQ110
  refine cw_reg ?_
  refine el_pv (v := .pointer (some ⟨b103, 0 + 0, none⟩)) (pv_fieldAddr rfl) (by decide) ?_
  refine el_pv (v := .string a0) (pv_loadc rfl ((hS.boxAt 1 rfl) 0 _ rfl)) (by decide) ?_
  refine el_pv (v := .pointer (some ⟨b107, 0 + 0, none⟩)) (pv_fieldAddr rfl) (by decide) ?_
  refine el_pv (v := .string a5) (pv_loadc rfl ((hS.boxAt 0 rfl) 0 _ rfl)) (by decide) ?_
  refine el_pv (v := .bool (eqS a0 a5)) (pv_eqlS rfl rfl) (by decide) ?_
  refine el_pv (v := .bool (eqS a0 a5)) (pv_move rfl) (by decide) ?_
  replace hF := oif hF
  rcases hF with ⟨hb111, hF⟩ | ⟨hb111, hF⟩
  · refine el_on rfl hb111 ?_
    refine el_pv (v := .pointer (some ⟨b103, 0 + 1, none⟩)) (pv_fieldAddr rfl) (by decide) ?_
    refine el_on rfl hb111 ?_
    refine el_pv (v := .agg #[.int .i64 a1, u2]) (pv_loada (cs := [.int .i64 a1, u2]) rfl rfl (boxc (hS.boxAt 1 rfl) 1 2)) (by decide) ?_
    refine el_on rfl hb111 ?_
    refine el_pv (v := .pointer (some ⟨b107, 0 + 1, none⟩)) (pv_fieldAddr rfl) (by decide) ?_
    refine el_on rfl hb111 ?_
    refine el_pv (v := .agg #[.int .i64 a6, u7]) (pv_loada (cs := [.int .i64 a6, u7]) rfl rfl (boxc (hS.boxAt 0 rfl) 1 2)) (by decide) ?_
    refine el_on rfl hb111 ?_
    replace hF := ob hF
    obtain ⟨r112, hr112, hF⟩ := hF
    refine el_call goes54 (impl_EqualRelations_ok (hS.up ha2) (hS.up ha7) hr112) (congrArg List.toArray (mapc rfl (mapc rfl rfl))) (by decide) ?_
    rintro _ w113 ⟨rfl, hx114⟩
    refine ⟨_, rfl, ?_⟩
    replace hS := hS.ext hx114
    refine el_pv (v := .bool r112) (pv_pick_t rfl hb111 rfl) (by decide) ?_
    refine el_pv (v := .bool r112) (pv_move rfl) (by decide) ?_
    replace hF := oif hF
    rcases hF with ⟨hb115, hF⟩ | ⟨hb115, hF⟩
    · refine el_on rfl hb115 ?_
      refine el_pv (v := .pointer (some ⟨b103, 0 + 3, none⟩)) (pv_fieldAddr rfl) (by decide) ?_
      refine el_on rfl hb115 ?_
      refine el_pv (v := .agg #[.int .i64 a3, u4]) (pv_loada (cs := [.int .i64 a3, u4]) rfl rfl (boxc (hS.boxAt 1 rfl) 3 2)) (by decide) ?_
      refine el_on rfl hb115 ?_
      refine el_pv (v := .pointer (some ⟨b107, 0 + 3, none⟩)) (pv_fieldAddr rfl) (by decide) ?_
      refine el_on rfl hb115 ?_
      refine el_pv (v := .agg #[.int .i64 a8, u9]) (pv_loada (cs := [.int .i64 a8, u9]) rfl rfl (boxc (hS.boxAt 0 rfl) 3 2)) (by decide) ?_
      refine el_on rfl hb115 ?_
      replace hF := ob hF
      obtain ⟨r116, hr116, hF⟩ := hF
      refine el_call goes54 (impl_EqualRelations_ok (hS.up ha4) (hS.up ha9) hr116) (congrArg List.toArray (mapc rfl (mapc rfl rfl))) (by decide) ?_
      rintro _ w117 ⟨rfl, hx118⟩
      refine ⟨_, rfl, ?_⟩
      replace hS := hS.ext hx118
      refine el_pv (v := .bool r116) (pv_pick_t rfl hb115 rfl) (by decide) ?_
      refine el_pv (v := .bool r116) (pv_assign rfl) (by decide) ?_
      refine el_nil ?_
      refine hQ110 _ _ _ ?_
      refine thn_n ?_
      refine cw_ret ?_
      refine fin1 rfl rfl ?_
      have hr := Option.some.inj hF
      exact ⟨congrArg (fun (r : Bool) => Ending.returned (.bool r)) hr, hS.below⟩
    · refine el_off rfl hb115 rfl (by decide) ?_
      refine el_off rfl hb115 rfl (by decide) ?_
      refine el_off rfl hb115 rfl (by decide) ?_
      refine el_off rfl hb115 rfl (by decide) ?_
      refine el_off rfl hb115 rfl (by decide) ?_
      refine el_pv (v := .bool false) (pv_pick_f rfl hb115 rfl) (by decide) ?_
      refine el_pv (v := .bool false) (pv_assign rfl) (by decide) ?_
      refine el_nil ?_
      refine hQ110 _ _ _ ?_
      refine thn_n ?_
      refine cw_ret ?_
      refine fin1 rfl rfl ?_
      have hr := Option.some.inj hF
      exact ⟨congrArg (fun (r : Bool) => Ending.returned (.bool r)) hr, hS.below⟩
  · refine el_off rfl hb111 rfl (by decide) ?_
    refine el_off rfl hb111 rfl (by decide) ?_
    refine el_off rfl hb111 rfl (by decide) ?_
    refine el_off rfl hb111 rfl (by decide) ?_
    refine el_off rfl hb111 rfl (by decide) ?_
    refine el_pv (v := .bool false) (pv_pick_f rfl hb111 rfl) (by decide) ?_
    refine el_pv (v := .bool false) (pv_move rfl) (by decide) ?_
    refine el_off rfl rfl rfl (by decide) ?_
    refine el_off rfl rfl rfl (by decide) ?_
    refine el_off rfl rfl rfl (by decide) ?_
    refine el_off rfl rfl rfl (by decide) ?_
    refine el_off rfl rfl rfl (by decide) ?_
    refine el_pv (v := .bool false) (pv_pick_f rfl rfl rfl) (by decide) ?_
    refine el_pv (v := .bool false) (pv_assign rfl) (by decide) ?_
    refine el_nil ?_
    refine hQ110 _ _ _ ?_
    refine thn_n ?_
    refine cw_ret ?_
    refine fin1 rfl rfl ?_
    have hr := Option.some.inj hF
    exact ⟨congrArg (fun (r : Bool) => Ending.returned (.bool r)) hr, hS.below⟩
set_option maxHeartbeats 4000000 in
theorem laws_eqIntSS_ok {w0 : World} {u0 : Value} {a0 : List (List Int)} {u1 : Value} {a1 : List (List Int)} (ha0 : (sliceR (sliceR intR 3) 22).rd w0 [u0] a0) (ha1 : (sliceR (sliceR intR 3) 22).rd w0 [u1] a1) {N : Nat} {r : Bool} (hF : laws_eqIntSS N a0 a1 = some r) :
    Calls Try.prog 72 #[u0, u1] w0 fun e w' => e = .returned (.bool r) ∧ Ext w0 w' := by
  unfold laws_eqIntSS at hF
  refine calls_E Try.func72 rfl rfl (of_decide_eq_true rfl) ?_
  have hS := Sat.start w0
  refine cw_seq ?_
  refine cw_gen ?_
  intro Q101 hQ101
  refine cw_reg ?_
  refine el_pv (v := .bool false) (pv_assign rfl) (by decide) ?_
  refine el_nil ?_
  refine hQ101 _ _ _ ?_
  refine thn_n ?_
  refine cw_seq ?_
  refine cw_gen ?_
  intro Q102 hQ102
  refine cw_seq ?_
  refine cw_gen ?_
  intro Q103 hQ103
  refine cw_reg ?_
  refine el_pv (v := u0) (pv_move rfl) (by decide) ?_
  refine el_pv (v := .int .i64 (a0.length : Int)) (pv_len rfl ha0) (by decide) ?_
  refine el_pv (v := u1) (pv_move rfl) (by decide) ?_
  refine el_pv (v := .int .i64 (a1.length : Int)) (pv_len rfl ha1) (by decide) ?_
  refine el_pv (v := .bool ((a0.length : Int) != (a1.length : Int))) (pv_neq rfl rfl) (by decide) ?_
  refine el_nil ?_
  refine hQ103 _ _ _ ?_
  refine thn_n ?_
  replace hF := oif hF
  rcases hF with ⟨hb104, hF⟩ | ⟨hb104, hF⟩
  · refine cw_cond_t rfl hb104 ?_
    refine cw_seq ?_
    refine cw_gen ?_
    intro Q105 hQ105
    refine cw_reg ?_
    refine el_pv (v := .bool false) (pv_assign rfl) (by decide) ?_
    refine el_nil ?_
    refine hQ105 _ _ _ ?_
    refine thn_n ?_
    refine cw_ret ?_
    refine hQ102 _ _ _ ?_
    refine thn_r ?_
    refine fin1 rfl rfl ?_
    have hr := Option.some.inj hF
    exact ⟨congrArg (fun (r : Bool) => Ending.returned (.bool r)) hr, hS.below⟩
  · refine cw_cond_f rfl hb104 ?_
    refine cw_skip ?_
    refine hQ102 _ _ _ ?_
    refine thn_n ?_
    refine cw_seq ?_
    refine cw_gen ?_
    intro Q106 hQ106
    refine cw_seq ?_
    refine cw_gen ?_
    intro Q107 hQ107
    refine cw_reg ?_
    refine el_pv (v := .int .i64 0) (pv_assign rfl) (by decide) ?_
    refine el_nil ?_
    refine hQ107 _ _ _ ?_
    refine thn_n ?_
    refine cw_block ?_
    refine cw_gen ?_
    intro Q108 hQ108
    obtain ⟨s109, hL, hK110⟩ := ob hF
    refine cw_loopS (fun k e w => ∃ (x111 : Int), e 0 = u0 ∧ e 1 = u1 ∧ e 5 = .int .i64 x111 ∧ Sat w0 w [] ∧ laws_eqIntSS_L1 N k a0 a1 x111 = some s109) N ?_ ?_ ?_
    · exact ⟨0, rfl, rfl, rfl, hS, hL⟩
    · rintro e w ⟨_, _, _, _, _, hz⟩; exact nomatch (show none = some _ from hz)
    · rintro k e116 w115 ⟨x111, he112, he113, he114, hS, hF⟩
      refine cw_gen ?_
      intro Q117 hQ117
      refine cw_seq ?_
      refine cw_gen ?_
      intro Q118 hQ118
      refine cw_seq ?_
      refine cw_gen ?_
      intro Q119 hQ119
      refine cw_reg ?_
      refine el_pv (v := .int .i64 x111) (pv_move he114) (by decide) ?_
      refine el_pv (v := u0) (pv_move he112) (by decide) ?_
      refine el_pv (v := .int .i64 (a0.length : Int)) (pv_len rfl ha0) (by decide) ?_
      refine el_pv (v := .bool (decide (x111 < (a0.length : Int)))) (pv_lss rfl rfl) (by decide) ?_
      refine el_nil ?_
      refine hQ119 _ _ _ ?_
      refine thn_n ?_
      replace hF := oif hF
      rcases hF with ⟨hb120, hF⟩ | ⟨hb120, hF⟩
      · refine cw_cond_t rfl hb120 ?_
        refine cw_skip ?_
        refine hQ118 _ _ _ ?_
        refine thn_n ?_
        refine cw_seq ?_
        refine cw_gen ?_
        intro Q121 hQ121
        refine cw_block ?_
        refine cw_gen ?_
        intro Q122 hQ122
        refine cw_seq ?_
        refine cw_gen ?_
        intro Q123 hQ123
        refine cw_regq (by kernel_rfl) (by kernel_rfl) ?_
        refine ql_pv (v := u0) (pv_move he112) (by decide) ?_
        refine ql_pv (v := .int .i64 x111) (pv_move he114) (by decide) ?_
        replace hF := ob hF
        obtain ⟨x124, hx124, hF⟩ := hF
        refine ql_index (wA := w0) rfl ha0 rfl (by decide) rfl hx124 (by decide) ?_
        intro b125 of126 c127 hr128 hm129
        obtain ⟨v130, rfl⟩ := slice_one hr128
        refine ql_pv (v := v130) (pv_loadc rfl ((cells_up hS.below hm129) 0 _ rfl)) (by decide) ?_
        refine ql_pv (v := u1) (pv_move he113) (by decide) ?_
        refine ql_pv (v := .int .i64 x111) (pv_move he114) (by decide) ?_
        replace hF := ob hF
        obtain ⟨x131, hx131, hF⟩ := hF
        refine ql_index (wA := w0) rfl ha1 rfl (by decide) rfl hx131 (by decide) ?_
        intro b132 of133 c134 hr135 hm136
        obtain ⟨v137, rfl⟩ := slice_one hr135
        refine ql_pv (v := v137) (pv_loadc rfl ((cells_up hS.below hm136) 0 _ rfl)) (by decide) ?_
        replace hF := ob hF
        obtain ⟨r138, hr138, hF⟩ := hF
        refine ql_call (.bool r138) goes51 (fun w' hw' => laws_eqIntS_ok (rd_up (hS.up hr128) hw') (rd_up (hS.up hr135) hw') hr138) (congrArg List.toArray (mapc rfl (mapc rfl rfl))) (by decide) ?_
        refine ql_pv (v := .bool (!r138)) (pv_not rfl) (by decide) ?_
        refine ql_nil ?_
        intro w139 hx140
        replace hS := hS.ext hx140
        refine hQ123 _ _ _ ?_
        refine thn_n ?_
        replace hF := oif hF
        rcases hF with ⟨hb141, hF⟩ | ⟨hb141, hF⟩
        · refine cw_cond_f rfl (bnot_t hb141) ?_
          refine cw_skip ?_
          refine hQ122 _ _ _ ?_
          refine inb_n ?_
          refine hQ121 _ _ _ ?_
          refine thn_n ?_
          refine cw_reg ?_
          refine el_pv (v := .int .i64 x111) (pv_move he114) (by decide) ?_
          replace hF := ob hF
          obtain ⟨x142, hx142, hF⟩ := hF
          refine el_pv (v := .int .i64 x142) (pv_add rfl rfl hx142) (by decide) ?_
          refine el_pv (v := .int .i64 x142) (pv_assign rfl) (by decide) ?_
          refine el_nil ?_
          refine hQ117 _ _ _ ?_
          refine thn_n ?_
          replace hS := hS.keep 0
          exact ⟨x142, he112, he113, rfl, hS, hF⟩
        · refine cw_cond_t rfl (bnot_f hb141) ?_
          refine cw_seq ?_
          refine cw_gen ?_
          intro Q143 hQ143
          refine cw_reg ?_
          refine el_pv (v := .bool false) (pv_assign rfl) (by decide) ?_
          refine el_nil ?_
          refine hQ143 _ _ _ ?_
          refine thn_n ?_
          refine cw_ret ?_
          refine hQ122 _ _ _ ?_
          refine inb_r ?_
          refine hQ121 _ _ _ ?_
          refine thn_r ?_
          refine hQ117 _ _ _ ?_
          refine thn_r ?_
          refine hQ108 _ _ _ ?_
          refine inb_r ?_
          refine hQ106 _ _ _ ?_
          refine thn_r ?_
          replace hF := exL hF hK110
          refine fin1 rfl rfl ?_
          have hr := Option.some.inj hF
          exact ⟨congrArg (fun (r : Bool) => Ending.returned (.bool r)) hr, hS.below⟩
      · refine cw_cond_f rfl hb120 ?_
        refine cw_exit ?_
        refine hQ118 _ _ _ ?_
        refine thn_x ?_
        refine hQ117 _ _ _ ?_
        refine thn_x ?_
        replace hF := exA hF hK110
        refine hQ108 _ _ _ ?_
        refine inb_s ?_
        refine hQ106 _ _ _ ?_
        refine thn_n ?_
        refine cw_seq ?_
        refine cw_gen ?_
        intro Q144 hQ144
        refine cw_reg ?_
        refine el_pv (v := .bool true) (pv_assign rfl) (by decide) ?_
        refine el_nil ?_
        refine hQ144 _ _ _ ?_
        refine thn_n ?_
        refine cw_ret ?_
        refine fin1 rfl rfl ?_
        have hr := Option.some.inj hF
        exact ⟨congrArg (fun (r : Bool) => Ending.returned (.bool r)) hr, hS.below⟩
set_option maxHeartbeats 4000000 in
theorem laws_eqRelation_ok {w0 : World} {a0 : Int} {u1 : Value} {a1 : List (List Int)} {a2 : Int} {u3 : Value} {a3 : List (List Int)} (ha1 : (sliceR (sliceR intR 3) 22).rd w0 [u1] a1) (ha3 : (sliceR (sliceR intR 3) 22).rd w0 [u3] a3) {N : Nat} {r : Bool} (hF : laws_eqRelation N a0 a1 a2 a3 = some r) :
    Calls Try.prog 29 #[.agg #[.int .i64 a0, u1], .agg #[.int .i64 a2, u3]] w0 fun e w' => e = .returned (.bool r) ∧ Ext w0 w' := by
  unfold laws_eqRelation at hF
  refine calls_E Try.func29 rfl rfl (of_decide_eq_true rfl) ?_
  have hS := Sat.start w0
  refine cw_seq ?_
  refine cw_gen ?_
  intro Q101 hQ101
  refine cw_reg ?_
  refine el_box [.int .i64 a0, u1] rfl hS (by decide) ?_
  intro w102 b103 hS hx104
  refine el_box [.int .i64 a2, u3] rfl hS (by decide) ?_
  intro w106 b107 hS hx108
  refine el_pv (v := .bool false) (pv_assign rfl) (by decide) ?_
  refine el_nil ?_
  refine hQ101 _ _ _ ?_
  refine thn_n ?_
  refine cw_seq ?_
  refine cw_gen ?_
  intro Q110 hQ110
  refine cw_seq ?_
  refine cw_gen ?_
  intro Q111 hQ111
  refine cw_reg ?_
  refine el_pv (v := .pointer (some ⟨b103, 0 + 0, none⟩)) (pv_fieldAddr rfl) (by decide) ?_
  refine el_pv (v := .int .i64 a0) (pv_loadc rfl ((hS.boxAt 1 rfl) 0 _ rfl)) (by decide) ?_
  refine el_pv (v := .pointer (some ⟨b107, 0 + 0, none⟩)) (pv_fieldAddr rfl) (by decide) ?_
  refine el_pv (v := .int .i64 a2) (pv_loadc rfl ((hS.boxAt 0 rfl) 0 _ rfl)) (by decide) ?_
  refine el_pv (v := .bool (a0 != a2)) (pv_neq rfl rfl) (by decide) ?_
  refine el_nil ?_
  refine hQ111 _ _ _ ?_
  refine thn_n ?_
  replace hF := oif hF
  rcases hF with ⟨hb112, hF⟩ | ⟨hb112, hF⟩
  · refine cw_cond_t rfl hb112 ?_
    refine cw_seq ?_
    refine cw_gen ?_
    intro Q113 hQ113
    refine cw_reg ?_
    refine el_pv (v := .bool false) (pv_assign rfl) (by decide) ?_
    refine el_nil ?_
    refine hQ113 _ _ _ ?_
    refine thn_n ?_
    refine cw_ret ?_
    refine hQ110 _ _ _ ?_
    refine thn_r ?_
    refine fin1 rfl rfl ?_
    have hr := Option.some.inj hF
    exact ⟨congrArg (fun (r : Bool) => Ending.returned (.bool r)) hr, hS.below⟩
  · refine cw_cond_f rfl hb112 ?_
    refine cw_skip ?_
    refine hQ110 _ _ _ ?_
    refine thn_n ?_
    refine cw_seq ?_
    refine cw_gen ?_
    intro Q114 hQ114
    refine cw_seq ?_
    refine cw_gen ?_
    intro Q115 hQ115
    refine cw_reg ?_
    refine el_pv (v := .pointer (some ⟨b103, 0 + 1, none⟩)) (pv_fieldAddr rfl) (by decide) ?_
    refine el_pv (v := u1) (pv_loadc rfl ((hS.boxAt 1 rfl) 1 _ rfl)) (by decide) ?_
    refine el_pv (v := .pointer (some ⟨b107, 0 + 1, none⟩)) (pv_fieldAddr rfl) (by decide) ?_
    refine el_pv (v := u3) (pv_loadc rfl ((hS.boxAt 0 rfl) 1 _ rfl)) (by decide) ?_
    replace hF := ob hF
    obtain ⟨r116, hr116, hF⟩ := hF
    refine el_call goes72 (laws_eqIntSS_ok (hS.up ha1) (hS.up ha3) hr116) (congrArg List.toArray (mapc rfl (mapc rfl rfl))) (by decide) ?_
    rintro _ w117 ⟨rfl, hx118⟩
    refine ⟨_, rfl, ?_⟩
    replace hS := hS.ext hx118
    refine el_pv (v := .bool (!r116)) (pv_not rfl) (by decide) ?_
    refine el_nil ?_
    refine hQ115 _ _ _ ?_
    refine thn_n ?_
    replace hF := oif hF
    rcases hF with ⟨hb119, hF⟩ | ⟨hb119, hF⟩
    · refine cw_cond_f rfl (bnot_t hb119) ?_
      refine cw_skip ?_
      refine hQ114 _ _ _ ?_
      refine thn_n ?_
      refine cw_seq ?_
      refine cw_gen ?_
      intro Q120 hQ120
      refine cw_reg ?_
      refine el_pv (v := .bool true) (pv_assign rfl) (by decide) ?_
      refine el_nil ?_
      refine hQ120 _ _ _ ?_
      refine thn_n ?_
      refine cw_ret ?_
      refine fin1 rfl rfl ?_
      have hr := Option.some.inj hF
      exact ⟨congrArg (fun (r : Bool) => Ending.returned (.bool r)) hr, hS.below⟩
    · refine cw_cond_t rfl (bnot_f hb119) ?_
      refine cw_seq ?_
      refine cw_gen ?_
      intro Q121 hQ121
      refine cw_reg ?_
      refine el_pv (v := .bool false) (pv_assign rfl) (by decide) ?_
      refine el_nil ?_
      refine hQ121 _ _ _ ?_
      refine thn_n ?_
      refine cw_ret ?_
      refine hQ114 _ _ _ ?_
      refine thn_r ?_
      refine fin1 rfl rfl ?_
      have hr := Option.some.inj hF
      exact ⟨congrArg (fun (r : Bool) => Ending.returned (.bool r)) hr, hS.below⟩
set_option maxHeartbeats 4000000 in
theorem laws_eqDelta_ok {w0 : World} {a0 : ByteArray} {a1 : Int} {u2 : Value} {a2 : List (List Int)} {a3 : Int} {u4 : Value} {a4 : List (List Int)} {a5 : ByteArray} {a6 : Int} {u7 : Value} {a7 : List (List Int)} {a8 : Int} {u9 : Value} {a9 : List (List Int)} (ha2 : (sliceR (sliceR intR 3) 22).rd w0 [u2] a2) (ha4 : (sliceR (sliceR intR 3) 22).rd w0 [u4] a4) (ha7 : (sliceR (sliceR intR 3) 22).rd w0 [u7] a7) (ha9 : (sliceR (sliceR intR 3) 22).rd w0 [u9] a9) {N : Nat} {r : Bool} (hF : laws_eqDelta N a0 a1 a2 a3 a4 a5 a6 a7 a8 a9 = some r) :
    Calls Try.prog 18 #[.agg #[.string a0, .int .i64 a1, u2, .int .i64 a3, u4], .agg #[.string a5, .int .i64 a6, u7, .int .i64 a8, u9]] w0 fun e w' => e = .returned (.bool r) ∧ Ext w0 w' := by
  unfold laws_eqDelta at hF
  refine calls_E Try.func18 rfl rfl (of_decide_eq_true rfl) ?_
  have hS := Sat.start w0
  refine cw_seq ?_
  refine cw_gen ?_
  intro Q101 hQ101
  refine cw_reg ?_
  refine el_box [.string a0, .int .i64 a1, u2, .int .i64 a3, u4] rfl hS (by decide) ?_
  intro w102 b103 hS hx104
  refine el_box [.string a5, .int .i64 a6, u7, .int .i64 a8, u9] rfl hS (by decide) ?_
  intro w106 b107 hS hx108
  refine el_pv (v := .bool false) (pv_assign rfl) (by decide) ?_
  refine el_nil ?_
  refine hQ101 _ _ _ ?_
  refine thn_n ?_
  refine cw_seq ?_
  refine cw_gen ?_
  intro Q110 hQ110
  refine cw_seq ?_
  refine cw_gen ?_
  intro Q111 hQ111
  refine cw_reg ?_
  refine el_pv (v := .pointer (some ⟨b103, 0 + 0, none⟩)) (pv_fieldAddr rfl) (by decide) ?_
  refine el_pv (v := .string a0) (pv_loadc rfl ((hS.boxAt 1 rfl) 0 _ rfl)) (by decide) ?_
  refine el_pv (v := .pointer (some ⟨b107, 0 + 0, none⟩)) (pv_fieldAddr rfl) (by decide) ?_
  refine el_pv (v := .string a5) (pv_loadc rfl ((hS.boxAt 0 rfl) 0 _ rfl)) (by decide) ?_
  refine el_pv (v := .bool (!(eqS a0 a5))) (pv_neqS rfl rfl) (by decide) ?_
  refine el_nil ?_
  refine hQ111 _ _ _ ?_
  refine thn_n ?_
  replace hF := oif hF
  rcases hF with ⟨hb112, hF⟩ | ⟨hb112, hF⟩
  · refine cw_cond_f rfl (bnot_t hb112) ?_
    refine cw_skip ?_
    refine hQ110 _ _ _ ?_
    refine thn_n ?_
    refine cw_seq ?_
    refine cw_gen ?_
    intro Q113 hQ113
    refine cw_seq ?_
    refine cw_gen ?_
    intro Q114 hQ114
    refine cw_reg ?_
    refine el_pv (v := .pointer (some ⟨b103, 0 + 1, none⟩)) (pv_fieldAddr rfl) (by decide) ?_
    refine el_pv (v := .agg #[.int .i64 a1, u2]) (pv_loada (cs := [.int .i64 a1, u2]) rfl rfl (boxc (hS.boxAt 1 rfl) 1 2)) (by decide) ?_
    refine el_pv (v := .pointer (some ⟨b107, 0 + 1, none⟩)) (pv_fieldAddr rfl) (by decide) ?_
    refine el_pv (v := .agg #[.int .i64 a6, u7]) (pv_loada (cs := [.int .i64 a6, u7]) rfl rfl (boxc (hS.boxAt 0 rfl) 1 2)) (by decide) ?_
    replace hF := ob hF
    obtain ⟨r115, hr115, hF⟩ := hF
    refine el_call goes29 (laws_eqRelation_ok (hS.up ha2) (hS.up ha7) hr115) (congrArg List.toArray (mapc rfl (mapc rfl rfl))) (by decide) ?_
    rintro _ w116 ⟨rfl, hx117⟩
    refine ⟨_, rfl, ?_⟩
    replace hS := hS.ext hx117
    refine el_pv (v := .bool (!r115)) (pv_not rfl) (by decide) ?_
    refine el_nil ?_
    refine hQ114 _ _ _ ?_
    refine thn_n ?_
    replace hF := oif hF
    rcases hF with ⟨hb118, hF⟩ | ⟨hb118, hF⟩
    · refine cw_cond_f rfl (bnot_t hb118) ?_
      refine cw_skip ?_
      refine hQ113 _ _ _ ?_
      refine thn_n ?_
      refine cw_seq ?_
      refine cw_gen ?_
      intro Q119 hQ119
      refine cw_seq ?_
      refine cw_gen ?_
      intro Q120 hQ120
      refine cw_reg ?_
      refine el_pv (v := .pointer (some ⟨b103, 0 + 3, none⟩)) (pv_fieldAddr rfl) (by decide) ?_
      refine el_pv (v := .agg #[.int .i64 a3, u4]) (pv_loada (cs := [.int .i64 a3, u4]) rfl rfl (boxc (hS.boxAt 1 rfl) 3 2)) (by decide) ?_
      refine el_pv (v := .pointer (some ⟨b107, 0 + 3, none⟩)) (pv_fieldAddr rfl) (by decide) ?_
      refine el_pv (v := .agg #[.int .i64 a8, u9]) (pv_loada (cs := [.int .i64 a8, u9]) rfl rfl (boxc (hS.boxAt 0 rfl) 3 2)) (by decide) ?_
      replace hF := ob hF
      obtain ⟨r121, hr121, hF⟩ := hF
      refine el_call goes29 (laws_eqRelation_ok (hS.up ha4) (hS.up ha9) hr121) (congrArg List.toArray (mapc rfl (mapc rfl rfl))) (by decide) ?_
      rintro _ w122 ⟨rfl, hx123⟩
      refine ⟨_, rfl, ?_⟩
      replace hS := hS.ext hx123
      refine el_pv (v := .bool (!r121)) (pv_not rfl) (by decide) ?_
      refine el_nil ?_
      refine hQ120 _ _ _ ?_
      refine thn_n ?_
      replace hF := oif hF
      rcases hF with ⟨hb124, hF⟩ | ⟨hb124, hF⟩
      · refine cw_cond_f rfl (bnot_t hb124) ?_
        refine cw_skip ?_
        refine hQ119 _ _ _ ?_
        refine thn_n ?_
        refine cw_seq ?_
        refine cw_gen ?_
        intro Q125 hQ125
        refine cw_reg ?_
        refine el_pv (v := .bool true) (pv_assign rfl) (by decide) ?_
        refine el_nil ?_
        refine hQ125 _ _ _ ?_
        refine thn_n ?_
        refine cw_ret ?_
        refine fin1 rfl rfl ?_
        have hr := Option.some.inj hF
        exact ⟨congrArg (fun (r : Bool) => Ending.returned (.bool r)) hr, hS.below⟩
      · refine cw_cond_t rfl (bnot_f hb124) ?_
        refine cw_seq ?_
        refine cw_gen ?_
        intro Q126 hQ126
        refine cw_reg ?_
        refine el_pv (v := .bool false) (pv_assign rfl) (by decide) ?_
        refine el_nil ?_
        refine hQ126 _ _ _ ?_
        refine thn_n ?_
        refine cw_ret ?_
        refine hQ119 _ _ _ ?_
        refine thn_r ?_
        refine fin1 rfl rfl ?_
        have hr := Option.some.inj hF
        exact ⟨congrArg (fun (r : Bool) => Ending.returned (.bool r)) hr, hS.below⟩
    · refine cw_cond_t rfl (bnot_f hb118) ?_
      refine cw_seq ?_
      refine cw_gen ?_
      intro Q127 hQ127
      refine cw_reg ?_
      refine el_pv (v := .bool false) (pv_assign rfl) (by decide) ?_
      refine el_nil ?_
      refine hQ127 _ _ _ ?_
      refine thn_n ?_
      refine cw_ret ?_
      refine hQ113 _ _ _ ?_
      refine thn_r ?_
      refine fin1 rfl rfl ?_
      have hr := Option.some.inj hF
      exact ⟨congrArg (fun (r : Bool) => Ending.returned (.bool r)) hr, hS.below⟩
  · refine cw_cond_t rfl (bnot_f hb112) ?_
    refine cw_seq ?_
    refine cw_gen ?_
    intro Q128 hQ128
    refine cw_reg ?_
    refine el_pv (v := .bool false) (pv_assign rfl) (by decide) ?_
    refine el_nil ?_
    refine hQ128 _ _ _ ?_
    refine thn_n ?_
    refine cw_ret ?_
    refine hQ110 _ _ _ ?_
    refine thn_r ?_
    refine fin1 rfl rfl ?_
    have hr := Option.some.inj hF
    exact ⟨congrArg (fun (r : Bool) => Ending.returned (.bool r)) hr, hS.below⟩
set_option maxHeartbeats 4000000 in
theorem laws_FnExactEqualDeltas_ok {w0 : World} {a0 : ByteArray} {a1 : Int} {u2 : Value} {a2 : List (List Int)} {a3 : Int} {u4 : Value} {a4 : List (List Int)} {a5 : ByteArray} {a6 : Int} {u7 : Value} {a7 : List (List Int)} {a8 : Int} {u9 : Value} {a9 : List (List Int)} (ha2 : (sliceR (sliceR intR 3) 22).rd w0 [u2] a2) (ha4 : (sliceR (sliceR intR 3) 22).rd w0 [u4] a4) (ha7 : (sliceR (sliceR intR 3) 22).rd w0 [u7] a7) (ha9 : (sliceR (sliceR intR 3) 22).rd w0 [u9] a9) {N : Nat} {r : Bool} (hF : laws_FnExactEqualDeltas N a0 a1 a2 a3 a4 a5 a6 a7 a8 a9 = some r) :
    Calls Try.prog 4 #[.agg #[.string a0, .int .i64 a1, u2, .int .i64 a3, u4], .agg #[.string a5, .int .i64 a6, u7, .int .i64 a8, u9]] w0 fun e w' => e = .returned (.bool r) ∧ Ext w0 w' := by
  unfold laws_FnExactEqualDeltas at hF
  refine calls_E Try.func4 rfl rfl (of_decide_eq_true rfl) ?_
  have hS := Sat.start w0
  refine cw_seq ?_
  refine cw_gen ?_
  intro Q101 hQ101
  refine cw_reg ?_
  refine el_box [.string a0, .int .i64 a1, u2, .int .i64 a3, u4] rfl hS (by decide) ?_
  intro w102 b103 hS hx104
  refine el_box [.string a5, .int .i64 a6, u7, .int .i64 a8, u9] rfl hS (by decide) ?_
  intro w106 b107 hS hx108
  refine el_pv (v := .bool false) (pv_assign rfl) (by decide) ?_
  refine el_nil ?_
  refine hQ101 _ _ _ ?_
  refine thn_n ?_
  refine cw_seq ?_
  refine cw_gen ?_
  intro Q110 hQ110
  refine cw_reg ?_
  refine el_pv (v := .int .i64 1048576) (pv_assign rfl) (by decide) ?_
  refine el_nil ?_
  refine hQ110 _ _ _ ?_
  refine thn_n ?_
  refine cw_seq ?_
  refine cw_gen ?_
  intro Q111 hQ111
  refine cw_reg ?_
  refine el_pv (v := .agg #[.string a0, .int .i64 a1, u2, .int .i64 a3, u4]) (pv_loada (cs := [.string a0, .int .i64 a1, u2, .int .i64 a3, u4]) rfl rfl (boxc0 (hS.boxAt 1 rfl))) (by decide) ?_
  refine el_pv (v := .int .i64 1048576) (pv_move rfl) (by decide) ?_
  replace hF := ob hF
  obtain ⟨r112, hr112, hF⟩ := hF
  refine el_call goes14 (laws_szDelta_ok (hS.up ha2) (hS.up ha4) hr112) (congrArg List.toArray (mapc rfl (mapc rfl rfl))) (by decide) ?_
  rintro _ w113 ⟨rfl, hx114⟩
  refine ⟨_, rfl, ?_⟩
  replace hS := hS.ext hx114
  refine el_pv (v := .int .i64 r112) (pv_assign rfl) (by decide) ?_
  refine el_nil ?_
  refine hQ111 _ _ _ ?_
  refine thn_n ?_
  refine cw_seq ?_
  refine cw_gen ?_
  intro Q115 hQ115
  refine cw_seq ?_
  refine cw_gen ?_
  intro Q116 hQ116
  refine cw_reg ?_
  refine el_pv (v := .int .i64 r112) (pv_move rfl) (by decide) ?_
  refine el_pv (v := .bool (decide (r112 < 0))) (pv_lss rfl rfl) (by decide) ?_
  refine el_nil ?_
  refine hQ116 _ _ _ ?_
  refine thn_n ?_
  replace hF := oif hF
  rcases hF with ⟨hb117, hF⟩ | ⟨hb117, hF⟩
  · refine cw_cond_t rfl hb117 ?_
    refine cw_seq ?_
    refine cw_gen ?_
    intro Q118 hQ118
    refine cw_reg ?_
    refine el_pv (v := .bool true) (pv_assign rfl) (by decide) ?_
    refine el_nil ?_
    refine hQ118 _ _ _ ?_
    refine thn_n ?_
    refine cw_ret ?_
    refine hQ115 _ _ _ ?_
    refine thn_r ?_
    refine fin1 rfl rfl ?_
    have hr := Option.some.inj hF
    exact ⟨congrArg (fun (r : Bool) => Ending.returned (.bool r)) hr, hS.below⟩
  · refine cw_cond_f rfl hb117 ?_
    refine cw_skip ?_
    refine hQ115 _ _ _ ?_
    refine thn_n ?_
    refine cw_seq ?_
    refine cw_gen ?_
    intro Q119 hQ119
    refine cw_reg ?_
    refine el_pv (v := .agg #[.string a5, .int .i64 a6, u7, .int .i64 a8, u9]) (pv_loada (cs := [.string a5, .int .i64 a6, u7, .int .i64 a8, u9]) rfl rfl (boxc0 (hS.boxAt 0 rfl))) (by decide) ?_
    refine el_pv (v := .int .i64 r112) (pv_move rfl) (by decide) ?_
    replace hF := ob hF
    obtain ⟨r120, hr120, hF⟩ := hF
    refine el_call goes14 (laws_szDelta_ok (hS.up ha7) (hS.up ha9) hr120) (congrArg List.toArray (mapc rfl (mapc rfl rfl))) (by decide) ?_
    rintro _ w121 ⟨rfl, hx122⟩
    refine ⟨_, rfl, ?_⟩
    replace hS := hS.ext hx122
    refine el_pv (v := .int .i64 r120) (pv_assign rfl) (by decide) ?_
    refine el_nil ?_
    refine hQ119 _ _ _ ?_
    refine thn_n ?_
    refine cw_seq ?_
    refine cw_gen ?_
    intro Q123 hQ123
    refine cw_seq ?_
    refine cw_gen ?_
    intro Q124 hQ124
    refine cw_reg ?_
    refine el_pv (v := .int .i64 r120) (pv_move rfl) (by decide) ?_
    refine el_pv (v := .bool (decide (r120 < 0))) (pv_lss rfl rfl) (by decide) ?_
    refine el_nil ?_
    refine hQ124 _ _ _ ?_
    refine thn_n ?_
    replace hF := oif hF
    rcases hF with ⟨hb125, hF⟩ | ⟨hb125, hF⟩
    · refine cw_cond_t rfl hb125 ?_
      refine cw_seq ?_
      refine cw_gen ?_
      intro Q126 hQ126
      refine cw_reg ?_
      refine el_pv (v := .bool true) (pv_assign rfl) (by decide) ?_
      refine el_nil ?_
      refine hQ126 _ _ _ ?_
      refine thn_n ?_
      refine cw_ret ?_
      refine hQ123 _ _ _ ?_
      refine thn_r ?_
      refine fin1 rfl rfl ?_
      have hr := Option.some.inj hF
      exact ⟨congrArg (fun (r : Bool) => Ending.returned (.bool r)) hr, hS.below⟩
    · refine cw_cond_f rfl hb125 ?_
      refine cw_skip ?_
      refine hQ123 _ _ _ ?_
      refine thn_n ?_
      refine cw_seq ?_
      refine cw_gen ?_
      intro Q127 hQ127
      obtain ⟨C, hCd⟩ : ∃ C : World → Prop, ∀ w, C w ↔ ∃ G, Sat w0 w ([Box b107 37 [.string a5, .int .i64 a6, u7, .int .i64 a8, u9], Box b103 37 [.string a0, .int .i64 a1, u2, .int .i64 a3, u4]] ++ G) := ⟨_, fun _ => Iff.rfl⟩
      refine cw_regb [0, 1, 2, 3, 4, 5] C (by kernel_rfl) ?_
      intro w128 hx129
      replace hS := hS.ext hx129
      replace hS : Sat w0 w128 [Box b103 37 [.string a0, .int .i64 a1, u2, .int .i64 a3, u4], Box b107 37 [.string a5, .int .i64 a6, u7, .int .i64 a8, u9]] := hS.top 1 rfl
      replace hS : Sat w0 w128 [Box b107 37 [.string a5, .int .i64 a6, u7, .int .i64 a8, u9], Box b103 37 [.string a0, .int .i64 a1, u2, .int .i64 a3, u4]] := hS.top 1 rfl
      have hC := (hCd _).2 ⟨_, hS⟩
      refine al_p (v := .agg #[.string a0, .int .i64 a1, u2, .int .i64 a3, u4]) (by kernel_rfl) 0 rfl rfl (by decide) hC (by kernel_rfl) (by kernel_rfl) (sv_on rfl (fun w' hw' => by obtain ⟨_, hS⟩ := (hCd _).1 hw'; exact (pv_loada (cs := [.string a0, .int .i64 a1, u2, .int .i64 a3, u4]) rfl rfl (boxc0 (hS.boxAt 1 rfl))))) ?_
      refine al_p (v := .agg #[.string a5, .int .i64 a6, u7, .int .i64 a8, u9]) (by kernel_rfl) 2 rfl rfl (by decide) hC (by kernel_rfl) (by kernel_rfl) (sv_on rfl (fun w' hw' => by obtain ⟨_, hS⟩ := (hCd _).1 hw'; exact (pv_loada (cs := [.string a5, .int .i64 a6, u7, .int .i64 a8, u9]) rfl rfl (boxc0 (hS.boxAt 0 rfl))))) ?_
      refine al_one 1 (by kernel_rfl) rfl ?_
      replace hF := ob hF
      obtain ⟨r130, hr130, hF⟩ := hF
      refine el_call goes16 (laws_toDelta_ok (hS.up ha2) (hS.up ha4) hr130) (congrArg List.toArray (mapc rfl rfl)) (by decide) ?_
      rintro _ w135 ⟨v131, v133, rfl, hS'⟩
      refine ⟨_, rfl, ?_⟩
      have hx136 := hS'.below
      replace hS := hS.call2 hS'
      refine el_nil ?_
      replace hS : Sat w0 w135 [Box b103 37 [.string a0, .int .i64 a1, u2, .int .i64 a3, u4], Own (sliceR (sliceR intR 3) 22) [v131] r130.2.1.2, Own (sliceR (sliceR intR 3) 22) [v133] r130.2.2.2, Box b107 37 [.string a5, .int .i64 a6, u7, .int .i64 a8, u9]] := hS.top 3 rfl
      replace hS : Sat w0 w135 [Box b107 37 [.string a5, .int .i64 a6, u7, .int .i64 a8, u9], Box b103 37 [.string a0, .int .i64 a1, u2, .int .i64 a3, u4], Own (sliceR (sliceR intR 3) 22) [v131] r130.2.1.2, Own (sliceR (sliceR intR 3) 22) [v133] r130.2.2.2] := hS.top 3 rfl
      have hC := (hCd _).2 ⟨_, hS⟩
      have hoc137 := oc (hS.rdAt (R := (sliceR (sliceR intR 3) 22)) 2 rfl)
      have hoc138 := oc (hS.rdAt (R := (sliceR (sliceR intR 3) 22)) 3 rfl)
      refine ⟨fun _ => hC, ?_⟩
      refine al_one 3 (by kernel_rfl) rfl ?_
      replace hF := ob hF
      obtain ⟨r139, hr139, hF⟩ := hF
      refine el_call goes16 (laws_toDelta_ok (hS.up ha7) (hS.up ha9) hr139) (congrArg List.toArray (mapc rfl rfl)) (by decide) ?_
      rintro _ w144 ⟨v140, v142, rfl, hS'⟩
      refine ⟨_, rfl, ?_⟩
      have hx145 := hS'.below
      replace hS := hS.call2 hS'
      refine el_nil ?_
      replace hS : Sat w0 w144 [Box b103 37 [.string a0, .int .i64 a1, u2, .int .i64 a3, u4], Own (sliceR (sliceR intR 3) 22) [v140] r139.2.1.2, Own (sliceR (sliceR intR 3) 22) [v142] r139.2.2.2, Box b107 37 [.string a5, .int .i64 a6, u7, .int .i64 a8, u9], Own (sliceR (sliceR intR 3) 22) [v131] r130.2.1.2, Own (sliceR (sliceR intR 3) 22) [v133] r130.2.2.2] := hS.top 3 rfl
      replace hS : Sat w0 w144 [Box b107 37 [.string a5, .int .i64 a6, u7, .int .i64 a8, u9], Box b103 37 [.string a0, .int .i64 a1, u2, .int .i64 a3, u4], Own (sliceR (sliceR intR 3) 22) [v140] r139.2.1.2, Own (sliceR (sliceR intR 3) 22) [v142] r139.2.2.2, Own (sliceR (sliceR intR 3) 22) [v131] r130.2.1.2, Own (sliceR (sliceR intR 3) 22) [v133] r130.2.2.2] := hS.top 3 rfl
      have hC := (hCd _).2 ⟨_, hS⟩
      have hoc146 := oc (hS.rdAt (R := (sliceR (sliceR intR 3) 22)) 2 rfl)
      have hoc147 := oc (hS.rdAt (R := (sliceR (sliceR intR 3) 22)) 3 rfl)
      refine ⟨fun _ => hC, ?_⟩
      refine al_one 4 (by kernel_rfl) rfl ?_
      replace hF := ob hF
      obtain ⟨r148, hr148, hF⟩ := hF
      refine el_call goes15 (spec_EqualDeltas_ok (hS.rdAt (R := (sliceR (sliceR intR 3) 22)) 4 rfl) (hS.rdAt (R := (sliceR (sliceR intR 3) 22)) 5 rfl) (hS.rdAt (R := (sliceR (sliceR intR 3) 22)) 2 rfl) (hS.rdAt (R := (sliceR (sliceR intR 3) 22)) 3 rfl) hr148) (congrArg List.toArray (mapc rfl (mapc rfl rfl))) (by decide) ?_
      rintro _ w149 ⟨rfl, hx150⟩
      refine ⟨_, rfl, ?_⟩
      replace hS := hS.ext hx150
      refine el_nil ?_
      replace hS : Sat w0 w149 [Box b103 37 [.string a0, .int .i64 a1, u2, .int .i64 a3, u4], Box b107 37 [.string a5, .int .i64 a6, u7, .int .i64 a8, u9], Own (sliceR (sliceR intR 3) 22) [v140] r139.2.1.2, Own (sliceR (sliceR intR 3) 22) [v142] r139.2.2.2, Own (sliceR (sliceR intR 3) 22) [v131] r130.2.1.2, Own (sliceR (sliceR intR 3) 22) [v133] r130.2.2.2] := hS.top 1 rfl
      replace hS : Sat w0 w149 [Box b107 37 [.string a5, .int .i64 a6, u7, .int .i64 a8, u9], Box b103 37 [.string a0, .int .i64 a1, u2, .int .i64 a3, u4], Own (sliceR (sliceR intR 3) 22) [v140] r139.2.1.2, Own (sliceR (sliceR intR 3) 22) [v142] r139.2.2.2, Own (sliceR (sliceR intR 3) 22) [v131] r130.2.1.2, Own (sliceR (sliceR intR 3) 22) [v133] r130.2.2.2] := hS.top 1 rfl
      have hC := (hCd _).2 ⟨_, hS⟩
      refine ⟨fun _ => hC, ?_⟩
      refine al_p (v := .bool r148) (by kernel_rfl) 5 rfl rfl (by decide) hC (by kernel_rfl) (by kernel_rfl) (sv_on rfl (fun w' hw' => by obtain ⟨_, hS⟩ := (hCd _).1 hw'; exact (pv_assign rfl))) ?_
      refine al_nil (by kernel_rfl) ?_
      refine hQ127 _ _ _ ?_
      refine thn_n ?_
      refine cw_seq ?_
      refine cw_gen ?_
      intro Q151 hQ151
      refine cw_reg ?_
      refine el_pv (v := .agg #[.string a0, .int .i64 a1, u2, .int .i64 a3, u4]) (pv_loada (cs := [.string a0, .int .i64 a1, u2, .int .i64 a3, u4]) rfl rfl (boxc0 (hS.boxAt 1 rfl))) (by decide) ?_
      replace hF := ob hF
      obtain ⟨r152, hr152, hF⟩ := hF
      refine el_call goes16 (laws_toDelta_ok (hS.up ha2) (hS.up ha4) hr152) (congrArg List.toArray (mapc rfl rfl)) (by decide) ?_
      rintro _ w157 ⟨v153, v155, rfl, hS'⟩
      refine ⟨_, rfl, ?_⟩
      have hx158 := hS'.below
      replace hS := hS.call2 hS'
      refine el_alloc hS (by decide) ?_
      intro w159 b160 hS hx161
      refine el_storev (hS.top 0 rfl) rfl [.string r152.1, .int .i64 r152.2.1.1, v153, .int .i64 r152.2.2.1, v155] rfl rfl (of_decide_eq_true rfl) (all_cons rfl (all_cons rfl (all_cons (oc (hS.rdAt (R := (sliceR (sliceR intR 3) 22)) 1 rfl)) (all_cons rfl (all_cons (oc (hS.rdAt (R := (sliceR (sliceR intR 3) 22)) 2 rfl)) rfl))))) ?_
      intro w163 hS
      replace hS : Sat w0 w163 [Box b160 42 [.string r152.1, .int .i64 r152.2.1.1, v153, .int .i64 r152.2.2.1, v155], Own (sliceR (sliceR intR 3) 22) [v153] r152.2.1.2, Own (sliceR (sliceR intR 3) 22) [v155] r152.2.2.2, Box b107 37 [.string a5, .int .i64 a6, u7, .int .i64 a8, u9], Box b103 37 [.string a0, .int .i64 a1, u2, .int .i64 a3, u4], Own (sliceR (sliceR intR 3) 22) [v140] r139.2.1.2, Own (sliceR (sliceR intR 3) 22) [v142] r139.2.2.2, Own (sliceR (sliceR intR 3) 22) [v131] r130.2.1.2, Own (sliceR (sliceR intR 3) 22) [v133] r130.2.2.2] := hS
      refine el_nil ?_
      refine hQ151 _ _ _ ?_
      refine thn_n ?_
      refine cw_seq ?_
      refine cw_gen ?_
      intro Q164 hQ164
      refine cw_reg ?_
      refine el_pv (v := .agg #[.string a5, .int .i64 a6, u7, .int .i64 a8, u9]) (pv_loada (cs := [.string a5, .int .i64 a6, u7, .int .i64 a8, u9]) rfl rfl (boxc0 (hS.boxAt 3 rfl))) (by decide) ?_
      replace hF := ob hF
      obtain ⟨r165, hr165, hF⟩ := hF
      refine el_call goes16 (laws_toDelta_ok (hS.up ha7) (hS.up ha9) hr165) (congrArg List.toArray (mapc rfl rfl)) (by decide) ?_
      rintro _ w170 ⟨v166, v168, rfl, hS'⟩
      refine ⟨_, rfl, ?_⟩
      have hx171 := hS'.below
      replace hS := hS.call2 hS'
      refine el_alloc hS (by decide) ?_
      intro w172 b173 hS hx174
      refine el_storev (hS.top 0 rfl) rfl [.string r165.1, .int .i64 r165.2.1.1, v166, .int .i64 r165.2.2.1, v168] rfl rfl (of_decide_eq_true rfl) (all_cons rfl (all_cons rfl (all_cons (oc (hS.rdAt (R := (sliceR (sliceR intR 3) 22)) 1 rfl)) (all_cons rfl (all_cons (oc (hS.rdAt (R := (sliceR (sliceR intR 3) 22)) 2 rfl)) rfl))))) ?_
      intro w176 hS
      replace hS : Sat w0 w176 [Box b173 42 [.string r165.1, .int .i64 r165.2.1.1, v166, .int .i64 r165.2.2.1, v168], Own (sliceR (sliceR intR 3) 22) [v166] r165.2.1.2, Own (sliceR (sliceR intR 3) 22) [v168] r165.2.2.2, Box b160 42 [.string r152.1, .int .i64 r152.2.1.1, v153, .int .i64 r152.2.2.1, v155], Own (sliceR (sliceR intR 3) 22) [v153] r152.2.1.2, Own (sliceR (sliceR intR 3) 22) [v155] r152.2.2.2, Box b107 37 [.string a5, .int .i64 a6, u7, .int .i64 a8, u9], Box b103 37 [.string a0, .int .i64 a1, u2, .int .i64 a3, u4], Own (sliceR (sliceR intR 3) 22) [v140] r139.2.1.2, Own (sliceR (sliceR intR 3) 22) [v142] r139.2.2.2, Own (sliceR (sliceR intR 3) 22) [v131] r130.2.1.2, Own (sliceR (sliceR intR 3) 22) [v133] r130.2.2.2] := hS
      refine el_nil ?_
      refine hQ164 _ _ _ ?_
      refine thn_n ?_
      refine cw_seq ?_
      refine cw_gen ?_
      intro Q177 hQ177
      refine cw_reg ?_
      refine el_pv (v := .agg #[.string r152.1, .int .i64 r152.2.1.1, v153, .int .i64 r152.2.2.1, v155]) (pv_loada (cs := [.string r152.1, .int .i64 r152.2.1.1, v153, .int .i64 r152.2.2.1, v155]) rfl rfl (boxc0 (hS.boxAt 3 rfl))) (by decide) ?_
      refine el_pv (v := .agg #[.string r165.1, .int .i64 r165.2.1.1, v166, .int .i64 r165.2.2.1, v168]) (pv_loada (cs := [.string r165.1, .int .i64 r165.2.1.1, v166, .int .i64 r165.2.2.1, v168]) rfl rfl (boxc0 (hS.boxAt 0 rfl))) (by decide) ?_
      replace hF := ob hF
      obtain ⟨r178, hr178, hF⟩ := hF
      refine el_call goes17 (impl_EqualDeltas_ok (hS.rdAt (R := (sliceR (sliceR intR 3) 22)) 4 rfl) (hS.rdAt (R := (sliceR (sliceR intR 3) 22)) 5 rfl) (hS.rdAt (R := (sliceR (sliceR intR 3) 22)) 1 rfl) (hS.rdAt (R := (sliceR (sliceR intR 3) 22)) 2 rfl) hr178) (congrArg List.toArray (mapc rfl (mapc rfl rfl))) (by decide) ?_
      rintro _ w179 ⟨rfl, hx180⟩
      refine ⟨_, rfl, ?_⟩
      replace hS := hS.ext hx180
      refine el_pv (v := .bool r178) (pv_assign rfl) (by decide) ?_
      refine el_nil ?_
      refine hQ177 _ _ _ ?_
      refine thn_n ?_
      refine cw_seq ?_
      refine cw_gen ?_
      intro Q181 hQ181
      refine cw_seq ?_
      refine cw_gen ?_
      intro Q182 hQ182
      refine cw_reg ?_
      refine el_pv (v := .bool r178) (pv_move rfl) (by decide) ?_
      refine el_pv (v := .bool r148) (pv_move rfl) (by decide) ?_
      refine el_pv (v := .bool (r178 != r148)) (pv_neqB Try.underlying4 rfl rfl) (by decide) ?_
      refine el_nil ?_
      refine hQ182 _ _ _ ?_
      refine thn_n ?_
      replace hF := oif hF
      rcases hF with ⟨hb183, hF⟩ | ⟨hb183, hF⟩
      · refine cw_cond_t rfl hb183 ?_
        refine cw_seq ?_
        refine cw_gen ?_
        intro Q184 hQ184
        refine cw_reg ?_
        refine el_pv (v := .bool false) (pv_assign rfl) (by decide) ?_
        refine el_nil ?_
        refine hQ184 _ _ _ ?_
        refine thn_n ?_
        refine cw_ret ?_
        refine hQ181 _ _ _ ?_
        refine thn_r ?_
        refine fin1 rfl rfl ?_
        have hr := Option.some.inj hF
        exact ⟨congrArg (fun (r : Bool) => Ending.returned (.bool r)) hr, hS.below⟩
      · refine cw_cond_f rfl hb183 ?_
        refine cw_skip ?_
        refine hQ181 _ _ _ ?_
        refine thn_n ?_
        refine cw_seq ?_
        refine cw_gen ?_
        intro Q185 hQ185
        refine cw_seq ?_
        refine cw_gen ?_
        intro Q186 hQ186
        obtain ⟨C, hCd⟩ : ∃ C : World → Prop, ∀ w, C w ↔ ∃ G, Sat w0 w ([Box b173 42 [.string r165.1, .int .i64 r165.2.1.1, v166, .int .i64 r165.2.2.1, v168], Box b160 42 [.string r152.1, .int .i64 r152.2.1.1, v153, .int .i64 r152.2.2.1, v155], Box b107 37 [.string a5, .int .i64 a6, u7, .int .i64 a8, u9], Box b103 37 [.string a0, .int .i64 a1, u2, .int .i64 a3, u4], Own (sliceR (sliceR intR 3) 22) [v166] r165.2.1.2, Own (sliceR (sliceR intR 3) 22) [v168] r165.2.2.2, Own (sliceR (sliceR intR 3) 22) [v153] r152.2.1.2, Own (sliceR (sliceR intR 3) 22) [v155] r152.2.2.2, Own (sliceR (sliceR intR 3) 22) [v140] r139.2.1.2, Own (sliceR (sliceR intR 3) 22) [v142] r139.2.2.2, Own (sliceR (sliceR intR 3) 22) [v131] r130.2.1.2, Own (sliceR (sliceR intR 3) 22) [v133] r130.2.2.2] ++ G) := ⟨_, fun _ => Iff.rfl⟩
        refine cw_regb [0, 1, 2, 3, 4] C (by kernel_rfl) ?_
        intro w187 hx188
        replace hS := hS.ext hx188
        replace hS : Sat w0 w187 [Own (sliceR (sliceR intR 3) 22) [v133] r130.2.2.2, Box b173 42 [.string r165.1, .int .i64 r165.2.1.1, v166, .int .i64 r165.2.2.1, v168], Own (sliceR (sliceR intR 3) 22) [v166] r165.2.1.2, Own (sliceR (sliceR intR 3) 22) [v168] r165.2.2.2, Box b160 42 [.string r152.1, .int .i64 r152.2.1.1, v153, .int .i64 r152.2.2.1, v155], Own (sliceR (sliceR intR 3) 22) [v153] r152.2.1.2, Own (sliceR (sliceR intR 3) 22) [v155] r152.2.2.2, Box b107 37 [.string a5, .int .i64 a6, u7, .int .i64 a8, u9], Box b103 37 [.string a0, .int .i64 a1, u2, .int .i64 a3, u4], Own (sliceR (sliceR intR 3) 22) [v140] r139.2.1.2, Own (sliceR (sliceR intR 3) 22) [v142] r139.2.2.2, Own (sliceR (sliceR intR 3) 22) [v131] r130.2.1.2] := hS.top 11 rfl
        replace hS : Sat w0 w187 [Own (sliceR (sliceR intR 3) 22) [v131] r130.2.1.2, Own (sliceR (sliceR intR 3) 22) [v133] r130.2.2.2, Box b173 42 [.string r165.1, .int .i64 r165.2.1.1, v166, .int .i64 r165.2.2.1, v168], Own (sliceR (sliceR intR 3) 22) [v166] r165.2.1.2, Own (sliceR (sliceR intR 3) 22) [v168] r165.2.2.2, Box b160 42 [.string r152.1, .int .i64 r152.2.1.1, v153, .int .i64 r152.2.2.1, v155], Own (sliceR (sliceR intR 3) 22) [v153] r152.2.1.2, Own (sliceR (sliceR intR 3) 22) [v155] r152.2.2.2, Box b107 37 [.string a5, .int .i64 a6, u7, .int .i64 a8, u9], Box b103 37 [.string a0, .int .i64 a1, u2, .int .i64 a3, u4], Own (sliceR (sliceR intR 3) 22) [v140] r139.2.1.2, Own (sliceR (sliceR intR 3) 22) [v142] r139.2.2.2] := hS.top 11 rfl
        replace hS : Sat w0 w187 [Own (sliceR (sliceR intR 3) 22) [v142] r139.2.2.2, Own (sliceR (sliceR intR 3) 22) [v131] r130.2.1.2, Own (sliceR (sliceR intR 3) 22) [v133] r130.2.2.2, Box b173 42 [.string r165.1, .int .i64 r165.2.1.1, v166, .int .i64 r165.2.2.1, v168], Own (sliceR (sliceR intR 3) 22) [v166] r165.2.1.2, Own (sliceR (sliceR intR 3) 22) [v168] r165.2.2.2, Box b160 42 [.string r152.1, .int .i64 r152.2.1.1, v153, .int .i64 r152.2.2.1, v155], Own (sliceR (sliceR intR 3) 22) [v153] r152.2.1.2, Own (sliceR (sliceR intR 3) 22) [v155] r152.2.2.2, Box b107 37 [.string a5, .int .i64 a6, u7, .int .i64 a8, u9], Box b103 37 [.string a0, .int .i64 a1, u2, .int .i64 a3, u4], Own (sliceR (sliceR intR 3) 22) [v140] r139.2.1.2] := hS.top 11 rfl
        replace hS : Sat w0 w187 [Own (sliceR (sliceR intR 3) 22) [v140] r139.2.1.2, Own (sliceR (sliceR intR 3) 22) [v142] r139.2.2.2, Own (sliceR (sliceR intR 3) 22) [v131] r130.2.1.2, Own (sliceR (sliceR intR 3) 22) [v133] r130.2.2.2, Box b173 42 [.string r165.1, .int .i64 r165.2.1.1, v166, .int .i64 r165.2.2.1, v168], Own (sliceR (sliceR intR 3) 22) [v166] r165.2.1.2, Own (sliceR (sliceR intR 3) 22) [v168] r165.2.2.2, Box b160 42 [.string r152.1, .int .i64 r152.2.1.1, v153, .int .i64 r152.2.2.1, v155], Own (sliceR (sliceR intR 3) 22) [v153] r152.2.1.2, Own (sliceR (sliceR intR 3) 22) [v155] r152.2.2.2, Box b107 37 [.string a5, .int .i64 a6, u7, .int .i64 a8, u9], Box b103 37 [.string a0, .int .i64 a1, u2, .int .i64 a3, u4]] := hS.top 11 rfl
        replace hS : Sat w0 w187 [Own (sliceR (sliceR intR 3) 22) [v155] r152.2.2.2, Own (sliceR (sliceR intR 3) 22) [v140] r139.2.1.2, Own (sliceR (sliceR intR 3) 22) [v142] r139.2.2.2, Own (sliceR (sliceR intR 3) 22) [v131] r130.2.1.2, Own (sliceR (sliceR intR 3) 22) [v133] r130.2.2.2, Box b173 42 [.string r165.1, .int .i64 r165.2.1.1, v166, .int .i64 r165.2.2.1, v168], Own (sliceR (sliceR intR 3) 22) [v166] r165.2.1.2, Own (sliceR (sliceR intR 3) 22) [v168] r165.2.2.2, Box b160 42 [.string r152.1, .int .i64 r152.2.1.1, v153, .int .i64 r152.2.2.1, v155], Own (sliceR (sliceR intR 3) 22) [v153] r152.2.1.2, Box b107 37 [.string a5, .int .i64 a6, u7, .int .i64 a8, u9], Box b103 37 [.string a0, .int .i64 a1, u2, .int .i64 a3, u4]] := hS.top 9 rfl
        replace hS : Sat w0 w187 [Own (sliceR (sliceR intR 3) 22) [v153] r152.2.1.2, Own (sliceR (sliceR intR 3) 22) [v155] r152.2.2.2, Own (sliceR (sliceR intR 3) 22) [v140] r139.2.1.2, Own (sliceR (sliceR intR 3) 22) [v142] r139.2.2.2, Own (sliceR (sliceR intR 3) 22) [v131] r130.2.1.2, Own (sliceR (sliceR intR 3) 22) [v133] r130.2.2.2, Box b173 42 [.string r165.1, .int .i64 r165.2.1.1, v166, .int .i64 r165.2.2.1, v168], Own (sliceR (sliceR intR 3) 22) [v166] r165.2.1.2, Own (sliceR (sliceR intR 3) 22) [v168] r165.2.2.2, Box b160 42 [.string r152.1, .int .i64 r152.2.1.1, v153, .int .i64 r152.2.2.1, v155], Box b107 37 [.string a5, .int .i64 a6, u7, .int .i64 a8, u9], Box b103 37 [.string a0, .int .i64 a1, u2, .int .i64 a3, u4]] := hS.top 9 rfl
        replace hS : Sat w0 w187 [Own (sliceR (sliceR intR 3) 22) [v168] r165.2.2.2, Own (sliceR (sliceR intR 3) 22) [v153] r152.2.1.2, Own (sliceR (sliceR intR 3) 22) [v155] r152.2.2.2, Own (sliceR (sliceR intR 3) 22) [v140] r139.2.1.2, Own (sliceR (sliceR intR 3) 22) [v142] r139.2.2.2, Own (sliceR (sliceR intR 3) 22) [v131] r130.2.1.2, Own (sliceR (sliceR intR 3) 22) [v133] r130.2.2.2, Box b173 42 [.string r165.1, .int .i64 r165.2.1.1, v166, .int .i64 r165.2.2.1, v168], Own (sliceR (sliceR intR 3) 22) [v166] r165.2.1.2, Box b160 42 [.string r152.1, .int .i64 r152.2.1.1, v153, .int .i64 r152.2.2.1, v155], Box b107 37 [.string a5, .int .i64 a6, u7, .int .i64 a8, u9], Box b103 37 [.string a0, .int .i64 a1, u2, .int .i64 a3, u4]] := hS.top 8 rfl
        replace hS : Sat w0 w187 [Own (sliceR (sliceR intR 3) 22) [v166] r165.2.1.2, Own (sliceR (sliceR intR 3) 22) [v168] r165.2.2.2, Own (sliceR (sliceR intR 3) 22) [v153] r152.2.1.2, Own (sliceR (sliceR intR 3) 22) [v155] r152.2.2.2, Own (sliceR (sliceR intR 3) 22) [v140] r139.2.1.2, Own (sliceR (sliceR intR 3) 22) [v142] r139.2.2.2, Own (sliceR (sliceR intR 3) 22) [v131] r130.2.1.2, Own (sliceR (sliceR intR 3) 22) [v133] r130.2.2.2, Box b173 42 [.string r165.1, .int .i64 r165.2.1.1, v166, .int .i64 r165.2.2.1, v168], Box b160 42 [.string r152.1, .int .i64 r152.2.1.1, v153, .int .i64 r152.2.2.1, v155], Box b107 37 [.string a5, .int .i64 a6, u7, .int .i64 a8, u9], Box b103 37 [.string a0, .int .i64 a1, u2, .int .i64 a3, u4]] := hS.top 8 rfl
        replace hS : Sat w0 w187 [Box b103 37 [.string a0, .int .i64 a1, u2, .int .i64 a3, u4], Own (sliceR (sliceR intR 3) 22) [v166] r165.2.1.2, Own (sliceR (sliceR intR 3) 22) [v168] r165.2.2.2, Own (sliceR (sliceR intR 3) 22) [v153] r152.2.1.2, Own (sliceR (sliceR intR 3) 22) [v155] r152.2.2.2, Own (sliceR (sliceR intR 3) 22) [v140] r139.2.1.2, Own (sliceR (sliceR intR 3) 22) [v142] r139.2.2.2, Own (sliceR (sliceR intR 3) 22) [v131] r130.2.1.2, Own (sliceR (sliceR intR 3) 22) [v133] r130.2.2.2, Box b173 42 [.string r165.1, .int .i64 r165.2.1.1, v166, .int .i64 r165.2.2.1, v168], Box b160 42 [.string r152.1, .int .i64 r152.2.1.1, v153, .int .i64 r152.2.2.1, v155], Box b107 37 [.string a5, .int .i64 a6, u7, .int .i64 a8, u9]] := hS.top 11 rfl
        replace hS : Sat w0 w187 [Box b107 37 [.string a5, .int .i64 a6, u7, .int .i64 a8, u9], Box b103 37 [.string a0, .int .i64 a1, u2, .int .i64 a3, u4], Own (sliceR (sliceR intR 3) 22) [v166] r165.2.1.2, Own (sliceR (sliceR intR 3) 22) [v168] r165.2.2.2, Own (sliceR (sliceR intR 3) 22) [v153] r152.2.1.2, Own (sliceR (sliceR intR 3) 22) [v155] r152.2.2.2, Own (sliceR (sliceR intR 3) 22) [v140] r139.2.1.2, Own (sliceR (sliceR intR 3) 22) [v142] r139.2.2.2, Own (sliceR (sliceR intR 3) 22) [v131] r130.2.1.2, Own (sliceR (sliceR intR 3) 22) [v133] r130.2.2.2, Box b173 42 [.string r165.1, .int .i64 r165.2.1.1, v166, .int .i64 r165.2.2.1, v168], Box b160 42 [.string r152.1, .int .i64 r152.2.1.1, v153, .int .i64 r152.2.2.1, v155]] := hS.top 11 rfl
        replace hS : Sat w0 w187 [Box b160 42 [.string r152.1, .int .i64 r152.2.1.1, v153, .int .i64 r152.2.2.1, v155], Box b107 37 [.string a5, .int .i64 a6, u7, .int .i64 a8, u9], Box b103 37 [.string a0, .int .i64 a1, u2, .int .i64 a3, u4], Own (sliceR (sliceR intR 3) 22) [v166] r165.2.1.2, Own (sliceR (sliceR intR 3) 22) [v168] r165.2.2.2, Own (sliceR (sliceR intR 3) 22) [v153] r152.2.1.2, Own (sliceR (sliceR intR 3) 22) [v155] r152.2.2.2, Own (sliceR (sliceR intR 3) 22) [v140] r139.2.1.2, Own (sliceR (sliceR intR 3) 22) [v142] r139.2.2.2, Own (sliceR (sliceR intR 3) 22) [v131] r130.2.1.2, Own (sliceR (sliceR intR 3) 22) [v133] r130.2.2.2, Box b173 42 [.string r165.1, .int .i64 r165.2.1.1, v166, .int .i64 r165.2.2.1, v168]] := hS.top 11 rfl
        replace hS : Sat w0 w187 [Box b173 42 [.string r165.1, .int .i64 r165.2.1.1, v166, .int .i64 r165.2.2.1, v168], Box b160 42 [.string r152.1, .int .i64 r152.2.1.1, v153, .int .i64 r152.2.2.1, v155], Box b107 37 [.string a5, .int .i64 a6, u7, .int .i64 a8, u9], Box b103 37 [.string a0, .int .i64 a1, u2, .int .i64 a3, u4], Own (sliceR (sliceR intR 3) 22) [v166] r165.2.1.2, Own (sliceR (sliceR intR 3) 22) [v168] r165.2.2.2, Own (sliceR (sliceR intR 3) 22) [v153] r152.2.1.2, Own (sliceR (sliceR intR 3) 22) [v155] r152.2.2.2, Own (sliceR (sliceR intR 3) 22) [v140] r139.2.1.2, Own (sliceR (sliceR intR 3) 22) [v142] r139.2.2.2, Own (sliceR (sliceR intR 3) 22) [v131] r130.2.1.2, Own (sliceR (sliceR intR 3) 22) [v133] r130.2.2.2] := hS.top 11 rfl
        have hC := (hCd _).2 ⟨_, hS⟩
        refine al_p (v := .agg #[.string r152.1, .int .i64 r152.2.1.1, v153, .int .i64 r152.2.2.1, v155]) (by kernel_rfl) 0 rfl rfl (by decide) hC (by kernel_rfl) (by kernel_rfl) (sv_on rfl (fun w' hw' => by obtain ⟨_, hS⟩ := (hCd _).1 hw'; exact (pv_loada (cs := [.string r152.1, .int .i64 r152.2.1.1, v153, .int .i64 r152.2.2.1, v155]) rfl rfl (boxc0 (hS.boxAt 1 rfl))))) ?_
        refine al_p (v := .agg #[.string a0, .int .i64 a1, u2, .int .i64 a3, u4]) (by kernel_rfl) 1 rfl rfl (by decide) hC (by kernel_rfl) (by kernel_rfl) (sv_on rfl (fun w' hw' => by obtain ⟨_, hS⟩ := (hCd _).1 hw'; exact (pv_loada (cs := [.string a0, .int .i64 a1, u2, .int .i64 a3, u4]) rfl rfl (boxc0 (hS.boxAt 3 rfl))))) ?_
        refine al_one 2 (by kernel_rfl) rfl ?_
        replace hF := ob hF
        obtain ⟨r189, hr189, hF⟩ := hF
        refine el_call goes16 (laws_toDelta_ok (hS.up ha2) (hS.up ha4) hr189) (congrArg List.toArray (mapc rfl rfl)) (by decide) ?_
        rintro _ w194 ⟨v190, v192, rfl, hS'⟩
        refine ⟨_, rfl, ?_⟩
        have hx195 := hS'.below
        replace hS := hS.call2 hS'
        refine el_nil ?_
        replace hS : Sat w0 w194 [Own (sliceR (sliceR intR 3) 22) [v133] r130.2.2.2, Own (sliceR (sliceR intR 3) 22) [v190] r189.2.1.2, Own (sliceR (sliceR intR 3) 22) [v192] r189.2.2.2, Box b173 42 [.string r165.1, .int .i64 r165.2.1.1, v166, .int .i64 r165.2.2.1, v168], Box b160 42 [.string r152.1, .int .i64 r152.2.1.1, v153, .int .i64 r152.2.2.1, v155], Box b107 37 [.string a5, .int .i64 a6, u7, .int .i64 a8, u9], Box b103 37 [.string a0, .int .i64 a1, u2, .int .i64 a3, u4], Own (sliceR (sliceR intR 3) 22) [v166] r165.2.1.2, Own (sliceR (sliceR intR 3) 22) [v168] r165.2.2.2, Own (sliceR (sliceR intR 3) 22) [v153] r152.2.1.2, Own (sliceR (sliceR intR 3) 22) [v155] r152.2.2.2, Own (sliceR (sliceR intR 3) 22) [v140] r139.2.1.2, Own (sliceR (sliceR intR 3) 22) [v142] r139.2.2.2, Own (sliceR (sliceR intR 3) 22) [v131] r130.2.1.2] := hS.top 13 rfl
        replace hS : Sat w0 w194 [Own (sliceR (sliceR intR 3) 22) [v131] r130.2.1.2, Own (sliceR (sliceR intR 3) 22) [v133] r130.2.2.2, Own (sliceR (sliceR intR 3) 22) [v190] r189.2.1.2, Own (sliceR (sliceR intR 3) 22) [v192] r189.2.2.2, Box b173 42 [.string r165.1, .int .i64 r165.2.1.1, v166, .int .i64 r165.2.2.1, v168], Box b160 42 [.string r152.1, .int .i64 r152.2.1.1, v153, .int .i64 r152.2.2.1, v155], Box b107 37 [.string a5, .int .i64 a6, u7, .int .i64 a8, u9], Box b103 37 [.string a0, .int .i64 a1, u2, .int .i64 a3, u4], Own (sliceR (sliceR intR 3) 22) [v166] r165.2.1.2, Own (sliceR (sliceR intR 3) 22) [v168] r165.2.2.2, Own (sliceR (sliceR intR 3) 22) [v153] r152.2.1.2, Own (sliceR (sliceR intR 3) 22) [v155] r152.2.2.2, Own (sliceR (sliceR intR 3) 22) [v140] r139.2.1.2, Own (sliceR (sliceR intR 3) 22) [v142] r139.2.2.2] := hS.top 13 rfl
        replace hS : Sat w0 w194 [Own (sliceR (sliceR intR 3) 22) [v142] r139.2.2.2, Own (sliceR (sliceR intR 3) 22) [v131] r130.2.1.2, Own (sliceR (sliceR intR 3) 22) [v133] r130.2.2.2, Own (sliceR (sliceR intR 3) 22) [v190] r189.2.1.2, Own (sliceR (sliceR intR 3) 22) [v192] r189.2.2.2, Box b173 42 [.string r165.1, .int .i64 r165.2.1.1, v166, .int .i64 r165.2.2.1, v168], Box b160 42 [.string r152.1, .int .i64 r152.2.1.1, v153, .int .i64 r152.2.2.1, v155], Box b107 37 [.string a5, .int .i64 a6, u7, .int .i64 a8, u9], Box b103 37 [.string a0, .int .i64 a1, u2, .int .i64 a3, u4], Own (sliceR (sliceR intR 3) 22) [v166] r165.2.1.2, Own (sliceR (sliceR intR 3) 22) [v168] r165.2.2.2, Own (sliceR (sliceR intR 3) 22) [v153] r152.2.1.2, Own (sliceR (sliceR intR 3) 22) [v155] r152.2.2.2, Own (sliceR (sliceR intR 3) 22) [v140] r139.2.1.2] := hS.top 13 rfl
        replace hS : Sat w0 w194 [Own (sliceR (sliceR intR 3) 22) [v140] r139.2.1.2, Own (sliceR (sliceR intR 3) 22) [v142] r139.2.2.2, Own (sliceR (sliceR intR 3) 22) [v131] r130.2.1.2, Own (sliceR (sliceR intR 3) 22) [v133] r130.2.2.2, Own (sliceR (sliceR intR 3) 22) [v190] r189.2.1.2, Own (sliceR (sliceR intR 3) 22) [v192] r189.2.2.2, Box b173 42 [.string r165.1, .int .i64 r165.2.1.1, v166, .int .i64 r165.2.2.1, v168], Box b160 42 [.string r152.1, .int .i64 r152.2.1.1, v153, .int .i64 r152.2.2.1, v155], Box b107 37 [.string a5, .int .i64 a6, u7, .int .i64 a8, u9], Box b103 37 [.string a0, .int .i64 a1, u2, .int .i64 a3, u4], Own (sliceR (sliceR intR 3) 22) [v166] r165.2.1.2, Own (sliceR (sliceR intR 3) 22) [v168] r165.2.2.2, Own (sliceR (sliceR intR 3) 22) [v153] r152.2.1.2, Own (sliceR (sliceR intR 3) 22) [v155] r152.2.2.2] := hS.top 13 rfl
        replace hS : Sat w0 w194 [Own (sliceR (sliceR intR 3) 22) [v155] r152.2.2.2, Own (sliceR (sliceR intR 3) 22) [v140] r139.2.1.2, Own (sliceR (sliceR intR 3) 22) [v142] r139.2.2.2, Own (sliceR (sliceR intR 3) 22) [v131] r130.2.1.2, Own (sliceR (sliceR intR 3) 22) [v133] r130.2.2.2, Own (sliceR (sliceR intR 3) 22) [v190] r189.2.1.2, Own (sliceR (sliceR intR 3) 22) [v192] r189.2.2.2, Box b173 42 [.string r165.1, .int .i64 r165.2.1.1, v166, .int .i64 r165.2.2.1, v168], Box b160 42 [.string r152.1, .int .i64 r152.2.1.1, v153, .int .i64 r152.2.2.1, v155], Box b107 37 [.string a5, .int .i64 a6, u7, .int .i64 a8, u9], Box b103 37 [.string a0, .int .i64 a1, u2, .int .i64 a3, u4], Own (sliceR (sliceR intR 3) 22) [v166] r165.2.1.2, Own (sliceR (sliceR intR 3) 22) [v168] r165.2.2.2, Own (sliceR (sliceR intR 3) 22) [v153] r152.2.1.2] := hS.top 13 rfl
        replace hS : Sat w0 w194 [Own (sliceR (sliceR intR 3) 22) [v153] r152.2.1.2, Own (sliceR (sliceR intR 3) 22) [v155] r152.2.2.2, Own (sliceR (sliceR intR 3) 22) [v140] r139.2.1.2, Own (sliceR (sliceR intR 3) 22) [v142] r139.2.2.2, Own (sliceR (sliceR intR 3) 22) [v131] r130.2.1.2, Own (sliceR (sliceR intR 3) 22) [v133] r130.2.2.2, Own (sliceR (sliceR intR 3) 22) [v190] r189.2.1.2, Own (sliceR (sliceR intR 3) 22) [v192] r189.2.2.2, Box b173 42 [.string r165.1, .int .i64 r165.2.1.1, v166, .int .i64 r165.2.2.1, v168], Box b160 42 [.string r152.1, .int .i64 r152.2.1.1, v153, .int .i64 r152.2.2.1, v155], Box b107 37 [.string a5, .int .i64 a6, u7, .int .i64 a8, u9], Box b103 37 [.string a0, .int .i64 a1, u2, .int .i64 a3, u4], Own (sliceR (sliceR intR 3) 22) [v166] r165.2.1.2, Own (sliceR (sliceR intR 3) 22) [v168] r165.2.2.2] := hS.top 13 rfl
        replace hS : Sat w0 w194 [Own (sliceR (sliceR intR 3) 22) [v168] r165.2.2.2, Own (sliceR (sliceR intR 3) 22) [v153] r152.2.1.2, Own (sliceR (sliceR intR 3) 22) [v155] r152.2.2.2, Own (sliceR (sliceR intR 3) 22) [v140] r139.2.1.2, Own (sliceR (sliceR intR 3) 22) [v142] r139.2.2.2, Own (sliceR (sliceR intR 3) 22) [v131] r130.2.1.2, Own (sliceR (sliceR intR 3) 22) [v133] r130.2.2.2, Own (sliceR (sliceR intR 3) 22) [v190] r189.2.1.2, Own (sliceR (sliceR intR 3) 22) [v192] r189.2.2.2, Box b173 42 [.string r165.1, .int .i64 r165.2.1.1, v166, .int .i64 r165.2.2.1, v168], Box b160 42 [.string r152.1, .int .i64 r152.2.1.1, v153, .int .i64 r152.2.2.1, v155], Box b107 37 [.string a5, .int .i64 a6, u7, .int .i64 a8, u9], Box b103 37 [.string a0, .int .i64 a1, u2, .int .i64 a3, u4], Own (sliceR (sliceR intR 3) 22) [v166] r165.2.1.2] := hS.top 13 rfl
        replace hS : Sat w0 w194 [Own (sliceR (sliceR intR 3) 22) [v166] r165.2.1.2, Own (sliceR (sliceR intR 3) 22) [v168] r165.2.2.2, Own (sliceR (sliceR intR 3) 22) [v153] r152.2.1.2, Own (sliceR (sliceR intR 3) 22) [v155] r152.2.2.2, Own (sliceR (sliceR intR 3) 22) [v140] r139.2.1.2, Own (sliceR (sliceR intR 3) 22) [v142] r139.2.2.2, Own (sliceR (sliceR intR 3) 22) [v131] r130.2.1.2, Own (sliceR (sliceR intR 3) 22) [v133] r130.2.2.2, Own (sliceR (sliceR intR 3) 22) [v190] r189.2.1.2, Own (sliceR (sliceR intR 3) 22) [v192] r189.2.2.2, Box b173 42 [.string r165.1, .int .i64 r165.2.1.1, v166, .int .i64 r165.2.2.1, v168], Box b160 42 [.string r152.1, .int .i64 r152.2.1.1, v153, .int .i64 r152.2.2.1, v155], Box b107 37 [.string a5, .int .i64 a6, u7, .int .i64 a8, u9], Box b103 37 [.string a0, .int .i64 a1, u2, .int .i64 a3, u4]] := hS.top 13 rfl
        replace hS : Sat w0 w194 [Box b103 37 [.string a0, .int .i64 a1, u2, .int .i64 a3, u4], Own (sliceR (sliceR intR 3) 22) [v166] r165.2.1.2, Own (sliceR (sliceR intR 3) 22) [v168] r165.2.2.2, Own (sliceR (sliceR intR 3) 22) [v153] r152.2.1.2, Own (sliceR (sliceR intR 3) 22) [v155] r152.2.2.2, Own (sliceR (sliceR intR 3) 22) [v140] r139.2.1.2, Own (sliceR (sliceR intR 3) 22) [v142] r139.2.2.2, Own (sliceR (sliceR intR 3) 22) [v131] r130.2.1.2, Own (sliceR (sliceR intR 3) 22) [v133] r130.2.2.2, Own (sliceR (sliceR intR 3) 22) [v190] r189.2.1.2, Own (sliceR (sliceR intR 3) 22) [v192] r189.2.2.2, Box b173 42 [.string r165.1, .int .i64 r165.2.1.1, v166, .int .i64 r165.2.2.1, v168], Box b160 42 [.string r152.1, .int .i64 r152.2.1.1, v153, .int .i64 r152.2.2.1, v155], Box b107 37 [.string a5, .int .i64 a6, u7, .int .i64 a8, u9]] := hS.top 13 rfl
        replace hS : Sat w0 w194 [Box b107 37 [.string a5, .int .i64 a6, u7, .int .i64 a8, u9], Box b103 37 [.string a0, .int .i64 a1, u2, .int .i64 a3, u4], Own (sliceR (sliceR intR 3) 22) [v166] r165.2.1.2, Own (sliceR (sliceR intR 3) 22) [v168] r165.2.2.2, Own (sliceR (sliceR intR 3) 22) [v153] r152.2.1.2, Own (sliceR (sliceR intR 3) 22) [v155] r152.2.2.2, Own (sliceR (sliceR intR 3) 22) [v140] r139.2.1.2, Own (sliceR (sliceR intR 3) 22) [v142] r139.2.2.2, Own (sliceR (sliceR intR 3) 22) [v131] r130.2.1.2, Own (sliceR (sliceR intR 3) 22) [v133] r130.2.2.2, Own (sliceR (sliceR intR 3) 22) [v190] r189.2.1.2, Own (sliceR (sliceR intR 3) 22) [v192] r189.2.2.2, Box b173 42 [.string r165.1, .int .i64 r165.2.1.1, v166, .int .i64 r165.2.2.1, v168], Box b160 42 [.string r152.1, .int .i64 r152.2.1.1, v153, .int .i64 r152.2.2.1, v155]] := hS.top 13 rfl
        replace hS : Sat w0 w194 [Box b160 42 [.string r152.1, .int .i64 r152.2.1.1, v153, .int .i64 r152.2.2.1, v155], Box b107 37 [.string a5, .int .i64 a6, u7, .int .i64 a8, u9], Box b103 37 [.string a0, .int .i64 a1, u2, .int .i64 a3, u4], Own (sliceR (sliceR intR 3) 22) [v166] r165.2.1.2, Own (sliceR (sliceR intR 3) 22) [v168] r165.2.2.2, Own (sliceR (sliceR intR 3) 22) [v153] r152.2.1.2, Own (sliceR (sliceR intR 3) 22) [v155] r152.2.2.2, Own (sliceR (sliceR intR 3) 22) [v140] r139.2.1.2, Own (sliceR (sliceR intR 3) 22) [v142] r139.2.2.2, Own (sliceR (sliceR intR 3) 22) [v131] r130.2.1.2, Own (sliceR (sliceR intR 3) 22) [v133] r130.2.2.2, Own (sliceR (sliceR intR 3) 22) [v190] r189.2.1.2, Own (sliceR (sliceR intR 3) 22) [v192] r189.2.2.2, Box b173 42 [.string r165.1, .int .i64 r165.2.1.1, v166, .int .i64 r165.2.2.1, v168]] := hS.top 13 rfl
        replace hS : Sat w0 w194 [Box b173 42 [.string r165.1, .int .i64 r165.2.1.1, v166, .int .i64 r165.2.2.1, v168], Box b160 42 [.string r152.1, .int .i64 r152.2.1.1, v153, .int .i64 r152.2.2.1, v155], Box b107 37 [.string a5, .int .i64 a6, u7, .int .i64 a8, u9], Box b103 37 [.string a0, .int .i64 a1, u2, .int .i64 a3, u4], Own (sliceR (sliceR intR 3) 22) [v166] r165.2.1.2, Own (sliceR (sliceR intR 3) 22) [v168] r165.2.2.2, Own (sliceR (sliceR intR 3) 22) [v153] r152.2.1.2, Own (sliceR (sliceR intR 3) 22) [v155] r152.2.2.2, Own (sliceR (sliceR intR 3) 22) [v140] r139.2.1.2, Own (sliceR (sliceR intR 3) 22) [v142] r139.2.2.2, Own (sliceR (sliceR intR 3) 22) [v131] r130.2.1.2, Own (sliceR (sliceR intR 3) 22) [v133] r130.2.2.2, Own (sliceR (sliceR intR 3) 22) [v190] r189.2.1.2, Own (sliceR (sliceR intR 3) 22) [v192] r189.2.2.2] := hS.top 13 rfl
        have hC := (hCd _).2 ⟨_, hS⟩
        have hoc196 := oc (hS.rdAt (R := (sliceR (sliceR intR 3) 22)) 4 rfl)
        have hoc197 := oc (hS.rdAt (R := (sliceR (sliceR intR 3) 22)) 5 rfl)
        have hoc198 := oc (hS.rdAt (R := (sliceR (sliceR intR 3) 22)) 6 rfl)
        have hoc199 := oc (hS.rdAt (R := (sliceR (sliceR intR 3) 22)) 7 rfl)
        have hoc200 := oc (hS.rdAt (R := (sliceR (sliceR intR 3) 22)) 8 rfl)
        have hoc201 := oc (hS.rdAt (R := (sliceR (sliceR intR 3) 22)) 9 rfl)
        have hoc202 := oc (hS.rdAt (R := (sliceR (sliceR intR 3) 22)) 10 rfl)
        have hoc203 := oc (hS.rdAt (R := (sliceR (sliceR intR 3) 22)) 11 rfl)
        have hoc204 := oc (hS.rdAt (R := (sliceR (sliceR intR 3) 22)) 12 rfl)
        have hoc205 := oc (hS.rdAt (R := (sliceR (sliceR intR 3) 22)) 13 rfl)
        refine ⟨fun _ => hC, ?_⟩
        refine al_one 3 (by kernel_rfl) rfl ?_
        replace hF := ob hF
        obtain ⟨r206, hr206, hF⟩ := hF
        refine el_call goes18 (laws_eqDelta_ok (hS.rdAt (R := (sliceR (sliceR intR 3) 22)) 6 rfl) (hS.rdAt (R := (sliceR (sliceR intR 3) 22)) 7 rfl) (hS.rdAt (R := (sliceR (sliceR intR 3) 22)) 12 rfl) (hS.rdAt (R := (sliceR (sliceR intR 3) 22)) 13 rfl) hr206) (congrArg List.toArray (mapc rfl (mapc rfl rfl))) (by decide) ?_
        rintro _ w207 ⟨rfl, hx208⟩
        refine ⟨_, rfl, ?_⟩
        replace hS := hS.ext hx208
        refine el_nil ?_
        replace hS : Sat w0 w207 [Own (sliceR (sliceR intR 3) 22) [v133] r130.2.2.2, Box b173 42 [.string r165.1, .int .i64 r165.2.1.1, v166, .int .i64 r165.2.2.1, v168], Box b160 42 [.string r152.1, .int .i64 r152.2.1.1, v153, .int .i64 r152.2.2.1, v155], Box b107 37 [.string a5, .int .i64 a6, u7, .int .i64 a8, u9], Box b103 37 [.string a0, .int .i64 a1, u2, .int .i64 a3, u4], Own (sliceR (sliceR intR 3) 22) [v166] r165.2.1.2, Own (sliceR (sliceR intR 3) 22) [v168] r165.2.2.2, Own (sliceR (sliceR intR 3) 22) [v153] r152.2.1.2, Own (sliceR (sliceR intR 3) 22) [v155] r152.2.2.2, Own (sliceR (sliceR intR 3) 22) [v140] r139.2.1.2, Own (sliceR (sliceR intR 3) 22) [v142] r139.2.2.2, Own (sliceR (sliceR intR 3) 22) [v131] r130.2.1.2, Own (sliceR (sliceR intR 3) 22) [v190] r189.2.1.2, Own (sliceR (sliceR intR 3) 22) [v192] r189.2.2.2] := hS.top 11 rfl
        replace hS : Sat w0 w207 [Own (sliceR (sliceR intR 3) 22) [v131] r130.2.1.2, Own (sliceR (sliceR intR 3) 22) [v133] r130.2.2.2, Box b173 42 [.string r165.1, .int .i64 r165.2.1.1, v166, .int .i64 r165.2.2.1, v168], Box b160 42 [.string r152.1, .int .i64 r152.2.1.1, v153, .int .i64 r152.2.2.1, v155], Box b107 37 [.string a5, .int .i64 a6, u7, .int .i64 a8, u9], Box b103 37 [.string a0, .int .i64 a1, u2, .int .i64 a3, u4], Own (sliceR (sliceR intR 3) 22) [v166] r165.2.1.2, Own (sliceR (sliceR intR 3) 22) [v168] r165.2.2.2, Own (sliceR (sliceR intR 3) 22) [v153] r152.2.1.2, Own (sliceR (sliceR intR 3) 22) [v155] r152.2.2.2, Own (sliceR (sliceR intR 3) 22) [v140] r139.2.1.2, Own (sliceR (sliceR intR 3) 22) [v142] r139.2.2.2, Own (sliceR (sliceR intR 3) 22) [v190] r189.2.1.2, Own (sliceR (sliceR intR 3) 22) [v192] r189.2.2.2] := hS.top 11 rfl
        replace hS : Sat w0 w207 [Own (sliceR (sliceR intR 3) 22) [v142] r139.2.2.2, Own (sliceR (sliceR intR 3) 22) [v131] r130.2.1.2, Own (sliceR (sliceR intR 3) 22) [v133] r130.2.2.2, Box b173 42 [.string r165.1, .int .i64 r165.2.1.1, v166, .int .i64 r165.2.2.1, v168], Box b160 42 [.string r152.1, .int .i64 r152.2.1.1, v153, .int .i64 r152.2.2.1, v155], Box b107 37 [.string a5, .int .i64 a6, u7, .int .i64 a8, u9], Box b103 37 [.string a0, .int .i64 a1, u2, .int .i64 a3, u4], Own (sliceR (sliceR intR 3) 22) [v166] r165.2.1.2, Own (sliceR (sliceR intR 3) 22) [v168] r165.2.2.2, Own (sliceR (sliceR intR 3) 22) [v153] r152.2.1.2, Own (sliceR (sliceR intR 3) 22) [v155] r152.2.2.2, Own (sliceR (sliceR intR 3) 22) [v140] r139.2.1.2, Own (sliceR (sliceR intR 3) 22) [v190] r189.2.1.2, Own (sliceR (sliceR intR 3) 22) [v192] r189.2.2.2] := hS.top 11 rfl
        replace hS : Sat w0 w207 [Own (sliceR (sliceR intR 3) 22) [v140] r139.2.1.2, Own (sliceR (sliceR intR 3) 22) [v142] r139.2.2.2, Own (sliceR (sliceR intR 3) 22) [v131] r130.2.1.2, Own (sliceR (sliceR intR 3) 22) [v133] r130.2.2.2, Box b173 42 [.string r165.1, .int .i64 r165.2.1.1, v166, .int .i64 r165.2.2.1, v168], Box b160 42 [.string r152.1, .int .i64 r152.2.1.1, v153, .int .i64 r152.2.2.1, v155], Box b107 37 [.string a5, .int .i64 a6, u7, .int .i64 a8, u9], Box b103 37 [.string a0, .int .i64 a1, u2, .int .i64 a3, u4], Own (sliceR (sliceR intR 3) 22) [v166] r165.2.1.2, Own (sliceR (sliceR intR 3) 22) [v168] r165.2.2.2, Own (sliceR (sliceR intR 3) 22) [v153] r152.2.1.2, Own (sliceR (sliceR intR 3) 22) [v155] r152.2.2.2, Own (sliceR (sliceR intR 3) 22) [v190] r189.2.1.2, Own (sliceR (sliceR intR 3) 22) [v192] r189.2.2.2] := hS.top 11 rfl
        replace hS : Sat w0 w207 [Own (sliceR (sliceR intR 3) 22) [v155] r152.2.2.2, Own (sliceR (sliceR intR 3) 22) [v140] r139.2.1.2, Own (sliceR (sliceR intR 3) 22) [v142] r139.2.2.2, Own (sliceR (sliceR intR 3) 22) [v131] r130.2.1.2, Own (sliceR (sliceR intR 3) 22) [v133] r130.2.2.2, Box b173 42 [.string r165.1, .int .i64 r165.2.1.1, v166, .int .i64 r165.2.2.1, v168], Box b160 42 [.string r152.1, .int .i64 r152.2.1.1, v153, .int .i64 r152.2.2.1, v155], Box b107 37 [.string a5, .int .i64 a6, u7, .int .i64 a8, u9], Box b103 37 [.string a0, .int .i64 a1, u2, .int .i64 a3, u4], Own (sliceR (sliceR intR 3) 22) [v166] r165.2.1.2, Own (sliceR (sliceR intR 3) 22) [v168] r165.2.2.2, Own (sliceR (sliceR intR 3) 22) [v153] r152.2.1.2, Own (sliceR (sliceR intR 3) 22) [v190] r189.2.1.2, Own (sliceR (sliceR intR 3) 22) [v192] r189.2.2.2] := hS.top 11 rfl
        replace hS : Sat w0 w207 [Own (sliceR (sliceR intR 3) 22) [v153] r152.2.1.2, Own (sliceR (sliceR intR 3) 22) [v155] r152.2.2.2, Own (sliceR (sliceR intR 3) 22) [v140] r139.2.1.2, Own (sliceR (sliceR intR 3) 22) [v142] r139.2.2.2, Own (sliceR (sliceR intR 3) 22) [v131] r130.2.1.2, Own (sliceR (sliceR intR 3) 22) [v133] r130.2.2.2, Box b173 42 [.string r165.1, .int .i64 r165.2.1.1, v166, .int .i64 r165.2.2.1, v168], Box b160 42 [.string r152.1, .int .i64 r152.2.1.1, v153, .int .i64 r152.2.2.1, v155], Box b107 37 [.string a5, .int .i64 a6, u7, .int .i64 a8, u9], Box b103 37 [.string a0, .int .i64 a1, u2, .int .i64 a3, u4], Own (sliceR (sliceR intR 3) 22) [v166] r165.2.1.2, Own (sliceR (sliceR intR 3) 22) [v168] r165.2.2.2, Own (sliceR (sliceR intR 3) 22) [v190] r189.2.1.2, Own (sliceR (sliceR intR 3) 22) [v192] r189.2.2.2] := hS.top 11 rfl
        replace hS : Sat w0 w207 [Own (sliceR (sliceR intR 3) 22) [v168] r165.2.2.2, Own (sliceR (sliceR intR 3) 22) [v153] r152.2.1.2, Own (sliceR (sliceR intR 3) 22) [v155] r152.2.2.2, Own (sliceR (sliceR intR 3) 22) [v140] r139.2.1.2, Own (sliceR (sliceR intR 3) 22) [v142] r139.2.2.2, Own (sliceR (sliceR intR 3) 22) [v131] r130.2.1.2, Own (sliceR (sliceR intR 3) 22) [v133] r130.2.2.2, Box b173 42 [.string r165.1, .int .i64 r165.2.1.1, v166, .int .i64 r165.2.2.1, v168], Box b160 42 [.string r152.1, .int .i64 r152.2.1.1, v153, .int .i64 r152.2.2.1, v155], Box b107 37 [.string a5, .int .i64 a6, u7, .int .i64 a8, u9], Box b103 37 [.string a0, .int .i64 a1, u2, .int .i64 a3, u4], Own (sliceR (sliceR intR 3) 22) [v166] r165.2.1.2, Own (sliceR (sliceR intR 3) 22) [v190] r189.2.1.2, Own (sliceR (sliceR intR 3) 22) [v192] r189.2.2.2] := hS.top 11 rfl
        replace hS : Sat w0 w207 [Own (sliceR (sliceR intR 3) 22) [v166] r165.2.1.2, Own (sliceR (sliceR intR 3) 22) [v168] r165.2.2.2, Own (sliceR (sliceR intR 3) 22) [v153] r152.2.1.2, Own (sliceR (sliceR intR 3) 22) [v155] r152.2.2.2, Own (sliceR (sliceR intR 3) 22) [v140] r139.2.1.2, Own (sliceR (sliceR intR 3) 22) [v142] r139.2.2.2, Own (sliceR (sliceR intR 3) 22) [v131] r130.2.1.2, Own (sliceR (sliceR intR 3) 22) [v133] r130.2.2.2, Box b173 42 [.string r165.1, .int .i64 r165.2.1.1, v166, .int .i64 r165.2.2.1, v168], Box b160 42 [.string r152.1, .int .i64 r152.2.1.1, v153, .int .i64 r152.2.2.1, v155], Box b107 37 [.string a5, .int .i64 a6, u7, .int .i64 a8, u9], Box b103 37 [.string a0, .int .i64 a1, u2, .int .i64 a3, u4], Own (sliceR (sliceR intR 3) 22) [v190] r189.2.1.2, Own (sliceR (sliceR intR 3) 22) [v192] r189.2.2.2] := hS.top 11 rfl
        replace hS : Sat w0 w207 [Box b103 37 [.string a0, .int .i64 a1, u2, .int .i64 a3, u4], Own (sliceR (sliceR intR 3) 22) [v166] r165.2.1.2, Own (sliceR (sliceR intR 3) 22) [v168] r165.2.2.2, Own (sliceR (sliceR intR 3) 22) [v153] r152.2.1.2, Own (sliceR (sliceR intR 3) 22) [v155] r152.2.2.2, Own (sliceR (sliceR intR 3) 22) [v140] r139.2.1.2, Own (sliceR (sliceR intR 3) 22) [v142] r139.2.2.2, Own (sliceR (sliceR intR 3) 22) [v131] r130.2.1.2, Own (sliceR (sliceR intR 3) 22) [v133] r130.2.2.2, Box b173 42 [.string r165.1, .int .i64 r165.2.1.1, v166, .int .i64 r165.2.2.1, v168], Box b160 42 [.string r152.1, .int .i64 r152.2.1.1, v153, .int .i64 r152.2.2.1, v155], Box b107 37 [.string a5, .int .i64 a6, u7, .int .i64 a8, u9], Own (sliceR (sliceR intR 3) 22) [v190] r189.2.1.2, Own (sliceR (sliceR intR 3) 22) [v192] r189.2.2.2] := hS.top 11 rfl
        replace hS : Sat w0 w207 [Box b107 37 [.string a5, .int .i64 a6, u7, .int .i64 a8, u9], Box b103 37 [.string a0, .int .i64 a1, u2, .int .i64 a3, u4], Own (sliceR (sliceR intR 3) 22) [v166] r165.2.1.2, Own (sliceR (sliceR intR 3) 22) [v168] r165.2.2.2, Own (sliceR (sliceR intR 3) 22) [v153] r152.2.1.2, Own (sliceR (sliceR intR 3) 22) [v155] r152.2.2.2, Own (sliceR (sliceR intR 3) 22) [v140] r139.2.1.2, Own (sliceR (sliceR intR 3) 22) [v142] r139.2.2.2, Own (sliceR (sliceR intR 3) 22) [v131] r130.2.1.2, Own (sliceR (sliceR intR 3) 22) [v133] r130.2.2.2, Box b173 42 [.string r165.1, .int .i64 r165.2.1.1, v166, .int .i64 r165.2.2.1, v168], Box b160 42 [.string r152.1, .int .i64 r152.2.1.1, v153, .int .i64 r152.2.2.1, v155], Own (sliceR (sliceR intR 3) 22) [v190] r189.2.1.2, Own (sliceR (sliceR intR 3) 22) [v192] r189.2.2.2] := hS.top 11 rfl
        replace hS : Sat w0 w207 [Box b160 42 [.string r152.1, .int .i64 r152.2.1.1, v153, .int .i64 r152.2.2.1, v155], Box b107 37 [.string a5, .int .i64 a6, u7, .int .i64 a8, u9], Box b103 37 [.string a0, .int .i64 a1, u2, .int .i64 a3, u4], Own (sliceR (sliceR intR 3) 22) [v166] r165.2.1.2, Own (sliceR (sliceR intR 3) 22) [v168] r165.2.2.2, Own (sliceR (sliceR intR 3) 22) [v153] r152.2.1.2, Own (sliceR (sliceR intR 3) 22) [v155] r152.2.2.2, Own (sliceR (sliceR intR 3) 22) [v140] r139.2.1.2, Own (sliceR (sliceR intR 3) 22) [v142] r139.2.2.2, Own (sliceR (sliceR intR 3) 22) [v131] r130.2.1.2, Own (sliceR (sliceR intR 3) 22) [v133] r130.2.2.2, Box b173 42 [.string r165.1, .int .i64 r165.2.1.1, v166, .int .i64 r165.2.2.1, v168], Own (sliceR (sliceR intR 3) 22) [v190] r189.2.1.2, Own (sliceR (sliceR intR 3) 22) [v192] r189.2.2.2] := hS.top 11 rfl
        replace hS : Sat w0 w207 [Box b173 42 [.string r165.1, .int .i64 r165.2.1.1, v166, .int .i64 r165.2.2.1, v168], Box b160 42 [.string r152.1, .int .i64 r152.2.1.1, v153, .int .i64 r152.2.2.1, v155], Box b107 37 [.string a5, .int .i64 a6, u7, .int .i64 a8, u9], Box b103 37 [.string a0, .int .i64 a1, u2, .int .i64 a3, u4], Own (sliceR (sliceR intR 3) 22) [v166] r165.2.1.2, Own (sliceR (sliceR intR 3) 22) [v168] r165.2.2.2, Own (sliceR (sliceR intR 3) 22) [v153] r152.2.1.2, Own (sliceR (sliceR intR 3) 22) [v155] r152.2.2.2, Own (sliceR (sliceR intR 3) 22) [v140] r139.2.1.2, Own (sliceR (sliceR intR 3) 22) [v142] r139.2.2.2, Own (sliceR (sliceR intR 3) 22) [v131] r130.2.1.2, Own (sliceR (sliceR intR 3) 22) [v133] r130.2.2.2, Own (sliceR (sliceR intR 3) 22) [v190] r189.2.1.2, Own (sliceR (sliceR intR 3) 22) [v192] r189.2.2.2] := hS.top 11 rfl
        have hC := (hCd _).2 ⟨_, hS⟩
        refine ⟨fun _ => hC, ?_⟩
        refine al_p (v := .bool (!r206)) (by kernel_rfl) 4 rfl rfl (by decide) hC (by kernel_rfl) (by kernel_rfl) (sv_on rfl (fun w' hw' => by obtain ⟨_, hS⟩ := (hCd _).1 hw'; exact (pv_not rfl))) ?_
        refine al_nil (by kernel_rfl) ?_
        refine hQ186 _ _ _ ?_
        refine thn_n ?_
        replace hF := oif hF
        rcases hF with ⟨hb209, hF⟩ | ⟨hb209, hF⟩
        · refine cw_cond_f rfl (bnot_t hb209) ?_
          refine cw_skip ?_
          refine hQ185 _ _ _ ?_
          refine thn_n ?_
          refine cw_seq ?_
          refine cw_gen ?_
          intro Q210 hQ210
          refine cw_seq ?_
          refine cw_gen ?_
          intro Q211 hQ211
          obtain ⟨C, hCd⟩ : ∃ C : World → Prop, ∀ w, C w ↔ ∃ G, Sat w0 w ([Box b173 42 [.string r165.1, .int .i64 r165.2.1.1, v166, .int .i64 r165.2.2.1, v168], Box b160 42 [.string r152.1, .int .i64 r152.2.1.1, v153, .int .i64 r152.2.2.1, v155], Box b107 37 [.string a5, .int .i64 a6, u7, .int .i64 a8, u9], Box b103 37 [.string a0, .int .i64 a1, u2, .int .i64 a3, u4], Own (sliceR (sliceR intR 3) 22) [v166] r165.2.1.2, Own (sliceR (sliceR intR 3) 22) [v168] r165.2.2.2, Own (sliceR (sliceR intR 3) 22) [v153] r152.2.1.2, Own (sliceR (sliceR intR 3) 22) [v155] r152.2.2.2, Own (sliceR (sliceR intR 3) 22) [v140] r139.2.1.2, Own (sliceR (sliceR intR 3) 22) [v142] r139.2.2.2, Own (sliceR (sliceR intR 3) 22) [v131] r130.2.1.2, Own (sliceR (sliceR intR 3) 22) [v133] r130.2.2.2, Own (sliceR (sliceR intR 3) 22) [v190] r189.2.1.2, Own (sliceR (sliceR intR 3) 22) [v192] r189.2.2.2] ++ G) := ⟨_, fun _ => Iff.rfl⟩
          refine cw_regb [0, 1, 2, 3, 4] C (by kernel_rfl) ?_
          intro w212 hx213
          replace hS := hS.ext hx213
          replace hS : Sat w0 w212 [Own (sliceR (sliceR intR 3) 22) [v192] r189.2.2.2, Box b173 42 [.string r165.1, .int .i64 r165.2.1.1, v166, .int .i64 r165.2.2.1, v168], Box b160 42 [.string r152.1, .int .i64 r152.2.1.1, v153, .int .i64 r152.2.2.1, v155], Box b107 37 [.string a5, .int .i64 a6, u7, .int .i64 a8, u9], Box b103 37 [.string a0, .int .i64 a1, u2, .int .i64 a3, u4], Own (sliceR (sliceR intR 3) 22) [v166] r165.2.1.2, Own (sliceR (sliceR intR 3) 22) [v168] r165.2.2.2, Own (sliceR (sliceR intR 3) 22) [v153] r152.2.1.2, Own (sliceR (sliceR intR 3) 22) [v155] r152.2.2.2, Own (sliceR (sliceR intR 3) 22) [v140] r139.2.1.2, Own (sliceR (sliceR intR 3) 22) [v142] r139.2.2.2, Own (sliceR (sliceR intR 3) 22) [v131] r130.2.1.2, Own (sliceR (sliceR intR 3) 22) [v133] r130.2.2.2, Own (sliceR (sliceR intR 3) 22) [v190] r189.2.1.2] := hS.top 13 rfl
          replace hS : Sat w0 w212 [Own (sliceR (sliceR intR 3) 22) [v190] r189.2.1.2, Own (sliceR (sliceR intR 3) 22) [v192] r189.2.2.2, Box b173 42 [.string r165.1, .int .i64 r165.2.1.1, v166, .int .i64 r165.2.2.1, v168], Box b160 42 [.string r152.1, .int .i64 r152.2.1.1, v153, .int .i64 r152.2.2.1, v155], Box b107 37 [.string a5, .int .i64 a6, u7, .int .i64 a8, u9], Box b103 37 [.string a0, .int .i64 a1, u2, .int .i64 a3, u4], Own (sliceR (sliceR intR 3) 22) [v166] r165.2.1.2, Own (sliceR (sliceR intR 3) 22) [v168] r165.2.2.2, Own (sliceR (sliceR intR 3) 22) [v153] r152.2.1.2, Own (sliceR (sliceR intR 3) 22) [v155] r152.2.2.2, Own (sliceR (sliceR intR 3) 22) [v140] r139.2.1.2, Own (sliceR (sliceR intR 3) 22) [v142] r139.2.2.2, Own (sliceR (sliceR intR 3) 22) [v131] r130.2.1.2, Own (sliceR (sliceR intR 3) 22) [v133] r130.2.2.2] := hS.top 13 rfl
          replace hS : Sat w0 w212 [Own (sliceR (sliceR intR 3) 22) [v133] r130.2.2.2, Own (sliceR (sliceR intR 3) 22) [v190] r189.2.1.2, Own (sliceR (sliceR intR 3) 22) [v192] r189.2.2.2, Box b173 42 [.string r165.1, .int .i64 r165.2.1.1, v166, .int .i64 r165.2.2.1, v168], Box b160 42 [.string r152.1, .int .i64 r152.2.1.1, v153, .int .i64 r152.2.2.1, v155], Box b107 37 [.string a5, .int .i64 a6, u7, .int .i64 a8, u9], Box b103 37 [.string a0, .int .i64 a1, u2, .int .i64 a3, u4], Own (sliceR (sliceR intR 3) 22) [v166] r165.2.1.2, Own (sliceR (sliceR intR 3) 22) [v168] r165.2.2.2, Own (sliceR (sliceR intR 3) 22) [v153] r152.2.1.2, Own (sliceR (sliceR intR 3) 22) [v155] r152.2.2.2, Own (sliceR (sliceR intR 3) 22) [v140] r139.2.1.2, Own (sliceR (sliceR intR 3) 22) [v142] r139.2.2.2, Own (sliceR (sliceR intR 3) 22) [v131] r130.2.1.2] := hS.top 13 rfl
          replace hS : Sat w0 w212 [Own (sliceR (sliceR intR 3) 22) [v131] r130.2.1.2, Own (sliceR (sliceR intR 3) 22) [v133] r130.2.2.2, Own (sliceR (sliceR intR 3) 22) [v190] r189.2.1.2, Own (sliceR (sliceR intR 3) 22) [v192] r189.2.2.2, Box b173 42 [.string r165.1, .int .i64 r165.2.1.1, v166, .int .i64 r165.2.2.1, v168], Box b160 42 [.string r152.1, .int .i64 r152.2.1.1, v153, .int .i64 r152.2.2.1, v155], Box b107 37 [.string a5, .int .i64 a6, u7, .int .i64 a8, u9], Box b103 37 [.string a0, .int .i64 a1, u2, .int .i64 a3, u4], Own (sliceR (sliceR intR 3) 22) [v166] r165.2.1.2, Own (sliceR (sliceR intR 3) 22) [v168] r165.2.2.2, Own (sliceR (sliceR intR 3) 22) [v153] r152.2.1.2, Own (sliceR (sliceR intR 3) 22) [v155] r152.2.2.2, Own (sliceR (sliceR intR 3) 22) [v140] r139.2.1.2, Own (sliceR (sliceR intR 3) 22) [v142] r139.2.2.2] := hS.top 13 rfl
          replace hS : Sat w0 w212 [Own (sliceR (sliceR intR 3) 22) [v142] r139.2.2.2, Own (sliceR (sliceR intR 3) 22) [v131] r130.2.1.2, Own (sliceR (sliceR intR 3) 22) [v133] r130.2.2.2, Own (sliceR (sliceR intR 3) 22) [v190] r189.2.1.2, Own (sliceR (sliceR intR 3) 22) [v192] r189.2.2.2, Box b173 42 [.string r165.1, .int .i64 r165.2.1.1, v166, .int .i64 r165.2.2.1, v168], Box b160 42 [.string r152.1, .int .i64 r152.2.1.1, v153, .int .i64 r152.2.2.1, v155], Box b107 37 [.string a5, .int .i64 a6, u7, .int .i64 a8, u9], Box b103 37 [.string a0, .int .i64 a1, u2, .int .i64 a3, u4], Own (sliceR (sliceR intR 3) 22) [v166] r165.2.1.2, Own (sliceR (sliceR intR 3) 22) [v168] r165.2.2.2, Own (sliceR (sliceR intR 3) 22) [v153] r152.2.1.2, Own (sliceR (sliceR intR 3) 22) [v155] r152.2.2.2, Own (sliceR (sliceR intR 3) 22) [v140] r139.2.1.2] := hS.top 13 rfl
          replace hS : Sat w0 w212 [Own (sliceR (sliceR intR 3) 22) [v140] r139.2.1.2, Own (sliceR (sliceR intR 3) 22) [v142] r139.2.2.2, Own (sliceR (sliceR intR 3) 22) [v131] r130.2.1.2, Own (sliceR (sliceR intR 3) 22) [v133] r130.2.2.2, Own (sliceR (sliceR intR 3) 22) [v190] r189.2.1.2, Own (sliceR (sliceR intR 3) 22) [v192] r189.2.2.2, Box b173 42 [.string r165.1, .int .i64 r165.2.1.1, v166, .int .i64 r165.2.2.1, v168], Box b160 42 [.string r152.1, .int .i64 r152.2.1.1, v153, .int .i64 r152.2.2.1, v155], Box b107 37 [.string a5, .int .i64 a6, u7, .int .i64 a8, u9], Box b103 37 [.string a0, .int .i64 a1, u2, .int .i64 a3, u4], Own (sliceR (sliceR intR 3) 22) [v166] r165.2.1.2, Own (sliceR (sliceR intR 3) 22) [v168] r165.2.2.2, Own (sliceR (sliceR intR 3) 22) [v153] r152.2.1.2, Own (sliceR (sliceR intR 3) 22) [v155] r152.2.2.2] := hS.top 13 rfl
          replace hS : Sat w0 w212 [Own (sliceR (sliceR intR 3) 22) [v155] r152.2.2.2, Own (sliceR (sliceR intR 3) 22) [v140] r139.2.1.2, Own (sliceR (sliceR intR 3) 22) [v142] r139.2.2.2, Own (sliceR (sliceR intR 3) 22) [v131] r130.2.1.2, Own (sliceR (sliceR intR 3) 22) [v133] r130.2.2.2, Own (sliceR (sliceR intR 3) 22) [v190] r189.2.1.2, Own (sliceR (sliceR intR 3) 22) [v192] r189.2.2.2, Box b173 42 [.string r165.1, .int .i64 r165.2.1.1, v166, .int .i64 r165.2.2.1, v168], Box b160 42 [.string r152.1, .int .i64 r152.2.1.1, v153, .int .i64 r152.2.2.1, v155], Box b107 37 [.string a5, .int .i64 a6, u7, .int .i64 a8, u9], Box b103 37 [.string a0, .int .i64 a1, u2, .int .i64 a3, u4], Own (sliceR (sliceR intR 3) 22) [v166] r165.2.1.2, Own (sliceR (sliceR intR 3) 22) [v168] r165.2.2.2, Own (sliceR (sliceR intR 3) 22) [v153] r152.2.1.2] := hS.top 13 rfl
          replace hS : Sat w0 w212 [Own (sliceR (sliceR intR 3) 22) [v153] r152.2.1.2, Own (sliceR (sliceR intR 3) 22) [v155] r152.2.2.2, Own (sliceR (sliceR intR 3) 22) [v140] r139.2.1.2, Own (sliceR (sliceR intR 3) 22) [v142] r139.2.2.2, Own (sliceR (sliceR intR 3) 22) [v131] r130.2.1.2, Own (sliceR (sliceR intR 3) 22) [v133] r130.2.2.2, Own (sliceR (sliceR intR 3) 22) [v190] r189.2.1.2, Own (sliceR (sliceR intR 3) 22) [v192] r189.2.2.2, Box b173 42 [.string r165.1, .int .i64 r165.2.1.1, v166, .int .i64 r165.2.2.1, v168], Box b160 42 [.string r152.1, .int .i64 r152.2.1.1, v153, .int .i64 r152.2.2.1, v155], Box b107 37 [.string a5, .int .i64 a6, u7, .int .i64 a8, u9], Box b103 37 [.string a0, .int .i64 a1, u2, .int .i64 a3, u4], Own (sliceR (sliceR intR 3) 22) [v166] r165.2.1.2, Own (sliceR (sliceR intR 3) 22) [v168] r165.2.2.2] := hS.top 13 rfl
          replace hS : Sat w0 w212 [Own (sliceR (sliceR intR 3) 22) [v168] r165.2.2.2, Own (sliceR (sliceR intR 3) 22) [v153] r152.2.1.2, Own (sliceR (sliceR intR 3) 22) [v155] r152.2.2.2, Own (sliceR (sliceR intR 3) 22) [v140] r139.2.1.2, Own (sliceR (sliceR intR 3) 22) [v142] r139.2.2.2, Own (sliceR (sliceR intR 3) 22) [v131] r130.2.1.2, Own (sliceR (sliceR intR 3) 22) [v133] r130.2.2.2, Own (sliceR (sliceR intR 3) 22) [v190] r189.2.1.2, Own (sliceR (sliceR intR 3) 22) [v192] r189.2.2.2, Box b173 42 [.string r165.1, .int .i64 r165.2.1.1, v166, .int .i64 r165.2.2.1, v168], Box b160 42 [.string r152.1, .int .i64 r152.2.1.1, v153, .int .i64 r152.2.2.1, v155], Box b107 37 [.string a5, .int .i64 a6, u7, .int .i64 a8, u9], Box b103 37 [.string a0, .int .i64 a1, u2, .int .i64 a3, u4], Own (sliceR (sliceR intR 3) 22) [v166] r165.2.1.2] := hS.top 13 rfl
          replace hS : Sat w0 w212 [Own (sliceR (sliceR intR 3) 22) [v166] r165.2.1.2, Own (sliceR (sliceR intR 3) 22) [v168] r165.2.2.2, Own (sliceR (sliceR intR 3) 22) [v153] r152.2.1.2, Own (sliceR (sliceR intR 3) 22) [v155] r152.2.2.2, Own (sliceR (sliceR intR 3) 22) [v140] r139.2.1.2, Own (sliceR (sliceR intR 3) 22) [v142] r139.2.2.2, Own (sliceR (sliceR intR 3) 22) [v131] r130.2.1.2, Own (sliceR (sliceR intR 3) 22) [v133] r130.2.2.2, Own (sliceR (sliceR intR 3) 22) [v190] r189.2.1.2, Own (sliceR (sliceR intR 3) 22) [v192] r189.2.2.2, Box b173 42 [.string r165.1, .int .i64 r165.2.1.1, v166, .int .i64 r165.2.2.1, v168], Box b160 42 [.string r152.1, .int .i64 r152.2.1.1, v153, .int .i64 r152.2.2.1, v155], Box b107 37 [.string a5, .int .i64 a6, u7, .int .i64 a8, u9], Box b103 37 [.string a0, .int .i64 a1, u2, .int .i64 a3, u4]] := hS.top 13 rfl
          replace hS : Sat w0 w212 [Box b103 37 [.string a0, .int .i64 a1, u2, .int .i64 a3, u4], Own (sliceR (sliceR intR 3) 22) [v166] r165.2.1.2, Own (sliceR (sliceR intR 3) 22) [v168] r165.2.2.2, Own (sliceR (sliceR intR 3) 22) [v153] r152.2.1.2, Own (sliceR (sliceR intR 3) 22) [v155] r152.2.2.2, Own (sliceR (sliceR intR 3) 22) [v140] r139.2.1.2, Own (sliceR (sliceR intR 3) 22) [v142] r139.2.2.2, Own (sliceR (sliceR intR 3) 22) [v131] r130.2.1.2, Own (sliceR (sliceR intR 3) 22) [v133] r130.2.2.2, Own (sliceR (sliceR intR 3) 22) [v190] r189.2.1.2, Own (sliceR (sliceR intR 3) 22) [v192] r189.2.2.2, Box b173 42 [.string r165.1, .int .i64 r165.2.1.1, v166, .int .i64 r165.2.2.1, v168], Box b160 42 [.string r152.1, .int .i64 r152.2.1.1, v153, .int .i64 r152.2.2.1, v155], Box b107 37 [.string a5, .int .i64 a6, u7, .int .i64 a8, u9]] := hS.top 13 rfl
          replace hS : Sat w0 w212 [Box b107 37 [.string a5, .int .i64 a6, u7, .int .i64 a8, u9], Box b103 37 [.string a0, .int .i64 a1, u2, .int .i64 a3, u4], Own (sliceR (sliceR intR 3) 22) [v166] r165.2.1.2, Own (sliceR (sliceR intR 3) 22) [v168] r165.2.2.2, Own (sliceR (sliceR intR 3) 22) [v153] r152.2.1.2, Own (sliceR (sliceR intR 3) 22) [v155] r152.2.2.2, Own (sliceR (sliceR intR 3) 22) [v140] r139.2.1.2, Own (sliceR (sliceR intR 3) 22) [v142] r139.2.2.2, Own (sliceR (sliceR intR 3) 22) [v131] r130.2.1.2, Own (sliceR (sliceR intR 3) 22) [v133] r130.2.2.2, Own (sliceR (sliceR intR 3) 22) [v190] r189.2.1.2, Own (sliceR (sliceR intR 3) 22) [v192] r189.2.2.2, Box b173 42 [.string r165.1, .int .i64 r165.2.1.1, v166, .int .i64 r165.2.2.1, v168], Box b160 42 [.string r152.1, .int .i64 r152.2.1.1, v153, .int .i64 r152.2.2.1, v155]] := hS.top 13 rfl
          replace hS : Sat w0 w212 [Box b160 42 [.string r152.1, .int .i64 r152.2.1.1, v153, .int .i64 r152.2.2.1, v155], Box b107 37 [.string a5, .int .i64 a6, u7, .int .i64 a8, u9], Box b103 37 [.string a0, .int .i64 a1, u2, .int .i64 a3, u4], Own (sliceR (sliceR intR 3) 22) [v166] r165.2.1.2, Own (sliceR (sliceR intR 3) 22) [v168] r165.2.2.2, Own (sliceR (sliceR intR 3) 22) [v153] r152.2.1.2, Own (sliceR (sliceR intR 3) 22) [v155] r152.2.2.2, Own (sliceR (sliceR intR 3) 22) [v140] r139.2.1.2, Own (sliceR (sliceR intR 3) 22) [v142] r139.2.2.2, Own (sliceR (sliceR intR 3) 22) [v131] r130.2.1.2, Own (sliceR (sliceR intR 3) 22) [v133] r130.2.2.2, Own (sliceR (sliceR intR 3) 22) [v190] r189.2.1.2, Own (sliceR (sliceR intR 3) 22) [v192] r189.2.2.2, Box b173 42 [.string r165.1, .int .i64 r165.2.1.1, v166, .int .i64 r165.2.2.1, v168]] := hS.top 13 rfl
          replace hS : Sat w0 w212 [Box b173 42 [.string r165.1, .int .i64 r165.2.1.1, v166, .int .i64 r165.2.2.1, v168], Box b160 42 [.string r152.1, .int .i64 r152.2.1.1, v153, .int .i64 r152.2.2.1, v155], Box b107 37 [.string a5, .int .i64 a6, u7, .int .i64 a8, u9], Box b103 37 [.string a0, .int .i64 a1, u2, .int .i64 a3, u4], Own (sliceR (sliceR intR 3) 22) [v166] r165.2.1.2, Own (sliceR (sliceR intR 3) 22) [v168] r165.2.2.2, Own (sliceR (sliceR intR 3) 22) [v153] r152.2.1.2, Own (sliceR (sliceR intR 3) 22) [v155] r152.2.2.2, Own (sliceR (sliceR intR 3) 22) [v140] r139.2.1.2, Own (sliceR (sliceR intR 3) 22) [v142] r139.2.2.2, Own (sliceR (sliceR intR 3) 22) [v131] r130.2.1.2, Own (sliceR (sliceR intR 3) 22) [v133] r130.2.2.2, Own (sliceR (sliceR intR 3) 22) [v190] r189.2.1.2, Own (sliceR (sliceR intR 3) 22) [v192] r189.2.2.2] := hS.top 13 rfl
          have hC := (hCd _).2 ⟨_, hS⟩
          refine al_p (v := .agg #[.string r165.1, .int .i64 r165.2.1.1, v166, .int .i64 r165.2.2.1, v168]) (by kernel_rfl) 0 rfl rfl (by decide) hC (by kernel_rfl) (by kernel_rfl) (sv_on rfl (fun w' hw' => by obtain ⟨_, hS⟩ := (hCd _).1 hw'; exact (pv_loada (cs := [.string r165.1, .int .i64 r165.2.1.1, v166, .int .i64 r165.2.2.1, v168]) rfl rfl (boxc0 (hS.boxAt 0 rfl))))) ?_
          refine al_p (v := .agg #[.string a5, .int .i64 a6, u7, .int .i64 a8, u9]) (by kernel_rfl) 1 rfl rfl (by decide) hC (by kernel_rfl) (by kernel_rfl) (sv_on rfl (fun w' hw' => by obtain ⟨_, hS⟩ := (hCd _).1 hw'; exact (pv_loada (cs := [.string a5, .int .i64 a6, u7, .int .i64 a8, u9]) rfl rfl (boxc0 (hS.boxAt 2 rfl))))) ?_
          refine al_one 2 (by kernel_rfl) rfl ?_
          replace hF := ob hF
          obtain ⟨r214, hr214, hF⟩ := hF
          refine el_call goes16 (laws_toDelta_ok (hS.up ha7) (hS.up ha9) hr214) (congrArg List.toArray (mapc rfl rfl)) (by decide) ?_
          rintro _ w219 ⟨v215, v217, rfl, hS'⟩
          refine ⟨_, rfl, ?_⟩
          have hx220 := hS'.below
          replace hS := hS.call2 hS'
          refine el_nil ?_
          replace hS : Sat w0 w219 [Own (sliceR (sliceR intR 3) 22) [v192] r189.2.2.2, Own (sliceR (sliceR intR 3) 22) [v215] r214.2.1.2, Own (sliceR (sliceR intR 3) 22) [v217] r214.2.2.2, Box b173 42 [.string r165.1, .int .i64 r165.2.1.1, v166, .int .i64 r165.2.2.1, v168], Box b160 42 [.string r152.1, .int .i64 r152.2.1.1, v153, .int .i64 r152.2.2.1, v155], Box b107 37 [.string a5, .int .i64 a6, u7, .int .i64 a8, u9], Box b103 37 [.string a0, .int .i64 a1, u2, .int .i64 a3, u4], Own (sliceR (sliceR intR 3) 22) [v166] r165.2.1.2, Own (sliceR (sliceR intR 3) 22) [v168] r165.2.2.2, Own (sliceR (sliceR intR 3) 22) [v153] r152.2.1.2, Own (sliceR (sliceR intR 3) 22) [v155] r152.2.2.2, Own (sliceR (sliceR intR 3) 22) [v140] r139.2.1.2, Own (sliceR (sliceR intR 3) 22) [v142] r139.2.2.2, Own (sliceR (sliceR intR 3) 22) [v131] r130.2.1.2, Own (sliceR (sliceR intR 3) 22) [v133] r130.2.2.2, Own (sliceR (sliceR intR 3) 22) [v190] r189.2.1.2] := hS.top 15 rfl
          replace hS : Sat w0 w219 [Own (sliceR (sliceR intR 3) 22) [v190] r189.2.1.2, Own (sliceR (sliceR intR 3) 22) [v192] r189.2.2.2, Own (sliceR (sliceR intR 3) 22) [v215] r214.2.1.2, Own (sliceR (sliceR intR 3) 22) [v217] r214.2.2.2, Box b173 42 [.string r165.1, .int .i64 r165.2.1.1, v166, .int .i64 r165.2.2.1, v168], Box b160 42 [.string r152.1, .int .i64 r152.2.1.1, v153, .int .i64 r152.2.2.1, v155], Box b107 37 [.string a5, .int .i64 a6, u7, .int .i64 a8, u9], Box b103 37 [.string a0, .int .i64 a1, u2, .int .i64 a3, u4], Own (sliceR (sliceR intR 3) 22) [v166] r165.2.1.2, Own (sliceR (sliceR intR 3) 22) [v168] r165.2.2.2, Own (sliceR (sliceR intR 3) 22) [v153] r152.2.1.2, Own (sliceR (sliceR intR 3) 22) [v155] r152.2.2.2, Own (sliceR (sliceR intR 3) 22) [v140] r139.2.1.2, Own (sliceR (sliceR intR 3) 22) [v142] r139.2.2.2, Own (sliceR (sliceR intR 3) 22) [v131] r130.2.1.2, Own (sliceR (sliceR intR 3) 22) [v133] r130.2.2.2] := hS.top 15 rfl
          replace hS : Sat w0 w219 [Own (sliceR (sliceR intR 3) 22) [v133] r130.2.2.2, Own (sliceR (sliceR intR 3) 22) [v190] r189.2.1.2, Own (sliceR (sliceR intR 3) 22) [v192] r189.2.2.2, Own (sliceR (sliceR intR 3) 22) [v215] r214.2.1.2, Own (sliceR (sliceR intR 3) 22) [v217] r214.2.2.2, Box b173 42 [.string r165.1, .int .i64 r165.2.1.1, v166, .int .i64 r165.2.2.1, v168], Box b160 42 [.string r152.1, .int .i64 r152.2.1.1, v153, .int .i64 r152.2.2.1, v155], Box b107 37 [.string a5, .int .i64 a6, u7, .int .i64 a8, u9], Box b103 37 [.string a0, .int .i64 a1, u2, .int .i64 a3, u4], Own (sliceR (sliceR intR 3) 22) [v166] r165.2.1.2, Own (sliceR (sliceR intR 3) 22) [v168] r165.2.2.2, Own (sliceR (sliceR intR 3) 22) [v153] r152.2.1.2, Own (sliceR (sliceR intR 3) 22) [v155] r152.2.2.2, Own (sliceR (sliceR intR 3) 22) [v140] r139.2.1.2, Own (sliceR (sliceR intR 3) 22) [v142] r139.2.2.2, Own (sliceR (sliceR intR 3) 22) [v131] r130.2.1.2] := hS.top 15 rfl
          replace hS : Sat w0 w219 [Own (sliceR (sliceR intR 3) 22) [v131] r130.2.1.2, Own (sliceR (sliceR intR 3) 22) [v133] r130.2.2.2, Own (sliceR (sliceR intR 3) 22) [v190] r189.2.1.2, Own (sliceR (sliceR intR 3) 22) [v192] r189.2.2.2, Own (sliceR (sliceR intR 3) 22) [v215] r214.2.1.2, Own (sliceR (sliceR intR 3) 22) [v217] r214.2.2.2, Box b173 42 [.string r165.1, .int .i64 r165.2.1.1, v166, .int .i64 r165.2.2.1, v168], Box b160 42 [.string r152.1, .int .i64 r152.2.1.1, v153, .int .i64 r152.2.2.1, v155], Box b107 37 [.string a5, .int .i64 a6, u7, .int .i64 a8, u9], Box b103 37 [.string a0, .int .i64 a1, u2, .int .i64 a3, u4], Own (sliceR (sliceR intR 3) 22) [v166] r165.2.1.2, Own (sliceR (sliceR intR 3) 22) [v168] r165.2.2.2, Own (sliceR (sliceR intR 3) 22) [v153] r152.2.1.2, Own (sliceR (sliceR intR 3) 22) [v155] r152.2.2.2, Own (sliceR (sliceR intR 3) 22) [v140] r139.2.1.2, Own (sliceR (sliceR intR 3) 22) [v142] r139.2.2.2] := hS.top 15 rfl
          replace hS : Sat w0 w219 [Own (sliceR (sliceR intR 3) 22) [v142] r139.2.2.2, Own (sliceR (sliceR intR 3) 22) [v131] r130.2.1.2, Own (sliceR (sliceR intR 3) 22) [v133] r130.2.2.2, Own (sliceR (sliceR intR 3) 22) [v190] r189.2.1.2, Own (sliceR (sliceR intR 3) 22) [v192] r189.2.2.2, Own (sliceR (sliceR intR 3) 22) [v215] r214.2.1.2, Own (sliceR (sliceR intR 3) 22) [v217] r214.2.2.2, Box b173 42 [.string r165.1, .int .i64 r165.2.1.1, v166, .int .i64 r165.2.2.1, v168], Box b160 42 [.string r152.1, .int .i64 r152.2.1.1, v153, .int .i64 r152.2.2.1, v155], Box b107 37 [.string a5, .int .i64 a6, u7, .int .i64 a8, u9], Box b103 37 [.string a0, .int .i64 a1, u2, .int .i64 a3, u4], Own (sliceR (sliceR intR 3) 22) [v166] r165.2.1.2, Own (sliceR (sliceR intR 3) 22) [v168] r165.2.2.2, Own (sliceR (sliceR intR 3) 22) [v153] r152.2.1.2, Own (sliceR (sliceR intR 3) 22) [v155] r152.2.2.2, Own (sliceR (sliceR intR 3) 22) [v140] r139.2.1.2] := hS.top 15 rfl
          replace hS : Sat w0 w219 [Own (sliceR (sliceR intR 3) 22) [v140] r139.2.1.2, Own (sliceR (sliceR intR 3) 22) [v142] r139.2.2.2, Own (sliceR (sliceR intR 3) 22) [v131] r130.2.1.2, Own (sliceR (sliceR intR 3) 22) [v133] r130.2.2.2, Own (sliceR (sliceR intR 3) 22) [v190] r189.2.1.2, Own (sliceR (sliceR intR 3) 22) [v192] r189.2.2.2, Own (sliceR (sliceR intR 3) 22) [v215] r214.2.1.2, Own (sliceR (sliceR intR 3) 22) [v217] r214.2.2.2, Box b173 42 [.string r165.1, .int .i64 r165.2.1.1, v166, .int .i64 r165.2.2.1, v168], Box b160 42 [.string r152.1, .int .i64 r152.2.1.1, v153, .int .i64 r152.2.2.1, v155], Box b107 37 [.string a5, .int .i64 a6, u7, .int .i64 a8, u9], Box b103 37 [.string a0, .int .i64 a1, u2, .int .i64 a3, u4], Own (sliceR (sliceR intR 3) 22) [v166] r165.2.1.2, Own (sliceR (sliceR intR 3) 22) [v168] r165.2.2.2, Own (sliceR (sliceR intR 3) 22) [v153] r152.2.1.2, Own (sliceR (sliceR intR 3) 22) [v155] r152.2.2.2] := hS.top 15 rfl
          replace hS : Sat w0 w219 [Own (sliceR (sliceR intR 3) 22) [v155] r152.2.2.2, Own (sliceR (sliceR intR 3) 22) [v140] r139.2.1.2, Own (sliceR (sliceR intR 3) 22) [v142] r139.2.2.2, Own (sliceR (sliceR intR 3) 22) [v131] r130.2.1.2, Own (sliceR (sliceR intR 3) 22) [v133] r130.2.2.2, Own (sliceR (sliceR intR 3) 22) [v190] r189.2.1.2, Own (sliceR (sliceR intR 3) 22) [v192] r189.2.2.2, Own (sliceR (sliceR intR 3) 22) [v215] r214.2.1.2, Own (sliceR (sliceR intR 3) 22) [v217] r214.2.2.2, Box b173 42 [.string r165.1, .int .i64 r165.2.1.1, v166, .int .i64 r165.2.2.1, v168], Box b160 42 [.string r152.1, .int .i64 r152.2.1.1, v153, .int .i64 r152.2.2.1, v155], Box b107 37 [.string a5, .int .i64 a6, u7, .int .i64 a8, u9], Box b103 37 [.string a0, .int .i64 a1, u2, .int .i64 a3, u4], Own (sliceR (sliceR intR 3) 22) [v166] r165.2.1.2, Own (sliceR (sliceR intR 3) 22) [v168] r165.2.2.2, Own (sliceR (sliceR intR 3) 22) [v153] r152.2.1.2] := hS.top 15 rfl
          replace hS : Sat w0 w219 [Own (sliceR (sliceR intR 3) 22) [v153] r152.2.1.2, Own (sliceR (sliceR intR 3) 22) [v155] r152.2.2.2, Own (sliceR (sliceR intR 3) 22) [v140] r139.2.1.2, Own (sliceR (sliceR intR 3) 22) [v142] r139.2.2.2, Own (sliceR (sliceR intR 3) 22) [v131] r130.2.1.2, Own (sliceR (sliceR intR 3) 22) [v133] r130.2.2.2, Own (sliceR (sliceR intR 3) 22) [v190] r189.2.1.2, Own (sliceR (sliceR intR 3) 22) [v192] r189.2.2.2, Own (sliceR (sliceR intR 3) 22) [v215] r214.2.1.2, Own (sliceR (sliceR intR 3) 22) [v217] r214.2.2.2, Box b173 42 [.string r165.1, .int .i64 r165.2.1.1, v166, .int .i64 r165.2.2.1, v168], Box b160 42 [.string r152.1, .int .i64 r152.2.1.1, v153, .int .i64 r152.2.2.1, v155], Box b107 37 [.string a5, .int .i64 a6, u7, .int .i64 a8, u9], Box b103 37 [.string a0, .int .i64 a1, u2, .int .i64 a3, u4], Own (sliceR (sliceR intR 3) 22) [v166] r165.2.1.2, Own (sliceR (sliceR intR 3) 22) [v168] r165.2.2.2] := hS.top 15 rfl
          replace hS : Sat w0 w219 [Own (sliceR (sliceR intR 3) 22) [v168] r165.2.2.2, Own (sliceR (sliceR intR 3) 22) [v153] r152.2.1.2, Own (sliceR (sliceR intR 3) 22) [v155] r152.2.2.2, Own (sliceR (sliceR intR 3) 22) [v140] r139.2.1.2, Own (sliceR (sliceR intR 3) 22) [v142] r139.2.2.2, Own (sliceR (sliceR intR 3) 22) [v131] r130.2.1.2, Own (sliceR (sliceR intR 3) 22) [v133] r130.2.2.2, Own (sliceR (sliceR intR 3) 22) [v190] r189.2.1.2, Own (sliceR (sliceR intR 3) 22) [v192] r189.2.2.2, Own (sliceR (sliceR intR 3) 22) [v215] r214.2.1.2, Own (sliceR (sliceR intR 3) 22) [v217] r214.2.2.2, Box b173 42 [.string r165.1, .int .i64 r165.2.1.1, v166, .int .i64 r165.2.2.1, v168], Box b160 42 [.string r152.1, .int .i64 r152.2.1.1, v153, .int .i64 r152.2.2.1, v155], Box b107 37 [.string a5, .int .i64 a6, u7, .int .i64 a8, u9], Box b103 37 [.string a0, .int .i64 a1, u2, .int .i64 a3, u4], Own (sliceR (sliceR intR 3) 22) [v166] r165.2.1.2] := hS.top 15 rfl
          replace hS : Sat w0 w219 [Own (sliceR (sliceR intR 3) 22) [v166] r165.2.1.2, Own (sliceR (sliceR intR 3) 22) [v168] r165.2.2.2, Own (sliceR (sliceR intR 3) 22) [v153] r152.2.1.2, Own (sliceR (sliceR intR 3) 22) [v155] r152.2.2.2, Own (sliceR (sliceR intR 3) 22) [v140] r139.2.1.2, Own (sliceR (sliceR intR 3) 22) [v142] r139.2.2.2, Own (sliceR (sliceR intR 3) 22) [v131] r130.2.1.2, Own (sliceR (sliceR intR 3) 22) [v133] r130.2.2.2, Own (sliceR (sliceR intR 3) 22) [v190] r189.2.1.2, Own (sliceR (sliceR intR 3) 22) [v192] r189.2.2.2, Own (sliceR (sliceR intR 3) 22) [v215] r214.2.1.2, Own (sliceR (sliceR intR 3) 22) [v217] r214.2.2.2, Box b173 42 [.string r165.1, .int .i64 r165.2.1.1, v166, .int .i64 r165.2.2.1, v168], Box b160 42 [.string r152.1, .int .i64 r152.2.1.1, v153, .int .i64 r152.2.2.1, v155], Box b107 37 [.string a5, .int .i64 a6, u7, .int .i64 a8, u9], Box b103 37 [.string a0, .int .i64 a1, u2, .int .i64 a3, u4]] := hS.top 15 rfl
          replace hS : Sat w0 w219 [Box b103 37 [.string a0, .int .i64 a1, u2, .int .i64 a3, u4], Own (sliceR (sliceR intR 3) 22) [v166] r165.2.1.2, Own (sliceR (sliceR intR 3) 22) [v168] r165.2.2.2, Own (sliceR (sliceR intR 3) 22) [v153] r152.2.1.2, Own (sliceR (sliceR intR 3) 22) [v155] r152.2.2.2, Own (sliceR (sliceR intR 3) 22) [v140] r139.2.1.2, Own (sliceR (sliceR intR 3) 22) [v142] r139.2.2.2, Own (sliceR (sliceR intR 3) 22) [v131] r130.2.1.2, Own (sliceR (sliceR intR 3) 22) [v133] r130.2.2.2, Own (sliceR (sliceR intR 3) 22) [v190] r189.2.1.2, Own (sliceR (sliceR intR 3) 22) [v192] r189.2.2.2, Own (sliceR (sliceR intR 3) 22) [v215] r214.2.1.2, Own (sliceR (sliceR intR 3) 22) [v217] r214.2.2.2, Box b173 42 [.string r165.1, .int .i64 r165.2.1.1, v166, .int .i64 r165.2.2.1, v168], Box b160 42 [.string r152.1, .int .i64 r152.2.1.1, v153, .int .i64 r152.2.2.1, v155], Box b107 37 [.string a5, .int .i64 a6, u7, .int .i64 a8, u9]] := hS.top 15 rfl
          replace hS : Sat w0 w219 [Box b107 37 [.string a5, .int .i64 a6, u7, .int .i64 a8, u9], Box b103 37 [.string a0, .int .i64 a1, u2, .int .i64 a3, u4], Own (sliceR (sliceR intR 3) 22) [v166] r165.2.1.2, Own (sliceR (sliceR intR 3) 22) [v168] r165.2.2.2, Own (sliceR (sliceR intR 3) 22) [v153] r152.2.1.2, Own (sliceR (sliceR intR 3) 22) [v155] r152.2.2.2, Own (sliceR (sliceR intR 3) 22) [v140] r139.2.1.2, Own (sliceR (sliceR intR 3) 22) [v142] r139.2.2.2, Own (sliceR (sliceR intR 3) 22) [v131] r130.2.1.2, Own (sliceR (sliceR intR 3) 22) [v133] r130.2.2.2, Own (sliceR (sliceR intR 3) 22) [v190] r189.2.1.2, Own (sliceR (sliceR intR 3) 22) [v192] r189.2.2.2, Own (sliceR (sliceR intR 3) 22) [v215] r214.2.1.2, Own (sliceR (sliceR intR 3) 22) [v217] r214.2.2.2, Box b173 42 [.string r165.1, .int .i64 r165.2.1.1, v166, .int .i64 r165.2.2.1, v168], Box b160 42 [.string r152.1, .int .i64 r152.2.1.1, v153, .int .i64 r152.2.2.1, v155]] := hS.top 15 rfl
          replace hS : Sat w0 w219 [Box b160 42 [.string r152.1, .int .i64 r152.2.1.1, v153, .int .i64 r152.2.2.1, v155], Box b107 37 [.string a5, .int .i64 a6, u7, .int .i64 a8, u9], Box b103 37 [.string a0, .int .i64 a1, u2, .int .i64 a3, u4], Own (sliceR (sliceR intR 3) 22) [v166] r165.2.1.2, Own (sliceR (sliceR intR 3) 22) [v168] r165.2.2.2, Own (sliceR (sliceR intR 3) 22) [v153] r152.2.1.2, Own (sliceR (sliceR intR 3) 22) [v155] r152.2.2.2, Own (sliceR (sliceR intR 3) 22) [v140] r139.2.1.2, Own (sliceR (sliceR intR 3) 22) [v142] r139.2.2.2, Own (sliceR (sliceR intR 3) 22) [v131] r130.2.1.2, Own (sliceR (sliceR intR 3) 22) [v133] r130.2.2.2, Own (sliceR (sliceR intR 3) 22) [v190] r189.2.1.2, Own (sliceR (sliceR intR 3) 22) [v192] r189.2.2.2, Own (sliceR (sliceR intR 3) 22) [v215] r214.2.1.2, Own (sliceR (sliceR intR 3) 22) [v217] r214.2.2.2, Box b173 42 [.string r165.1, .int .i64 r165.2.1.1, v166, .int .i64 r165.2.2.1, v168]] := hS.top 15 rfl
          replace hS : Sat w0 w219 [Box b173 42 [.string r165.1, .int .i64 r165.2.1.1, v166, .int .i64 r165.2.2.1, v168], Box b160 42 [.string r152.1, .int .i64 r152.2.1.1, v153, .int .i64 r152.2.2.1, v155], Box b107 37 [.string a5, .int .i64 a6, u7, .int .i64 a8, u9], Box b103 37 [.string a0, .int .i64 a1, u2, .int .i64 a3, u4], Own (sliceR (sliceR intR 3) 22) [v166] r165.2.1.2, Own (sliceR (sliceR intR 3) 22) [v168] r165.2.2.2, Own (sliceR (sliceR intR 3) 22) [v153] r152.2.1.2, Own (sliceR (sliceR intR 3) 22) [v155] r152.2.2.2, Own (sliceR (sliceR intR 3) 22) [v140] r139.2.1.2, Own (sliceR (sliceR intR 3) 22) [v142] r139.2.2.2, Own (sliceR (sliceR intR 3) 22) [v131] r130.2.1.2, Own (sliceR (sliceR intR 3) 22) [v133] r130.2.2.2, Own (sliceR (sliceR intR 3) 22) [v190] r189.2.1.2, Own (sliceR (sliceR intR 3) 22) [v192] r189.2.2.2, Own (sliceR (sliceR intR 3) 22) [v215] r214.2.1.2, Own (sliceR (sliceR intR 3) 22) [v217] r214.2.2.2] := hS.top 15 rfl
          have hC := (hCd _).2 ⟨_, hS⟩
          have hoc221 := oc (hS.rdAt (R := (sliceR (sliceR intR 3) 22)) 4 rfl)
          have hoc222 := oc (hS.rdAt (R := (sliceR (sliceR intR 3) 22)) 5 rfl)
          have hoc223 := oc (hS.rdAt (R := (sliceR (sliceR intR 3) 22)) 6 rfl)
          have hoc224 := oc (hS.rdAt (R := (sliceR (sliceR intR 3) 22)) 7 rfl)
          have hoc225 := oc (hS.rdAt (R := (sliceR (sliceR intR 3) 22)) 8 rfl)
          have hoc226 := oc (hS.rdAt (R := (sliceR (sliceR intR 3) 22)) 9 rfl)
          have hoc227 := oc (hS.rdAt (R := (sliceR (sliceR intR 3) 22)) 10 rfl)
          have hoc228 := oc (hS.rdAt (R := (sliceR (sliceR intR 3) 22)) 11 rfl)
          have hoc229 := oc (hS.rdAt (R := (sliceR (sliceR intR 3) 22)) 12 rfl)
          have hoc230 := oc (hS.rdAt (R := (sliceR (sliceR intR 3) 22)) 13 rfl)
          have hoc231 := oc (hS.rdAt (R := (sliceR (sliceR intR 3) 22)) 14 rfl)
          have hoc232 := oc (hS.rdAt (R := (sliceR (sliceR intR 3) 22)) 15 rfl)
          refine ⟨fun _ => hC, ?_⟩
          refine al_one 3 (by kernel_rfl) rfl ?_
          replace hF := ob hF
          obtain ⟨r233, hr233, hF⟩ := hF
          refine el_call goes18 (laws_eqDelta_ok (hS.rdAt (R := (sliceR (sliceR intR 3) 22)) 4 rfl) (hS.rdAt (R := (sliceR (sliceR intR 3) 22)) 5 rfl) (hS.rdAt (R := (sliceR (sliceR intR 3) 22)) 14 rfl) (hS.rdAt (R := (sliceR (sliceR intR 3) 22)) 15 rfl) hr233) (congrArg List.toArray (mapc rfl (mapc rfl rfl))) (by decide) ?_
          rintro _ w234 ⟨rfl, hx235⟩
          refine ⟨_, rfl, ?_⟩
          replace hS := hS.ext hx235
          refine el_nil ?_
          replace hS : Sat w0 w234 [Own (sliceR (sliceR intR 3) 22) [v192] r189.2.2.2, Box b173 42 [.string r165.1, .int .i64 r165.2.1.1, v166, .int .i64 r165.2.2.1, v168], Box b160 42 [.string r152.1, .int .i64 r152.2.1.1, v153, .int .i64 r152.2.2.1, v155], Box b107 37 [.string a5, .int .i64 a6, u7, .int .i64 a8, u9], Box b103 37 [.string a0, .int .i64 a1, u2, .int .i64 a3, u4], Own (sliceR (sliceR intR 3) 22) [v166] r165.2.1.2, Own (sliceR (sliceR intR 3) 22) [v168] r165.2.2.2, Own (sliceR (sliceR intR 3) 22) [v153] r152.2.1.2, Own (sliceR (sliceR intR 3) 22) [v155] r152.2.2.2, Own (sliceR (sliceR intR 3) 22) [v140] r139.2.1.2, Own (sliceR (sliceR intR 3) 22) [v142] r139.2.2.2, Own (sliceR (sliceR intR 3) 22) [v131] r130.2.1.2, Own (sliceR (sliceR intR 3) 22) [v133] r130.2.2.2, Own (sliceR (sliceR intR 3) 22) [v190] r189.2.1.2, Own (sliceR (sliceR intR 3) 22) [v215] r214.2.1.2, Own (sliceR (sliceR intR 3) 22) [v217] r214.2.2.2] := hS.top 13 rfl
          replace hS : Sat w0 w234 [Own (sliceR (sliceR intR 3) 22) [v190] r189.2.1.2, Own (sliceR (sliceR intR 3) 22) [v192] r189.2.2.2, Box b173 42 [.string r165.1, .int .i64 r165.2.1.1, v166, .int .i64 r165.2.2.1, v168], Box b160 42 [.string r152.1, .int .i64 r152.2.1.1, v153, .int .i64 r152.2.2.1, v155], Box b107 37 [.string a5, .int .i64 a6, u7, .int .i64 a8, u9], Box b103 37 [.string a0, .int .i64 a1, u2, .int .i64 a3, u4], Own (sliceR (sliceR intR 3) 22) [v166] r165.2.1.2, Own (sliceR (sliceR intR 3) 22) [v168] r165.2.2.2, Own (sliceR (sliceR intR 3) 22) [v153] r152.2.1.2, Own (sliceR (sliceR intR 3) 22) [v155] r152.2.2.2, Own (sliceR (sliceR intR 3) 22) [v140] r139.2.1.2, Own (sliceR (sliceR intR 3) 22) [v142] r139.2.2.2, Own (sliceR (sliceR intR 3) 22) [v131] r130.2.1.2, Own (sliceR (sliceR intR 3) 22) [v133] r130.2.2.2, Own (sliceR (sliceR intR 3) 22) [v215] r214.2.1.2, Own (sliceR (sliceR intR 3) 22) [v217] r214.2.2.2] := hS.top 13 rfl
          replace hS : Sat w0 w234 [Own (sliceR (sliceR intR 3) 22) [v133] r130.2.2.2, Own (sliceR (sliceR intR 3) 22) [v190] r189.2.1.2, Own (sliceR (sliceR intR 3) 22) [v192] r189.2.2.2, Box b173 42 [.string r165.1, .int .i64 r165.2.1.1, v166, .int .i64 r165.2.2.1, v168], Box b160 42 [.string r152.1, .int .i64 r152.2.1.1, v153, .int .i64 r152.2.2.1, v155], Box b107 37 [.string a5, .int .i64 a6, u7, .int .i64 a8, u9], Box b103 37 [.string a0, .int .i64 a1, u2, .int .i64 a3, u4], Own (sliceR (sliceR intR 3) 22) [v166] r165.2.1.2, Own (sliceR (sliceR intR 3) 22) [v168] r165.2.2.2, Own (sliceR (sliceR intR 3) 22) [v153] r152.2.1.2, Own (sliceR (sliceR intR 3) 22) [v155] r152.2.2.2, Own (sliceR (sliceR intR 3) 22) [v140] r139.2.1.2, Own (sliceR (sliceR intR 3) 22) [v142] r139.2.2.2, Own (sliceR (sliceR intR 3) 22) [v131] r130.2.1.2, Own (sliceR (sliceR intR 3) 22) [v215] r214.2.1.2, Own (sliceR (sliceR intR 3) 22) [v217] r214.2.2.2] := hS.top 13 rfl
          replace hS : Sat w0 w234 [Own (sliceR (sliceR intR 3) 22) [v131] r130.2.1.2, Own (sliceR (sliceR intR 3) 22) [v133] r130.2.2.2, Own (sliceR (sliceR intR 3) 22) [v190] r189.2.1.2, Own (sliceR (sliceR intR 3) 22) [v192] r189.2.2.2, Box b173 42 [.string r165.1, .int .i64 r165.2.1.1, v166, .int .i64 r165.2.2.1, v168], Box b160 42 [.string r152.1, .int .i64 r152.2.1.1, v153, .int .i64 r152.2.2.1, v155], Box b107 37 [.string a5, .int .i64 a6, u7, .int .i64 a8, u9], Box b103 37 [.string a0, .int .i64 a1, u2, .int .i64 a3, u4], Own (sliceR (sliceR intR 3) 22) [v166] r165.2.1.2, Own (sliceR (sliceR intR 3) 22) [v168] r165.2.2.2, Own (sliceR (sliceR intR 3) 22) [v153] r152.2.1.2, Own (sliceR (sliceR intR 3) 22) [v155] r152.2.2.2, Own (sliceR (sliceR intR 3) 22) [v140] r139.2.1.2, Own (sliceR (sliceR intR 3) 22) [v142] r139.2.2.2, Own (sliceR (sliceR intR 3) 22) [v215] r214.2.1.2, Own (sliceR (sliceR intR 3) 22) [v217] r214.2.2.2] := hS.top 13 rfl
          replace hS : Sat w0 w234 [Own (sliceR (sliceR intR 3) 22) [v142] r139.2.2.2, Own (sliceR (sliceR intR 3) 22) [v131] r130.2.1.2, Own (sliceR (sliceR intR 3) 22) [v133] r130.2.2.2, Own (sliceR (sliceR intR 3) 22) [v190] r189.2.1.2, Own (sliceR (sliceR intR 3) 22) [v192] r189.2.2.2, Box b173 42 [.string r165.1, .int .i64 r165.2.1.1, v166, .int .i64 r165.2.2.1, v168], Box b160 42 [.string r152.1, .int .i64 r152.2.1.1, v153, .int .i64 r152.2.2.1, v155], Box b107 37 [.string a5, .int .i64 a6, u7, .int .i64 a8, u9], Box b103 37 [.string a0, .int .i64 a1, u2, .int .i64 a3, u4], Own (sliceR (sliceR intR 3) 22) [v166] r165.2.1.2, Own (sliceR (sliceR intR 3) 22) [v168] r165.2.2.2, Own (sliceR (sliceR intR 3) 22) [v153] r152.2.1.2, Own (sliceR (sliceR intR 3) 22) [v155] r152.2.2.2, Own (sliceR (sliceR intR 3) 22) [v140] r139.2.1.2, Own (sliceR (sliceR intR 3) 22) [v215] r214.2.1.2, Own (sliceR (sliceR intR 3) 22) [v217] r214.2.2.2] := hS.top 13 rfl
          replace hS : Sat w0 w234 [Own (sliceR (sliceR intR 3) 22) [v140] r139.2.1.2, Own (sliceR (sliceR intR 3) 22) [v142] r139.2.2.2, Own (sliceR (sliceR intR 3) 22) [v131] r130.2.1.2, Own (sliceR (sliceR intR 3) 22) [v133] r130.2.2.2, Own (sliceR (sliceR intR 3) 22) [v190] r189.2.1.2, Own (sliceR (sliceR intR 3) 22) [v192] r189.2.2.2, Box b173 42 [.string r165.1, .int .i64 r165.2.1.1, v166, .int .i64 r165.2.2.1, v168], Box b160 42 [.string r152.1, .int .i64 r152.2.1.1, v153, .int .i64 r152.2.2.1, v155], Box b107 37 [.string a5, .int .i64 a6, u7, .int .i64 a8, u9], Box b103 37 [.string a0, .int .i64 a1, u2, .int .i64 a3, u4], Own (sliceR (sliceR intR 3) 22) [v166] r165.2.1.2, Own (sliceR (sliceR intR 3) 22) [v168] r165.2.2.2, Own (sliceR (sliceR intR 3) 22) [v153] r152.2.1.2, Own (sliceR (sliceR intR 3) 22) [v155] r152.2.2.2, Own (sliceR (sliceR intR 3) 22) [v215] r214.2.1.2, Own (sliceR (sliceR intR 3) 22) [v217] r214.2.2.2] := hS.top 13 rfl
          replace hS : Sat w0 w234 [Own (sliceR (sliceR intR 3) 22) [v155] r152.2.2.2, Own (sliceR (sliceR intR 3) 22) [v140] r139.2.1.2, Own (sliceR (sliceR intR 3) 22) [v142] r139.2.2.2, Own (sliceR (sliceR intR 3) 22) [v131] r130.2.1.2, Own (sliceR (sliceR intR 3) 22) [v133] r130.2.2.2, Own (sliceR (sliceR intR 3) 22) [v190] r189.2.1.2, Own (sliceR (sliceR intR 3) 22) [v192] r189.2.2.2, Box b173 42 [.string r165.1, .int .i64 r165.2.1.1, v166, .int .i64 r165.2.2.1, v168], Box b160 42 [.string r152.1, .int .i64 r152.2.1.1, v153, .int .i64 r152.2.2.1, v155], Box b107 37 [.string a5, .int .i64 a6, u7, .int .i64 a8, u9], Box b103 37 [.string a0, .int .i64 a1, u2, .int .i64 a3, u4], Own (sliceR (sliceR intR 3) 22) [v166] r165.2.1.2, Own (sliceR (sliceR intR 3) 22) [v168] r165.2.2.2, Own (sliceR (sliceR intR 3) 22) [v153] r152.2.1.2, Own (sliceR (sliceR intR 3) 22) [v215] r214.2.1.2, Own (sliceR (sliceR intR 3) 22) [v217] r214.2.2.2] := hS.top 13 rfl
          replace hS : Sat w0 w234 [Own (sliceR (sliceR intR 3) 22) [v153] r152.2.1.2, Own (sliceR (sliceR intR 3) 22) [v155] r152.2.2.2, Own (sliceR (sliceR intR 3) 22) [v140] r139.2.1.2, Own (sliceR (sliceR intR 3) 22) [v142] r139.2.2.2, Own (sliceR (sliceR intR 3) 22) [v131] r130.2.1.2, Own (sliceR (sliceR intR 3) 22) [v133] r130.2.2.2, Own (sliceR (sliceR intR 3) 22) [v190] r189.2.1.2, Own (sliceR (sliceR intR 3) 22) [v192] r189.2.2.2, Box b173 42 [.string r165.1, .int .i64 r165.2.1.1, v166, .int .i64 r165.2.2.1, v168], Box b160 42 [.string r152.1, .int .i64 r152.2.1.1, v153, .int .i64 r152.2.2.1, v155], Box b107 37 [.string a5, .int .i64 a6, u7, .int .i64 a8, u9], Box b103 37 [.string a0, .int .i64 a1, u2, .int .i64 a3, u4], Own (sliceR (sliceR intR 3) 22) [v166] r165.2.1.2, Own (sliceR (sliceR intR 3) 22) [v168] r165.2.2.2, Own (sliceR (sliceR intR 3) 22) [v215] r214.2.1.2, Own (sliceR (sliceR intR 3) 22) [v217] r214.2.2.2] := hS.top 13 rfl
          replace hS : Sat w0 w234 [Own (sliceR (sliceR intR 3) 22) [v168] r165.2.2.2, Own (sliceR (sliceR intR 3) 22) [v153] r152.2.1.2, Own (sliceR (sliceR intR 3) 22) [v155] r152.2.2.2, Own (sliceR (sliceR intR 3) 22) [v140] r139.2.1.2, Own (sliceR (sliceR intR 3) 22) [v142] r139.2.2.2, Own (sliceR (sliceR intR 3) 22) [v131] r130.2.1.2, Own (sliceR (sliceR intR 3) 22) [v133] r130.2.2.2, Own (sliceR (sliceR intR 3) 22) [v190] r189.2.1.2, Own (sliceR (sliceR intR 3) 22) [v192] r189.2.2.2, Box b173 42 [.string r165.1, .int .i64 r165.2.1.1, v166, .int .i64 r165.2.2.1, v168], Box b160 42 [.string r152.1, .int .i64 r152.2.1.1, v153, .int .i64 r152.2.2.1, v155], Box b107 37 [.string a5, .int .i64 a6, u7, .int .i64 a8, u9], Box b103 37 [.string a0, .int .i64 a1, u2, .int .i64 a3, u4], Own (sliceR (sliceR intR 3) 22) [v166] r165.2.1.2, Own (sliceR (sliceR intR 3) 22) [v215] r214.2.1.2, Own (sliceR (sliceR intR 3) 22) [v217] r214.2.2.2] := hS.top 13 rfl
          replace hS : Sat w0 w234 [Own (sliceR (sliceR intR 3) 22) [v166] r165.2.1.2, Own (sliceR (sliceR intR 3) 22) [v168] r165.2.2.2, Own (sliceR (sliceR intR 3) 22) [v153] r152.2.1.2, Own (sliceR (sliceR intR 3) 22) [v155] r152.2.2.2, Own (sliceR (sliceR intR 3) 22) [v140] r139.2.1.2, Own (sliceR (sliceR intR 3) 22) [v142] r139.2.2.2, Own (sliceR (sliceR intR 3) 22) [v131] r130.2.1.2, Own (sliceR (sliceR intR 3) 22) [v133] r130.2.2.2, Own (sliceR (sliceR intR 3) 22) [v190] r189.2.1.2, Own (sliceR (sliceR intR 3) 22) [v192] r189.2.2.2, Box b173 42 [.string r165.1, .int .i64 r165.2.1.1, v166, .int .i64 r165.2.2.1, v168], Box b160 42 [.string r152.1, .int .i64 r152.2.1.1, v153, .int .i64 r152.2.2.1, v155], Box b107 37 [.string a5, .int .i64 a6, u7, .int .i64 a8, u9], Box b103 37 [.string a0, .int .i64 a1, u2, .int .i64 a3, u4], Own (sliceR (sliceR intR 3) 22) [v215] r214.2.1.2, Own (sliceR (sliceR intR 3) 22) [v217] r214.2.2.2] := hS.top 13 rfl
          replace hS : Sat w0 w234 [Box b103 37 [.string a0, .int .i64 a1, u2, .int .i64 a3, u4], Own (sliceR (sliceR intR 3) 22) [v166] r165.2.1.2, Own (sliceR (sliceR intR 3) 22) [v168] r165.2.2.2, Own (sliceR (sliceR intR 3) 22) [v153] r152.2.1.2, Own (sliceR (sliceR intR 3) 22) [v155] r152.2.2.2, Own (sliceR (sliceR intR 3) 22) [v140] r139.2.1.2, Own (sliceR (sliceR intR 3) 22) [v142] r139.2.2.2, Own (sliceR (sliceR intR 3) 22) [v131] r130.2.1.2, Own (sliceR (sliceR intR 3) 22) [v133] r130.2.2.2, Own (sliceR (sliceR intR 3) 22) [v190] r189.2.1.2, Own (sliceR (sliceR intR 3) 22) [v192] r189.2.2.2, Box b173 42 [.string r165.1, .int .i64 r165.2.1.1, v166, .int .i64 r165.2.2.1, v168], Box b160 42 [.string r152.1, .int .i64 r152.2.1.1, v153, .int .i64 r152.2.2.1, v155], Box b107 37 [.string a5, .int .i64 a6, u7, .int .i64 a8, u9], Own (sliceR (sliceR intR 3) 22) [v215] r214.2.1.2, Own (sliceR (sliceR intR 3) 22) [v217] r214.2.2.2] := hS.top 13 rfl
          replace hS : Sat w0 w234 [Box b107 37 [.string a5, .int .i64 a6, u7, .int .i64 a8, u9], Box b103 37 [.string a0, .int .i64 a1, u2, .int .i64 a3, u4], Own (sliceR (sliceR intR 3) 22) [v166] r165.2.1.2, Own (sliceR (sliceR intR 3) 22) [v168] r165.2.2.2, Own (sliceR (sliceR intR 3) 22) [v153] r152.2.1.2, Own (sliceR (sliceR intR 3) 22) [v155] r152.2.2.2, Own (sliceR (sliceR intR 3) 22) [v140] r139.2.1.2, Own (sliceR (sliceR intR 3) 22) [v142] r139.2.2.2, Own (sliceR (sliceR intR 3) 22) [v131] r130.2.1.2, Own (sliceR (sliceR intR 3) 22) [v133] r130.2.2.2, Own (sliceR (sliceR intR 3) 22) [v190] r189.2.1.2, Own (sliceR (sliceR intR 3) 22) [v192] r189.2.2.2, Box b173 42 [.string r165.1, .int .i64 r165.2.1.1, v166, .int .i64 r165.2.2.1, v168], Box b160 42 [.string r152.1, .int .i64 r152.2.1.1, v153, .int .i64 r152.2.2.1, v155], Own (sliceR (sliceR intR 3) 22) [v215] r214.2.1.2, Own (sliceR (sliceR intR 3) 22) [v217] r214.2.2.2] := hS.top 13 rfl
          replace hS : Sat w0 w234 [Box b160 42 [.string r152.1, .int .i64 r152.2.1.1, v153, .int .i64 r152.2.2.1, v155], Box b107 37 [.string a5, .int .i64 a6, u7, .int .i64 a8, u9], Box b103 37 [.string a0, .int .i64 a1, u2, .int .i64 a3, u4], Own (sliceR (sliceR intR 3) 22) [v166] r165.2.1.2, Own (sliceR (sliceR intR 3) 22) [v168] r165.2.2.2, Own (sliceR (sliceR intR 3) 22) [v153] r152.2.1.2, Own (sliceR (sliceR intR 3) 22) [v155] r152.2.2.2, Own (sliceR (sliceR intR 3) 22) [v140] r139.2.1.2, Own (sliceR (sliceR intR 3) 22) [v142] r139.2.2.2, Own (sliceR (sliceR intR 3) 22) [v131] r130.2.1.2, Own (sliceR (sliceR intR 3) 22) [v133] r130.2.2.2, Own (sliceR (sliceR intR 3) 22) [v190] r189.2.1.2, Own (sliceR (sliceR intR 3) 22) [v192] r189.2.2.2, Box b173 42 [.string r165.1, .int .i64 r165.2.1.1, v166, .int .i64 r165.2.2.1, v168], Own (sliceR (sliceR intR 3) 22) [v215] r214.2.1.2, Own (sliceR (sliceR intR 3) 22) [v217] r214.2.2.2] := hS.top 13 rfl
          replace hS : Sat w0 w234 [Box b173 42 [.string r165.1, .int .i64 r165.2.1.1, v166, .int .i64 r165.2.2.1, v168], Box b160 42 [.string r152.1, .int .i64 r152.2.1.1, v153, .int .i64 r152.2.2.1, v155], Box b107 37 [.string a5, .int .i64 a6, u7, .int .i64 a8, u9], Box b103 37 [.string a0, .int .i64 a1, u2, .int .i64 a3, u4], Own (sliceR (sliceR intR 3) 22) [v166] r165.2.1.2, Own (sliceR (sliceR intR 3) 22) [v168] r165.2.2.2, Own (sliceR (sliceR intR 3) 22) [v153] r152.2.1.2, Own (sliceR (sliceR intR 3) 22) [v155] r152.2.2.2, Own (sliceR (sliceR intR 3) 22) [v140] r139.2.1.2, Own (sliceR (sliceR intR 3) 22) [v142] r139.2.2.2, Own (sliceR (sliceR intR 3) 22) [v131] r130.2.1.2, Own (sliceR (sliceR intR 3) 22) [v133] r130.2.2.2, Own (sliceR (sliceR intR 3) 22) [v190] r189.2.1.2, Own (sliceR (sliceR intR 3) 22) [v192] r189.2.2.2, Own (sliceR (sliceR intR 3) 22) [v215] r214.2.1.2, Own (sliceR (sliceR intR 3) 22) [v217] r214.2.2.2] := hS.top 13 rfl
          have hC := (hCd _).2 ⟨_, hS⟩
          refine ⟨fun _ => hC, ?_⟩
          refine al_p (v := .bool (!r233)) (by kernel_rfl) 4 rfl rfl (by decide) hC (by kernel_rfl) (by kernel_rfl) (sv_on rfl (fun w' hw' => by obtain ⟨_, hS⟩ := (hCd _).1 hw'; exact (pv_not rfl))) ?_
          refine al_nil (by kernel_rfl) ?_
          refine hQ211 _ _ _ ?_
          refine thn_n ?_
          replace hF := oif hF
          rcases hF with ⟨hb236, hF⟩ | ⟨hb236, hF⟩
          · refine cw_cond_f rfl (bnot_t hb236) ?_
            refine cw_skip ?_
            refine hQ210 _ _ _ ?_
            refine thn_n ?_
            refine cw_seq ?_
            refine cw_gen ?_
            intro Q237 hQ237
            refine cw_reg ?_
            refine el_pv (v := .bool true) (pv_assign rfl) (by decide) ?_
            refine el_nil ?_
            refine hQ237 _ _ _ ?_
            refine thn_n ?_
            refine cw_ret ?_
            refine fin1 rfl rfl ?_
            have hr := Option.some.inj hF
            exact ⟨congrArg (fun (r : Bool) => Ending.returned (.bool r)) hr, hS.below⟩
          · refine cw_cond_t rfl (bnot_f hb236) ?_
            refine cw_seq ?_
            refine cw_gen ?_
            intro Q238 hQ238
            refine cw_reg ?_
            refine el_pv (v := .bool false) (pv_assign rfl) (by decide) ?_
            refine el_nil ?_
            refine hQ238 _ _ _ ?_
            refine thn_n ?_
            refine cw_ret ?_
            refine hQ210 _ _ _ ?_
            refine thn_r ?_
            refine fin1 rfl rfl ?_
            have hr := Option.some.inj hF
            exact ⟨congrArg (fun (r : Bool) => Ending.returned (.bool r)) hr, hS.below⟩
        · refine cw_cond_t rfl (bnot_f hb209) ?_
          refine cw_seq ?_
          refine cw_gen ?_
          intro Q239 hQ239
          refine cw_reg ?_
          refine el_pv (v := .bool false) (pv_assign rfl) (by decide) ?_
          refine el_nil ?_
          refine hQ239 _ _ _ ?_
          refine thn_n ?_
          refine cw_ret ?_
          refine hQ185 _ _ _ ?_
          refine thn_r ?_
          refine fin1 rfl rfl ?_
          have hr := Option.some.inj hF
          exact ⟨congrArg (fun (r : Bool) => Ending.returned (.bool r)) hr, hS.below⟩
set_option maxHeartbeats 4000000 in
theorem impl_copyInts_ok {w0 : World} {u0 : Value} {a0 : List Int} (ha0 : (sliceR intR 3).rd w0 [u0] a0) {N : Nat} {r : (List Int)} (hF : impl_copyInts N a0 = some r) :
    Calls Try.prog 93 #[u0] w0 fun e w' => ∃ q0, e = .returned (q0) ∧ Sat w0 w' [Own (sliceR intR 3) [q0] r] := by
  unfold impl_copyInts at hF
  refine calls_E Try.func93 rfl rfl (of_decide_eq_true rfl) ?_
  have hS := Sat.start w0
  refine cw_seq ?_
  refine cw_gen ?_
  intro Q101 hQ101
  refine cw_reg ?_
  refine el_pv (v := (.slice none 0 0)) (pv_assign rfl) (by decide) ?_
  refine el_nil ?_
  refine hQ101 _ _ _ ?_
  refine thn_n ?_
  refine cw_seq ?_
  refine cw_gen ?_
  intro Q102 hQ102
  refine cw_reg ?_
  refine el_buildSlice0 intR hS (by decide) ?_
  intro w103 v105 hS hx104
  refine el_pv (v := u0) (pv_move rfl) (by decide) ?_
  replace hF := ob hF
  obtain ⟨x109, hx109, hF⟩ := hF
  obtain ⟨ao110, c111, hv112, hn113, hrow114⟩ := row_ints (hS.up ha0)
  replace hS := hS.ints (xs := a0)
  refine el_append rfl (by decide) rfl (by decide) hS rfl (rfl.trans hv112) rfl hn113 hrow114 hx109 (by decide) ?_
  intro w107 v108 hS
  refine el_pv (v := v108) (pv_assign rfl) (by decide) ?_
  refine el_nil ?_
  refine hQ102 _ _ _ ?_
  refine thn_n ?_
  refine cw_ret ?_
  refine fin1 rfl rfl ?_
  have hr := Option.some.inj hF
  exact ⟨v108, congrArg (fun (r : (List Int)) => Ending.returned (v108)) hr, Eq.mp (congrArg (fun (r : (List Int)) => Sat w0 w107 [Own (sliceR intR 3) [v108] r]) hr) (hS.keep 1)⟩
set_option maxHeartbeats 4000000 in
theorem impl_copyRows_ok {w0 : World} {u0 : Value} {a0 : List (List Int)} (ha0 : (sliceR (sliceR intR 3) 22).rd w0 [u0] a0) {N : Nat} {r : (List (List Int))} (hF : impl_copyRows N a0 = some r) :
    Calls Try.prog 83 #[u0] w0 fun e w' => ∃ q0, e = .returned (q0) ∧ Sat w0 w' [Own (sliceR (sliceR intR 3) 22) [q0] r] := by
  unfold impl_copyRows at hF
  refine calls_E Try.func83 rfl rfl (of_decide_eq_true rfl) ?_
  have hS := Sat.start w0
  refine cw_seq ?_
  refine cw_gen ?_
  intro Q101 hQ101
  refine cw_reg ?_
  refine el_pv (v := (.slice none 0 0)) (pv_assign rfl) (by decide) ?_
  refine el_nil ?_
  refine hQ101 _ _ _ ?_
  refine thn_n ?_
  refine cw_seq ?_
  refine cw_gen ?_
  intro Q102 hQ102
  refine cw_reg ?_
  refine el_pv (v := (.slice none 0 0)) (pv_assign rfl) (by decide) ?_
  refine el_nil ?_
  refine hQ102 _ _ _ ?_
  refine thn_n ?_
  refine cw_seq ?_
  refine cw_gen ?_
  intro Q103 hQ103
  refine cw_seq ?_
  refine cw_gen ?_
  intro Q104 hQ104
  refine cw_reg ?_
  refine el_pv (v := u0) (pv_move rfl) (by decide) ?_
  refine el_pv (v := .int .i64 (a0.length : Int)) (pv_len rfl ha0) (by decide) ?_
  refine el_pv (v := .int .i64 0) (pv_move rfl) (by decide) ?_
  refine el_nil ?_
  refine hQ104 _ _ _ ?_
  refine thn_n ?_
  refine cw_block ?_
  refine cw_gen ?_
  intro Q105 hQ105
  replace hS := hS.nil (sliceR intR 3) 22
  obtain ⟨s107, hL, hK108⟩ := ob hF
  refine cw_loopS (fun k e w => ∃ (v110 : Value), ∃ (x109 : List (List Int)), ∃ (x111 : Int), e 3 = v110 ∧ e 6 = u0 ∧ e 7 = .int .i64 (a0.length : Int) ∧ e 8 = .int .i64 x111 ∧ Sat w0 w [Own (sliceR (sliceR intR 3) 22) [v110] x109] ∧ impl_copyRows_L1 N k x109 a0 (a0.length : Int) x111 = some s107) N ?_ ?_ ?_
  · exact ⟨(.slice none 0 0), [], 0, rfl, rfl, rfl, rfl, hS, hL⟩
  · rintro e w ⟨_, _, _, _, _, _, _, _, hz⟩; exact nomatch (show none = some _ from hz)
  · rintro k e117 w116 ⟨v110, x109, x111, he112, he113, he114, he115, hS, hF⟩
    refine cw_gen ?_
    intro Q118 hQ118
    refine cw_seq ?_
    refine cw_gen ?_
    intro Q119 hQ119
    refine cw_reg ?_
    refine el_pv (v := .bool (decide (x111 < (a0.length : Int)))) (pv_lss he115 he114) (by decide) ?_
    refine el_nil ?_
    refine hQ119 _ _ _ ?_
    refine thn_n ?_
    refine cw_seq ?_
    refine cw_gen ?_
    intro Q120 hQ120
    replace hF := oif hF
    rcases hF with ⟨hb121, hF⟩ | ⟨hb121, hF⟩
    · refine cw_cond_t rfl hb121 ?_
      refine cw_skip ?_
      refine hQ120 _ _ _ ?_
      refine thn_n ?_
      refine cw_seq ?_
      refine cw_gen ?_
      intro Q122 hQ122
      refine cw_block ?_
      refine cw_gen ?_
      intro Q123 hQ123
      refine cw_seq ?_
      refine cw_gen ?_
      intro Q124 hQ124
      refine cw_reg ?_
      replace hF := ob hF
      obtain ⟨x125, hx125, hF⟩ := hF
      refine el_index (wA := w0) he113 ha0 rfl (by decide) he115 hx125 (by decide) ?_
      intro b126 of127 c128 hr129 hm130
      obtain ⟨v131, rfl⟩ := slice_one hr129
      refine el_pv (v := v131) (pv_loadc rfl ((cells_up hS.below hm130) 0 _ rfl)) (by decide) ?_
      refine el_pv (v := v131) (pv_assign rfl) (by decide) ?_
      refine el_nil ?_
      refine hQ124 _ _ _ ?_
      refine thn_n ?_
      refine cw_reg ?_
      refine el_pv (v := v110) (pv_move he112) (by decide) ?_
      refine el_pv (v := v131) (pv_move rfl) (by decide) ?_
      replace hF := ob hF
      obtain ⟨r132, hr132, hF⟩ := hF
      refine el_call goes93 (impl_copyInts_ok (hS.up hr129) hr132) (congrArg List.toArray (mapc rfl rfl)) (by decide) ?_
      rintro _ w135 ⟨v133, rfl, hS'⟩
      refine ⟨_, rfl, ?_⟩
      have hx136 := hS'.below
      replace hS := hS.call1 hS'
      refine el_buildSlice1 [v133] (cells_of rfl (oc (hS.rdAt (R := (sliceR intR 3)) 0 rfl))) (by rfl) (by decide) rfl (by decide) hS (by decide) ?_
      intro w137 b139 hS hx138
      replace hF := ob hF
      obtain ⟨x143, hx143, hF⟩ := hF
      have hrow144 := hS.boxRow 0 rfl
      replace hS : Sat w0 w137 [Own (sliceR (sliceR intR 3) 22) [v110] x109, Box b139 22 [v133], Own (sliceR intR 3) [v133] r132] := hS.top 2 rfl
      replace hS : Sat w0 w137 [Own (sliceR intR 3) [v133] r132, Own (sliceR (sliceR intR 3) 22) [v110] x109, Box b139 22 [v133]] := hS.top 2 rfl
      replace hS := hS.one
      refine el_append rfl (by decide) rfl (by decide) hS rfl rfl rfl (by simp) hrow144 hx143 (by decide) ?_
      intro w141 v142 hS
      refine el_pv (v := v142) (pv_assign rfl) (by decide) ?_
      refine el_nil ?_
      refine hQ123 _ _ _ ?_
      refine inb_n ?_
      refine hQ122 _ _ _ ?_
      refine thn_n ?_
      refine cw_reg ?_
      replace hF := ob hF
      obtain ⟨x146, hx146, hF⟩ := hF
      refine el_pv (v := .int .i64 x146) (pv_add he115 rfl hx146) (by decide) ?_
      refine el_pv (v := .int .i64 x146) (pv_move rfl) (by decide) ?_
      refine el_nil ?_
      refine hQ118 _ _ _ ?_
      refine thn_n ?_
      replace hS := hS.keep 1
      exact ⟨v142, x143, x146, rfl, he113, he114, rfl, hS, hF⟩
    · refine cw_cond_f rfl hb121 ?_
      refine cw_exit ?_
      refine hQ120 _ _ _ ?_
      refine thn_x ?_
      refine hQ118 _ _ _ ?_
      refine thn_x ?_
      replace hF := exB hF hK108
      refine hQ105 _ _ _ ?_
      refine inb_s ?_
      refine hQ103 _ _ _ ?_
      refine thn_n ?_
      refine cw_seq ?_
      refine cw_gen ?_
      intro Q147 hQ147
      refine cw_reg ?_
      refine el_pv (v := v110) (pv_move he112) (by decide) ?_
      refine el_pv (v := v110) (pv_assign rfl) (by decide) ?_
      refine el_nil ?_
      refine hQ147 _ _ _ ?_
      refine thn_n ?_
      refine cw_ret ?_
      refine fin1 rfl rfl ?_
      have hr := Option.some.inj hF
      exact ⟨v110, congrArg (fun (r : (List (List Int))) => Ending.returned (v110)) hr, Eq.mp (congrArg (fun (r : (List (List Int))) => Sat w0 w116 [Own (sliceR (sliceR intR 3) 22) [v110] r]) hr) (hS.keep 1)⟩
set_option maxHeartbeats 4000000 in
theorem impl_copyRelation_ok {w0 : World} {a0 : Int} {u1 : Value} {a1 : List (List Int)} (ha1 : (sliceR (sliceR intR 3) 22).rd w0 [u1] a1) {N : Nat} {r : Int × List (List Int)} (hF : impl_copyRelation N a0 a1 = some r) :
    Calls Try.prog 56 #[.agg #[.int .i64 a0, u1]] w0 fun e w' => ∃ q0, e = .returned (.agg #[.int .i64 r.1, q0]) ∧ Sat w0 w' [Own (sliceR (sliceR intR 3) 22) [q0] r.2] := by
  unfold impl_copyRelation at hF
  refine calls_E Try.func56 rfl rfl (of_decide_eq_true rfl) ?_
  have hS := Sat.start w0
  refine cw_seq ?_
  refine cw_gen ?_
  intro Q101 hQ101
  refine cw_reg ?_
  refine el_box [.int .i64 a0, u1] rfl hS (by decide) ?_
  intro w102 b103 hS hx104
  refine el_alloc hS (by decide) ?_
  intro w106 b107 hS hx108
  refine el_nil ?_
  refine hQ101 _ _ _ ?_
  refine thn_n ?_
  refine cw_seq ?_
  refine cw_gen ?_
  intro Q110 hQ110
  obtain ⟨C, hCd⟩ : ∃ C : World → Prop, ∀ w, C w ↔ ∃ G, Sat w0 w ([Box b107 40 [.int .i64 0, (.slice none 0 0)], Box b103 40 [.int .i64 a0, u1]] ++ G) := ⟨_, fun _ => Iff.rfl⟩
  refine cw_regb [0, 1, 2, 3, 4, 5] C (by kernel_rfl) ?_
  intro w111 hx112
  replace hS := hS.ext hx112
  replace hS : Sat w0 w111 [Box b103 40 [.int .i64 a0, u1], Box b107 40 [.int .i64 0, (.slice none 0 0)]] := hS.top 1 rfl
  replace hS : Sat w0 w111 [Box b107 40 [.int .i64 0, (.slice none 0 0)], Box b103 40 [.int .i64 a0, u1]] := hS.top 1 rfl
  have hC := (hCd _).2 ⟨_, hS⟩
  refine al_p (v := .pointer (some ⟨b103, 0 + 0, none⟩)) (by kernel_rfl) 0 rfl rfl (by decide) hC (by kernel_rfl) (by kernel_rfl) (sv_on rfl (fun w' hw' => by obtain ⟨_, hS⟩ := (hCd _).1 hw'; exact (pv_fieldAddr rfl))) ?_
  refine al_p (v := .int .i64 a0) (by kernel_rfl) 1 rfl rfl (by decide) hC (by kernel_rfl) (by kernel_rfl) (sv_on rfl (fun w' hw' => by obtain ⟨_, hS⟩ := (hCd _).1 hw'; exact (pv_loadc rfl ((hS.boxAt 1 rfl) 0 _ rfl)))) ?_
  refine al_p (v := .pointer (some ⟨b103, 0 + 1, none⟩)) (by kernel_rfl) 2 rfl rfl (by decide) hC (by kernel_rfl) (by kernel_rfl) (sv_on rfl (fun w' hw' => by obtain ⟨_, hS⟩ := (hCd _).1 hw'; exact (pv_fieldAddr rfl))) ?_
  refine al_p (v := u1) (by kernel_rfl) 3 rfl rfl (by decide) hC (by kernel_rfl) (by kernel_rfl) (sv_on rfl (fun w' hw' => by obtain ⟨_, hS⟩ := (hCd _).1 hw'; exact (pv_loadc rfl ((hS.boxAt 1 rfl) 1 _ rfl)))) ?_
  refine al_one 4 (by kernel_rfl) rfl ?_
  replace hF := ob hF
  obtain ⟨r113, hr113, hF⟩ := hF
  refine el_call goes83 (impl_copyRows_ok (hS.up ha1) hr113) (congrArg List.toArray (mapc rfl rfl)) (by decide) ?_
  rintro _ w116 ⟨v114, rfl, hS'⟩
  refine ⟨_, rfl, ?_⟩
  have hx117 := hS'.below
  replace hS := hS.call1 hS'
  refine el_nil ?_
  replace hS : Sat w0 w116 [Box b103 40 [.int .i64 a0, u1], Own (sliceR (sliceR intR 3) 22) [v114] r113, Box b107 40 [.int .i64 0, (.slice none 0 0)]] := hS.top 2 rfl
  replace hS : Sat w0 w116 [Box b107 40 [.int .i64 0, (.slice none 0 0)], Box b103 40 [.int .i64 a0, u1], Own (sliceR (sliceR intR 3) 22) [v114] r113] := hS.top 2 rfl
  have hC := (hCd _).2 ⟨_, hS⟩
  have hoc118 := oc (hS.rdAt (R := (sliceR (sliceR intR 3) 22)) 2 rfl)
  refine ⟨fun _ => hC, ?_⟩
  refine al_p (v := .agg #[.int .i64 a0, v114]) (by kernel_rfl) 5 rfl rfl (by decide) hC (by kernel_rfl) (by kernel_rfl) (sv_on rfl (fun w' hw' => by obtain ⟨_, hS⟩ := (hCd _).1 hw'; exact (pv_build [(0, [.int .i64 a0]), (1, [v114])] [.int .i64 a0, v114] (partc rfl (partc (cells_of rfl hoc118) rfl)) rfl))) ?_
  refine al_one 6 (by kernel_rfl) rfl ?_
  refine el_storev (hS.top 0 rfl) rfl [.int .i64 a0, v114] rfl rfl (of_decide_eq_true rfl) (all_cons rfl (all_cons (oc (hS.rdAt (R := (sliceR (sliceR intR 3) 22)) 2 rfl)) rfl)) ?_
  intro w119 hS
  replace hS : Sat w0 w119 [Box b107 40 [.int .i64 a0, v114], Box b103 40 [.int .i64 a0, u1], Own (sliceR (sliceR intR 3) 22) [v114] r113] := hS
  refine el_nil ?_
  refine ⟨fun h => (nomatch (show false = true from h)), ?_⟩
  refine al_nil (by kernel_rfl) ?_
  refine hQ110 _ _ _ ?_
  refine thn_n ?_
  refine cw_ret ?_
  refine finC (cs := [.int .i64 a0, v114]) rfl rfl rfl (boxc0 (hS.boxAt 0 rfl))  ?_
  replace hS : Sat w0 w119 [Own (sliceR (sliceR intR 3) 22) [v114] r113, Box b107 40 [.int .i64 a0, v114], Box b103 40 [.int .i64 a0, u1]] := hS.top 2 rfl
  have hr := Option.some.inj hF
  exact ⟨v114, congrArg (fun (r : Int × List (List Int)) => Ending.returned (.agg #[.int .i64 r.1, v114])) hr, Eq.mp (congrArg (fun (r : Int × List (List Int)) => Sat w0 w119 [Own (sliceR (sliceR intR 3) 22) [v114] r.2]) hr) (hS.keep 1)⟩
end Go.Proofs.Ytobjjdfgnaanjaa
