/- The walks through functions of the program: each hands back what it comes to. No condition but that it comes to something. -/
import Derived.Test.YtnanddmadghnnaaW5
import Derived.Test.YtnanddmadghnnaaW6D
namespace Go.Proofs.Ytnanddmadghnnaa
open Go.RowKit
set_option maxRecDepth 100000
set_option maxHeartbeats 4000000 in
theorem laws_markDelta_ok {w0 : World} {w00 : World} {G0 : List Asn} {a0 : ByteArray} {a1 : Int} {u2 : Value} {a2 : List (List Int)} {a3 : Int} {u4 : Value} {a4 : List (List Int)} {a5 : Int} (_ : a0.size ≤ 9223372036854775807) (hS : Sat w00 w0 (Own (sliceR (sliceR intR 3) 24) [u2] a2 :: Own (sliceR (sliceR intR 3) 24) [u4] a4 :: G0)) {N : Nat} {r : Int × (List (List Int)) × (List (List Int))} (hF : laws_markDelta N a0 a1 a2 a3 a4 a5 = some r) :
    Calls Try.prog 26 #[.agg #[.string a0, .int .i64 a1, u2, .int .i64 a3, u4], .int .i64 a5] w0 fun e w' => e = .returned (.int .i64 r.1) ∧ Sat w00 w' (Own (sliceR (sliceR intR 3) 24) [u2] r.2.1 :: Own (sliceR (sliceR intR 3) 24) [u4] r.2.2 :: G0) := by
  unfold laws_markDelta at hF
  refine calls_E Try.func26 rfl rfl (of_decide_eq_true rfl) ?_
  refine cw_seq ?_
  refine cw_gen ?_
  intro Q101 hQ101
  refine cw_reg ?_
  refine el_box [.string a0, .int .i64 a1, u2, .int .i64 a3, u4] rfl hS (by decide) ?_
  intro w102 b103 hS hx104
  refine el_pv (v := .int .i64 0) (pv_assign rfl) (by decide) ?_
  refine el_nil ?_
  refine hQ101 _ _ _ ?_
  refine thn_n ?_
  refine cw_seq ?_
  refine cw_gen ?_
  intro Q106 hQ106
  refine cw_reg ?_
  refine el_pv (v := .pointer (some ⟨b103, 0 + 1, none⟩)) (pv_fieldAddr rfl) (by decide) ?_
  refine el_pv (v := .agg #[.int .i64 a1, u2]) (pv_loada (cs := [.int .i64 a1, u2]) rfl rfl (boxc (hS.boxAt 0 rfl) 1 2)) (by decide) ?_
  refine el_pv (v := .int .i64 a5) (pv_move rfl) (by decide) ?_
  replace hS : Sat w00 w102 (Own (sliceR (sliceR intR 3) 24) [u2] a2 :: Box b103 48 [.string a0, .int .i64 a1, u2, .int .i64 a3, u4] :: Own (sliceR (sliceR intR 3) 24) [u4] a4 :: G0) := hS.tops 3 [1] rfl
  replace hF := ob hF
  obtain ⟨r107, hr107, hF⟩ := hF
  refine el_call goes49 (laws_markRelation_ok hS hr107) (congrArg List.toArray (mapc rfl (mapc rfl rfl))) (by decide) ?_
  rintro _ w108 ⟨rfl, hS⟩
  refine ⟨_, rfl, ?_⟩
  replace hS : Sat w00 w108 (Own (sliceR (sliceR intR 3) 24) [u2] r107.2 :: Box b103 48 [.string a0, .int .i64 a1, u2, .int .i64 a3, u4] :: Own (sliceR (sliceR intR 3) 24) [u4] a4 :: G0) := hS
  refine el_pv (v := .int .i64 r107.1) (pv_assign rfl) (by decide) ?_
  refine el_nil ?_
  refine hQ106 _ _ _ ?_
  refine thn_n ?_
  refine cw_seq ?_
  refine cw_gen ?_
  intro Q109 hQ109
  refine cw_reg ?_
  refine el_pv (v := .pointer (some ⟨b103, 0 + 3, none⟩)) (pv_fieldAddr rfl) (by decide) ?_
  refine el_pv (v := .agg #[.int .i64 a3, u4]) (pv_loada (cs := [.int .i64 a3, u4]) rfl rfl (boxc (hS.boxAt 1 rfl) 3 2)) (by decide) ?_
  refine el_pv (v := .int .i64 r107.1) (pv_move rfl) (by decide) ?_
  replace hS : Sat w00 w108 (Own (sliceR (sliceR intR 3) 24) [u4] a4 :: Own (sliceR (sliceR intR 3) 24) [u2] r107.2 :: Box b103 48 [.string a0, .int .i64 a1, u2, .int .i64 a3, u4] :: G0) := hS.tops 3 [2] rfl
  replace hF := ob hF
  obtain ⟨r110, hr110, hF⟩ := hF
  refine el_call goes49 (laws_markRelation_ok hS hr110) (congrArg List.toArray (mapc rfl (mapc rfl rfl))) (by decide) ?_
  rintro _ w111 ⟨rfl, hS⟩
  refine ⟨_, rfl, ?_⟩
  replace hS : Sat w00 w111 (Own (sliceR (sliceR intR 3) 24) [u4] r110.2 :: Own (sliceR (sliceR intR 3) 24) [u2] r107.2 :: Box b103 48 [.string a0, .int .i64 a1, u2, .int .i64 a3, u4] :: G0) := hS
  refine el_pv (v := .int .i64 r110.1) (pv_assign rfl) (by decide) ?_
  refine el_nil ?_
  refine hQ109 _ _ _ ?_
  refine thn_n ?_
  refine cw_seq ?_
  refine cw_gen ?_
  intro Q112 hQ112
  replace hS : Sat w00 w111 (Own (sliceR (sliceR intR 3) 24) [u4] r110.2 :: Own (sliceR (sliceR intR 3) 24) [u2] r107.2 :: G0) := hS.rems 3 [2] rfl
  refine cw_reg ?_
  refine el_pv (v := .int .i64 r110.1) (pv_move rfl) (by decide) ?_
  refine el_pv (v := .int .i64 r110.1) (pv_assign rfl) (by decide) ?_
  refine el_nil ?_
  refine hQ112 _ _ _ ?_
  refine thn_n ?_
  refine cw_ret ?_
  refine fin1 rfl rfl ?_
  replace hS : Sat w00 w111 (Own (sliceR (sliceR intR 3) 24) [u2] r107.2 :: Own (sliceR (sliceR intR 3) 24) [u4] r110.2 :: G0) := hS.tops 2 [1, 0] rfl
  have hr := Option.some.inj hF
  exact ⟨congrArg (fun (r : Int × (List (List Int)) × (List (List Int))) => Ending.returned (.int .i64 r.1)) hr, Eq.mp (congrArg (fun (r : Int × (List (List Int)) × (List (List Int))) => Sat w00 w111 (Own (sliceR (sliceR intR 3) 24) [u2] r.2.1 :: Own (sliceR (sliceR intR 3) 24) [u4] r.2.2 :: G0)) hr) hS⟩
set_option maxHeartbeats 4000000 in
theorem laws_heldIntSS_ok {w0 : World} {u0 : Value} {a0 : List (List Int)} {a1 : Int} (ha0 : (sliceR (sliceR intR 3) 24).rd w0 [u0] a0) {N : Nat} {r : Int} (hF : laws_heldIntSS N a0 a1 = some r) :
    Calls Try.prog 67 #[u0, .int .i64 a1] w0 fun e w' => e = .returned (.int .i64 r) ∧ Ext w0 w' := by
  unfold laws_heldIntSS at hF
  refine calls_E Try.func67 rfl rfl (of_decide_eq_true rfl) ?_
  have hS := Sat.start w0
  refine cw_seq ?_
  refine cw_gen ?_
  intro Q101 hQ101
  refine cw_reg ?_
  refine el_pv (v := .int .i64 0) (pv_assign rfl) (by decide) ?_
  refine el_nil ?_
  refine hQ101 _ _ _ ?_
  refine thn_n ?_
  refine cw_seq ?_
  refine cw_gen ?_
  intro Q102 hQ102
  refine cw_seq ?_
  refine cw_gen ?_
  intro Q103 hQ103
  refine cw_reg ?_
  refine el_pv (v := .int .i64 0) (pv_assign rfl) (by decide) ?_
  refine el_nil ?_
  refine hQ103 _ _ _ ?_
  refine thn_n ?_
  refine cw_block ?_
  refine cw_gen ?_
  intro Q104 hQ104
  obtain ⟨s105, hL, hK106⟩ := ob hF
  refine cw_loopS (fun k e w => ∃ (x107 : Int), ∃ (x108 : Int), e 0 = u0 ∧ e 1 = .int .i64 x107 ∧ e 5 = .int .i64 x108 ∧ Sat w0 w [] ∧ laws_heldIntSS_L1 N k a0 x107 x108 = some s105) N ?_ ?_ ?_
  · exact ⟨a1, 0, rfl, rfl, rfl, hS, hL⟩
  · rintro e w ⟨_, _, _, _, _, _, hz⟩; exact nomatch (show none = some _ from hz)
  · rintro k e113 w112 ⟨x107, x108, he109, he110, he111, hS, hF⟩
    refine cw_gen ?_
    intro Q114 hQ114
    refine cw_seq ?_
    refine cw_gen ?_
    intro Q115 hQ115
    refine cw_seq ?_
    refine cw_gen ?_
    intro Q116 hQ116
    refine cw_reg ?_
    refine el_pv (v := .int .i64 x108) (pv_move he111) (by decide) ?_
    refine el_pv (v := u0) (pv_move he109) (by decide) ?_
    refine el_pv (v := .int .i64 (a0.length : Int)) (pv_len rfl ha0) (by decide) ?_
    refine el_pv (v := .bool (decide (x108 < (a0.length : Int)))) (pv_lss rfl rfl) (by decide) ?_
    refine el_nil ?_
    refine hQ116 _ _ _ ?_
    refine thn_n ?_
    replace hF := oif hF
    rcases hF with ⟨hb117, hF⟩ | ⟨hb117, hF⟩
    · refine cw_cond_t rfl hb117 ?_
      refine cw_skip ?_
      refine hQ115 _ _ _ ?_
      refine thn_n ?_
      refine cw_seq ?_
      refine cw_gen ?_
      intro Q118 hQ118
      refine cw_block ?_
      refine cw_gen ?_
      intro Q119 hQ119
      refine cw_seq ?_
      refine cw_gen ?_
      intro Q120 hQ120
      refine cw_reg ?_
      refine el_pv (v := u0) (pv_move he109) (by decide) ?_
      refine el_pv (v := .int .i64 x108) (pv_move he111) (by decide) ?_
      replace hF := ob hF
      obtain ⟨x121, hx121, hF⟩ := hF
      refine el_index (wA := w0) rfl ha0 rfl (by decide) rfl hx121 (by decide) ?_
      intro b122 of123 c124 hr125 hm126
      obtain ⟨v127, rfl⟩ := slice_one hr125
      refine el_pv (v := v127) (pv_loadc rfl ((cells_up hS.below hm126) 0 _ rfl)) (by decide) ?_
      refine el_pv (v := .int .i64 x107) (pv_move he110) (by decide) ?_
      replace hF := ob hF
      obtain ⟨r128, hr128, hF⟩ := hF
      refine el_call goes14 (laws_heldIntS_ok (hS.up hr125) hr128) (congrArg List.toArray (mapc rfl (mapc rfl rfl))) (by decide) ?_
      rintro _ w129 ⟨rfl, hx130⟩
      refine ⟨_, rfl, ?_⟩
      replace hS := hS.ext hx130
      refine el_pv (v := .int .i64 r128) (pv_assign rfl) (by decide) ?_
      refine el_nil ?_
      refine hQ120 _ _ _ ?_
      refine thn_n ?_
      refine cw_seq ?_
      refine cw_gen ?_
      intro Q131 hQ131
      refine cw_reg ?_
      refine el_pv (v := .int .i64 r128) (pv_move rfl) (by decide) ?_
      refine el_pv (v := .bool (decide (r128 < 0))) (pv_lss rfl rfl) (by decide) ?_
      refine el_nil ?_
      refine hQ131 _ _ _ ?_
      refine thn_n ?_
      replace hF := oif hF
      rcases hF with ⟨hb132, hF⟩ | ⟨hb132, hF⟩
      · refine cw_cond_t rfl hb132 ?_
        refine cw_seq ?_
        refine cw_gen ?_
        intro Q133 hQ133
        refine cw_reg ?_
        refine el_pv (v := .int .i64 (-1)) (pv_assign rfl) (by decide) ?_
        refine el_nil ?_
        refine hQ133 _ _ _ ?_
        refine thn_n ?_
        refine cw_ret ?_
        refine hQ119 _ _ _ ?_
        refine inb_r ?_
        refine hQ118 _ _ _ ?_
        refine thn_r ?_
        refine hQ114 _ _ _ ?_
        refine thn_r ?_
        refine hQ104 _ _ _ ?_
        refine inb_r ?_
        refine hQ102 _ _ _ ?_
        refine thn_r ?_
        replace hF := exL hF hK106
        refine fin1 rfl rfl ?_
        have hr := Option.some.inj hF
        exact ⟨congrArg (fun (r : Int) => Ending.returned (.int .i64 r)) hr, hS.below⟩
      · refine cw_cond_f rfl hb132 ?_
        refine cw_skip ?_
        refine hQ119 _ _ _ ?_
        refine inb_n ?_
        refine hQ118 _ _ _ ?_
        refine thn_n ?_
        refine cw_reg ?_
        refine el_pv (v := .int .i64 x108) (pv_move he111) (by decide) ?_
        replace hF := ob hF
        obtain ⟨x134, hx134, hF⟩ := hF
        refine el_pv (v := .int .i64 x134) (pv_add rfl rfl hx134) (by decide) ?_
        refine el_pv (v := .int .i64 x134) (pv_assign rfl) (by decide) ?_
        refine el_nil ?_
        refine hQ114 _ _ _ ?_
        refine thn_n ?_
        replace hS := hS.keep 0
        exact ⟨r128, x134, he109, rfl, rfl, hS, hF⟩
    · refine cw_cond_f rfl hb117 ?_
      refine cw_exit ?_
      refine hQ115 _ _ _ ?_
      refine thn_x ?_
      refine hQ114 _ _ _ ?_
      refine thn_x ?_
      replace hF := exA hF hK106
      refine hQ104 _ _ _ ?_
      refine inb_s ?_
      refine hQ102 _ _ _ ?_
      refine thn_n ?_
      refine cw_seq ?_
      refine cw_gen ?_
      intro Q135 hQ135
      refine cw_reg ?_
      refine el_pv (v := .int .i64 x107) (pv_move he110) (by decide) ?_
      refine el_pv (v := .int .i64 x107) (pv_assign rfl) (by decide) ?_
      refine el_nil ?_
      refine hQ135 _ _ _ ?_
      refine thn_n ?_
      refine cw_ret ?_
      refine fin1 rfl rfl ?_
      have hr := Option.some.inj hF
      exact ⟨congrArg (fun (r : Int) => Ending.returned (.int .i64 r)) hr, hS.below⟩
set_option maxHeartbeats 4000000 in
theorem laws_heldRelation_ok {w0 : World} {a0 : Int} {u1 : Value} {a1 : List (List Int)} {a2 : Int} (ha1 : (sliceR (sliceR intR 3) 24).rd w0 [u1] a1) {N : Nat} {r : Int} (hF : laws_heldRelation N a0 a1 a2 = some r) :
    Calls Try.prog 50 #[.agg #[.int .i64 a0, u1], .int .i64 a2] w0 fun e w' => e = .returned (.int .i64 r) ∧ Ext w0 w' := by
  unfold laws_heldRelation at hF
  refine calls_E Try.func50 rfl rfl (of_decide_eq_true rfl) ?_
  have hS := Sat.start w0
  refine cw_seq ?_
  refine cw_gen ?_
  intro Q101 hQ101
  refine cw_reg ?_
  refine el_box [.int .i64 a0, u1] rfl hS (by decide) ?_
  intro w102 b103 hS hx104
  refine el_pv (v := .int .i64 0) (pv_assign rfl) (by decide) ?_
  refine el_nil ?_
  refine hQ101 _ _ _ ?_
  refine thn_n ?_
  refine cw_seq ?_
  refine cw_gen ?_
  intro Q106 hQ106
  refine cw_reg ?_
  refine el_pv (v := .pointer (some ⟨b103, 0 + 1, none⟩)) (pv_fieldAddr rfl) (by decide) ?_
  refine el_pv (v := u1) (pv_loadc rfl ((hS.boxAt 0 rfl) 1 _ rfl)) (by decide) ?_
  refine el_pv (v := .int .i64 a2) (pv_move rfl) (by decide) ?_
  replace hF := ob hF
  obtain ⟨r107, hr107, hF⟩ := hF
  refine el_call goes67 (laws_heldIntSS_ok (hS.up ha1) hr107) (congrArg List.toArray (mapc rfl (mapc rfl rfl))) (by decide) ?_
  rintro _ w108 ⟨rfl, hx109⟩
  refine ⟨_, rfl, ?_⟩
  replace hS := hS.ext hx109
  refine el_pv (v := .int .i64 r107) (pv_assign rfl) (by decide) ?_
  refine el_nil ?_
  refine hQ106 _ _ _ ?_
  refine thn_n ?_
  refine cw_seq ?_
  refine cw_gen ?_
  intro Q110 hQ110
  refine cw_seq ?_
  refine cw_gen ?_
  intro Q111 hQ111
  replace hS : Sat w0 w108 [] := hS.rems 1 [0] rfl
  refine cw_reg ?_
  refine el_pv (v := .int .i64 r107) (pv_move rfl) (by decide) ?_
  refine el_pv (v := .bool (decide (r107 < 0))) (pv_lss rfl rfl) (by decide) ?_
  refine el_nil ?_
  refine hQ111 _ _ _ ?_
  refine thn_n ?_
  replace hF := oif hF
  rcases hF with ⟨hb112, hF⟩ | ⟨hb112, hF⟩
  · refine cw_cond_t rfl hb112 ?_
    refine cw_seq ?_
    refine cw_gen ?_
    intro Q113 hQ113
    refine cw_reg ?_
    refine el_pv (v := .int .i64 (-1)) (pv_assign rfl) (by decide) ?_
    refine el_nil ?_
    refine hQ113 _ _ _ ?_
    refine thn_n ?_
    refine cw_ret ?_
    refine hQ110 _ _ _ ?_
    refine thn_r ?_
    refine fin1 rfl rfl ?_
    have hr := Option.some.inj hF
    exact ⟨congrArg (fun (r : Int) => Ending.returned (.int .i64 r)) hr, hS.below⟩
  · refine cw_cond_f rfl hb112 ?_
    refine cw_skip ?_
    refine hQ110 _ _ _ ?_
    refine thn_n ?_
    refine cw_seq ?_
    refine cw_gen ?_
    intro Q114 hQ114
    refine cw_reg ?_
    refine el_pv (v := .int .i64 r107) (pv_move rfl) (by decide) ?_
    refine el_pv (v := .int .i64 r107) (pv_assign rfl) (by decide) ?_
    refine el_nil ?_
    refine hQ114 _ _ _ ?_
    refine thn_n ?_
    refine cw_ret ?_
    refine fin1 rfl rfl ?_
    have hr := Option.some.inj hF
    exact ⟨congrArg (fun (r : Int) => Ending.returned (.int .i64 r)) hr, hS.below⟩
set_option maxHeartbeats 4000000 in
theorem laws_heldDelta_ok {w0 : World} {a0 : ByteArray} {a1 : Int} {u2 : Value} {a2 : List (List Int)} {a3 : Int} {u4 : Value} {a4 : List (List Int)} {a5 : Int} (_ : a0.size ≤ 9223372036854775807) (ha2 : (sliceR (sliceR intR 3) 24).rd w0 [u2] a2) (ha4 : (sliceR (sliceR intR 3) 24).rd w0 [u4] a4) {N : Nat} {r : Int} (hF : laws_heldDelta N a0 a1 a2 a3 a4 a5 = some r) :
    Calls Try.prog 27 #[.agg #[.string a0, .int .i64 a1, u2, .int .i64 a3, u4], .int .i64 a5] w0 fun e w' => e = .returned (.int .i64 r) ∧ Ext w0 w' := by
  unfold laws_heldDelta at hF
  refine calls_E Try.func27 rfl rfl (of_decide_eq_true rfl) ?_
  have hS := Sat.start w0
  refine cw_seq ?_
  refine cw_gen ?_
  intro Q101 hQ101
  refine cw_reg ?_
  refine el_box [.string a0, .int .i64 a1, u2, .int .i64 a3, u4] rfl hS (by decide) ?_
  intro w102 b103 hS hx104
  refine el_pv (v := .int .i64 0) (pv_assign rfl) (by decide) ?_
  refine el_nil ?_
  refine hQ101 _ _ _ ?_
  refine thn_n ?_
  refine cw_seq ?_
  refine cw_gen ?_
  intro Q106 hQ106
  refine cw_reg ?_
  refine el_pv (v := .pointer (some ⟨b103, 0 + 1, none⟩)) (pv_fieldAddr rfl) (by decide) ?_
  refine el_pv (v := .agg #[.int .i64 a1, u2]) (pv_loada (cs := [.int .i64 a1, u2]) rfl rfl (boxc (hS.boxAt 0 rfl) 1 2)) (by decide) ?_
  refine el_pv (v := .int .i64 a5) (pv_move rfl) (by decide) ?_
  replace hF := ob hF
  obtain ⟨r107, hr107, hF⟩ := hF
  refine el_call goes50 (laws_heldRelation_ok (hS.up ha2) hr107) (congrArg List.toArray (mapc rfl (mapc rfl rfl))) (by decide) ?_
  rintro _ w108 ⟨rfl, hx109⟩
  refine ⟨_, rfl, ?_⟩
  replace hS := hS.ext hx109
  refine el_pv (v := .int .i64 r107) (pv_assign rfl) (by decide) ?_
  refine el_nil ?_
  refine hQ106 _ _ _ ?_
  refine thn_n ?_
  refine cw_seq ?_
  refine cw_gen ?_
  intro Q110 hQ110
  refine cw_seq ?_
  refine cw_gen ?_
  intro Q111 hQ111
  refine cw_reg ?_
  refine el_pv (v := .int .i64 r107) (pv_move rfl) (by decide) ?_
  refine el_pv (v := .bool (decide (r107 < 0))) (pv_lss rfl rfl) (by decide) ?_
  refine el_nil ?_
  refine hQ111 _ _ _ ?_
  refine thn_n ?_
  replace hF := oif hF
  rcases hF with ⟨hb112, hF⟩ | ⟨hb112, hF⟩
  · refine cw_cond_t rfl hb112 ?_
    refine cw_seq ?_
    refine cw_gen ?_
    intro Q113 hQ113
    replace hS : Sat w0 w108 [] := hS.rems 1 [0] rfl
    refine cw_reg ?_
    refine el_pv (v := .int .i64 (-1)) (pv_assign rfl) (by decide) ?_
    refine el_nil ?_
    refine hQ113 _ _ _ ?_
    refine thn_n ?_
    refine cw_ret ?_
    refine hQ110 _ _ _ ?_
    refine thn_r ?_
    refine fin1 rfl rfl ?_
    have hr := Option.some.inj hF
    exact ⟨congrArg (fun (r : Int) => Ending.returned (.int .i64 r)) hr, hS.below⟩
  · refine cw_cond_f rfl hb112 ?_
    refine cw_skip ?_
    refine hQ110 _ _ _ ?_
    refine thn_n ?_
    refine cw_seq ?_
    refine cw_gen ?_
    intro Q114 hQ114
    refine cw_reg ?_
    refine el_pv (v := .pointer (some ⟨b103, 0 + 3, none⟩)) (pv_fieldAddr rfl) (by decide) ?_
    refine el_pv (v := .agg #[.int .i64 a3, u4]) (pv_loada (cs := [.int .i64 a3, u4]) rfl rfl (boxc (hS.boxAt 0 rfl) 3 2)) (by decide) ?_
    refine el_pv (v := .int .i64 r107) (pv_move rfl) (by decide) ?_
    replace hF := ob hF
    obtain ⟨r115, hr115, hF⟩ := hF
    refine el_call goes50 (laws_heldRelation_ok (hS.up ha4) hr115) (congrArg List.toArray (mapc rfl (mapc rfl rfl))) (by decide) ?_
    rintro _ w116 ⟨rfl, hx117⟩
    refine ⟨_, rfl, ?_⟩
    replace hS := hS.ext hx117
    refine el_pv (v := .int .i64 r115) (pv_assign rfl) (by decide) ?_
    refine el_nil ?_
    refine hQ114 _ _ _ ?_
    refine thn_n ?_
    refine cw_seq ?_
    refine cw_gen ?_
    intro Q118 hQ118
    refine cw_seq ?_
    refine cw_gen ?_
    intro Q119 hQ119
    replace hS : Sat w0 w116 [] := hS.rems 1 [0] rfl
    refine cw_reg ?_
    refine el_pv (v := .int .i64 r115) (pv_move rfl) (by decide) ?_
    refine el_pv (v := .bool (decide (r115 < 0))) (pv_lss rfl rfl) (by decide) ?_
    refine el_nil ?_
    refine hQ119 _ _ _ ?_
    refine thn_n ?_
    replace hF := oif hF
    rcases hF with ⟨hb120, hF⟩ | ⟨hb120, hF⟩
    · refine cw_cond_t rfl hb120 ?_
      refine cw_seq ?_
      refine cw_gen ?_
      intro Q121 hQ121
      refine cw_reg ?_
      refine el_pv (v := .int .i64 (-1)) (pv_assign rfl) (by decide) ?_
      refine el_nil ?_
      refine hQ121 _ _ _ ?_
      refine thn_n ?_
      refine cw_ret ?_
      refine hQ118 _ _ _ ?_
      refine thn_r ?_
      refine fin1 rfl rfl ?_
      have hr := Option.some.inj hF
      exact ⟨congrArg (fun (r : Int) => Ending.returned (.int .i64 r)) hr, hS.below⟩
    · refine cw_cond_f rfl hb120 ?_
      refine cw_skip ?_
      refine hQ118 _ _ _ ?_
      refine thn_n ?_
      refine cw_seq ?_
      refine cw_gen ?_
      intro Q122 hQ122
      refine cw_reg ?_
      refine el_pv (v := .int .i64 r115) (pv_move rfl) (by decide) ?_
      refine el_pv (v := .int .i64 r115) (pv_assign rfl) (by decide) ?_
      refine el_nil ?_
      refine hQ122 _ _ _ ?_
      refine thn_n ?_
      refine cw_ret ?_
      refine fin1 rfl rfl ?_
      have hr := Option.some.inj hF
      exact ⟨congrArg (fun (r : Int) => Ending.returned (.int .i64 r)) hr, hS.below⟩
set_option maxHeartbeats 4000000 in
theorem laws_FnExactDiffDatabases_ok {w0 : World} {u0 : Value} {a0 : List (ByteArray × (Int × List (List Int)))} {u1 : Value} {a1 : List (ByteArray × (Int × List (List Int)))} {a2 : ByteArray} (ha0 : (sliceR (pairR strR (pairR intR (sliceR (sliceR intR 3) 24))) 76).rd w0 [u0] a0) (ha1 : (sliceR (pairR strR (pairR intR (sliceR (sliceR intR 3) 24))) 76).rd w0 [u1] a1) (ha2 : a2.size ≤ 9223372036854775807) {N : Nat} {r : Bool} (hF : laws_FnExactDiffDatabases N a0 a1 a2 = some r) :
    Calls Try.prog 5 #[.agg #[u0], .agg #[u1], .string a2] w0 fun e w' => e = .returned (.bool r) ∧ Ext w0 w' := by
  unfold laws_FnExactDiffDatabases at hF
  refine calls_E Try.func5 rfl rfl (of_decide_eq_true rfl) ?_
  have hS := Sat.start w0
  refine cw_seq ?_
  refine cw_gen ?_
  intro Q101 hQ101
  refine cw_reg ?_
  refine el_box [u0] rfl hS (by decide) ?_
  intro w102 b103 hS hx104
  refine el_box [u1] rfl hS (by decide) ?_
  intro w106 b107 hS hx108
  refine el_pv (v := .bool false) (pv_assign rfl) (by decide) ?_
  refine el_nil ?_
  refine hQ101 _ _ _ ?_
  refine thn_n ?_
  refine cw_seq ?_
  refine cw_gen ?_
  intro Q110 hQ110
  refine cw_seq ?_
  refine cw_gen ?_
  intro Q111 hQ111
  refine cw_reg ?_
  refine el_pv (v := .string a2) (pv_move rfl) (by decide) ?_
  refine el_pv (v := .int .i64 (a2.size : Int)) (pv_lenS Try.underlying9 rfl) (by decide) ?_
  refine el_pv (v := .bool (decide (1048576 < (a2.size : Int)))) (pv_gtr rfl rfl) (by decide) ?_
  refine el_nil ?_
  refine hQ111 _ _ _ ?_
  refine thn_n ?_
  replace hF := oif hF
  rcases hF with ⟨hb112, hF⟩ | ⟨hb112, hF⟩
  · refine cw_cond_t rfl hb112 ?_
    refine cw_seq ?_
    refine cw_gen ?_
    intro Q113 hQ113
    replace hS : Sat w0 w106 [] := hS.rems 2 [0, 1] rfl
    refine cw_reg ?_
    refine el_pv (v := .bool true) (pv_assign rfl) (by decide) ?_
    refine el_nil ?_
    refine hQ113 _ _ _ ?_
    refine thn_n ?_
    refine cw_ret ?_
    refine hQ110 _ _ _ ?_
    refine thn_r ?_
    refine fin1 rfl rfl ?_
    have hr := Option.some.inj hF
    exact ⟨congrArg (fun (r : Bool) => Ending.returned (.bool r)) hr, hS.below⟩
  · refine cw_cond_f rfl hb112 ?_
    refine cw_skip ?_
    refine hQ110 _ _ _ ?_
    refine thn_n ?_
    refine cw_seq ?_
    refine cw_gen ?_
    intro Q114 hQ114
    refine cw_reg ?_
    refine el_pv (v := .int .i64 1048576) (pv_assign rfl) (by decide) ?_
    refine el_nil ?_
    refine hQ114 _ _ _ ?_
    refine thn_n ?_
    refine cw_seq ?_
    refine cw_gen ?_
    intro Q115 hQ115
    refine cw_reg ?_
    refine el_pv (v := .agg #[u0]) (pv_loada (cs := [u0]) rfl rfl (boxc0 (hS.boxAt 1 rfl))) (by decide) ?_
    refine el_pv (v := .int .i64 1048576) (pv_move rfl) (by decide) ?_
    replace hF := ob hF
    obtain ⟨r116, hr116, hF⟩ := hF
    refine el_call goes15 (laws_szDatabase_ok (hS.up ha0) hr116) (congrArg List.toArray (mapc rfl (mapc rfl rfl))) (by decide) ?_
    rintro _ w117 ⟨rfl, hx118⟩
    refine ⟨_, rfl, ?_⟩
    replace hS := hS.ext hx118
    refine el_pv (v := .int .i64 r116) (pv_assign rfl) (by decide) ?_
    refine el_nil ?_
    refine hQ115 _ _ _ ?_
    refine thn_n ?_
    refine cw_seq ?_
    refine cw_gen ?_
    intro Q119 hQ119
    refine cw_seq ?_
    refine cw_gen ?_
    intro Q120 hQ120
    refine cw_reg ?_
    refine el_pv (v := .int .i64 r116) (pv_move rfl) (by decide) ?_
    refine el_pv (v := .bool (decide (r116 < 0))) (pv_lss rfl rfl) (by decide) ?_
    refine el_nil ?_
    refine hQ120 _ _ _ ?_
    refine thn_n ?_
    replace hF := oif hF
    rcases hF with ⟨hb121, hF⟩ | ⟨hb121, hF⟩
    · refine cw_cond_t rfl hb121 ?_
      refine cw_seq ?_
      refine cw_gen ?_
      intro Q122 hQ122
      replace hS : Sat w0 w117 [] := hS.rems 2 [0, 1] rfl
      refine cw_reg ?_
      refine el_pv (v := .bool true) (pv_assign rfl) (by decide) ?_
      refine el_nil ?_
      refine hQ122 _ _ _ ?_
      refine thn_n ?_
      refine cw_ret ?_
      refine hQ119 _ _ _ ?_
      refine thn_r ?_
      refine fin1 rfl rfl ?_
      have hr := Option.some.inj hF
      exact ⟨congrArg (fun (r : Bool) => Ending.returned (.bool r)) hr, hS.below⟩
    · refine cw_cond_f rfl hb121 ?_
      refine cw_skip ?_
      refine hQ119 _ _ _ ?_
      refine thn_n ?_
      refine cw_seq ?_
      refine cw_gen ?_
      intro Q123 hQ123
      refine cw_reg ?_
      refine el_pv (v := .agg #[u1]) (pv_loada (cs := [u1]) rfl rfl (boxc0 (hS.boxAt 0 rfl))) (by decide) ?_
      refine el_pv (v := .int .i64 r116) (pv_move rfl) (by decide) ?_
      replace hF := ob hF
      obtain ⟨r124, hr124, hF⟩ := hF
      refine el_call goes15 (laws_szDatabase_ok (hS.up ha1) hr124) (congrArg List.toArray (mapc rfl (mapc rfl rfl))) (by decide) ?_
      rintro _ w125 ⟨rfl, hx126⟩
      refine ⟨_, rfl, ?_⟩
      replace hS := hS.ext hx126
      refine el_pv (v := .int .i64 r124) (pv_assign rfl) (by decide) ?_
      refine el_nil ?_
      refine hQ123 _ _ _ ?_
      refine thn_n ?_
      refine cw_seq ?_
      refine cw_gen ?_
      intro Q127 hQ127
      refine cw_seq ?_
      refine cw_gen ?_
      intro Q128 hQ128
      refine cw_reg ?_
      refine el_pv (v := .int .i64 r124) (pv_move rfl) (by decide) ?_
      refine el_pv (v := .bool (decide (r124 < 0))) (pv_lss rfl rfl) (by decide) ?_
      refine el_nil ?_
      refine hQ128 _ _ _ ?_
      refine thn_n ?_
      replace hF := oif hF
      rcases hF with ⟨hb129, hF⟩ | ⟨hb129, hF⟩
      · refine cw_cond_t rfl hb129 ?_
        refine cw_seq ?_
        refine cw_gen ?_
        intro Q130 hQ130
        replace hS : Sat w0 w125 [] := hS.rems 2 [0, 1] rfl
        refine cw_reg ?_
        refine el_pv (v := .bool true) (pv_assign rfl) (by decide) ?_
        refine el_nil ?_
        refine hQ130 _ _ _ ?_
        refine thn_n ?_
        refine cw_ret ?_
        refine hQ127 _ _ _ ?_
        refine thn_r ?_
        refine fin1 rfl rfl ?_
        have hr := Option.some.inj hF
        exact ⟨congrArg (fun (r : Bool) => Ending.returned (.bool r)) hr, hS.below⟩
      · refine cw_cond_f rfl hb129 ?_
        refine cw_skip ?_
        refine hQ127 _ _ _ ?_
        refine thn_n ?_
        refine cw_seq ?_
        refine cw_gen ?_
        intro Q131 hQ131
        replace hF := ob hF
        obtain ⟨r134, hr134, hF⟩ := hF
        replace hF := ob hF
        obtain ⟨r139, hr139, hF⟩ := hF
        replace hF := ob hF
        obtain ⟨r144, hr144, hF⟩ := hF
        refine cw_mid (fun e w => ∃ (b153 : Nat), ∃ (v145 : Value), ∃ (v146 : Value), e 2 = .string a2 ∧ e 3 = .pointer (some ⟨b103, 0, none⟩) ∧ e 4 = .pointer (some ⟨b107, 0, none⟩) ∧ e 8 = .pointer (some ⟨b153, 0, none⟩) ∧ e 9 = .bool r144.2 ∧ r144.1.1.size ≤ 9223372036854775807 ∧ Sat w0 w [Box b107 34 [u1], Box b103 34 [u0], Box b153 48 [.string r144.1.1, .int .i64 r144.1.2.1.1, v145, .int .i64 r144.1.2.2.1, v146], Own (sliceR (sliceR intR 3) 24) [v145] r144.1.2.1.2, Own (sliceR (sliceR intR 3) 24) [v146] r144.1.2.2.2]) ?_ ?_
        · obtain ⟨C, hCd⟩ : ∃ C : World → Prop, ∀ w, C w ↔ ∃ G, Sat w0 w ([Box b107 34 [u1], Box b103 34 [u0]] ++ G) := ⟨_, fun _ => Iff.rfl⟩
          refine cw_regb [0, 1, 2, 3, 4, 5, 6, 7, 8, 9, 10, 11] C (by kernel_rfl) ?_
          intro w157 hx158
          replace hS := hS.ext hx158
          have hC := (hCd _).2 ⟨_, hS⟩
          refine al_p (v := .agg #[u0]) (by kernel_rfl) 0 rfl rfl (by decide) hC (by kernel_rfl) (by kernel_rfl) (sv_on rfl (fun w' hw' => by obtain ⟨_, hS⟩ := (hCd _).1 hw'; exact (pv_loada (cs := [u0]) rfl rfl (boxc0 (hS.boxAt 1 rfl))))) ?_
          refine al_p (v := .agg #[u1]) (by kernel_rfl) 2 rfl rfl (by decide) hC (by kernel_rfl) (by kernel_rfl) (sv_on rfl (fun w' hw' => by obtain ⟨_, hS⟩ := (hCd _).1 hw'; exact (pv_loada (cs := [u1]) rfl rfl (boxc0 (hS.boxAt 0 rfl))))) ?_
          refine al_p (v := .string a2) (by kernel_rfl) 4 rfl rfl (by decide) hC (by kernel_rfl) (by kernel_rfl) (sv_on rfl (fun w' hw' => by obtain ⟨_, hS⟩ := (hCd _).1 hw'; exact (pv_move rfl))) ?_
          refine al_two 1 9 (by kernel_rfl) rfl rfl ?_ ?_
          · refine el_call goes18 (laws_toDatabase_ok (hS.up ha0) hr134) (congrArg List.toArray (mapc rfl rfl)) (by decide) ?_
            rintro _ w137 ⟨v135, rfl, hS'⟩
            refine ⟨_, rfl, ?_⟩
            have hx138 := hS'.below
            replace hS := hS.call1 hS'
            refine el_nil ?_
            replace hS : Sat w0 w137 [Box b107 34 [u1], Box b103 34 [u0], Own (sliceR (pairR strR (pairR intR (sliceR (sliceR intR 3) 24))) 80) [v135] r134] := hS.tops 3 [1, 2] rfl
            have hC := (hCd _).2 ⟨_, hS⟩
            refine ⟨fun _ => hC, ?_⟩
            refine al_two 3 9 (by kernel_rfl) rfl rfl ?_ ?_
            · refine el_call goes18 (laws_toDatabase_ok (hS.up ha1) hr139) (congrArg List.toArray (mapc rfl rfl)) (by decide) ?_
              rintro _ w142 ⟨v140, rfl, hS'⟩
              refine ⟨_, rfl, ?_⟩
              have hx143 := hS'.below
              replace hS := hS.call1 hS'
              refine el_nil ?_
              replace hS : Sat w0 w142 [Box b107 34 [u1], Box b103 34 [u0], Own (sliceR (pairR strR (pairR intR (sliceR (sliceR intR 3) 24))) 80) [v140] r139, Own (sliceR (pairR strR (pairR intR (sliceR (sliceR intR 3) 24))) 80) [v135] r134] := hS.tops 4 [1, 2] rfl
              have hC := (hCd _).2 ⟨_, hS⟩
              refine ⟨fun _ => hC, ?_⟩
              refine al_two 5 9 (by kernel_rfl) rfl rfl ?_ ?_
              · refine el_call goes23 (spec_DiffDatabases_ok (hS.rdAt (R := (sliceR (pairR strR (pairR intR (sliceR (sliceR intR 3) 24))) 80)) 3 rfl) (hS.rdAt (R := (sliceR (pairR strR (pairR intR (sliceR (sliceR intR 3) 24))) 80)) 2 rfl) ha2 hr144) (congrArg List.toArray (mapc rfl (mapc rfl (mapc rfl rfl)))) (by decide) ?_
                rintro _ w150 ⟨v145, v146, rfl, hS', hz147⟩
                refine ⟨_, rfl, ?_⟩
                have hx151 := hS'.below
                replace hS := hS.call2 hS'
                refine el_nil ?_
                replace hS : Sat w0 w150 [Box b107 34 [u1], Box b103 34 [u0], Own (sliceR (sliceR intR 3) 24) [v145] r144.1.2.1.2, Own (sliceR (sliceR intR 3) 24) [v146] r144.1.2.2.2, Own (sliceR (pairR strR (pairR intR (sliceR (sliceR intR 3) 24))) 80) [v140] r139, Own (sliceR (pairR strR (pairR intR (sliceR (sliceR intR 3) 24))) 80) [v135] r134] := hS.tops 6 [2, 3] rfl
                have hC := (hCd _).2 ⟨_, hS⟩
                refine ⟨fun _ => hC, ?_⟩
                refine al_p (v := .tuple #[.agg #[.string r144.1.1, .int .i64 r144.1.2.1.1, v145, .int .i64 r144.1.2.2.1, v146], .bool r144.2]) (by kernel_rfl) 6 rfl rfl (by decide) hC (by kernel_rfl) (by kernel_rfl) (sv_on rfl (fun w' hw' => by obtain ⟨_, hS⟩ := (hCd _).1 hw'; exact (pv_move rfl))) ?_
                refine al_p (v := .agg #[.string r144.1.1, .int .i64 r144.1.2.1.1, v145, .int .i64 r144.1.2.2.1, v146]) (by kernel_rfl) 7 rfl rfl (by decide) hC (by kernel_rfl) (by kernel_rfl) (sv_on rfl (fun w' hw' => by obtain ⟨_, hS⟩ := (hCd _).1 hw'; exact (pv_extract rfl rfl))) ?_
                refine al_p (v := .bool r144.2) (by kernel_rfl) 8 rfl rfl (by decide) hC (by kernel_rfl) (by kernel_rfl) (sv_on rfl (fun w' hw' => by obtain ⟨_, hS⟩ := (hCd _).1 hw'; exact (pv_extract rfl rfl))) ?_
                refine al_one 9 (by kernel_rfl) rfl ?_
                refine el_alloc hS (by decide) ?_
                intro w152 b153 hS hx154
                refine el_nil ?_
                replace hS : Sat w0 w152 [Box b107 34 [u1], Box b103 34 [u0], Box b153 48 [.string ByteArray.empty, .int .i64 0, (.slice none 0 0), .int .i64 0, (.slice none 0 0)], Own (sliceR (sliceR intR 3) 24) [v145] r144.1.2.1.2, Own (sliceR (sliceR intR 3) 24) [v146] r144.1.2.2.2, Own (sliceR (pairR strR (pairR intR (sliceR (sliceR intR 3) 24))) 80) [v140] r139, Own (sliceR (pairR strR (pairR intR (sliceR (sliceR intR 3) 24))) 80) [v135] r134] := hS.tops 7 [1, 2] rfl
                have hC := (hCd _).2 ⟨_, hS⟩
                refine ⟨fun _ => hC, ?_⟩
                refine al_one 10 (by kernel_rfl) rfl ?_
                refine el_storev (hS.top 2 rfl) rfl [.string r144.1.1, .int .i64 r144.1.2.1.1, v145, .int .i64 r144.1.2.2.1, v146] rfl rfl (of_decide_eq_true rfl) (all_cons rfl (all_cons rfl (all_cons (oc (hS.rdAt (R := (sliceR (sliceR intR 3) 24)) 3 rfl)) (all_cons rfl (all_cons (oc (hS.rdAt (R := (sliceR (sliceR intR 3) 24)) 4 rfl)) rfl))))) ?_
                intro w156 hS
                replace hS : Sat w0 w156 [Box b153 48 [.string r144.1.1, .int .i64 r144.1.2.1.1, v145, .int .i64 r144.1.2.2.1, v146], Box b107 34 [u1], Box b103 34 [u0], Own (sliceR (sliceR intR 3) 24) [v145] r144.1.2.1.2, Own (sliceR (sliceR intR 3) 24) [v146] r144.1.2.2.2, Own (sliceR (pairR strR (pairR intR (sliceR (sliceR intR 3) 24))) 80) [v140] r139, Own (sliceR (pairR strR (pairR intR (sliceR (sliceR intR 3) 24))) 80) [v135] r134] := hS
                refine el_nil ?_
                replace hS : Sat w0 w156 [Box b107 34 [u1], Box b103 34 [u0], Box b153 48 [.string r144.1.1, .int .i64 r144.1.2.1.1, v145, .int .i64 r144.1.2.2.1, v146], Own (sliceR (sliceR intR 3) 24) [v145] r144.1.2.1.2, Own (sliceR (sliceR intR 3) 24) [v146] r144.1.2.2.2, Own (sliceR (pairR strR (pairR intR (sliceR (sliceR intR 3) 24))) 80) [v140] r139, Own (sliceR (pairR strR (pairR intR (sliceR (sliceR intR 3) 24))) 80) [v135] r134] := hS.tops 7 [1, 2] rfl
                have hC := (hCd _).2 ⟨_, hS⟩
                refine ⟨fun _ => hC, ?_⟩
                refine al_p (v := .bool r144.2) (by kernel_rfl) 11 rfl rfl (by decide) hC (by kernel_rfl) (by kernel_rfl) (sv_on rfl (fun w' hw' => by obtain ⟨_, hS⟩ := (hCd _).1 hw'; exact (pv_assign rfl))) ?_
                refine al_nil (by kernel_rfl) ?_
                exact ⟨rfl, b153, v145, v146, rfl, rfl, rfl, rfl, rfl, hz147, (hS.keep 5)⟩
              · refine el_alloc hS (by decide) ?_
                intro w152 b153 hS hx154
                refine el_nil ?_
                replace hS : Sat w0 w152 [Box b107 34 [u1], Box b103 34 [u0], Box b153 48 [.string ByteArray.empty, .int .i64 0, (.slice none 0 0), .int .i64 0, (.slice none 0 0)], Own (sliceR (pairR strR (pairR intR (sliceR (sliceR intR 3) 24))) 80) [v140] r139, Own (sliceR (pairR strR (pairR intR (sliceR (sliceR intR 3) 24))) 80) [v135] r134] := hS.tops 5 [1, 2] rfl
                have hC := (hCd _).2 ⟨_, hS⟩
                refine ⟨fun _ => hC, ?_⟩
                refine al_one 5 (by kernel_rfl) rfl ?_
                refine el_call goes23 (spec_DiffDatabases_ok (hS.rdAt (R := (sliceR (pairR strR (pairR intR (sliceR (sliceR intR 3) 24))) 80)) 4 rfl) (hS.rdAt (R := (sliceR (pairR strR (pairR intR (sliceR (sliceR intR 3) 24))) 80)) 3 rfl) ha2 hr144) (congrArg List.toArray (mapc rfl (mapc rfl (mapc rfl rfl)))) (by decide) ?_
                rintro _ w150 ⟨v145, v146, rfl, hS', hz147⟩
                refine ⟨_, rfl, ?_⟩
                have hx151 := hS'.below
                replace hS := hS.call2 hS'
                refine el_nil ?_
                replace hS : Sat w0 w150 [Box b107 34 [u1], Box b103 34 [u0], Own (sliceR (sliceR intR 3) 24) [v145] r144.1.2.1.2, Own (sliceR (sliceR intR 3) 24) [v146] r144.1.2.2.2, Box b153 48 [.string ByteArray.empty, .int .i64 0, (.slice none 0 0), .int .i64 0, (.slice none 0 0)], Own (sliceR (pairR strR (pairR intR (sliceR (sliceR intR 3) 24))) 80) [v140] r139, Own (sliceR (pairR strR (pairR intR (sliceR (sliceR intR 3) 24))) 80) [v135] r134] := hS.tops 7 [2, 3] rfl
                have hC := (hCd _).2 ⟨_, hS⟩
                refine ⟨fun _ => hC, ?_⟩
                refine al_p (v := .tuple #[.agg #[.string r144.1.1, .int .i64 r144.1.2.1.1, v145, .int .i64 r144.1.2.2.1, v146], .bool r144.2]) (by kernel_rfl) 6 rfl rfl (by decide) hC (by kernel_rfl) (by kernel_rfl) (sv_on rfl (fun w' hw' => by obtain ⟨_, hS⟩ := (hCd _).1 hw'; exact (pv_move rfl))) ?_
                refine al_p (v := .agg #[.string r144.1.1, .int .i64 r144.1.2.1.1, v145, .int .i64 r144.1.2.2.1, v146]) (by kernel_rfl) 7 rfl rfl (by decide) hC (by kernel_rfl) (by kernel_rfl) (sv_on rfl (fun w' hw' => by obtain ⟨_, hS⟩ := (hCd _).1 hw'; exact (pv_extract rfl rfl))) ?_
                refine al_p (v := .bool r144.2) (by kernel_rfl) 8 rfl rfl (by decide) hC (by kernel_rfl) (by kernel_rfl) (sv_on rfl (fun w' hw' => by obtain ⟨_, hS⟩ := (hCd _).1 hw'; exact (pv_extract rfl rfl))) ?_
                refine al_one 10 (by kernel_rfl) rfl ?_
                refine el_storev (hS.top 4 rfl) rfl [.string r144.1.1, .int .i64 r144.1.2.1.1, v145, .int .i64 r144.1.2.2.1, v146] rfl rfl (of_decide_eq_true rfl) (all_cons rfl (all_cons rfl (all_cons (oc (hS.rdAt (R := (sliceR (sliceR intR 3) 24)) 2 rfl)) (all_cons rfl (all_cons (oc (hS.rdAt (R := (sliceR (sliceR intR 3) 24)) 3 rfl)) rfl))))) ?_
                intro w156 hS
                replace hS : Sat w0 w156 [Box b153 48 [.string r144.1.1, .int .i64 r144.1.2.1.1, v145, .int .i64 r144.1.2.2.1, v146], Box b107 34 [u1], Box b103 34 [u0], Own (sliceR (sliceR intR 3) 24) [v145] r144.1.2.1.2, Own (sliceR (sliceR intR 3) 24) [v146] r144.1.2.2.2, Own (sliceR (pairR strR (pairR intR (sliceR (sliceR intR 3) 24))) 80) [v140] r139, Own (sliceR (pairR strR (pairR intR (sliceR (sliceR intR 3) 24))) 80) [v135] r134] := hS
                refine el_nil ?_
                replace hS : Sat w0 w156 [Box b107 34 [u1], Box b103 34 [u0], Box b153 48 [.string r144.1.1, .int .i64 r144.1.2.1.1, v145, .int .i64 r144.1.2.2.1, v146], Own (sliceR (sliceR intR 3) 24) [v145] r144.1.2.1.2, Own (sliceR (sliceR intR 3) 24) [v146] r144.1.2.2.2, Own (sliceR (pairR strR (pairR intR (sliceR (sliceR intR 3) 24))) 80) [v140] r139, Own (sliceR (pairR strR (pairR intR (sliceR (sliceR intR 3) 24))) 80) [v135] r134] := hS.tops 7 [1, 2] rfl
                have hC := (hCd _).2 ⟨_, hS⟩
                refine ⟨fun _ => hC, ?_⟩
                refine al_p (v := .bool r144.2) (by kernel_rfl) 11 rfl rfl (by decide) hC (by kernel_rfl) (by kernel_rfl) (sv_on rfl (fun w' hw' => by obtain ⟨_, hS⟩ := (hCd _).1 hw'; exact (pv_assign rfl))) ?_
                refine al_nil (by kernel_rfl) ?_
                exact ⟨rfl, b153, v145, v146, rfl, rfl, rfl, rfl, rfl, hz147, (hS.keep 5)⟩
            · refine el_alloc hS (by decide) ?_
              intro w152 b153 hS hx154
              refine el_nil ?_
              replace hS : Sat w0 w152 [Box b107 34 [u1], Box b103 34 [u0], Box b153 48 [.string ByteArray.empty, .int .i64 0, (.slice none 0 0), .int .i64 0, (.slice none 0 0)], Own (sliceR (pairR strR (pairR intR (sliceR (sliceR intR 3) 24))) 80) [v135] r134] := hS.tops 4 [1, 2] rfl
              have hC := (hCd _).2 ⟨_, hS⟩
              refine ⟨fun _ => hC, ?_⟩
              refine al_one 3 (by kernel_rfl) rfl ?_
              refine el_call goes18 (laws_toDatabase_ok (hS.up ha1) hr139) (congrArg List.toArray (mapc rfl rfl)) (by decide) ?_
              rintro _ w142 ⟨v140, rfl, hS'⟩
              refine ⟨_, rfl, ?_⟩
              have hx143 := hS'.below
              replace hS := hS.call1 hS'
              refine el_nil ?_
              replace hS : Sat w0 w142 [Box b107 34 [u1], Box b103 34 [u0], Own (sliceR (pairR strR (pairR intR (sliceR (sliceR intR 3) 24))) 80) [v140] r139, Box b153 48 [.string ByteArray.empty, .int .i64 0, (.slice none 0 0), .int .i64 0, (.slice none 0 0)], Own (sliceR (pairR strR (pairR intR (sliceR (sliceR intR 3) 24))) 80) [v135] r134] := hS.tops 5 [1, 2] rfl
              have hC := (hCd _).2 ⟨_, hS⟩
              refine ⟨fun _ => hC, ?_⟩
              refine al_one 5 (by kernel_rfl) rfl ?_
              refine el_call goes23 (spec_DiffDatabases_ok (hS.rdAt (R := (sliceR (pairR strR (pairR intR (sliceR (sliceR intR 3) 24))) 80)) 4 rfl) (hS.rdAt (R := (sliceR (pairR strR (pairR intR (sliceR (sliceR intR 3) 24))) 80)) 2 rfl) ha2 hr144) (congrArg List.toArray (mapc rfl (mapc rfl (mapc rfl rfl)))) (by decide) ?_
              rintro _ w150 ⟨v145, v146, rfl, hS', hz147⟩
              refine ⟨_, rfl, ?_⟩
              have hx151 := hS'.below
              replace hS := hS.call2 hS'
              refine el_nil ?_
              replace hS : Sat w0 w150 [Box b107 34 [u1], Box b103 34 [u0], Own (sliceR (sliceR intR 3) 24) [v145] r144.1.2.1.2, Own (sliceR (sliceR intR 3) 24) [v146] r144.1.2.2.2, Own (sliceR (pairR strR (pairR intR (sliceR (sliceR intR 3) 24))) 80) [v140] r139, Box b153 48 [.string ByteArray.empty, .int .i64 0, (.slice none 0 0), .int .i64 0, (.slice none 0 0)], Own (sliceR (pairR strR (pairR intR (sliceR (sliceR intR 3) 24))) 80) [v135] r134] := hS.tops 7 [2, 3] rfl
              have hC := (hCd _).2 ⟨_, hS⟩
              refine ⟨fun _ => hC, ?_⟩
              refine al_p (v := .tuple #[.agg #[.string r144.1.1, .int .i64 r144.1.2.1.1, v145, .int .i64 r144.1.2.2.1, v146], .bool r144.2]) (by kernel_rfl) 6 rfl rfl (by decide) hC (by kernel_rfl) (by kernel_rfl) (sv_on rfl (fun w' hw' => by obtain ⟨_, hS⟩ := (hCd _).1 hw'; exact (pv_move rfl))) ?_
              refine al_p (v := .agg #[.string r144.1.1, .int .i64 r144.1.2.1.1, v145, .int .i64 r144.1.2.2.1, v146]) (by kernel_rfl) 7 rfl rfl (by decide) hC (by kernel_rfl) (by kernel_rfl) (sv_on rfl (fun w' hw' => by obtain ⟨_, hS⟩ := (hCd _).1 hw'; exact (pv_extract rfl rfl))) ?_
              refine al_p (v := .bool r144.2) (by kernel_rfl) 8 rfl rfl (by decide) hC (by kernel_rfl) (by kernel_rfl) (sv_on rfl (fun w' hw' => by obtain ⟨_, hS⟩ := (hCd _).1 hw'; exact (pv_extract rfl rfl))) ?_
              refine al_one 10 (by kernel_rfl) rfl ?_
              refine el_storev (hS.top 5 rfl) rfl [.string r144.1.1, .int .i64 r144.1.2.1.1, v145, .int .i64 r144.1.2.2.1, v146] rfl rfl (of_decide_eq_true rfl) (all_cons rfl (all_cons rfl (all_cons (oc (hS.rdAt (R := (sliceR (sliceR intR 3) 24)) 2 rfl)) (all_cons rfl (all_cons (oc (hS.rdAt (R := (sliceR (sliceR intR 3) 24)) 3 rfl)) rfl))))) ?_
              intro w156 hS
              replace hS : Sat w0 w156 [Box b153 48 [.string r144.1.1, .int .i64 r144.1.2.1.1, v145, .int .i64 r144.1.2.2.1, v146], Box b107 34 [u1], Box b103 34 [u0], Own (sliceR (sliceR intR 3) 24) [v145] r144.1.2.1.2, Own (sliceR (sliceR intR 3) 24) [v146] r144.1.2.2.2, Own (sliceR (pairR strR (pairR intR (sliceR (sliceR intR 3) 24))) 80) [v140] r139, Own (sliceR (pairR strR (pairR intR (sliceR (sliceR intR 3) 24))) 80) [v135] r134] := hS
              refine el_nil ?_
              replace hS : Sat w0 w156 [Box b107 34 [u1], Box b103 34 [u0], Box b153 48 [.string r144.1.1, .int .i64 r144.1.2.1.1, v145, .int .i64 r144.1.2.2.1, v146], Own (sliceR (sliceR intR 3) 24) [v145] r144.1.2.1.2, Own (sliceR (sliceR intR 3) 24) [v146] r144.1.2.2.2, Own (sliceR (pairR strR (pairR intR (sliceR (sliceR intR 3) 24))) 80) [v140] r139, Own (sliceR (pairR strR (pairR intR (sliceR (sliceR intR 3) 24))) 80) [v135] r134] := hS.tops 7 [1, 2] rfl
              have hC := (hCd _).2 ⟨_, hS⟩
              refine ⟨fun _ => hC, ?_⟩
              refine al_p (v := .bool r144.2) (by kernel_rfl) 11 rfl rfl (by decide) hC (by kernel_rfl) (by kernel_rfl) (sv_on rfl (fun w' hw' => by obtain ⟨_, hS⟩ := (hCd _).1 hw'; exact (pv_assign rfl))) ?_
              refine al_nil (by kernel_rfl) ?_
              exact ⟨rfl, b153, v145, v146, rfl, rfl, rfl, rfl, rfl, hz147, (hS.keep 5)⟩
          · refine el_alloc hS (by decide) ?_
            intro w152 b153 hS hx154
            refine el_nil ?_
            replace hS : Sat w0 w152 [Box b107 34 [u1], Box b103 34 [u0], Box b153 48 [.string ByteArray.empty, .int .i64 0, (.slice none 0 0), .int .i64 0, (.slice none 0 0)]] := hS.tops 3 [1, 2] rfl
            have hC := (hCd _).2 ⟨_, hS⟩
            refine ⟨fun _ => hC, ?_⟩
            refine al_one 1 (by kernel_rfl) rfl ?_
            refine el_call goes18 (laws_toDatabase_ok (hS.up ha0) hr134) (congrArg List.toArray (mapc rfl rfl)) (by decide) ?_
            rintro _ w137 ⟨v135, rfl, hS'⟩
            refine ⟨_, rfl, ?_⟩
            have hx138 := hS'.below
            replace hS := hS.call1 hS'
            refine el_nil ?_
            replace hS : Sat w0 w137 [Box b107 34 [u1], Box b103 34 [u0], Own (sliceR (pairR strR (pairR intR (sliceR (sliceR intR 3) 24))) 80) [v135] r134, Box b153 48 [.string ByteArray.empty, .int .i64 0, (.slice none 0 0), .int .i64 0, (.slice none 0 0)]] := hS.tops 4 [1, 2] rfl
            have hC := (hCd _).2 ⟨_, hS⟩
            refine ⟨fun _ => hC, ?_⟩
            refine al_one 3 (by kernel_rfl) rfl ?_
            refine el_call goes18 (laws_toDatabase_ok (hS.up ha1) hr139) (congrArg List.toArray (mapc rfl rfl)) (by decide) ?_
            rintro _ w142 ⟨v140, rfl, hS'⟩
            refine ⟨_, rfl, ?_⟩
            have hx143 := hS'.below
            replace hS := hS.call1 hS'
            refine el_nil ?_
            replace hS : Sat w0 w142 [Box b107 34 [u1], Box b103 34 [u0], Own (sliceR (pairR strR (pairR intR (sliceR (sliceR intR 3) 24))) 80) [v140] r139, Own (sliceR (pairR strR (pairR intR (sliceR (sliceR intR 3) 24))) 80) [v135] r134, Box b153 48 [.string ByteArray.empty, .int .i64 0, (.slice none 0 0), .int .i64 0, (.slice none 0 0)]] := hS.tops 5 [1, 2] rfl
            have hC := (hCd _).2 ⟨_, hS⟩
            refine ⟨fun _ => hC, ?_⟩
            refine al_one 5 (by kernel_rfl) rfl ?_
            refine el_call goes23 (spec_DiffDatabases_ok (hS.rdAt (R := (sliceR (pairR strR (pairR intR (sliceR (sliceR intR 3) 24))) 80)) 3 rfl) (hS.rdAt (R := (sliceR (pairR strR (pairR intR (sliceR (sliceR intR 3) 24))) 80)) 2 rfl) ha2 hr144) (congrArg List.toArray (mapc rfl (mapc rfl (mapc rfl rfl)))) (by decide) ?_
            rintro _ w150 ⟨v145, v146, rfl, hS', hz147⟩
            refine ⟨_, rfl, ?_⟩
            have hx151 := hS'.below
            replace hS := hS.call2 hS'
            refine el_nil ?_
            replace hS : Sat w0 w150 [Box b107 34 [u1], Box b103 34 [u0], Own (sliceR (sliceR intR 3) 24) [v145] r144.1.2.1.2, Own (sliceR (sliceR intR 3) 24) [v146] r144.1.2.2.2, Own (sliceR (pairR strR (pairR intR (sliceR (sliceR intR 3) 24))) 80) [v140] r139, Own (sliceR (pairR strR (pairR intR (sliceR (sliceR intR 3) 24))) 80) [v135] r134, Box b153 48 [.string ByteArray.empty, .int .i64 0, (.slice none 0 0), .int .i64 0, (.slice none 0 0)]] := hS.tops 7 [2, 3] rfl
            have hC := (hCd _).2 ⟨_, hS⟩
            refine ⟨fun _ => hC, ?_⟩
            refine al_p (v := .tuple #[.agg #[.string r144.1.1, .int .i64 r144.1.2.1.1, v145, .int .i64 r144.1.2.2.1, v146], .bool r144.2]) (by kernel_rfl) 6 rfl rfl (by decide) hC (by kernel_rfl) (by kernel_rfl) (sv_on rfl (fun w' hw' => by obtain ⟨_, hS⟩ := (hCd _).1 hw'; exact (pv_move rfl))) ?_
            refine al_p (v := .agg #[.string r144.1.1, .int .i64 r144.1.2.1.1, v145, .int .i64 r144.1.2.2.1, v146]) (by kernel_rfl) 7 rfl rfl (by decide) hC (by kernel_rfl) (by kernel_rfl) (sv_on rfl (fun w' hw' => by obtain ⟨_, hS⟩ := (hCd _).1 hw'; exact (pv_extract rfl rfl))) ?_
            refine al_p (v := .bool r144.2) (by kernel_rfl) 8 rfl rfl (by decide) hC (by kernel_rfl) (by kernel_rfl) (sv_on rfl (fun w' hw' => by obtain ⟨_, hS⟩ := (hCd _).1 hw'; exact (pv_extract rfl rfl))) ?_
            refine al_one 10 (by kernel_rfl) rfl ?_
            refine el_storev (hS.top 6 rfl) rfl [.string r144.1.1, .int .i64 r144.1.2.1.1, v145, .int .i64 r144.1.2.2.1, v146] rfl rfl (of_decide_eq_true rfl) (all_cons rfl (all_cons rfl (all_cons (oc (hS.rdAt (R := (sliceR (sliceR intR 3) 24)) 2 rfl)) (all_cons rfl (all_cons (oc (hS.rdAt (R := (sliceR (sliceR intR 3) 24)) 3 rfl)) rfl))))) ?_
            intro w156 hS
            replace hS : Sat w0 w156 [Box b153 48 [.string r144.1.1, .int .i64 r144.1.2.1.1, v145, .int .i64 r144.1.2.2.1, v146], Box b107 34 [u1], Box b103 34 [u0], Own (sliceR (sliceR intR 3) 24) [v145] r144.1.2.1.2, Own (sliceR (sliceR intR 3) 24) [v146] r144.1.2.2.2, Own (sliceR (pairR strR (pairR intR (sliceR (sliceR intR 3) 24))) 80) [v140] r139, Own (sliceR (pairR strR (pairR intR (sliceR (sliceR intR 3) 24))) 80) [v135] r134] := hS
            refine el_nil ?_
            replace hS : Sat w0 w156 [Box b107 34 [u1], Box b103 34 [u0], Box b153 48 [.string r144.1.1, .int .i64 r144.1.2.1.1, v145, .int .i64 r144.1.2.2.1, v146], Own (sliceR (sliceR intR 3) 24) [v145] r144.1.2.1.2, Own (sliceR (sliceR intR 3) 24) [v146] r144.1.2.2.2, Own (sliceR (pairR strR (pairR intR (sliceR (sliceR intR 3) 24))) 80) [v140] r139, Own (sliceR (pairR strR (pairR intR (sliceR (sliceR intR 3) 24))) 80) [v135] r134] := hS.tops 7 [1, 2] rfl
            have hC := (hCd _).2 ⟨_, hS⟩
            refine ⟨fun _ => hC, ?_⟩
            refine al_p (v := .bool r144.2) (by kernel_rfl) 11 rfl rfl (by decide) hC (by kernel_rfl) (by kernel_rfl) (sv_on rfl (fun w' hw' => by obtain ⟨_, hS⟩ := (hCd _).1 hw'; exact (pv_assign rfl))) ?_
            refine al_nil (by kernel_rfl) ?_
            exact ⟨rfl, b153, v145, v146, rfl, rfl, rfl, rfl, rfl, hz147, (hS.keep 5)⟩
        · rintro e159 w160 ⟨b153, v145, v146, he161, he162, he163, he164, he165, hz147, hS⟩
          refine hQ131 _ _ _ ?_
          refine thn_n ?_
          refine cw_seq ?_
          refine cw_gen ?_
          intro Q166 hQ166
          refine cw_reg ?_
          refine el_pv (v := .agg #[u0]) (pv_loada (cs := [u0]) he162 rfl (boxc0 (hS.boxAt 1 rfl))) (by decide) ?_
          replace hF := ob hF
          obtain ⟨r167, hr167, hF⟩ := hF
          refine el_call goes18 (laws_toDatabase_ok (hS.up ha0) hr167) (congrArg List.toArray (mapc rfl rfl)) (by decide) ?_
          rintro _ w170 ⟨v168, rfl, hS'⟩
          refine ⟨_, rfl, ?_⟩
          have hx171 := hS'.below
          replace hS := hS.call1 hS'
          refine el_alloc hS (by decide) ?_
          intro w172 b173 hS hx174
          refine el_storev (hS.top 0 rfl) rfl [v168] rfl rfl (of_decide_eq_true rfl) (all_cons (oc (hS.rdAt (R := (sliceR (pairR strR (pairR intR (sliceR (sliceR intR 3) 24))) 80)) 1 rfl)) rfl) ?_
          intro w176 hS
          replace hS : Sat w0 w176 [Box b173 44 [v168], Own (sliceR (pairR strR (pairR intR (sliceR (sliceR intR 3) 24))) 80) [v168] r167, Box b107 34 [u1], Box b103 34 [u0], Box b153 48 [.string r144.1.1, .int .i64 r144.1.2.1.1, v145, .int .i64 r144.1.2.2.1, v146], Own (sliceR (sliceR intR 3) 24) [v145] r144.1.2.1.2, Own (sliceR (sliceR intR 3) 24) [v146] r144.1.2.2.2] := hS
          refine el_nil ?_
          refine hQ166 _ _ _ ?_
          refine thn_n ?_
          refine cw_seq ?_
          refine cw_gen ?_
          intro Q177 hQ177
          refine cw_reg ?_
          refine el_pv (v := .agg #[u1]) (pv_loada (cs := [u1]) he163 rfl (boxc0 (hS.boxAt 2 rfl))) (by decide) ?_
          replace hF := ob hF
          obtain ⟨r178, hr178, hF⟩ := hF
          refine el_call goes18 (laws_toDatabase_ok (hS.up ha1) hr178) (congrArg List.toArray (mapc rfl rfl)) (by decide) ?_
          rintro _ w181 ⟨v179, rfl, hS'⟩
          refine ⟨_, rfl, ?_⟩
          have hx182 := hS'.below
          replace hS := hS.call1 hS'
          refine el_alloc hS (by decide) ?_
          intro w183 b184 hS hx185
          refine el_storev (hS.top 0 rfl) rfl [v179] rfl rfl (of_decide_eq_true rfl) (all_cons (oc (hS.rdAt (R := (sliceR (pairR strR (pairR intR (sliceR (sliceR intR 3) 24))) 80)) 1 rfl)) rfl) ?_
          intro w187 hS
          replace hS : Sat w0 w187 [Box b184 44 [v179], Own (sliceR (pairR strR (pairR intR (sliceR (sliceR intR 3) 24))) 80) [v179] r178, Box b173 44 [v168], Own (sliceR (pairR strR (pairR intR (sliceR (sliceR intR 3) 24))) 80) [v168] r167, Box b107 34 [u1], Box b103 34 [u0], Box b153 48 [.string r144.1.1, .int .i64 r144.1.2.1.1, v145, .int .i64 r144.1.2.2.1, v146], Own (sliceR (sliceR intR 3) 24) [v145] r144.1.2.1.2, Own (sliceR (sliceR intR 3) 24) [v146] r144.1.2.2.2] := hS
          refine el_nil ?_
          refine hQ177 _ _ _ ?_
          refine thn_n ?_
          refine cw_seq ?_
          refine cw_gen ?_
          intro Q188 hQ188
          refine cw_reg ?_
          refine el_pv (v := .agg #[v168]) (pv_loada (cs := [v168]) rfl rfl (boxc0 (hS.boxAt 2 rfl))) (by decide) ?_
          refine el_pv (v := .agg #[v179]) (pv_loada (cs := [v179]) rfl rfl (boxc0 (hS.boxAt 0 rfl))) (by decide) ?_
          refine el_pv (v := .string a2) (pv_move he161) (by decide) ?_
          replace hF := ob hF
          obtain ⟨r189, hr189, hF⟩ := hF
          refine el_call goes24 (impl_DiffDatabases_ok (hS.rdAt (R := (sliceR (pairR strR (pairR intR (sliceR (sliceR intR 3) 24))) 80)) 3 rfl) (hS.rdAt (R := (sliceR (pairR strR (pairR intR (sliceR (sliceR intR 3) 24))) 80)) 1 rfl) ha2 hr189) (congrArg List.toArray (mapc rfl (mapc rfl (mapc rfl rfl)))) (by decide) ?_
          rintro _ w195 ⟨v190, v191, rfl, hS', hz192⟩
          refine ⟨_, rfl, ?_⟩
          have hx196 := hS'.below
          replace hS := hS.call2 hS'
          refine el_pv (v := .tuple #[.agg #[.string r189.1.1, .int .i64 r189.1.2.1.1, v190, .int .i64 r189.1.2.2.1, v191], .bool r189.2]) (pv_move rfl) (by decide) ?_
          refine el_pv (v := .agg #[.string r189.1.1, .int .i64 r189.1.2.1.1, v190, .int .i64 r189.1.2.2.1, v191]) (pv_extract rfl rfl) (by decide) ?_
          refine el_pv (v := .bool r189.2) (pv_extract rfl rfl) (by decide) ?_
          refine el_alloc hS (by decide) ?_
          intro w197 b198 hS hx199
          refine el_storev (hS.top 0 rfl) rfl [.string r189.1.1, .int .i64 r189.1.2.1.1, v190, .int .i64 r189.1.2.2.1, v191] rfl rfl (of_decide_eq_true rfl) (all_cons rfl (all_cons rfl (all_cons (oc (hS.rdAt (R := (sliceR (sliceR intR 3) 24)) 1 rfl)) (all_cons rfl (all_cons (oc (hS.rdAt (R := (sliceR (sliceR intR 3) 24)) 2 rfl)) rfl))))) ?_
          intro w201 hS
          replace hS : Sat w0 w201 [Box b198 48 [.string r189.1.1, .int .i64 r189.1.2.1.1, v190, .int .i64 r189.1.2.2.1, v191], Own (sliceR (sliceR intR 3) 24) [v190] r189.1.2.1.2, Own (sliceR (sliceR intR 3) 24) [v191] r189.1.2.2.2, Box b184 44 [v179], Own (sliceR (pairR strR (pairR intR (sliceR (sliceR intR 3) 24))) 80) [v179] r178, Box b173 44 [v168], Own (sliceR (pairR strR (pairR intR (sliceR (sliceR intR 3) 24))) 80) [v168] r167, Box b107 34 [u1], Box b103 34 [u0], Box b153 48 [.string r144.1.1, .int .i64 r144.1.2.1.1, v145, .int .i64 r144.1.2.2.1, v146], Own (sliceR (sliceR intR 3) 24) [v145] r144.1.2.1.2, Own (sliceR (sliceR intR 3) 24) [v146] r144.1.2.2.2] := hS
          refine el_pv (v := .bool r189.2) (pv_assign rfl) (by decide) ?_
          refine el_nil ?_
          refine hQ188 _ _ _ ?_
          refine thn_n ?_
          refine cw_seq ?_
          refine cw_gen ?_
          intro Q202 hQ202
          refine cw_seq ?_
          refine cw_gen ?_
          intro Q203 hQ203
          refine cw_reg ?_
          refine el_pv (v := .agg #[.string r189.1.1, .int .i64 r189.1.2.1.1, v190, .int .i64 r189.1.2.2.1, v191]) (pv_loada (cs := [.string r189.1.1, .int .i64 r189.1.2.1.1, v190, .int .i64 r189.1.2.2.1, v191]) rfl rfl (boxc0 (hS.boxAt 0 rfl))) (by decide) ?_
          refine el_pv (v := .agg #[.string r144.1.1, .int .i64 r144.1.2.1.1, v145, .int .i64 r144.1.2.2.1, v146]) (pv_loada (cs := [.string r144.1.1, .int .i64 r144.1.2.1.1, v145, .int .i64 r144.1.2.2.1, v146]) he164 rfl (boxc0 (hS.boxAt 9 rfl))) (by decide) ?_
          replace hF := ob hF
          obtain ⟨r204, hr204, hF⟩ := hF
          refine el_call goes22 (laws_eqDelta_ok hz192 (hS.rdAt (R := (sliceR (sliceR intR 3) 24)) 1 rfl) (hS.rdAt (R := (sliceR (sliceR intR 3) 24)) 2 rfl) hz147 (hS.rdAt (R := (sliceR (sliceR intR 3) 24)) 10 rfl) (hS.rdAt (R := (sliceR (sliceR intR 3) 24)) 11 rfl) hr204) (congrArg List.toArray (mapc rfl (mapc rfl rfl))) (by decide) ?_
          rintro _ w205 ⟨rfl, hx206⟩
          refine ⟨_, rfl, ?_⟩
          replace hS := hS.ext hx206
          refine el_pv (v := .bool (!r204)) (pv_not rfl) (by decide) ?_
          refine el_pv (v := .bool (!r204)) (pv_move rfl) (by decide) ?_
          replace hF := oif hF
          rcases hF with ⟨hb207, hF⟩ | ⟨hb207, hF⟩
          · refine el_on rfl (bnot_t hb207) ?_
            refine el_pv (v := .bool r189.2) (pv_move rfl) (by decide) ?_
            refine el_on rfl (bnot_t hb207) ?_
            refine el_pv (v := .bool r144.2) (pv_move he165) (by decide) ?_
            refine el_on rfl (bnot_t hb207) ?_
            refine el_pv (v := .bool (r189.2 != r144.2)) (pv_neqB Try.underlying4 rfl rfl) (by decide) ?_
            refine el_pv (v := .bool (r189.2 != r144.2)) (pv_pick_f rfl (bnot_t hb207) rfl) (by decide) ?_
            refine el_nil ?_
            refine hQ203 _ _ _ ?_
            refine thn_n ?_
            replace hF := oif hF
            rcases hF with ⟨hb208, hF⟩ | ⟨hb208, hF⟩
            · refine cw_cond_t rfl hb208 ?_
              refine cw_seq ?_
              refine cw_gen ?_
              intro Q209 hQ209
              replace hS : Sat w0 w205 [] := hS.rems 12 [0, 1, 2, 3, 4, 5, 6, 7, 8, 9, 10, 11] rfl
              refine cw_reg ?_
              refine el_pv (v := .bool false) (pv_assign rfl) (by decide) ?_
              refine el_nil ?_
              refine hQ209 _ _ _ ?_
              refine thn_n ?_
              refine cw_ret ?_
              refine hQ202 _ _ _ ?_
              refine thn_r ?_
              refine fin1 rfl rfl ?_
              have hr := Option.some.inj hF
              exact ⟨congrArg (fun (r : Bool) => Ending.returned (.bool r)) hr, hS.below⟩
            · refine cw_cond_f rfl hb208 ?_
              refine cw_skip ?_
              refine hQ202 _ _ _ ?_
              refine thn_n ?_
              refine cw_seq ?_
              refine cw_gen ?_
              intro Q210 hQ210
              refine cw_seq ?_
              refine cw_gen ?_
              intro Q211 hQ211
              obtain ⟨C, hCd⟩ : ∃ C : World → Prop, ∀ w, C w ↔ ∃ G, Sat w0 w ([Box b173 44 [v168], Box b103 34 [u0], Own (sliceR (pairR strR (pairR intR (sliceR (sliceR intR 3) 24))) 80) [v168] r167] ++ G) := ⟨_, fun _ => Iff.rfl⟩
              refine cw_regb [0, 1, 2, 3, 4] C (by kernel_rfl) ?_
              intro w212 hx213
              replace hS := hS.ext hx213
              replace hS : Sat w0 w212 [Box b173 44 [v168], Box b103 34 [u0], Own (sliceR (pairR strR (pairR intR (sliceR (sliceR intR 3) 24))) 80) [v168] r167, Box b198 48 [.string r189.1.1, .int .i64 r189.1.2.1.1, v190, .int .i64 r189.1.2.2.1, v191], Own (sliceR (sliceR intR 3) 24) [v190] r189.1.2.1.2, Own (sliceR (sliceR intR 3) 24) [v191] r189.1.2.2.2, Box b184 44 [v179], Own (sliceR (pairR strR (pairR intR (sliceR (sliceR intR 3) 24))) 80) [v179] r178, Box b107 34 [u1], Box b153 48 [.string r144.1.1, .int .i64 r144.1.2.1.1, v145, .int .i64 r144.1.2.2.1, v146], Own (sliceR (sliceR intR 3) 24) [v145] r144.1.2.1.2, Own (sliceR (sliceR intR 3) 24) [v146] r144.1.2.2.2] := hS.tops 12 [5, 8, 6] rfl
              have hC := (hCd _).2 ⟨_, hS⟩
              refine al_p (v := .agg #[v168]) (by kernel_rfl) 0 rfl rfl (by decide) hC (by kernel_rfl) (by kernel_rfl) (sv_on rfl (fun w' hw' => by obtain ⟨_, hS⟩ := (hCd _).1 hw'; exact (pv_loada (cs := [v168]) rfl rfl (boxc0 (hS.boxAt 0 rfl))))) ?_
              refine al_p (v := .agg #[u0]) (by kernel_rfl) 1 rfl rfl (by decide) hC (by kernel_rfl) (by kernel_rfl) (sv_on rfl (fun w' hw' => by obtain ⟨_, hS⟩ := (hCd _).1 hw'; exact (pv_loada (cs := [u0]) he162 rfl (boxc0 (hS.boxAt 1 rfl))))) ?_
              refine al_one 2 (by kernel_rfl) rfl ?_
              replace hF := ob hF
              obtain ⟨r214, hr214, hF⟩ := hF
              refine el_call goes18 (laws_toDatabase_ok (hS.up ha0) hr214) (congrArg List.toArray (mapc rfl rfl)) (by decide) ?_
              rintro _ w217 ⟨v215, rfl, hS'⟩
              refine ⟨_, rfl, ?_⟩
              have hx218 := hS'.below
              replace hS := hS.call1 hS'
              refine el_nil ?_
              replace hS : Sat w0 w217 [Box b173 44 [v168], Box b103 34 [u0], Own (sliceR (pairR strR (pairR intR (sliceR (sliceR intR 3) 24))) 80) [v168] r167, Own (sliceR (pairR strR (pairR intR (sliceR (sliceR intR 3) 24))) 80) [v215] r214, Box b198 48 [.string r189.1.1, .int .i64 r189.1.2.1.1, v190, .int .i64 r189.1.2.2.1, v191], Own (sliceR (sliceR intR 3) 24) [v190] r189.1.2.1.2, Own (sliceR (sliceR intR 3) 24) [v191] r189.1.2.2.2, Box b184 44 [v179], Own (sliceR (pairR strR (pairR intR (sliceR (sliceR intR 3) 24))) 80) [v179] r178, Box b107 34 [u1], Box b153 48 [.string r144.1.1, .int .i64 r144.1.2.1.1, v145, .int .i64 r144.1.2.2.1, v146], Own (sliceR (sliceR intR 3) 24) [v145] r144.1.2.1.2, Own (sliceR (sliceR intR 3) 24) [v146] r144.1.2.2.2] := hS.tops 13 [1, 2, 3] rfl
              have hC := (hCd _).2 ⟨_, hS⟩
              refine ⟨fun _ => hC, ?_⟩
              refine al_one 3 (by kernel_rfl) rfl ?_
              replace hF := ob hF
              obtain ⟨r219, hr219, hF⟩ := hF
              refine el_call goes21 (laws_eqDatabase_ok (hS.rdAt (R := (sliceR (pairR strR (pairR intR (sliceR (sliceR intR 3) 24))) 80)) 2 rfl) (hS.rdAt (R := (sliceR (pairR strR (pairR intR (sliceR (sliceR intR 3) 24))) 80)) 3 rfl) hr219) (congrArg List.toArray (mapc rfl (mapc rfl rfl))) (by decide) ?_
              rintro _ w220 ⟨rfl, hx221⟩
              refine ⟨_, rfl, ?_⟩
              replace hS := hS.ext hx221
              refine el_nil ?_
              have hC := (hCd _).2 ⟨_, hS⟩
              refine ⟨fun _ => hC, ?_⟩
              refine al_p (v := .bool (!r219)) (by kernel_rfl) 4 rfl rfl (by decide) hC (by kernel_rfl) (by kernel_rfl) (sv_on rfl (fun w' hw' => by obtain ⟨_, hS⟩ := (hCd _).1 hw'; exact (pv_not rfl))) ?_
              refine al_nil (by kernel_rfl) ?_
              refine hQ211 _ _ _ ?_
              refine thn_n ?_
              replace hF := oif hF
              rcases hF with ⟨hb222, hF⟩ | ⟨hb222, hF⟩
              · refine cw_cond_f rfl (bnot_t hb222) ?_
                refine cw_skip ?_
                refine hQ210 _ _ _ ?_
                refine thn_n ?_
                refine cw_seq ?_
                refine cw_gen ?_
                intro Q223 hQ223
                refine cw_seq ?_
                refine cw_gen ?_
                intro Q224 hQ224
                replace hS : Sat w0 w220 [Box b173 44 [v168], Box b103 34 [u0], Own (sliceR (pairR strR (pairR intR (sliceR (sliceR intR 3) 24))) 80) [v168] r167, Box b198 48 [.string r189.1.1, .int .i64 r189.1.2.1.1, v190, .int .i64 r189.1.2.2.1, v191], Own (sliceR (sliceR intR 3) 24) [v190] r189.1.2.1.2, Own (sliceR (sliceR intR 3) 24) [v191] r189.1.2.2.2, Box b184 44 [v179], Own (sliceR (pairR strR (pairR intR (sliceR (sliceR intR 3) 24))) 80) [v179] r178, Box b107 34 [u1], Box b153 48 [.string r144.1.1, .int .i64 r144.1.2.1.1, v145, .int .i64 r144.1.2.2.1, v146], Own (sliceR (sliceR intR 3) 24) [v145] r144.1.2.1.2, Own (sliceR (sliceR intR 3) 24) [v146] r144.1.2.2.2] := hS.rems 13 [3] rfl
                obtain ⟨C, hCd⟩ : ∃ C : World → Prop, ∀ w, C w ↔ ∃ G, Sat w0 w ([Box b184 44 [v179], Box b107 34 [u1], Own (sliceR (pairR strR (pairR intR (sliceR (sliceR intR 3) 24))) 80) [v179] r178] ++ G) := ⟨_, fun _ => Iff.rfl⟩
                refine cw_regb [0, 1, 2, 3, 4] C (by kernel_rfl) ?_
                intro w225 hx226
                replace hS := hS.ext hx226
                replace hS : Sat w0 w225 [Box b184 44 [v179], Box b107 34 [u1], Own (sliceR (pairR strR (pairR intR (sliceR (sliceR intR 3) 24))) 80) [v179] r178, Box b173 44 [v168], Box b103 34 [u0], Own (sliceR (pairR strR (pairR intR (sliceR (sliceR intR 3) 24))) 80) [v168] r167, Box b198 48 [.string r189.1.1, .int .i64 r189.1.2.1.1, v190, .int .i64 r189.1.2.2.1, v191], Own (sliceR (sliceR intR 3) 24) [v190] r189.1.2.1.2, Own (sliceR (sliceR intR 3) 24) [v191] r189.1.2.2.2, Box b153 48 [.string r144.1.1, .int .i64 r144.1.2.1.1, v145, .int .i64 r144.1.2.2.1, v146], Own (sliceR (sliceR intR 3) 24) [v145] r144.1.2.1.2, Own (sliceR (sliceR intR 3) 24) [v146] r144.1.2.2.2] := hS.tops 12 [6, 8, 7] rfl
                have hC := (hCd _).2 ⟨_, hS⟩
                refine al_p (v := .agg #[v179]) (by kernel_rfl) 0 rfl rfl (by decide) hC (by kernel_rfl) (by kernel_rfl) (sv_on rfl (fun w' hw' => by obtain ⟨_, hS⟩ := (hCd _).1 hw'; exact (pv_loada (cs := [v179]) rfl rfl (boxc0 (hS.boxAt 0 rfl))))) ?_
                refine al_p (v := .agg #[u1]) (by kernel_rfl) 1 rfl rfl (by decide) hC (by kernel_rfl) (by kernel_rfl) (sv_on rfl (fun w' hw' => by obtain ⟨_, hS⟩ := (hCd _).1 hw'; exact (pv_loada (cs := [u1]) he163 rfl (boxc0 (hS.boxAt 1 rfl))))) ?_
                refine al_one 2 (by kernel_rfl) rfl ?_
                replace hF := ob hF
                obtain ⟨r227, hr227, hF⟩ := hF
                refine el_call goes18 (laws_toDatabase_ok (hS.up ha1) hr227) (congrArg List.toArray (mapc rfl rfl)) (by decide) ?_
                rintro _ w230 ⟨v228, rfl, hS'⟩
                refine ⟨_, rfl, ?_⟩
                have hx231 := hS'.below
                replace hS := hS.call1 hS'
                refine el_nil ?_
                replace hS : Sat w0 w230 [Box b184 44 [v179], Box b107 34 [u1], Own (sliceR (pairR strR (pairR intR (sliceR (sliceR intR 3) 24))) 80) [v179] r178, Own (sliceR (pairR strR (pairR intR (sliceR (sliceR intR 3) 24))) 80) [v228] r227, Box b173 44 [v168], Box b103 34 [u0], Own (sliceR (pairR strR (pairR intR (sliceR (sliceR intR 3) 24))) 80) [v168] r167, Box b198 48 [.string r189.1.1, .int .i64 r189.1.2.1.1, v190, .int .i64 r189.1.2.2.1, v191], Own (sliceR (sliceR intR 3) 24) [v190] r189.1.2.1.2, Own (sliceR (sliceR intR 3) 24) [v191] r189.1.2.2.2, Box b153 48 [.string r144.1.1, .int .i64 r144.1.2.1.1, v145, .int .i64 r144.1.2.2.1, v146], Own (sliceR (sliceR intR 3) 24) [v145] r144.1.2.1.2, Own (sliceR (sliceR intR 3) 24) [v146] r144.1.2.2.2] := hS.tops 13 [1, 2, 3] rfl
                have hC := (hCd _).2 ⟨_, hS⟩
                refine ⟨fun _ => hC, ?_⟩
                refine al_one 3 (by kernel_rfl) rfl ?_
                replace hF := ob hF
                obtain ⟨r232, hr232, hF⟩ := hF
                refine el_call goes21 (laws_eqDatabase_ok (hS.rdAt (R := (sliceR (pairR strR (pairR intR (sliceR (sliceR intR 3) 24))) 80)) 2 rfl) (hS.rdAt (R := (sliceR (pairR strR (pairR intR (sliceR (sliceR intR 3) 24))) 80)) 3 rfl) hr232) (congrArg List.toArray (mapc rfl (mapc rfl rfl))) (by decide) ?_
                rintro _ w233 ⟨rfl, hx234⟩
                refine ⟨_, rfl, ?_⟩
                replace hS := hS.ext hx234
                refine el_nil ?_
                have hC := (hCd _).2 ⟨_, hS⟩
                refine ⟨fun _ => hC, ?_⟩
                refine al_p (v := .bool (!r232)) (by kernel_rfl) 4 rfl rfl (by decide) hC (by kernel_rfl) (by kernel_rfl) (sv_on rfl (fun w' hw' => by obtain ⟨_, hS⟩ := (hCd _).1 hw'; exact (pv_not rfl))) ?_
                refine al_nil (by kernel_rfl) ?_
                refine hQ224 _ _ _ ?_
                refine thn_n ?_
                replace hF := oif hF
                rcases hF with ⟨hb235, hF⟩ | ⟨hb235, hF⟩
                · refine cw_cond_f rfl (bnot_t hb235) ?_
                  refine cw_skip ?_
                  refine hQ223 _ _ _ ?_
                  refine thn_n ?_
                  refine cw_seq ?_
                  refine cw_gen ?_
                  intro Q236 hQ236
                  replace hS : Sat w0 w233 [Box b184 44 [v179], Box b107 34 [u1], Own (sliceR (pairR strR (pairR intR (sliceR (sliceR intR 3) 24))) 80) [v179] r178, Box b173 44 [v168], Box b103 34 [u0], Own (sliceR (pairR strR (pairR intR (sliceR (sliceR intR 3) 24))) 80) [v168] r167, Box b198 48 [.string r189.1.1, .int .i64 r189.1.2.1.1, v190, .int .i64 r189.1.2.2.1, v191], Own (sliceR (sliceR intR 3) 24) [v190] r189.1.2.1.2, Own (sliceR (sliceR intR 3) 24) [v191] r189.1.2.2.2, Box b153 48 [.string r144.1.1, .int .i64 r144.1.2.1.1, v145, .int .i64 r144.1.2.2.1, v146], Own (sliceR (sliceR intR 3) 24) [v145] r144.1.2.1.2, Own (sliceR (sliceR intR 3) 24) [v146] r144.1.2.2.2] := hS.rems 13 [3] rfl
                  refine cw_reg ?_
                  refine el_pv (v := .int .i64 1) (pv_assign rfl) (by decide) ?_
                  refine el_nil ?_
                  refine hQ236 _ _ _ ?_
                  refine thn_n ?_
                  refine cw_seq ?_
                  refine cw_gen ?_
                  intro Q237 hQ237
                  refine cw_reg ?_
                  refine el_pv (v := .agg #[v168]) (pv_loada (cs := [v168]) rfl rfl (boxc0 (hS.boxAt 3 rfl))) (by decide) ?_
                  refine el_pv (v := .int .i64 1) (pv_move rfl) (by decide) ?_
                  replace hS : Sat w0 w233 [Own (sliceR (pairR strR (pairR intR (sliceR (sliceR intR 3) 24))) 80) [v168] r167, Box b184 44 [v179], Box b107 34 [u1], Own (sliceR (pairR strR (pairR intR (sliceR (sliceR intR 3) 24))) 80) [v179] r178, Box b173 44 [v168], Box b103 34 [u0], Box b198 48 [.string r189.1.1, .int .i64 r189.1.2.1.1, v190, .int .i64 r189.1.2.2.1, v191], Own (sliceR (sliceR intR 3) 24) [v190] r189.1.2.1.2, Own (sliceR (sliceR intR 3) 24) [v191] r189.1.2.2.2, Box b153 48 [.string r144.1.1, .int .i64 r144.1.2.1.1, v145, .int .i64 r144.1.2.2.1, v146], Own (sliceR (sliceR intR 3) 24) [v145] r144.1.2.1.2, Own (sliceR (sliceR intR 3) 24) [v146] r144.1.2.2.2] := hS.tops 12 [5] rfl
                  replace hF := ob hF
                  obtain ⟨r238, hr238, hF⟩ := hF
                  refine el_call goes25 (laws_markDatabase_ok hS hr238) (congrArg List.toArray (mapc rfl (mapc rfl rfl))) (by decide) ?_
                  rintro _ w239 ⟨rfl, hS⟩
                  refine ⟨_, rfl, ?_⟩
                  replace hS : Sat w0 w239 [Own (sliceR (pairR strR (pairR intR (sliceR (sliceR intR 3) 24))) 80) [v168] r238.2, Box b184 44 [v179], Box b107 34 [u1], Own (sliceR (pairR strR (pairR intR (sliceR (sliceR intR 3) 24))) 80) [v179] r178, Box b173 44 [v168], Box b103 34 [u0], Box b198 48 [.string r189.1.1, .int .i64 r189.1.2.1.1, v190, .int .i64 r189.1.2.2.1, v191], Own (sliceR (sliceR intR 3) 24) [v190] r189.1.2.1.2, Own (sliceR (sliceR intR 3) 24) [v191] r189.1.2.2.2, Box b153 48 [.string r144.1.1, .int .i64 r144.1.2.1.1, v145, .int .i64 r144.1.2.2.1, v146], Own (sliceR (sliceR intR 3) 24) [v145] r144.1.2.1.2, Own (sliceR (sliceR intR 3) 24) [v146] r144.1.2.2.2] := hS
                  refine el_pv (v := .int .i64 r238.1) (pv_assign rfl) (by decide) ?_
                  refine el_nil ?_
                  refine hQ237 _ _ _ ?_
                  refine thn_n ?_
                  refine cw_seq ?_
                  refine cw_gen ?_
                  intro Q240 hQ240
                  replace hS : Sat w0 w239 [Box b184 44 [v179], Box b107 34 [u1], Own (sliceR (pairR strR (pairR intR (sliceR (sliceR intR 3) 24))) 80) [v179] r178, Box b103 34 [u0], Box b198 48 [.string r189.1.1, .int .i64 r189.1.2.1.1, v190, .int .i64 r189.1.2.2.1, v191], Own (sliceR (sliceR intR 3) 24) [v190] r189.1.2.1.2, Own (sliceR (sliceR intR 3) 24) [v191] r189.1.2.2.2, Box b153 48 [.string r144.1.1, .int .i64 r144.1.2.1.1, v145, .int .i64 r144.1.2.2.1, v146], Own (sliceR (sliceR intR 3) 24) [v145] r144.1.2.1.2, Own (sliceR (sliceR intR 3) 24) [v146] r144.1.2.2.2] := hS.rems 12 [0, 4] rfl
                  refine cw_reg ?_
                  refine el_pv (v := .agg #[v179]) (pv_loada (cs := [v179]) rfl rfl (boxc0 (hS.boxAt 0 rfl))) (by decide) ?_
                  refine el_pv (v := .int .i64 r238.1) (pv_move rfl) (by decide) ?_
                  replace hS : Sat w0 w239 [Own (sliceR (pairR strR (pairR intR (sliceR (sliceR intR 3) 24))) 80) [v179] r178, Box b184 44 [v179], Box b107 34 [u1], Box b103 34 [u0], Box b198 48 [.string r189.1.1, .int .i64 r189.1.2.1.1, v190, .int .i64 r189.1.2.2.1, v191], Own (sliceR (sliceR intR 3) 24) [v190] r189.1.2.1.2, Own (sliceR (sliceR intR 3) 24) [v191] r189.1.2.2.2, Box b153 48 [.string r144.1.1, .int .i64 r144.1.2.1.1, v145, .int .i64 r144.1.2.2.1, v146], Own (sliceR (sliceR intR 3) 24) [v145] r144.1.2.1.2, Own (sliceR (sliceR intR 3) 24) [v146] r144.1.2.2.2] := hS.tops 10 [2] rfl
                  replace hF := ob hF
                  obtain ⟨r241, hr241, hF⟩ := hF
                  refine el_call goes25 (laws_markDatabase_ok hS hr241) (congrArg List.toArray (mapc rfl (mapc rfl rfl))) (by decide) ?_
                  rintro _ w242 ⟨rfl, hS⟩
                  refine ⟨_, rfl, ?_⟩
                  replace hS : Sat w0 w242 [Own (sliceR (pairR strR (pairR intR (sliceR (sliceR intR 3) 24))) 80) [v179] r241.2, Box b184 44 [v179], Box b107 34 [u1], Box b103 34 [u0], Box b198 48 [.string r189.1.1, .int .i64 r189.1.2.1.1, v190, .int .i64 r189.1.2.2.1, v191], Own (sliceR (sliceR intR 3) 24) [v190] r189.1.2.1.2, Own (sliceR (sliceR intR 3) 24) [v191] r189.1.2.2.2, Box b153 48 [.string r144.1.1, .int .i64 r144.1.2.1.1, v145, .int .i64 r144.1.2.2.1, v146], Own (sliceR (sliceR intR 3) 24) [v145] r144.1.2.1.2, Own (sliceR (sliceR intR 3) 24) [v146] r144.1.2.2.2] := hS
                  refine el_pv (v := .int .i64 r241.1) (pv_assign rfl) (by decide) ?_
                  refine el_nil ?_
                  refine hQ240 _ _ _ ?_
                  refine thn_n ?_
                  refine cw_seq ?_
                  refine cw_gen ?_
                  intro Q243 hQ243
                  refine cw_seq ?_
                  refine cw_gen ?_
                  intro Q244 hQ244
                  replace hS : Sat w0 w242 [Box b107 34 [u1], Box b103 34 [u0], Box b198 48 [.string r189.1.1, .int .i64 r189.1.2.1.1, v190, .int .i64 r189.1.2.2.1, v191], Own (sliceR (sliceR intR 3) 24) [v190] r189.1.2.1.2, Own (sliceR (sliceR intR 3) 24) [v191] r189.1.2.2.2, Box b153 48 [.string r144.1.1, .int .i64 r144.1.2.1.1, v145, .int .i64 r144.1.2.2.1, v146], Own (sliceR (sliceR intR 3) 24) [v145] r144.1.2.1.2, Own (sliceR (sliceR intR 3) 24) [v146] r144.1.2.2.2] := hS.rems 10 [0, 1] rfl
                  refine cw_reg ?_
                  refine el_pv (v := .int .i64 r241.1) (pv_move rfl) (by decide) ?_
                  refine el_pv (v := .bool (decide (r241.1 < 0))) (pv_lss rfl rfl) (by decide) ?_
                  refine el_pv (v := .bool (decide (r241.1 < 0))) (pv_move rfl) (by decide) ?_
                  replace hF := oif hF
                  rcases hF with ⟨hb245, hF⟩ | ⟨hb245, hF⟩
                  · refine el_off rfl hb245 rfl (by decide) ?_
                    refine el_off rfl hb245 rfl (by decide) ?_
                    refine el_off rfl hb245 rfl (by decide) ?_
                    refine el_off rfl hb245 rfl (by decide) ?_
                    refine el_pv (v := .bool true) (pv_pick_t rfl hb245 rfl) (by decide) ?_
                    refine el_pv (v := .bool true) (pv_move rfl) (by decide) ?_
                    refine el_off rfl rfl rfl (by decide) ?_
                    refine el_off rfl rfl rfl (by decide) ?_
                    refine el_off rfl rfl rfl (by decide) ?_
                    refine el_pv (v := .bool true) (pv_pick_t rfl rfl rfl) (by decide) ?_
                    refine el_nil ?_
                    refine hQ244 _ _ _ ?_
                    refine thn_n ?_
                    refine cw_cond_t rfl rfl ?_
                    refine cw_seq ?_
                    refine cw_gen ?_
                    intro Q246 hQ246
                    replace hS : Sat w0 w242 [] := hS.rems 8 [0, 1, 2, 3, 4, 5, 6, 7] rfl
                    refine cw_reg ?_
                    refine el_pv (v := .bool false) (pv_assign rfl) (by decide) ?_
                    refine el_nil ?_
                    refine hQ246 _ _ _ ?_
                    refine thn_n ?_
                    refine cw_ret ?_
                    refine hQ243 _ _ _ ?_
                    refine thn_r ?_
                    refine fin1 rfl rfl ?_
                    have hr := Option.some.inj hF
                    exact ⟨congrArg (fun (r : Bool) => Ending.returned (.bool r)) hr, hS.below⟩
                  · refine el_on rfl hb245 ?_
                    refine el_pv (v := .agg #[.string r189.1.1, .int .i64 r189.1.2.1.1, v190, .int .i64 r189.1.2.2.1, v191]) (pv_loada (cs := [.string r189.1.1, .int .i64 r189.1.2.1.1, v190, .int .i64 r189.1.2.2.1, v191]) rfl rfl (boxc0 (hS.boxAt 2 rfl))) (by decide) ?_
                    refine el_on rfl hb245 ?_
                    refine el_pv (v := .agg #[.string r144.1.1, .int .i64 r144.1.2.1.1, v145, .int .i64 r144.1.2.2.1, v146]) (pv_loada (cs := [.string r144.1.1, .int .i64 r144.1.2.1.1, v145, .int .i64 r144.1.2.2.1, v146]) he164 rfl (boxc0 (hS.boxAt 5 rfl))) (by decide) ?_
                    refine el_on rfl hb245 ?_
                    replace hF := ob hF
                    obtain ⟨r247, hr247, hF⟩ := hF
                    refine el_call goes22 (laws_eqDelta_ok hz192 (hS.rdAt (R := (sliceR (sliceR intR 3) 24)) 3 rfl) (hS.rdAt (R := (sliceR (sliceR intR 3) 24)) 4 rfl) hz147 (hS.rdAt (R := (sliceR (sliceR intR 3) 24)) 6 rfl) (hS.rdAt (R := (sliceR (sliceR intR 3) 24)) 7 rfl) hr247) (congrArg List.toArray (mapc rfl (mapc rfl rfl))) (by decide) ?_
                    rintro _ w248 ⟨rfl, hx249⟩
                    refine ⟨_, rfl, ?_⟩
                    replace hS := hS.ext hx249
                    refine el_on rfl hb245 ?_
                    refine el_pv (v := .bool (!r247)) (pv_not rfl) (by decide) ?_
                    refine el_pv (v := .bool (!r247)) (pv_pick_f rfl hb245 rfl) (by decide) ?_
                    refine el_pv (v := .bool (!r247)) (pv_move rfl) (by decide) ?_
                    replace hF := oif hF
                    rcases hF with ⟨hb250, hF⟩ | ⟨hb250, hF⟩
                    · refine el_on rfl (bnot_t hb250) ?_
                      refine el_pv (v := .bool r189.2) (pv_move rfl) (by decide) ?_
                      refine el_on rfl (bnot_t hb250) ?_
                      refine el_pv (v := .bool r144.2) (pv_move he165) (by decide) ?_
                      refine el_on rfl (bnot_t hb250) ?_
                      refine el_pv (v := .bool (r189.2 != r144.2)) (pv_neqB Try.underlying4 rfl rfl) (by decide) ?_
                      refine el_pv (v := .bool (r189.2 != r144.2)) (pv_pick_f rfl (bnot_t hb250) rfl) (by decide) ?_
                      refine el_nil ?_
                      refine hQ244 _ _ _ ?_
                      refine thn_n ?_
                      refine cw_cond_f rfl hb208 ?_
                      refine cw_skip ?_
                      refine hQ243 _ _ _ ?_
                      refine thn_n ?_
                      refine cw_seq ?_
                      refine cw_gen ?_
                      intro Q251 hQ251
                      refine cw_reg ?_
                      refine el_pv (v := .int .i64 1) (pv_assign rfl) (by decide) ?_
                      refine el_nil ?_
                      refine hQ251 _ _ _ ?_
                      refine thn_n ?_
                      refine cw_seq ?_
                      refine cw_gen ?_
                      intro Q252 hQ252
                      refine cw_reg ?_
                      refine el_pv (v := .agg #[.string r189.1.1, .int .i64 r189.1.2.1.1, v190, .int .i64 r189.1.2.2.1, v191]) (pv_loada (cs := [.string r189.1.1, .int .i64 r189.1.2.1.1, v190, .int .i64 r189.1.2.2.1, v191]) rfl rfl (boxc0 (hS.boxAt 2 rfl))) (by decide) ?_
                      refine el_pv (v := .int .i64 1) (pv_move rfl) (by decide) ?_
                      replace hS : Sat w0 w248 [Own (sliceR (sliceR intR 3) 24) [v190] r189.1.2.1.2, Own (sliceR (sliceR intR 3) 24) [v191] r189.1.2.2.2, Box b107 34 [u1], Box b103 34 [u0], Box b198 48 [.string r189.1.1, .int .i64 r189.1.2.1.1, v190, .int .i64 r189.1.2.2.1, v191], Box b153 48 [.string r144.1.1, .int .i64 r144.1.2.1.1, v145, .int .i64 r144.1.2.2.1, v146], Own (sliceR (sliceR intR 3) 24) [v145] r144.1.2.1.2, Own (sliceR (sliceR intR 3) 24) [v146] r144.1.2.2.2] := hS.tops 8 [3, 4] rfl
                      replace hF := ob hF
                      obtain ⟨r253, hr253, hF⟩ := hF
                      refine el_call goes26 (laws_markDelta_ok hz192 hS hr253) (congrArg List.toArray (mapc rfl (mapc rfl rfl))) (by decide) ?_
                      rintro _ w254 ⟨rfl, hS⟩
                      refine ⟨_, rfl, ?_⟩
                      replace hS : Sat w0 w254 [Own (sliceR (sliceR intR 3) 24) [v190] r253.2.1, Own (sliceR (sliceR intR 3) 24) [v191] r253.2.2, Box b107 34 [u1], Box b103 34 [u0], Box b198 48 [.string r189.1.1, .int .i64 r189.1.2.1.1, v190, .int .i64 r189.1.2.2.1, v191], Box b153 48 [.string r144.1.1, .int .i64 r144.1.2.1.1, v145, .int .i64 r144.1.2.2.1, v146], Own (sliceR (sliceR intR 3) 24) [v145] r144.1.2.1.2, Own (sliceR (sliceR intR 3) 24) [v146] r144.1.2.2.2] := hS
                      refine el_pv (v := .int .i64 r253.1) (pv_assign rfl) (by decide) ?_
                      refine el_nil ?_
                      refine hQ252 _ _ _ ?_
                      refine thn_n ?_
                      refine cw_seq ?_
                      refine cw_gen ?_
                      intro Q255 hQ255
                      refine cw_reg ?_
                      refine el_pv (v := .int .i64 1) (pv_assign rfl) (by decide) ?_
                      refine el_nil ?_
                      refine hQ255 _ _ _ ?_
                      refine thn_n ?_
                      refine cw_seq ?_
                      refine cw_gen ?_
                      intro Q256 hQ256
                      refine cw_reg ?_
                      refine el_pv (v := .agg #[.string r189.1.1, .int .i64 r189.1.2.1.1, v190, .int .i64 r189.1.2.2.1, v191]) (pv_loada (cs := [.string r189.1.1, .int .i64 r189.1.2.1.1, v190, .int .i64 r189.1.2.2.1, v191]) rfl rfl (boxc0 (hS.boxAt 4 rfl))) (by decide) ?_
                      refine el_pv (v := .int .i64 1) (pv_move rfl) (by decide) ?_
                      replace hF := ob hF
                      obtain ⟨r257, hr257, hF⟩ := hF
                      refine el_call goes27 (laws_heldDelta_ok hz192 (hS.rdAt (R := (sliceR (sliceR intR 3) 24)) 0 rfl) (hS.rdAt (R := (sliceR (sliceR intR 3) 24)) 1 rfl) hr257) (congrArg List.toArray (mapc rfl (mapc rfl rfl))) (by decide) ?_
                      rintro _ w258 ⟨rfl, hx259⟩
                      refine ⟨_, rfl, ?_⟩
                      replace hS := hS.ext hx259
                      refine el_pv (v := .int .i64 r257) (pv_assign rfl) (by decide) ?_
                      refine el_nil ?_
                      refine hQ256 _ _ _ ?_
                      refine thn_n ?_
                      refine cw_seq ?_
                      refine cw_gen ?_
                      intro Q260 hQ260
                      refine cw_seq ?_
                      refine cw_gen ?_
                      intro Q261 hQ261
                      refine cw_reg ?_
                      refine el_pv (v := .int .i64 r257) (pv_move rfl) (by decide) ?_
                      refine el_pv (v := .bool (decide (r257 < 0))) (pv_lss rfl rfl) (by decide) ?_
                      refine el_nil ?_
                      refine hQ261 _ _ _ ?_
                      refine thn_n ?_
                      replace hF := oif hF
                      rcases hF with ⟨hb262, hF⟩ | ⟨hb262, hF⟩
                      · refine cw_cond_t rfl hb262 ?_
                        refine cw_seq ?_
                        refine cw_gen ?_
                        intro Q263 hQ263
                        replace hS : Sat w0 w258 [] := hS.rems 8 [0, 1, 2, 3, 4, 5, 6, 7] rfl
                        refine cw_reg ?_
                        refine el_pv (v := .bool false) (pv_assign rfl) (by decide) ?_
                        refine el_nil ?_
                        refine hQ263 _ _ _ ?_
                        refine thn_n ?_
                        refine cw_ret ?_
                        refine hQ260 _ _ _ ?_
                        refine thn_r ?_
                        refine fin1 rfl rfl ?_
                        have hr := Option.some.inj hF
                        exact ⟨congrArg (fun (r : Bool) => Ending.returned (.bool r)) hr, hS.below⟩
                      · refine cw_cond_f rfl hb262 ?_
                        refine cw_skip ?_
                        refine hQ260 _ _ _ ?_
                        refine thn_n ?_
                        refine cw_seq ?_
                        refine cw_gen ?_
                        intro Q264 hQ264
                        refine cw_seq ?_
                        refine cw_gen ?_
                        intro Q265 hQ265
                        refine cw_reg ?_
                        refine el_pv (v := .int .i64 r257) (pv_move rfl) (by decide) ?_
                        refine el_pv (v := .int .i64 r253.1) (pv_move rfl) (by decide) ?_
                        refine el_pv (v := .bool (r257 != r253.1)) (pv_neq rfl rfl) (by decide) ?_
                        refine el_nil ?_
                        refine hQ265 _ _ _ ?_
                        refine thn_n ?_
                        replace hF := oif hF
                        rcases hF with ⟨hb266, hF⟩ | ⟨hb266, hF⟩
                        · refine cw_cond_t rfl hb266 ?_
                          refine cw_seq ?_
                          refine cw_gen ?_
                          intro Q267 hQ267
                          replace hS : Sat w0 w258 [] := hS.rems 8 [0, 1, 2, 3, 4, 5, 6, 7] rfl
                          refine cw_reg ?_
                          refine el_pv (v := .bool false) (pv_assign rfl) (by decide) ?_
                          refine el_nil ?_
                          refine hQ267 _ _ _ ?_
                          refine thn_n ?_
                          refine cw_ret ?_
                          refine hQ264 _ _ _ ?_
                          refine thn_r ?_
                          refine fin1 rfl rfl ?_
                          have hr := Option.some.inj hF
                          exact ⟨congrArg (fun (r : Bool) => Ending.returned (.bool r)) hr, hS.below⟩
                        · refine cw_cond_f rfl hb266 ?_
                          refine cw_skip ?_
                          refine hQ264 _ _ _ ?_
                          refine thn_n ?_
                          refine cw_seq ?_
                          refine cw_gen ?_
                          intro Q268 hQ268
                          replace hF := ob hF
                          obtain ⟨r271, hr271, hF⟩ := hF
                          replace hF := ob hF
                          obtain ⟨r276, hr276, hF⟩ := hF
                          replace hF := ob hF
                          obtain ⟨r281, hr281, hF⟩ := hF
                          refine cw_mid (fun e w => ∃ (b290 : Nat), ∃ (v282 : Value), ∃ (v283 : Value), e 8 = .pointer (some ⟨b153, 0, none⟩) ∧ e 9 = .bool r144.2 ∧ e 12 = .pointer (some ⟨b198, 0, none⟩) ∧ e 15 = .int .i64 r253.1 ∧ e 17 = .pointer (some ⟨b290, 0, none⟩) ∧ e 18 = .bool r281.2 ∧ r281.1.1.size ≤ 9223372036854775807 ∧ Sat w0 w [Box b198 48 [.string r189.1.1, .int .i64 r189.1.2.1.1, v190, .int .i64 r189.1.2.2.1, v191], Box b153 48 [.string r144.1.1, .int .i64 r144.1.2.1.1, v145, .int .i64 r144.1.2.2.1, v146], Own (sliceR (sliceR intR 3) 24) [v190] r253.2.1, Own (sliceR (sliceR intR 3) 24) [v191] r253.2.2, Own (sliceR (sliceR intR 3) 24) [v145] r144.1.2.1.2, Own (sliceR (sliceR intR 3) 24) [v146] r144.1.2.2.2, Box b290 48 [.string r281.1.1, .int .i64 r281.1.2.1.1, v282, .int .i64 r281.1.2.2.1, v283], Own (sliceR (sliceR intR 3) 24) [v282] r281.1.2.1.2, Own (sliceR (sliceR intR 3) 24) [v283] r281.1.2.2.2]) ?_ ?_
                          · obtain ⟨C, hCd⟩ : ∃ C : World → Prop, ∀ w, C w ↔ ∃ G, Sat w0 w ([Box b107 34 [u1], Box b103 34 [u0]] ++ G) := ⟨_, fun _ => Iff.rfl⟩
                            refine cw_regb [0, 1, 2, 3, 4, 5, 6, 7, 8, 9, 10, 11] C (by kernel_rfl) ?_
                            intro w294 hx295
                            replace hS := hS.ext hx295
                            replace hS : Sat w0 w294 [Box b107 34 [u1], Box b103 34 [u0], Own (sliceR (sliceR intR 3) 24) [v190] r253.2.1, Own (sliceR (sliceR intR 3) 24) [v191] r253.2.2, Box b198 48 [.string r189.1.1, .int .i64 r189.1.2.1.1, v190, .int .i64 r189.1.2.2.1, v191], Box b153 48 [.string r144.1.1, .int .i64 r144.1.2.1.1, v145, .int .i64 r144.1.2.2.1, v146], Own (sliceR (sliceR intR 3) 24) [v145] r144.1.2.1.2, Own (sliceR (sliceR intR 3) 24) [v146] r144.1.2.2.2] := hS.tops 8 [2, 3] rfl
                            have hC := (hCd _).2 ⟨_, hS⟩
                            refine al_p (v := .agg #[u0]) (by kernel_rfl) 0 rfl rfl (by decide) hC (by kernel_rfl) (by kernel_rfl) (sv_on rfl (fun w' hw' => by obtain ⟨_, hS⟩ := (hCd _).1 hw'; exact (pv_loada (cs := [u0]) he162 rfl (boxc0 (hS.boxAt 1 rfl))))) ?_
                            refine al_p (v := .agg #[u1]) (by kernel_rfl) 2 rfl rfl (by decide) hC (by kernel_rfl) (by kernel_rfl) (sv_on rfl (fun w' hw' => by obtain ⟨_, hS⟩ := (hCd _).1 hw'; exact (pv_loada (cs := [u1]) he163 rfl (boxc0 (hS.boxAt 0 rfl))))) ?_
                            refine al_p (v := .string a2) (by kernel_rfl) 4 rfl rfl (by decide) hC (by kernel_rfl) (by kernel_rfl) (sv_on rfl (fun w' hw' => by obtain ⟨_, hS⟩ := (hCd _).1 hw'; exact (pv_move he161))) ?_
                            refine al_two 1 9 (by kernel_rfl) rfl rfl ?_ ?_
                            · refine el_call goes18 (laws_toDatabase_ok (hS.up ha0) hr271) (congrArg List.toArray (mapc rfl rfl)) (by decide) ?_
                              rintro _ w274 ⟨v272, rfl, hS'⟩
                              refine ⟨_, rfl, ?_⟩
                              have hx275 := hS'.below
                              replace hS := hS.call1 hS'
                              refine el_nil ?_
                              replace hS : Sat w0 w274 [Box b107 34 [u1], Box b103 34 [u0], Own (sliceR (pairR strR (pairR intR (sliceR (sliceR intR 3) 24))) 80) [v272] r271, Own (sliceR (sliceR intR 3) 24) [v190] r253.2.1, Own (sliceR (sliceR intR 3) 24) [v191] r253.2.2, Box b198 48 [.string r189.1.1, .int .i64 r189.1.2.1.1, v190, .int .i64 r189.1.2.2.1, v191], Box b153 48 [.string r144.1.1, .int .i64 r144.1.2.1.1, v145, .int .i64 r144.1.2.2.1, v146], Own (sliceR (sliceR intR 3) 24) [v145] r144.1.2.1.2, Own (sliceR (sliceR intR 3) 24) [v146] r144.1.2.2.2] := hS.tops 9 [1, 2] rfl
                              have hC := (hCd _).2 ⟨_, hS⟩
                              refine ⟨fun _ => hC, ?_⟩
                              refine al_two 3 9 (by kernel_rfl) rfl rfl ?_ ?_
                              · refine el_call goes18 (laws_toDatabase_ok (hS.up ha1) hr276) (congrArg List.toArray (mapc rfl rfl)) (by decide) ?_
                                rintro _ w279 ⟨v277, rfl, hS'⟩
                                refine ⟨_, rfl, ?_⟩
                                have hx280 := hS'.below
                                replace hS := hS.call1 hS'
                                refine el_nil ?_
                                replace hS : Sat w0 w279 [Box b107 34 [u1], Box b103 34 [u0], Own (sliceR (pairR strR (pairR intR (sliceR (sliceR intR 3) 24))) 80) [v277] r276, Own (sliceR (pairR strR (pairR intR (sliceR (sliceR intR 3) 24))) 80) [v272] r271, Own (sliceR (sliceR intR 3) 24) [v190] r253.2.1, Own (sliceR (sliceR intR 3) 24) [v191] r253.2.2, Box b198 48 [.string r189.1.1, .int .i64 r189.1.2.1.1, v190, .int .i64 r189.1.2.2.1, v191], Box b153 48 [.string r144.1.1, .int .i64 r144.1.2.1.1, v145, .int .i64 r144.1.2.2.1, v146], Own (sliceR (sliceR intR 3) 24) [v145] r144.1.2.1.2, Own (sliceR (sliceR intR 3) 24) [v146] r144.1.2.2.2] := hS.tops 10 [1, 2] rfl
                                have hC := (hCd _).2 ⟨_, hS⟩
                                refine ⟨fun _ => hC, ?_⟩
                                refine al_two 5 9 (by kernel_rfl) rfl rfl ?_ ?_
                                · refine el_call goes24 (impl_DiffDatabases_ok (hS.rdAt (R := (sliceR (pairR strR (pairR intR (sliceR (sliceR intR 3) 24))) 80)) 3 rfl) (hS.rdAt (R := (sliceR (pairR strR (pairR intR (sliceR (sliceR intR 3) 24))) 80)) 2 rfl) ha2 hr281) (congrArg List.toArray (mapc rfl (mapc rfl (mapc rfl rfl)))) (by decide) ?_
                                  rintro _ w287 ⟨v282, v283, rfl, hS', hz284⟩
                                  refine ⟨_, rfl, ?_⟩
                                  have hx288 := hS'.below
                                  replace hS := hS.call2 hS'
                                  refine el_nil ?_
                                  replace hS : Sat w0 w287 [Box b107 34 [u1], Box b103 34 [u0], Own (sliceR (sliceR intR 3) 24) [v282] r281.1.2.1.2, Own (sliceR (sliceR intR 3) 24) [v283] r281.1.2.2.2, Own (sliceR (pairR strR (pairR intR (sliceR (sliceR intR 3) 24))) 80) [v277] r276, Own (sliceR (pairR strR (pairR intR (sliceR (sliceR intR 3) 24))) 80) [v272] r271, Own (sliceR (sliceR intR 3) 24) [v190] r253.2.1, Own (sliceR (sliceR intR 3) 24) [v191] r253.2.2, Box b198 48 [.string r189.1.1, .int .i64 r189.1.2.1.1, v190, .int .i64 r189.1.2.2.1, v191], Box b153 48 [.string r144.1.1, .int .i64 r144.1.2.1.1, v145, .int .i64 r144.1.2.2.1, v146], Own (sliceR (sliceR intR 3) 24) [v145] r144.1.2.1.2, Own (sliceR (sliceR intR 3) 24) [v146] r144.1.2.2.2] := hS.tops 12 [2, 3] rfl
                                  have hC := (hCd _).2 ⟨_, hS⟩
                                  refine ⟨fun _ => hC, ?_⟩
                                  refine al_p (v := .tuple #[.agg #[.string r281.1.1, .int .i64 r281.1.2.1.1, v282, .int .i64 r281.1.2.2.1, v283], .bool r281.2]) (by kernel_rfl) 6 rfl rfl (by decide) hC (by kernel_rfl) (by kernel_rfl) (sv_on rfl (fun w' hw' => by obtain ⟨_, hS⟩ := (hCd _).1 hw'; exact (pv_move rfl))) ?_
                                  refine al_p (v := .agg #[.string r281.1.1, .int .i64 r281.1.2.1.1, v282, .int .i64 r281.1.2.2.1, v283]) (by kernel_rfl) 7 rfl rfl (by decide) hC (by kernel_rfl) (by kernel_rfl) (sv_on rfl (fun w' hw' => by obtain ⟨_, hS⟩ := (hCd _).1 hw'; exact (pv_extract rfl rfl))) ?_
                                  refine al_p (v := .bool r281.2) (by kernel_rfl) 8 rfl rfl (by decide) hC (by kernel_rfl) (by kernel_rfl) (sv_on rfl (fun w' hw' => by obtain ⟨_, hS⟩ := (hCd _).1 hw'; exact (pv_extract rfl rfl))) ?_
                                  refine al_one 9 (by kernel_rfl) rfl ?_
                                  refine el_alloc hS (by decide) ?_
                                  intro w289 b290 hS hx291
                                  refine el_nil ?_
                                  replace hS : Sat w0 w289 [Box b107 34 [u1], Box b103 34 [u0], Box b290 48 [.string ByteArray.empty, .int .i64 0, (.slice none 0 0), .int .i64 0, (.slice none 0 0)], Own (sliceR (sliceR intR 3) 24) [v282] r281.1.2.1.2, Own (sliceR (sliceR intR 3) 24) [v283] r281.1.2.2.2, Own (sliceR (pairR strR (pairR intR (sliceR (sliceR intR 3) 24))) 80) [v277] r276, Own (sliceR (pairR strR (pairR intR (sliceR (sliceR intR 3) 24))) 80) [v272] r271, Own (sliceR (sliceR intR 3) 24) [v190] r253.2.1, Own (sliceR (sliceR intR 3) 24) [v191] r253.2.2, Box b198 48 [.string r189.1.1, .int .i64 r189.1.2.1.1, v190, .int .i64 r189.1.2.2.1, v191], Box b153 48 [.string r144.1.1, .int .i64 r144.1.2.1.1, v145, .int .i64 r144.1.2.2.1, v146], Own (sliceR (sliceR intR 3) 24) [v145] r144.1.2.1.2, Own (sliceR (sliceR intR 3) 24) [v146] r144.1.2.2.2] := hS.tops 13 [1, 2] rfl
                                  have hC := (hCd _).2 ⟨_, hS⟩
                                  refine ⟨fun _ => hC, ?_⟩
                                  refine al_one 10 (by kernel_rfl) rfl ?_
                                  refine el_storev (hS.top 2 rfl) rfl [.string r281.1.1, .int .i64 r281.1.2.1.1, v282, .int .i64 r281.1.2.2.1, v283] rfl rfl (of_decide_eq_true rfl) (all_cons rfl (all_cons rfl (all_cons (oc (hS.rdAt (R := (sliceR (sliceR intR 3) 24)) 3 rfl)) (all_cons rfl (all_cons (oc (hS.rdAt (R := (sliceR (sliceR intR 3) 24)) 4 rfl)) rfl))))) ?_
                                  intro w293 hS
                                  replace hS : Sat w0 w293 [Box b290 48 [.string r281.1.1, .int .i64 r281.1.2.1.1, v282, .int .i64 r281.1.2.2.1, v283], Box b107 34 [u1], Box b103 34 [u0], Own (sliceR (sliceR intR 3) 24) [v282] r281.1.2.1.2, Own (sliceR (sliceR intR 3) 24) [v283] r281.1.2.2.2, Own (sliceR (pairR strR (pairR intR (sliceR (sliceR intR 3) 24))) 80) [v277] r276, Own (sliceR (pairR strR (pairR intR (sliceR (sliceR intR 3) 24))) 80) [v272] r271, Own (sliceR (sliceR intR 3) 24) [v190] r253.2.1, Own (sliceR (sliceR intR 3) 24) [v191] r253.2.2, Box b198 48 [.string r189.1.1, .int .i64 r189.1.2.1.1, v190, .int .i64 r189.1.2.2.1, v191], Box b153 48 [.string r144.1.1, .int .i64 r144.1.2.1.1, v145, .int .i64 r144.1.2.2.1, v146], Own (sliceR (sliceR intR 3) 24) [v145] r144.1.2.1.2, Own (sliceR (sliceR intR 3) 24) [v146] r144.1.2.2.2] := hS
                                  refine el_nil ?_
                                  replace hS : Sat w0 w293 [Box b107 34 [u1], Box b103 34 [u0], Box b290 48 [.string r281.1.1, .int .i64 r281.1.2.1.1, v282, .int .i64 r281.1.2.2.1, v283], Own (sliceR (sliceR intR 3) 24) [v282] r281.1.2.1.2, Own (sliceR (sliceR intR 3) 24) [v283] r281.1.2.2.2, Own (sliceR (pairR strR (pairR intR (sliceR (sliceR intR 3) 24))) 80) [v277] r276, Own (sliceR (pairR strR (pairR intR (sliceR (sliceR intR 3) 24))) 80) [v272] r271, Own (sliceR (sliceR intR 3) 24) [v190] r253.2.1, Own (sliceR (sliceR intR 3) 24) [v191] r253.2.2, Box b198 48 [.string r189.1.1, .int .i64 r189.1.2.1.1, v190, .int .i64 r189.1.2.2.1, v191], Box b153 48 [.string r144.1.1, .int .i64 r144.1.2.1.1, v145, .int .i64 r144.1.2.2.1, v146], Own (sliceR (sliceR intR 3) 24) [v145] r144.1.2.1.2, Own (sliceR (sliceR intR 3) 24) [v146] r144.1.2.2.2] := hS.tops 13 [1, 2] rfl
                                  have hC := (hCd _).2 ⟨_, hS⟩
                                  refine ⟨fun _ => hC, ?_⟩
                                  refine al_p (v := .bool r281.2) (by kernel_rfl) 11 rfl rfl (by decide) hC (by kernel_rfl) (by kernel_rfl) (sv_on rfl (fun w' hw' => by obtain ⟨_, hS⟩ := (hCd _).1 hw'; exact (pv_assign rfl))) ?_
                                  refine al_nil (by kernel_rfl) ?_
                                  replace hS : Sat w0 w293 [Box b198 48 [.string r189.1.1, .int .i64 r189.1.2.1.1, v190, .int .i64 r189.1.2.2.1, v191], Box b153 48 [.string r144.1.1, .int .i64 r144.1.2.1.1, v145, .int .i64 r144.1.2.2.1, v146], Own (sliceR (sliceR intR 3) 24) [v190] r253.2.1, Own (sliceR (sliceR intR 3) 24) [v191] r253.2.2, Own (sliceR (sliceR intR 3) 24) [v145] r144.1.2.1.2, Own (sliceR (sliceR intR 3) 24) [v146] r144.1.2.2.2, Box b290 48 [.string r281.1.1, .int .i64 r281.1.2.1.1, v282, .int .i64 r281.1.2.2.1, v283], Own (sliceR (sliceR intR 3) 24) [v282] r281.1.2.1.2, Own (sliceR (sliceR intR 3) 24) [v283] r281.1.2.2.2, Box b107 34 [u1], Box b103 34 [u0], Own (sliceR (pairR strR (pairR intR (sliceR (sliceR intR 3) 24))) 80) [v277] r276, Own (sliceR (pairR strR (pairR intR (sliceR (sliceR intR 3) 24))) 80) [v272] r271] := hS.tops 13 [9, 10, 7, 8, 11, 12, 2, 3, 4] rfl
                                  exact ⟨rfl, b290, v282, v283, he164, he165, rfl, rfl, rfl, rfl, hz284, (hS.keep 9)⟩
                                · refine el_alloc hS (by decide) ?_
                                  intro w289 b290 hS hx291
                                  refine el_nil ?_
                                  replace hS : Sat w0 w289 [Box b107 34 [u1], Box b103 34 [u0], Box b290 48 [.string ByteArray.empty, .int .i64 0, (.slice none 0 0), .int .i64 0, (.slice none 0 0)], Own (sliceR (pairR strR (pairR intR (sliceR (sliceR intR 3) 24))) 80) [v277] r276, Own (sliceR (pairR strR (pairR intR (sliceR (sliceR intR 3) 24))) 80) [v272] r271, Own (sliceR (sliceR intR 3) 24) [v190] r253.2.1, Own (sliceR (sliceR intR 3) 24) [v191] r253.2.2, Box b198 48 [.string r189.1.1, .int .i64 r189.1.2.1.1, v190, .int .i64 r189.1.2.2.1, v191], Box b153 48 [.string r144.1.1, .int .i64 r144.1.2.1.1, v145, .int .i64 r144.1.2.2.1, v146], Own (sliceR (sliceR intR 3) 24) [v145] r144.1.2.1.2, Own (sliceR (sliceR intR 3) 24) [v146] r144.1.2.2.2] := hS.tops 11 [1, 2] rfl
                                  have hC := (hCd _).2 ⟨_, hS⟩
                                  refine ⟨fun _ => hC, ?_⟩
                                  refine al_one 5 (by kernel_rfl) rfl ?_
                                  refine el_call goes24 (impl_DiffDatabases_ok (hS.rdAt (R := (sliceR (pairR strR (pairR intR (sliceR (sliceR intR 3) 24))) 80)) 4 rfl) (hS.rdAt (R := (sliceR (pairR strR (pairR intR (sliceR (sliceR intR 3) 24))) 80)) 3 rfl) ha2 hr281) (congrArg List.toArray (mapc rfl (mapc rfl (mapc rfl rfl)))) (by decide) ?_
                                  rintro _ w287 ⟨v282, v283, rfl, hS', hz284⟩
                                  refine ⟨_, rfl, ?_⟩
                                  have hx288 := hS'.below
                                  replace hS := hS.call2 hS'
                                  refine el_nil ?_
                                  replace hS : Sat w0 w287 [Box b107 34 [u1], Box b103 34 [u0], Own (sliceR (sliceR intR 3) 24) [v282] r281.1.2.1.2, Own (sliceR (sliceR intR 3) 24) [v283] r281.1.2.2.2, Box b290 48 [.string ByteArray.empty, .int .i64 0, (.slice none 0 0), .int .i64 0, (.slice none 0 0)], Own (sliceR (pairR strR (pairR intR (sliceR (sliceR intR 3) 24))) 80) [v277] r276, Own (sliceR (pairR strR (pairR intR (sliceR (sliceR intR 3) 24))) 80) [v272] r271, Own (sliceR (sliceR intR 3) 24) [v190] r253.2.1, Own (sliceR (sliceR intR 3) 24) [v191] r253.2.2, Box b198 48 [.string r189.1.1, .int .i64 r189.1.2.1.1, v190, .int .i64 r189.1.2.2.1, v191], Box b153 48 [.string r144.1.1, .int .i64 r144.1.2.1.1, v145, .int .i64 r144.1.2.2.1, v146], Own (sliceR (sliceR intR 3) 24) [v145] r144.1.2.1.2, Own (sliceR (sliceR intR 3) 24) [v146] r144.1.2.2.2] := hS.tops 13 [2, 3] rfl
                                  have hC := (hCd _).2 ⟨_, hS⟩
                                  refine ⟨fun _ => hC, ?_⟩
                                  refine al_p (v := .tuple #[.agg #[.string r281.1.1, .int .i64 r281.1.2.1.1, v282, .int .i64 r281.1.2.2.1, v283], .bool r281.2]) (by kernel_rfl) 6 rfl rfl (by decide) hC (by kernel_rfl) (by kernel_rfl) (sv_on rfl (fun w' hw' => by obtain ⟨_, hS⟩ := (hCd _).1 hw'; exact (pv_move rfl))) ?_
                                  refine al_p (v := .agg #[.string r281.1.1, .int .i64 r281.1.2.1.1, v282, .int .i64 r281.1.2.2.1, v283]) (by kernel_rfl) 7 rfl rfl (by decide) hC (by kernel_rfl) (by kernel_rfl) (sv_on rfl (fun w' hw' => by obtain ⟨_, hS⟩ := (hCd _).1 hw'; exact (pv_extract rfl rfl))) ?_
                                  refine al_p (v := .bool r281.2) (by kernel_rfl) 8 rfl rfl (by decide) hC (by kernel_rfl) (by kernel_rfl) (sv_on rfl (fun w' hw' => by obtain ⟨_, hS⟩ := (hCd _).1 hw'; exact (pv_extract rfl rfl))) ?_
                                  refine al_one 10 (by kernel_rfl) rfl ?_
                                  refine el_storev (hS.top 4 rfl) rfl [.string r281.1.1, .int .i64 r281.1.2.1.1, v282, .int .i64 r281.1.2.2.1, v283] rfl rfl (of_decide_eq_true rfl) (all_cons rfl (all_cons rfl (all_cons (oc (hS.rdAt (R := (sliceR (sliceR intR 3) 24)) 2 rfl)) (all_cons rfl (all_cons (oc (hS.rdAt (R := (sliceR (sliceR intR 3) 24)) 3 rfl)) rfl))))) ?_
                                  intro w293 hS
                                  replace hS : Sat w0 w293 [Box b290 48 [.string r281.1.1, .int .i64 r281.1.2.1.1, v282, .int .i64 r281.1.2.2.1, v283], Box b107 34 [u1], Box b103 34 [u0], Own (sliceR (sliceR intR 3) 24) [v282] r281.1.2.1.2, Own (sliceR (sliceR intR 3) 24) [v283] r281.1.2.2.2, Own (sliceR (pairR strR (pairR intR (sliceR (sliceR intR 3) 24))) 80) [v277] r276, Own (sliceR (pairR strR (pairR intR (sliceR (sliceR intR 3) 24))) 80) [v272] r271, Own (sliceR (sliceR intR 3) 24) [v190] r253.2.1, Own (sliceR (sliceR intR 3) 24) [v191] r253.2.2, Box b198 48 [.string r189.1.1, .int .i64 r189.1.2.1.1, v190, .int .i64 r189.1.2.2.1, v191], Box b153 48 [.string r144.1.1, .int .i64 r144.1.2.1.1, v145, .int .i64 r144.1.2.2.1, v146], Own (sliceR (sliceR intR 3) 24) [v145] r144.1.2.1.2, Own (sliceR (sliceR intR 3) 24) [v146] r144.1.2.2.2] := hS
                                  refine el_nil ?_
                                  replace hS : Sat w0 w293 [Box b107 34 [u1], Box b103 34 [u0], Box b290 48 [.string r281.1.1, .int .i64 r281.1.2.1.1, v282, .int .i64 r281.1.2.2.1, v283], Own (sliceR (sliceR intR 3) 24) [v282] r281.1.2.1.2, Own (sliceR (sliceR intR 3) 24) [v283] r281.1.2.2.2, Own (sliceR (pairR strR (pairR intR (sliceR (sliceR intR 3) 24))) 80) [v277] r276, Own (sliceR (pairR strR (pairR intR (sliceR (sliceR intR 3) 24))) 80) [v272] r271, Own (sliceR (sliceR intR 3) 24) [v190] r253.2.1, Own (sliceR (sliceR intR 3) 24) [v191] r253.2.2, Box b198 48 [.string r189.1.1, .int .i64 r189.1.2.1.1, v190, .int .i64 r189.1.2.2.1, v191], Box b153 48 [.string r144.1.1, .int .i64 r144.1.2.1.1, v145, .int .i64 r144.1.2.2.1, v146], Own (sliceR (sliceR intR 3) 24) [v145] r144.1.2.1.2, Own (sliceR (sliceR intR 3) 24) [v146] r144.1.2.2.2] := hS.tops 13 [1, 2] rfl
                                  have hC := (hCd _).2 ⟨_, hS⟩
                                  refine ⟨fun _ => hC, ?_⟩
                                  refine al_p (v := .bool r281.2) (by kernel_rfl) 11 rfl rfl (by decide) hC (by kernel_rfl) (by kernel_rfl) (sv_on rfl (fun w' hw' => by obtain ⟨_, hS⟩ := (hCd _).1 hw'; exact (pv_assign rfl))) ?_
                                  refine al_nil (by kernel_rfl) ?_
                                  replace hS : Sat w0 w293 [Box b198 48 [.string r189.1.1, .int .i64 r189.1.2.1.1, v190, .int .i64 r189.1.2.2.1, v191], Box b153 48 [.string r144.1.1, .int .i64 r144.1.2.1.1, v145, .int .i64 r144.1.2.2.1, v146], Own (sliceR (sliceR intR 3) 24) [v190] r253.2.1, Own (sliceR (sliceR intR 3) 24) [v191] r253.2.2, Own (sliceR (sliceR intR 3) 24) [v145] r144.1.2.1.2, Own (sliceR (sliceR intR 3) 24) [v146] r144.1.2.2.2, Box b290 48 [.string r281.1.1, .int .i64 r281.1.2.1.1, v282, .int .i64 r281.1.2.2.1, v283], Own (sliceR (sliceR intR 3) 24) [v282] r281.1.2.1.2, Own (sliceR (sliceR intR 3) 24) [v283] r281.1.2.2.2, Box b107 34 [u1], Box b103 34 [u0], Own (sliceR (pairR strR (pairR intR (sliceR (sliceR intR 3) 24))) 80) [v277] r276, Own (sliceR (pairR strR (pairR intR (sliceR (sliceR intR 3) 24))) 80) [v272] r271] := hS.tops 13 [9, 10, 7, 8, 11, 12, 2, 3, 4] rfl
                                  exact ⟨rfl, b290, v282, v283, he164, he165, rfl, rfl, rfl, rfl, hz284, (hS.keep 9)⟩
                              · refine el_alloc hS (by decide) ?_
                                intro w289 b290 hS hx291
                                refine el_nil ?_
                                replace hS : Sat w0 w289 [Box b107 34 [u1], Box b103 34 [u0], Box b290 48 [.string ByteArray.empty, .int .i64 0, (.slice none 0 0), .int .i64 0, (.slice none 0 0)], Own (sliceR (pairR strR (pairR intR (sliceR (sliceR intR 3) 24))) 80) [v272] r271, Own (sliceR (sliceR intR 3) 24) [v190] r253.2.1, Own (sliceR (sliceR intR 3) 24) [v191] r253.2.2, Box b198 48 [.string r189.1.1, .int .i64 r189.1.2.1.1, v190, .int .i64 r189.1.2.2.1, v191], Box b153 48 [.string r144.1.1, .int .i64 r144.1.2.1.1, v145, .int .i64 r144.1.2.2.1, v146], Own (sliceR (sliceR intR 3) 24) [v145] r144.1.2.1.2, Own (sliceR (sliceR intR 3) 24) [v146] r144.1.2.2.2] := hS.tops 10 [1, 2] rfl
                                have hC := (hCd _).2 ⟨_, hS⟩
                                refine ⟨fun _ => hC, ?_⟩
                                refine al_one 3 (by kernel_rfl) rfl ?_
                                refine el_call goes18 (laws_toDatabase_ok (hS.up ha1) hr276) (congrArg List.toArray (mapc rfl rfl)) (by decide) ?_
                                rintro _ w279 ⟨v277, rfl, hS'⟩
                                refine ⟨_, rfl, ?_⟩
                                have hx280 := hS'.below
                                replace hS := hS.call1 hS'
                                refine el_nil ?_
                                replace hS : Sat w0 w279 [Box b107 34 [u1], Box b103 34 [u0], Own (sliceR (pairR strR (pairR intR (sliceR (sliceR intR 3) 24))) 80) [v277] r276, Box b290 48 [.string ByteArray.empty, .int .i64 0, (.slice none 0 0), .int .i64 0, (.slice none 0 0)], Own (sliceR (pairR strR (pairR intR (sliceR (sliceR intR 3) 24))) 80) [v272] r271, Own (sliceR (sliceR intR 3) 24) [v190] r253.2.1, Own (sliceR (sliceR intR 3) 24) [v191] r253.2.2, Box b198 48 [.string r189.1.1, .int .i64 r189.1.2.1.1, v190, .int .i64 r189.1.2.2.1, v191], Box b153 48 [.string r144.1.1, .int .i64 r144.1.2.1.1, v145, .int .i64 r144.1.2.2.1, v146], Own (sliceR (sliceR intR 3) 24) [v145] r144.1.2.1.2, Own (sliceR (sliceR intR 3) 24) [v146] r144.1.2.2.2] := hS.tops 11 [1, 2] rfl
                                have hC := (hCd _).2 ⟨_, hS⟩
                                refine ⟨fun _ => hC, ?_⟩
                                refine al_one 5 (by kernel_rfl) rfl ?_
                                refine el_call goes24 (impl_DiffDatabases_ok (hS.rdAt (R := (sliceR (pairR strR (pairR intR (sliceR (sliceR intR 3) 24))) 80)) 4 rfl) (hS.rdAt (R := (sliceR (pairR strR (pairR intR (sliceR (sliceR intR 3) 24))) 80)) 2 rfl) ha2 hr281) (congrArg List.toArray (mapc rfl (mapc rfl (mapc rfl rfl)))) (by decide) ?_
                                rintro _ w287 ⟨v282, v283, rfl, hS', hz284⟩
                                refine ⟨_, rfl, ?_⟩
                                have hx288 := hS'.below
                                replace hS := hS.call2 hS'
                                refine el_nil ?_
                                replace hS : Sat w0 w287 [Box b107 34 [u1], Box b103 34 [u0], Own (sliceR (sliceR intR 3) 24) [v282] r281.1.2.1.2, Own (sliceR (sliceR intR 3) 24) [v283] r281.1.2.2.2, Own (sliceR (pairR strR (pairR intR (sliceR (sliceR intR 3) 24))) 80) [v277] r276, Box b290 48 [.string ByteArray.empty, .int .i64 0, (.slice none 0 0), .int .i64 0, (.slice none 0 0)], Own (sliceR (pairR strR (pairR intR (sliceR (sliceR intR 3) 24))) 80) [v272] r271, Own (sliceR (sliceR intR 3) 24) [v190] r253.2.1, Own (sliceR (sliceR intR 3) 24) [v191] r253.2.2, Box b198 48 [.string r189.1.1, .int .i64 r189.1.2.1.1, v190, .int .i64 r189.1.2.2.1, v191], Box b153 48 [.string r144.1.1, .int .i64 r144.1.2.1.1, v145, .int .i64 r144.1.2.2.1, v146], Own (sliceR (sliceR intR 3) 24) [v145] r144.1.2.1.2, Own (sliceR (sliceR intR 3) 24) [v146] r144.1.2.2.2] := hS.tops 13 [2, 3] rfl
                                have hC := (hCd _).2 ⟨_, hS⟩
                                refine ⟨fun _ => hC, ?_⟩
                                refine al_p (v := .tuple #[.agg #[.string r281.1.1, .int .i64 r281.1.2.1.1, v282, .int .i64 r281.1.2.2.1, v283], .bool r281.2]) (by kernel_rfl) 6 rfl rfl (by decide) hC (by kernel_rfl) (by kernel_rfl) (sv_on rfl (fun w' hw' => by obtain ⟨_, hS⟩ := (hCd _).1 hw'; exact (pv_move rfl))) ?_
                                refine al_p (v := .agg #[.string r281.1.1, .int .i64 r281.1.2.1.1, v282, .int .i64 r281.1.2.2.1, v283]) (by kernel_rfl) 7 rfl rfl (by decide) hC (by kernel_rfl) (by kernel_rfl) (sv_on rfl (fun w' hw' => by obtain ⟨_, hS⟩ := (hCd _).1 hw'; exact (pv_extract rfl rfl))) ?_
                                refine al_p (v := .bool r281.2) (by kernel_rfl) 8 rfl rfl (by decide) hC (by kernel_rfl) (by kernel_rfl) (sv_on rfl (fun w' hw' => by obtain ⟨_, hS⟩ := (hCd _).1 hw'; exact (pv_extract rfl rfl))) ?_
                                refine al_one 10 (by kernel_rfl) rfl ?_
                                refine el_storev (hS.top 5 rfl) rfl [.string r281.1.1, .int .i64 r281.1.2.1.1, v282, .int .i64 r281.1.2.2.1, v283] rfl rfl (of_decide_eq_true rfl) (all_cons rfl (all_cons rfl (all_cons (oc (hS.rdAt (R := (sliceR (sliceR intR 3) 24)) 2 rfl)) (all_cons rfl (all_cons (oc (hS.rdAt (R := (sliceR (sliceR intR 3) 24)) 3 rfl)) rfl))))) ?_
                                intro w293 hS
                                replace hS : Sat w0 w293 [Box b290 48 [.string r281.1.1, .int .i64 r281.1.2.1.1, v282, .int .i64 r281.1.2.2.1, v283], Box b107 34 [u1], Box b103 34 [u0], Own (sliceR (sliceR intR 3) 24) [v282] r281.1.2.1.2, Own (sliceR (sliceR intR 3) 24) [v283] r281.1.2.2.2, Own (sliceR (pairR strR (pairR intR (sliceR (sliceR intR 3) 24))) 80) [v277] r276, Own (sliceR (pairR strR (pairR intR (sliceR (sliceR intR 3) 24))) 80) [v272] r271, Own (sliceR (sliceR intR 3) 24) [v190] r253.2.1, Own (sliceR (sliceR intR 3) 24) [v191] r253.2.2, Box b198 48 [.string r189.1.1, .int .i64 r189.1.2.1.1, v190, .int .i64 r189.1.2.2.1, v191], Box b153 48 [.string r144.1.1, .int .i64 r144.1.2.1.1, v145, .int .i64 r144.1.2.2.1, v146], Own (sliceR (sliceR intR 3) 24) [v145] r144.1.2.1.2, Own (sliceR (sliceR intR 3) 24) [v146] r144.1.2.2.2] := hS
                                refine el_nil ?_
                                replace hS : Sat w0 w293 [Box b107 34 [u1], Box b103 34 [u0], Box b290 48 [.string r281.1.1, .int .i64 r281.1.2.1.1, v282, .int .i64 r281.1.2.2.1, v283], Own (sliceR (sliceR intR 3) 24) [v282] r281.1.2.1.2, Own (sliceR (sliceR intR 3) 24) [v283] r281.1.2.2.2, Own (sliceR (pairR strR (pairR intR (sliceR (sliceR intR 3) 24))) 80) [v277] r276, Own (sliceR (pairR strR (pairR intR (sliceR (sliceR intR 3) 24))) 80) [v272] r271, Own (sliceR (sliceR intR 3) 24) [v190] r253.2.1, Own (sliceR (sliceR intR 3) 24) [v191] r253.2.2, Box b198 48 [.string r189.1.1, .int .i64 r189.1.2.1.1, v190, .int .i64 r189.1.2.2.1, v191], Box b153 48 [.string r144.1.1, .int .i64 r144.1.2.1.1, v145, .int .i64 r144.1.2.2.1, v146], Own (sliceR (sliceR intR 3) 24) [v145] r144.1.2.1.2, Own (sliceR (sliceR intR 3) 24) [v146] r144.1.2.2.2] := hS.tops 13 [1, 2] rfl
                                have hC := (hCd _).2 ⟨_, hS⟩
                                refine ⟨fun _ => hC, ?_⟩
                                refine al_p (v := .bool r281.2) (by kernel_rfl) 11 rfl rfl (by decide) hC (by kernel_rfl) (by kernel_rfl) (sv_on rfl (fun w' hw' => by obtain ⟨_, hS⟩ := (hCd _).1 hw'; exact (pv_assign rfl))) ?_
                                refine al_nil (by kernel_rfl) ?_
                                replace hS : Sat w0 w293 [Box b198 48 [.string r189.1.1, .int .i64 r189.1.2.1.1, v190, .int .i64 r189.1.2.2.1, v191], Box b153 48 [.string r144.1.1, .int .i64 r144.1.2.1.1, v145, .int .i64 r144.1.2.2.1, v146], Own (sliceR (sliceR intR 3) 24) [v190] r253.2.1, Own (sliceR (sliceR intR 3) 24) [v191] r253.2.2, Own (sliceR (sliceR intR 3) 24) [v145] r144.1.2.1.2, Own (sliceR (sliceR intR 3) 24) [v146] r144.1.2.2.2, Box b290 48 [.string r281.1.1, .int .i64 r281.1.2.1.1, v282, .int .i64 r281.1.2.2.1, v283], Own (sliceR (sliceR intR 3) 24) [v282] r281.1.2.1.2, Own (sliceR (sliceR intR 3) 24) [v283] r281.1.2.2.2, Box b107 34 [u1], Box b103 34 [u0], Own (sliceR (pairR strR (pairR intR (sliceR (sliceR intR 3) 24))) 80) [v277] r276, Own (sliceR (pairR strR (pairR intR (sliceR (sliceR intR 3) 24))) 80) [v272] r271] := hS.tops 13 [9, 10, 7, 8, 11, 12, 2, 3, 4] rfl
                                exact ⟨rfl, b290, v282, v283, he164, he165, rfl, rfl, rfl, rfl, hz284, (hS.keep 9)⟩
                            · refine el_alloc hS (by decide) ?_
                              intro w289 b290 hS hx291
                              refine el_nil ?_
                              replace hS : Sat w0 w289 [Box b107 34 [u1], Box b103 34 [u0], Box b290 48 [.string ByteArray.empty, .int .i64 0, (.slice none 0 0), .int .i64 0, (.slice none 0 0)], Own (sliceR (sliceR intR 3) 24) [v190] r253.2.1, Own (sliceR (sliceR intR 3) 24) [v191] r253.2.2, Box b198 48 [.string r189.1.1, .int .i64 r189.1.2.1.1, v190, .int .i64 r189.1.2.2.1, v191], Box b153 48 [.string r144.1.1, .int .i64 r144.1.2.1.1, v145, .int .i64 r144.1.2.2.1, v146], Own (sliceR (sliceR intR 3) 24) [v145] r144.1.2.1.2, Own (sliceR (sliceR intR 3) 24) [v146] r144.1.2.2.2] := hS.tops 9 [1, 2] rfl
                              have hC := (hCd _).2 ⟨_, hS⟩
                              refine ⟨fun _ => hC, ?_⟩
                              refine al_one 1 (by kernel_rfl) rfl ?_
                              refine el_call goes18 (laws_toDatabase_ok (hS.up ha0) hr271) (congrArg List.toArray (mapc rfl rfl)) (by decide) ?_
                              rintro _ w274 ⟨v272, rfl, hS'⟩
                              refine ⟨_, rfl, ?_⟩
                              have hx275 := hS'.below
                              replace hS := hS.call1 hS'
                              refine el_nil ?_
                              replace hS : Sat w0 w274 [Box b107 34 [u1], Box b103 34 [u0], Own (sliceR (pairR strR (pairR intR (sliceR (sliceR intR 3) 24))) 80) [v272] r271, Box b290 48 [.string ByteArray.empty, .int .i64 0, (.slice none 0 0), .int .i64 0, (.slice none 0 0)], Own (sliceR (sliceR intR 3) 24) [v190] r253.2.1, Own (sliceR (sliceR intR 3) 24) [v191] r253.2.2, Box b198 48 [.string r189.1.1, .int .i64 r189.1.2.1.1, v190, .int .i64 r189.1.2.2.1, v191], Box b153 48 [.string r144.1.1, .int .i64 r144.1.2.1.1, v145, .int .i64 r144.1.2.2.1, v146], Own (sliceR (sliceR intR 3) 24) [v145] r144.1.2.1.2, Own (sliceR (sliceR intR 3) 24) [v146] r144.1.2.2.2] := hS.tops 10 [1, 2] rfl
                              have hC := (hCd _).2 ⟨_, hS⟩
                              refine ⟨fun _ => hC, ?_⟩
                              refine al_one 3 (by kernel_rfl) rfl ?_
                              refine el_call goes18 (laws_toDatabase_ok (hS.up ha1) hr276) (congrArg List.toArray (mapc rfl rfl)) (by decide) ?_
                              rintro _ w279 ⟨v277, rfl, hS'⟩
                              refine ⟨_, rfl, ?_⟩
                              have hx280 := hS'.below
                              replace hS := hS.call1 hS'
                              refine el_nil ?_
                              replace hS : Sat w0 w279 [Box b107 34 [u1], Box b103 34 [u0], Own (sliceR (pairR strR (pairR intR (sliceR (sliceR intR 3) 24))) 80) [v277] r276, Own (sliceR (pairR strR (pairR intR (sliceR (sliceR intR 3) 24))) 80) [v272] r271, Box b290 48 [.string ByteArray.empty, .int .i64 0, (.slice none 0 0), .int .i64 0, (.slice none 0 0)], Own (sliceR (sliceR intR 3) 24) [v190] r253.2.1, Own (sliceR (sliceR intR 3) 24) [v191] r253.2.2, Box b198 48 [.string r189.1.1, .int .i64 r189.1.2.1.1, v190, .int .i64 r189.1.2.2.1, v191], Box b153 48 [.string r144.1.1, .int .i64 r144.1.2.1.1, v145, .int .i64 r144.1.2.2.1, v146], Own (sliceR (sliceR intR 3) 24) [v145] r144.1.2.1.2, Own (sliceR (sliceR intR 3) 24) [v146] r144.1.2.2.2] := hS.tops 11 [1, 2] rfl
                              have hC := (hCd _).2 ⟨_, hS⟩
                              refine ⟨fun _ => hC, ?_⟩
                              refine al_one 5 (by kernel_rfl) rfl ?_
                              refine el_call goes24 (impl_DiffDatabases_ok (hS.rdAt (R := (sliceR (pairR strR (pairR intR (sliceR (sliceR intR 3) 24))) 80)) 3 rfl) (hS.rdAt (R := (sliceR (pairR strR (pairR intR (sliceR (sliceR intR 3) 24))) 80)) 2 rfl) ha2 hr281) (congrArg List.toArray (mapc rfl (mapc rfl (mapc rfl rfl)))) (by decide) ?_
                              rintro _ w287 ⟨v282, v283, rfl, hS', hz284⟩
                              refine ⟨_, rfl, ?_⟩
                              have hx288 := hS'.below
                              replace hS := hS.call2 hS'
                              refine el_nil ?_
                              replace hS : Sat w0 w287 [Box b107 34 [u1], Box b103 34 [u0], Own (sliceR (sliceR intR 3) 24) [v282] r281.1.2.1.2, Own (sliceR (sliceR intR 3) 24) [v283] r281.1.2.2.2, Own (sliceR (pairR strR (pairR intR (sliceR (sliceR intR 3) 24))) 80) [v277] r276, Own (sliceR (pairR strR (pairR intR (sliceR (sliceR intR 3) 24))) 80) [v272] r271, Box b290 48 [.string ByteArray.empty, .int .i64 0, (.slice none 0 0), .int .i64 0, (.slice none 0 0)], Own (sliceR (sliceR intR 3) 24) [v190] r253.2.1, Own (sliceR (sliceR intR 3) 24) [v191] r253.2.2, Box b198 48 [.string r189.1.1, .int .i64 r189.1.2.1.1, v190, .int .i64 r189.1.2.2.1, v191], Box b153 48 [.string r144.1.1, .int .i64 r144.1.2.1.1, v145, .int .i64 r144.1.2.2.1, v146], Own (sliceR (sliceR intR 3) 24) [v145] r144.1.2.1.2, Own (sliceR (sliceR intR 3) 24) [v146] r144.1.2.2.2] := hS.tops 13 [2, 3] rfl
                              have hC := (hCd _).2 ⟨_, hS⟩
                              refine ⟨fun _ => hC, ?_⟩
                              refine al_p (v := .tuple #[.agg #[.string r281.1.1, .int .i64 r281.1.2.1.1, v282, .int .i64 r281.1.2.2.1, v283], .bool r281.2]) (by kernel_rfl) 6 rfl rfl (by decide) hC (by kernel_rfl) (by kernel_rfl) (sv_on rfl (fun w' hw' => by obtain ⟨_, hS⟩ := (hCd _).1 hw'; exact (pv_move rfl))) ?_
                              refine al_p (v := .agg #[.string r281.1.1, .int .i64 r281.1.2.1.1, v282, .int .i64 r281.1.2.2.1, v283]) (by kernel_rfl) 7 rfl rfl (by decide) hC (by kernel_rfl) (by kernel_rfl) (sv_on rfl (fun w' hw' => by obtain ⟨_, hS⟩ := (hCd _).1 hw'; exact (pv_extract rfl rfl))) ?_
                              refine al_p (v := .bool r281.2) (by kernel_rfl) 8 rfl rfl (by decide) hC (by kernel_rfl) (by kernel_rfl) (sv_on rfl (fun w' hw' => by obtain ⟨_, hS⟩ := (hCd _).1 hw'; exact (pv_extract rfl rfl))) ?_
                              refine al_one 10 (by kernel_rfl) rfl ?_
                              refine el_storev (hS.top 6 rfl) rfl [.string r281.1.1, .int .i64 r281.1.2.1.1, v282, .int .i64 r281.1.2.2.1, v283] rfl rfl (of_decide_eq_true rfl) (all_cons rfl (all_cons rfl (all_cons (oc (hS.rdAt (R := (sliceR (sliceR intR 3) 24)) 2 rfl)) (all_cons rfl (all_cons (oc (hS.rdAt (R := (sliceR (sliceR intR 3) 24)) 3 rfl)) rfl))))) ?_
                              intro w293 hS
                              replace hS : Sat w0 w293 [Box b290 48 [.string r281.1.1, .int .i64 r281.1.2.1.1, v282, .int .i64 r281.1.2.2.1, v283], Box b107 34 [u1], Box b103 34 [u0], Own (sliceR (sliceR intR 3) 24) [v282] r281.1.2.1.2, Own (sliceR (sliceR intR 3) 24) [v283] r281.1.2.2.2, Own (sliceR (pairR strR (pairR intR (sliceR (sliceR intR 3) 24))) 80) [v277] r276, Own (sliceR (pairR strR (pairR intR (sliceR (sliceR intR 3) 24))) 80) [v272] r271, Own (sliceR (sliceR intR 3) 24) [v190] r253.2.1, Own (sliceR (sliceR intR 3) 24) [v191] r253.2.2, Box b198 48 [.string r189.1.1, .int .i64 r189.1.2.1.1, v190, .int .i64 r189.1.2.2.1, v191], Box b153 48 [.string r144.1.1, .int .i64 r144.1.2.1.1, v145, .int .i64 r144.1.2.2.1, v146], Own (sliceR (sliceR intR 3) 24) [v145] r144.1.2.1.2, Own (sliceR (sliceR intR 3) 24) [v146] r144.1.2.2.2] := hS
                              refine el_nil ?_
                              replace hS : Sat w0 w293 [Box b107 34 [u1], Box b103 34 [u0], Box b290 48 [.string r281.1.1, .int .i64 r281.1.2.1.1, v282, .int .i64 r281.1.2.2.1, v283], Own (sliceR (sliceR intR 3) 24) [v282] r281.1.2.1.2, Own (sliceR (sliceR intR 3) 24) [v283] r281.1.2.2.2, Own (sliceR (pairR strR (pairR intR (sliceR (sliceR intR 3) 24))) 80) [v277] r276, Own (sliceR (pairR strR (pairR intR (sliceR (sliceR intR 3) 24))) 80) [v272] r271, Own (sliceR (sliceR intR 3) 24) [v190] r253.2.1, Own (sliceR (sliceR intR 3) 24) [v191] r253.2.2, Box b198 48 [.string r189.1.1, .int .i64 r189.1.2.1.1, v190, .int .i64 r189.1.2.2.1, v191], Box b153 48 [.string r144.1.1, .int .i64 r144.1.2.1.1, v145, .int .i64 r144.1.2.2.1, v146], Own (sliceR (sliceR intR 3) 24) [v145] r144.1.2.1.2, Own (sliceR (sliceR intR 3) 24) [v146] r144.1.2.2.2] := hS.tops 13 [1, 2] rfl
                              have hC := (hCd _).2 ⟨_, hS⟩
                              refine ⟨fun _ => hC, ?_⟩
                              refine al_p (v := .bool r281.2) (by kernel_rfl) 11 rfl rfl (by decide) hC (by kernel_rfl) (by kernel_rfl) (sv_on rfl (fun w' hw' => by obtain ⟨_, hS⟩ := (hCd _).1 hw'; exact (pv_assign rfl))) ?_
                              refine al_nil (by kernel_rfl) ?_
                              replace hS : Sat w0 w293 [Box b198 48 [.string r189.1.1, .int .i64 r189.1.2.1.1, v190, .int .i64 r189.1.2.2.1, v191], Box b153 48 [.string r144.1.1, .int .i64 r144.1.2.1.1, v145, .int .i64 r144.1.2.2.1, v146], Own (sliceR (sliceR intR 3) 24) [v190] r253.2.1, Own (sliceR (sliceR intR 3) 24) [v191] r253.2.2, Own (sliceR (sliceR intR 3) 24) [v145] r144.1.2.1.2, Own (sliceR (sliceR intR 3) 24) [v146] r144.1.2.2.2, Box b290 48 [.string r281.1.1, .int .i64 r281.1.2.1.1, v282, .int .i64 r281.1.2.2.1, v283], Own (sliceR (sliceR intR 3) 24) [v282] r281.1.2.1.2, Own (sliceR (sliceR intR 3) 24) [v283] r281.1.2.2.2, Box b107 34 [u1], Box b103 34 [u0], Own (sliceR (pairR strR (pairR intR (sliceR (sliceR intR 3) 24))) 80) [v277] r276, Own (sliceR (pairR strR (pairR intR (sliceR (sliceR intR 3) 24))) 80) [v272] r271] := hS.tops 13 [9, 10, 7, 8, 11, 12, 2, 3, 4] rfl
                              exact ⟨rfl, b290, v282, v283, he164, he165, rfl, rfl, rfl, rfl, hz284, (hS.keep 9)⟩
                          · rintro e296 w297 ⟨b290, v282, v283, he298, he299, he300, he301, he302, he303, hz284, hS⟩
                            refine hQ268 _ _ _ ?_
                            refine thn_n ?_
                            refine cw_seq ?_
                            refine cw_gen ?_
                            intro Q304 hQ304
                            refine cw_seq ?_
                            refine cw_gen ?_
                            intro Q305 hQ305
                            refine cw_reg ?_
                            refine el_pv (v := .agg #[.string r281.1.1, .int .i64 r281.1.2.1.1, v282, .int .i64 r281.1.2.2.1, v283]) (pv_loada (cs := [.string r281.1.1, .int .i64 r281.1.2.1.1, v282, .int .i64 r281.1.2.2.1, v283]) he302 rfl (boxc0 (hS.boxAt 6 rfl))) (by decide) ?_
                            refine el_pv (v := .agg #[.string r144.1.1, .int .i64 r144.1.2.1.1, v145, .int .i64 r144.1.2.2.1, v146]) (pv_loada (cs := [.string r144.1.1, .int .i64 r144.1.2.1.1, v145, .int .i64 r144.1.2.2.1, v146]) he298 rfl (boxc0 (hS.boxAt 1 rfl))) (by decide) ?_
                            replace hF := ob hF
                            obtain ⟨r306, hr306, hF⟩ := hF
                            refine el_call goes22 (laws_eqDelta_ok hz284 (hS.rdAt (R := (sliceR (sliceR intR 3) 24)) 7 rfl) (hS.rdAt (R := (sliceR (sliceR intR 3) 24)) 8 rfl) hz147 (hS.rdAt (R := (sliceR (sliceR intR 3) 24)) 4 rfl) (hS.rdAt (R := (sliceR (sliceR intR 3) 24)) 5 rfl) hr306) (congrArg List.toArray (mapc rfl (mapc rfl rfl))) (by decide) ?_
                            rintro _ w307 ⟨rfl, hx308⟩
                            refine ⟨_, rfl, ?_⟩
                            replace hS := hS.ext hx308
                            refine el_pv (v := .bool (!r306)) (pv_not rfl) (by decide) ?_
                            refine el_pv (v := .bool (!r306)) (pv_move rfl) (by decide) ?_
                            replace hF := oif hF
                            rcases hF with ⟨hb309, hF⟩ | ⟨hb309, hF⟩
                            · refine el_on rfl (bnot_t hb309) ?_
                              refine el_pv (v := .bool r281.2) (pv_move he303) (by decide) ?_
                              refine el_on rfl (bnot_t hb309) ?_
                              refine el_pv (v := .bool r144.2) (pv_move he299) (by decide) ?_
                              refine el_on rfl (bnot_t hb309) ?_
                              refine el_pv (v := .bool (r281.2 != r144.2)) (pv_neqB Try.underlying4 rfl rfl) (by decide) ?_
                              refine el_pv (v := .bool (r281.2 != r144.2)) (pv_pick_f rfl (bnot_t hb309) rfl) (by decide) ?_
                              refine el_nil ?_
                              refine hQ305 _ _ _ ?_
                              refine thn_n ?_
                              replace hF := oif hF
                              rcases hF with ⟨hb310, hF⟩ | ⟨hb310, hF⟩
                              · refine cw_cond_t rfl hb310 ?_
                                refine cw_seq ?_
                                refine cw_gen ?_
                                intro Q311 hQ311
                                replace hS : Sat w0 w307 [] := hS.rems 9 [0, 1, 2, 3, 4, 5, 6, 7, 8] rfl
                                refine cw_reg ?_
                                refine el_pv (v := .bool false) (pv_assign rfl) (by decide) ?_
                                refine el_nil ?_
                                refine hQ311 _ _ _ ?_
                                refine thn_n ?_
                                refine cw_ret ?_
                                refine hQ304 _ _ _ ?_
                                refine thn_r ?_
                                refine fin1 rfl rfl ?_
                                have hr := Option.some.inj hF
                                exact ⟨congrArg (fun (r : Bool) => Ending.returned (.bool r)) hr, hS.below⟩
                              · refine cw_cond_f rfl hb310 ?_
                                refine cw_skip ?_
                                refine hQ304 _ _ _ ?_
                                refine thn_n ?_
                                refine cw_seq ?_
                                refine cw_gen ?_
                                intro Q312 hQ312
                                replace hS : Sat w0 w307 [Box b198 48 [.string r189.1.1, .int .i64 r189.1.2.1.1, v190, .int .i64 r189.1.2.2.1, v191], Own (sliceR (sliceR intR 3) 24) [v190] r253.2.1, Own (sliceR (sliceR intR 3) 24) [v191] r253.2.2] := hS.rems 9 [1, 4, 5, 6, 7, 8] rfl
                                refine cw_reg ?_
                                refine el_pv (v := .int .i64 1) (pv_assign rfl) (by decide) ?_
                                refine el_nil ?_
                                refine hQ312 _ _ _ ?_
                                refine thn_n ?_
                                refine cw_seq ?_
                                refine cw_gen ?_
                                intro Q313 hQ313
                                refine cw_reg ?_
                                refine el_pv (v := .agg #[.string r189.1.1, .int .i64 r189.1.2.1.1, v190, .int .i64 r189.1.2.2.1, v191]) (pv_loada (cs := [.string r189.1.1, .int .i64 r189.1.2.1.1, v190, .int .i64 r189.1.2.2.1, v191]) he300 rfl (boxc0 (hS.boxAt 0 rfl))) (by decide) ?_
                                refine el_pv (v := .int .i64 1) (pv_move rfl) (by decide) ?_
                                replace hF := ob hF
                                obtain ⟨r314, hr314, hF⟩ := hF
                                refine el_call goes27 (laws_heldDelta_ok hz192 (hS.rdAt (R := (sliceR (sliceR intR 3) 24)) 1 rfl) (hS.rdAt (R := (sliceR (sliceR intR 3) 24)) 2 rfl) hr314) (congrArg List.toArray (mapc rfl (mapc rfl rfl))) (by decide) ?_
                                rintro _ w315 ⟨rfl, hx316⟩
                                refine ⟨_, rfl, ?_⟩
                                replace hS := hS.ext hx316
                                refine el_pv (v := .int .i64 r314) (pv_assign rfl) (by decide) ?_
                                refine el_nil ?_
                                refine hQ313 _ _ _ ?_
                                refine thn_n ?_
                                refine cw_seq ?_
                                refine cw_gen ?_
                                intro Q317 hQ317
                                refine cw_seq ?_
                                refine cw_gen ?_
                                intro Q318 hQ318
                                replace hS : Sat w0 w315 [] := hS.rems 3 [0, 1, 2] rfl
                                refine cw_reg ?_
                                refine el_pv (v := .int .i64 r314) (pv_move rfl) (by decide) ?_
                                refine el_pv (v := .bool (decide (r314 < 0))) (pv_lss rfl rfl) (by decide) ?_
                                refine el_nil ?_
                                refine hQ318 _ _ _ ?_
                                refine thn_n ?_
                                replace hF := oif hF
                                rcases hF with ⟨hb319, hF⟩ | ⟨hb319, hF⟩
                                · refine cw_cond_t rfl hb319 ?_
                                  refine cw_seq ?_
                                  refine cw_gen ?_
                                  intro Q320 hQ320
                                  refine cw_reg ?_
                                  refine el_pv (v := .bool false) (pv_assign rfl) (by decide) ?_
                                  refine el_nil ?_
                                  refine hQ320 _ _ _ ?_
                                  refine thn_n ?_
                                  refine cw_ret ?_
                                  refine hQ317 _ _ _ ?_
                                  refine thn_r ?_
                                  refine fin1 rfl rfl ?_
                                  have hr := Option.some.inj hF
                                  exact ⟨congrArg (fun (r : Bool) => Ending.returned (.bool r)) hr, hS.below⟩
                                · refine cw_cond_f rfl hb319 ?_
                                  refine cw_skip ?_
                                  refine hQ317 _ _ _ ?_
                                  refine thn_n ?_
                                  refine cw_seq ?_
                                  refine cw_gen ?_
                                  intro Q321 hQ321
                                  refine cw_seq ?_
                                  refine cw_gen ?_
                                  intro Q322 hQ322
                                  refine cw_reg ?_
                                  refine el_pv (v := .int .i64 r314) (pv_move rfl) (by decide) ?_
                                  refine el_pv (v := .int .i64 r253.1) (pv_move he301) (by decide) ?_
                                  refine el_pv (v := .bool (r314 != r253.1)) (pv_neq rfl rfl) (by decide) ?_
                                  refine el_nil ?_
                                  refine hQ322 _ _ _ ?_
                                  refine thn_n ?_
                                  replace hF := oif hF
                                  rcases hF with ⟨hb323, hF⟩ | ⟨hb323, hF⟩
                                  · refine cw_cond_t rfl hb323 ?_
                                    refine cw_seq ?_
                                    refine cw_gen ?_
                                    intro Q324 hQ324
                                    refine cw_reg ?_
                                    refine el_pv (v := .bool false) (pv_assign rfl) (by decide) ?_
                                    refine el_nil ?_
                                    refine hQ324 _ _ _ ?_
                                    refine thn_n ?_
                                    refine cw_ret ?_
                                    refine hQ321 _ _ _ ?_
                                    refine thn_r ?_
                                    refine fin1 rfl rfl ?_
                                    have hr := Option.some.inj hF
                                    exact ⟨congrArg (fun (r : Bool) => Ending.returned (.bool r)) hr, hS.below⟩
                                  · refine cw_cond_f rfl hb323 ?_
                                    refine cw_skip ?_
                                    refine hQ321 _ _ _ ?_
                                    refine thn_n ?_
                                    refine cw_seq ?_
                                    refine cw_gen ?_
                                    intro Q325 hQ325
                                    refine cw_reg ?_
                                    refine el_pv (v := .bool true) (pv_assign rfl) (by decide) ?_
                                    refine el_nil ?_
                                    refine hQ325 _ _ _ ?_
                                    refine thn_n ?_
                                    refine cw_ret ?_
                                    refine fin1 rfl rfl ?_
                                    have hr := Option.some.inj hF
                                    exact ⟨congrArg (fun (r : Bool) => Ending.returned (.bool r)) hr, hS.below⟩
                            · refine el_off rfl (bnot_f hb309) rfl (by decide) ?_
                              refine el_off rfl (bnot_f hb309) rfl (by decide) ?_
                              refine el_off rfl (bnot_f hb309) rfl (by decide) ?_
                              refine el_pv (v := .bool true) (pv_pick_t rfl (bnot_f hb309) rfl) (by decide) ?_
                              refine el_nil ?_
                              refine hQ305 _ _ _ ?_
                              refine thn_n ?_
                              refine cw_cond_t rfl rfl ?_
                              refine cw_seq ?_
                              refine cw_gen ?_
                              intro Q326 hQ326
                              replace hS : Sat w0 w307 [] := hS.rems 9 [0, 1, 2, 3, 4, 5, 6, 7, 8] rfl
                              refine cw_reg ?_
                              refine el_pv (v := .bool false) (pv_assign rfl) (by decide) ?_
                              refine el_nil ?_
                              refine hQ326 _ _ _ ?_
                              refine thn_n ?_
                              refine cw_ret ?_
                              refine hQ304 _ _ _ ?_
                              refine thn_r ?_
                              refine fin1 rfl rfl ?_
                              have hr := Option.some.inj hF
                              exact ⟨congrArg (fun (r : Bool) => Ending.returned (.bool r)) hr, hS.below⟩
                    · refine el_off rfl (bnot_f hb250) rfl (by decide) ?_
                      refine el_off rfl (bnot_f hb250) rfl (by decide) ?_
                      refine el_off rfl (bnot_f hb250) rfl (by decide) ?_
                      refine el_pv (v := .bool true) (pv_pick_t rfl (bnot_f hb250) rfl) (by decide) ?_
                      refine el_nil ?_
                      refine hQ244 _ _ _ ?_
                      refine thn_n ?_
                      refine cw_cond_t rfl rfl ?_
                      refine cw_seq ?_
                      refine cw_gen ?_
                      intro Q327 hQ327
                      replace hS : Sat w0 w248 [] := hS.rems 8 [0, 1, 2, 3, 4, 5, 6, 7] rfl
                      refine cw_reg ?_
                      refine el_pv (v := .bool false) (pv_assign rfl) (by decide) ?_
                      refine el_nil ?_
                      refine hQ327 _ _ _ ?_
                      refine thn_n ?_
                      refine cw_ret ?_
                      refine hQ243 _ _ _ ?_
                      refine thn_r ?_
                      refine fin1 rfl rfl ?_
                      have hr := Option.some.inj hF
                      exact ⟨congrArg (fun (r : Bool) => Ending.returned (.bool r)) hr, hS.below⟩
                · refine cw_cond_t rfl (bnot_f hb235) ?_
                  refine cw_seq ?_
                  refine cw_gen ?_
                  intro Q328 hQ328
                  replace hS : Sat w0 w233 [] := hS.rems 13 [0, 1, 2, 3, 4, 5, 6, 7, 8, 9, 10, 11, 12] rfl
                  refine cw_reg ?_
                  refine el_pv (v := .bool false) (pv_assign rfl) (by decide) ?_
                  refine el_nil ?_
                  refine hQ328 _ _ _ ?_
                  refine thn_n ?_
                  refine cw_ret ?_
                  refine hQ223 _ _ _ ?_
                  refine thn_r ?_
                  refine fin1 rfl rfl ?_
                  have hr := Option.some.inj hF
                  exact ⟨congrArg (fun (r : Bool) => Ending.returned (.bool r)) hr, hS.below⟩
              · refine cw_cond_t rfl (bnot_f hb222) ?_
                refine cw_seq ?_
                refine cw_gen ?_
                intro Q329 hQ329
                replace hS : Sat w0 w220 [] := hS.rems 13 [0, 1, 2, 3, 4, 5, 6, 7, 8, 9, 10, 11, 12] rfl
                refine cw_reg ?_
                refine el_pv (v := .bool false) (pv_assign rfl) (by decide) ?_
                refine el_nil ?_
                refine hQ329 _ _ _ ?_
                refine thn_n ?_
                refine cw_ret ?_
                refine hQ210 _ _ _ ?_
                refine thn_r ?_
                refine fin1 rfl rfl ?_
                have hr := Option.some.inj hF
                exact ⟨congrArg (fun (r : Bool) => Ending.returned (.bool r)) hr, hS.below⟩
          · refine el_off rfl (bnot_f hb207) rfl (by decide) ?_
            refine el_off rfl (bnot_f hb207) rfl (by decide) ?_
            refine el_off rfl (bnot_f hb207) rfl (by decide) ?_
            refine el_pv (v := .bool true) (pv_pick_t rfl (bnot_f hb207) rfl) (by decide) ?_
            refine el_nil ?_
            refine hQ203 _ _ _ ?_
            refine thn_n ?_
            refine cw_cond_t rfl rfl ?_
            refine cw_seq ?_
            refine cw_gen ?_
            intro Q330 hQ330
            replace hS : Sat w0 w205 [] := hS.rems 12 [0, 1, 2, 3, 4, 5, 6, 7, 8, 9, 10, 11] rfl
            refine cw_reg ?_
            refine el_pv (v := .bool false) (pv_assign rfl) (by decide) ?_
            refine el_nil ?_
            refine hQ330 _ _ _ ?_
            refine thn_n ?_
            refine cw_ret ?_
            refine hQ202 _ _ _ ?_
            refine thn_r ?_
            refine fin1 rfl rfl ?_
            have hr := Option.some.inj hF
            exact ⟨congrArg (fun (r : Bool) => Ending.returned (.bool r)) hr, hS.below⟩
end Go.Proofs.Ytnanddmadghnnaa
