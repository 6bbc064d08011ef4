/- The walks through functions of the program: each hands back what it comes to. No condition but that it comes to something. -/
import Derived.Test.YtkpeabpdiffjhaaW3
import Derived.Test.YtkpeabpdiffjhaaW4D
namespace Go.Proofs.Ytkpeabpdiffjhaa
open Go.RowKit
set_option maxRecDepth 100000
set_option maxHeartbeats 4000000 in
theorem impl_BigIntFromInt_ok {w0 : World} {a0 : Int}  {N : Nat} {r : (List Int)} (hF : impl_BigIntFromInt N a0 = some r) :
    Calls Try.prog 127 #[.int .i64 a0] w0 fun e w' => ∃ (q0 : Value), e = .returned (.agg #[q0]) ∧ Sat w0 w' [Own (sliceR intR 3) [q0] r] := by
  unfold impl_BigIntFromInt at hF
  refine calls_E Try.func127 rfl rfl (of_decide_eq_true rfl) ?_
  have hS := Sat.start w0
  refine cw_seq ?_
  refine cw_gen ?_
  intro Q101 hQ101
  refine cw_reg ?_
  refine el_alloc hS (by decide) ?_
  intro w102 b103 hS hx104
  refine el_nil ?_
  refine hQ101 _ _ _ ?_
  refine thn_n ?_
  refine cw_seq ?_
  refine cw_gen ?_
  intro Q106 hQ106
  refine cw_reg ?_
  refine el_alloc hS (by decide) ?_
  intro w107 b108 hS hx109
  refine el_nil ?_
  refine hQ106 _ _ _ ?_
  refine thn_n ?_
  refine cw_seq ?_
  refine cw_gen ?_
  intro Q111 hQ111
  refine cw_block ?_
  refine cw_gen ?_
  intro Q112 hQ112
  replace hS := hS.nil intR 3
  obtain ⟨s114, hL, hK115⟩ := ob hF
  refine cw_loopS (fun k e w => ∃ (x116 : Int), ∃ (v118 : Value), ∃ (x117 : List Int), e 0 = .int .i64 x116 ∧ e 2 = .pointer (some ⟨b103, 0, none⟩) ∧ e 3 = .pointer (some ⟨b108, 0, none⟩) ∧ Sat w0 w [Own (sliceR intR 3) [v118] x117, Box b108 76 [v118], Box b103 76 [(.slice none 0 0)]] ∧ impl_BigIntFromInt_L1 N k x116 [] x117 = some s114) N ?_ ?_ ?_
  · exact ⟨a0, (.slice none 0 0), [], rfl, rfl, rfl, hS, hL⟩
  · rintro e w ⟨_, _, _, _, _, _, _, hz⟩; exact nomatch (show none = some _ from hz)
  · rintro k e123 w122 ⟨x116, v118, x117, he119, he120, he121, hS, hF⟩
    refine cw_gen ?_
    intro Q124 hQ124
    refine cw_seq ?_
    refine cw_gen ?_
    intro Q125 hQ125
    refine cw_seq ?_
    refine cw_gen ?_
    intro Q126 hQ126
    refine cw_reg ?_
    refine el_pv (v := .int .i64 x116) (pv_move he119) (by decide) ?_
    refine el_pv (v := .bool (decide (0 < x116))) (pv_gtr rfl rfl) (by decide) ?_
    refine el_nil ?_
    refine hQ126 _ _ _ ?_
    refine thn_n ?_
    replace hF := oif hF
    rcases hF with ⟨hb127, hF⟩ | ⟨hb127, hF⟩
    · refine cw_cond_t rfl hb127 ?_
      refine cw_skip ?_
      refine hQ125 _ _ _ ?_
      refine thn_n ?_
      refine cw_block ?_
      refine cw_gen ?_
      intro Q128 hQ128
      refine cw_seq ?_
      refine cw_gen ?_
      intro Q129 hQ129
      refine cw_reg ?_
      refine el_pv (v := .pointer (some ⟨b108, 0 + 0, none⟩)) (pv_fieldAddr he121) (by decide) ?_
      refine el_pv (v := v118) (pv_loadc rfl ((hS.boxAt 1 rfl) 0 _ rfl)) (by decide) ?_
      refine el_pv (v := .int .i64 x116) (pv_move he119) (by decide) ?_
      replace hF := ob hF
      obtain ⟨x130, hx130, hF⟩ := hF
      refine el_pv (v := .int .i64 x130) (pv_rem rfl rfl hx130) (by decide) ?_
      refine el_buildSlice1 [.int .i64 x130] rfl (by rfl) (by decide) rfl (by decide) hS (by decide) ?_
      intro w131 b133 hS hx132
      replace hF := ob hF
      obtain ⟨x137, hx137, hF⟩ := hF
      have hrow138 := hS.boxRow 0 rfl
      replace hS : Sat w0 w131 [Own (sliceR intR 3) [v118] x117, Box b133 3 [.int .i64 x130], Box b108 76 [v118], Box b103 76 [(.slice none 0 0)]] := hS.top 1 rfl
      replace hS := hS.int x130
      replace hS := hS.one
      refine el_append rfl (by decide) rfl (by decide) hS rfl rfl rfl (by simp) hrow138 hx137 (by decide) ?_
      intro w135 v136 hS
      refine el_pv (v := .pointer (some ⟨b108, 0 + 0, none⟩)) (pv_fieldAddr he121) (by decide) ?_
      refine el_storev (hS.top 2 rfl) rfl [v136] (cells_of rfl (oc (hS.rdAt (R := (sliceR intR 3)) 0 rfl))) rfl (of_decide_eq_true rfl) (all_cons (oc (hS.rdAt (R := (sliceR intR 3)) 0 rfl)) rfl) ?_
      intro w140 hS
      replace hS : Sat w0 w140 [Box b108 76 [v136], Own (sliceR intR 3) [v136] x137, Box b133 3 [.int .i64 x130], Box b103 76 [(.slice none 0 0)]] := hS
      refine el_nil ?_
      refine hQ129 _ _ _ ?_
      refine thn_n ?_
      replace hS : Sat w0 w140 [Box b108 76 [v136], Own (sliceR intR 3) [v136] x137, Box b103 76 [(.slice none 0 0)]] := hS.rems 4 [2] rfl
      refine cw_reg ?_
      refine el_pv (v := .int .i64 x116) (pv_move he119) (by decide) ?_
      replace hF := ob hF
      obtain ⟨x141, hx141, hF⟩ := hF
      refine el_pv (v := .int .i64 x141) (pv_quo rfl rfl hx141) (by decide) ?_
      refine el_pv (v := .int .i64 x141) (pv_assign rfl) (by decide) ?_
      refine el_nil ?_
      refine hQ128 _ _ _ ?_
      refine inb_n ?_
      refine hQ124 _ _ _ ?_
      refine thn_n ?_
      replace hS : Sat w0 w140 [Own (sliceR intR 3) [v136] x137, Box b108 76 [v136], Box b103 76 [(.slice none 0 0)]] := hS.tops 3 [1, 0, 2] rfl
      replace hS := hS.keep 3
      exact ⟨x141, v136, x137, rfl, he120, he121, hS, hF⟩
    · refine cw_cond_f rfl hb127 ?_
      refine cw_exit ?_
      refine hQ125 _ _ _ ?_
      refine thn_x ?_
      refine hQ124 _ _ _ ?_
      refine thn_x ?_
      replace hF := exB hF hK115
      refine hQ112 _ _ _ ?_
      refine inb_s ?_
      refine hQ111 _ _ _ ?_
      refine thn_n ?_
      refine cw_seq ?_
      refine cw_gen ?_
      intro Q142 hQ142
      refine cw_reg ?_
      refine el_pv (v := .agg #[v118]) (pv_loada (cs := [v118]) he121 rfl (boxc0 (hS.boxAt 1 rfl))) (by decide) ?_
      refine el_storev (hS.top 2 rfl) he120 [v118] rfl rfl (of_decide_eq_true rfl) (all_cons (oc (hS.rdAt (R := (sliceR intR 3)) 0 rfl)) rfl) ?_
      intro w143 hS
      replace hS : Sat w0 w143 [Box b103 76 [v118], Own (sliceR intR 3) [v118] x117, Box b108 76 [v118]] := hS
      refine el_nil ?_
      refine hQ142 _ _ _ ?_
      refine thn_n ?_
      refine cw_ret ?_
      refine finC (cs := [v118]) rfl he120 rfl (boxc0 (hS.boxAt 0 rfl))  ?_
      replace hS : Sat w0 w143 [Own (sliceR intR 3) [v118] x117, Box b103 76 [v118], Box b108 76 [v118]] := hS.tops 3 [1] rfl
      have hr := Option.some.inj hF
      exact ⟨v118, congrArg (fun (r : (List Int)) => Ending.returned (.agg #[v118])) hr, Eq.mp (congrArg (fun (r : (List Int)) => Sat w0 w143 [Own (sliceR intR 3) [v118] r]) hr) (hS.keep 1)⟩
set_option maxHeartbeats 4000000 in
theorem impl_PowBigInt_ok {w0 : World} {a0 : Int} {a1 : Int}  {N : Nat} {r : (List Int) × Bool} (hF : impl_PowBigInt N a0 a1 = some r) :
    Calls Try.prog 90 #[.int .i64 a0, .int .i64 a1] w0 fun e w' => ∃ (q0 : Value), e = .returned (.tuple #[.agg #[q0], .bool r.2]) ∧ Sat w0 w' [Own (sliceR intR 3) [q0] r.1] := by
  unfold impl_PowBigInt at hF
  refine calls_E Try.func90 rfl rfl (of_decide_eq_true rfl) ?_
  have hS := Sat.start w0
  refine cw_seq ?_
  refine cw_gen ?_
  intro Q101 hQ101
  refine cw_reg ?_
  refine el_alloc hS (by decide) ?_
  intro w102 b103 hS hx104
  refine el_pv (v := .bool false) (pv_assign rfl) (by decide) ?_
  refine el_nil ?_
  refine hQ101 _ _ _ ?_
  refine thn_n ?_
  refine cw_seq ?_
  refine cw_gen ?_
  intro Q106 hQ106
  refine cw_seq ?_
  refine cw_gen ?_
  intro Q107 hQ107
  refine cw_reg ?_
  refine el_pv (v := .int .i64 a0) (pv_move rfl) (by decide) ?_
  refine el_pv (v := .bool (decide (a0 < 0))) (pv_lss rfl rfl) (by decide) ?_
  refine el_pv (v := .bool (decide (a0 < 0))) (pv_move rfl) (by decide) ?_
  replace hF := oif hF
  rcases hF with ⟨hb108, hF⟩ | ⟨hb108, hF⟩
  · refine el_off rfl hb108 rfl (by decide) ?_
    refine el_off rfl hb108 rfl (by decide) ?_
    refine el_off rfl hb108 rfl (by decide) ?_
    refine el_pv (v := .bool true) (pv_pick_t rfl hb108 rfl) (by decide) ?_
    refine el_nil ?_
    refine hQ107 _ _ _ ?_
    refine thn_n ?_
    refine cw_cond_t rfl rfl ?_
    refine cw_seq ?_
    refine cw_gen ?_
    intro Q109 hQ109
    refine cw_reg ?_
    refine el_pv (v := .agg #[(.slice none 0 0)]) (pv_build [] [(.slice none 0 0)] rfl rfl) (by decide) ?_
    refine el_storev (hS.top 0 rfl) rfl [(.slice none 0 0)] rfl rfl (of_decide_eq_true rfl) (all_cons rfl rfl) ?_
    intro w110 hS
    replace hS : Sat w0 w110 [Box b103 76 [(.slice none 0 0)]] := hS
    refine el_pv (v := .bool false) (pv_assign rfl) (by decide) ?_
    refine el_nil ?_
    refine hQ109 _ _ _ ?_
    refine thn_n ?_
    refine cw_ret ?_
    refine hQ106 _ _ _ ?_
    refine thn_r ?_
    replace hS := hS.nil intR 3
    refine finCT (cs := [(.slice none 0 0)]) rfl rfl rfl (boxc0 (hS.boxAt 1 rfl)) rfl ?_
    have hr := Option.some.inj hF
    exact ⟨(.slice none 0 0), congrArg (fun (r : (List Int) × Bool) => Ending.returned (.tuple #[.agg #[(.slice none 0 0)], .bool r.2])) hr, Eq.mp (congrArg (fun (r : (List Int) × Bool) => Sat w0 w110 [Own (sliceR intR 3) [(.slice none 0 0)] r.1]) hr) (hS.keep 1)⟩
  · refine el_on rfl hb108 ?_
    refine el_pv (v := .int .i64 a1) (pv_move rfl) (by decide) ?_
    refine el_on rfl hb108 ?_
    replace hF := ob hF
    obtain ⟨r112, hr112, hF⟩ := hF
    refine el_call goes41 (impl_within_ok hr112) (congrArg List.toArray (mapc rfl (mapc rfl (mapc rfl rfl)))) (by decide) ?_
    rintro _ w113 ⟨rfl, hx114⟩
    refine ⟨_, rfl, ?_⟩
    replace hS := hS.ext hx114
    refine el_on rfl hb108 ?_
    refine el_pv (v := .bool (!r112)) (pv_not rfl) (by decide) ?_
    refine el_pv (v := .bool (!r112)) (pv_pick_f rfl hb108 rfl) (by decide) ?_
    refine el_nil ?_
    refine hQ107 _ _ _ ?_
    refine thn_n ?_
    replace hF := oif hF
    rcases hF with ⟨hb115, hF⟩ | ⟨hb115, hF⟩
    · refine cw_cond_f rfl (bnot_t hb115) ?_
      refine cw_skip ?_
      refine hQ106 _ _ _ ?_
      refine thn_n ?_
      refine cw_seq ?_
      refine cw_gen ?_
      intro Q116 hQ116
      refine cw_reg ?_
      replace hF := ob hF
      obtain ⟨r117, hr117, hF⟩ := hF
      refine el_call goes127 (impl_BigIntFromInt_ok hr117) (congrArg List.toArray (mapc rfl rfl)) (by decide) ?_
      rintro _ w120 ⟨v118, rfl, hS'⟩
      refine ⟨_, rfl, ?_⟩
      have hx121 := hS'.below
      replace hS := hS.call1 hS'
      refine el_alloc hS (by decide) ?_
      intro w122 b123 hS hx124
      refine el_storev (hS.top 0 rfl) rfl [v118] rfl rfl (of_decide_eq_true rfl) (all_cons (oc (hS.rdAt (R := (sliceR intR 3)) 1 rfl)) rfl) ?_
      intro w126 hS
      replace hS : Sat w0 w126 [Box b123 76 [v118], Own (sliceR intR 3) [v118] r117, Box b103 76 [(.slice none 0 0)]] := hS
      refine el_nil ?_
      refine hQ116 _ _ _ ?_
      refine thn_n ?_
      refine cw_seq ?_
      refine cw_gen ?_
      intro Q127 hQ127
      refine cw_seq ?_
      refine cw_gen ?_
      intro Q128 hQ128
      refine cw_reg ?_
      refine el_pv (v := .int .i64 0) (pv_assign rfl) (by decide) ?_
      refine el_nil ?_
      refine hQ128 _ _ _ ?_
      refine thn_n ?_
      refine cw_block ?_
      refine cw_gen ?_
      intro Q129 hQ129
      obtain ⟨s130, hL, hK131⟩ := ob hF
      refine cw_loopS (fun k e w => ∃ (v133 : Value), ∃ (x132 : List Int), ∃ (x134 : Int), e 0 = .int .i64 a0 ∧ e 1 = .int .i64 a1 ∧ e 4 = .pointer (some ⟨b103, 0, none⟩) ∧ e 6 = .pointer (some ⟨b123, 0, none⟩) ∧ e 7 = .int .i64 x134 ∧ Sat w0 w [Box b123 76 [v133], Own (sliceR intR 3) [v133] x132, Box b103 76 [(.slice none 0 0)]] ∧ impl_PowBigInt_L1 N k a0 a1 [] x132 x134 = some s130) N ?_ ?_ ?_
      · exact ⟨v118, r117, 0, rfl, rfl, rfl, rfl, rfl, hS, hL⟩
      · rintro e w ⟨_, _, _, _, _, _, _, _, _, hz⟩; exact nomatch (show none = some _ from hz)
      · rintro k e141 w140 ⟨v133, x132, x134, he135, he136, he137, he138, he139, hS, hF⟩
        refine cw_gen ?_
        intro Q142 hQ142
        refine cw_seq ?_
        refine cw_gen ?_
        intro Q143 hQ143
        refine cw_seq ?_
        refine cw_gen ?_
        intro Q144 hQ144
        refine cw_reg ?_
        refine el_pv (v := .int .i64 x134) (pv_move he139) (by decide) ?_
        refine el_pv (v := .int .i64 a1) (pv_move he136) (by decide) ?_
        refine el_pv (v := .bool (decide (x134 < a1))) (pv_lss rfl rfl) (by decide) ?_
        refine el_nil ?_
        refine hQ144 _ _ _ ?_
        refine thn_n ?_
        replace hF := oif hF
        rcases hF with ⟨hb145, hF⟩ | ⟨hb145, hF⟩
        · refine cw_cond_t rfl hb145 ?_
          refine cw_skip ?_
          refine hQ143 _ _ _ ?_
          refine thn_n ?_
          refine cw_seq ?_
          refine cw_gen ?_
          intro Q146 hQ146
          refine cw_block ?_
          refine cw_gen ?_
          intro Q147 hQ147
          refine cw_seq ?_
          refine cw_gen ?_
          intro Q148 hQ148
          replace hF := ob hF
          obtain ⟨r151, hr151, hF⟩ := hF
          replace hF := ob hF
          obtain ⟨r156, hr156, hF⟩ := hF
          refine cw_mid (fun e w => ∃ (b162 : Nat), ∃ (v157 : Value), e 0 = .int .i64 a0 ∧ e 1 = .int .i64 a1 ∧ e 4 = .pointer (some ⟨b103, 0, none⟩) ∧ e 6 = .pointer (some ⟨b123, 0, none⟩) ∧ e 7 = .int .i64 x134 ∧ e 8 = .pointer (some ⟨b162, 0, none⟩) ∧ e 9 = .bool r156.2 ∧ Sat w0 w [Box b123 76 [v133], Box b103 76 [(.slice none 0 0)], Own (sliceR intR 3) [v133] x132, Box b162 76 [v157], Own (sliceR intR 3) [v157] r156.1]) ?_ ?_
          · obtain ⟨C, hCd⟩ : ∃ C : World → Prop, ∀ w, C w ↔ ∃ G, Sat w0 w ([Box b123 76 [v133], Own (sliceR intR 3) [v133] x132] ++ G) := ⟨_, fun _ => Iff.rfl⟩
            refine cw_regb [0, 1, 2, 3, 4, 5, 6, 7, 8, 9] C (by kernel_rfl) ?_
            intro w166 hx167
            replace hS := hS.ext hx167
            have hC := (hCd _).2 ⟨_, hS⟩
            refine al_p (v := .agg #[v133]) (by kernel_rfl) 0 rfl rfl (by decide) hC (by kernel_rfl) (by kernel_rfl) (sv_on rfl (fun w' hw' => by obtain ⟨_, hS⟩ := (hCd _).1 hw'; exact (pv_loada (cs := [v133]) he138 rfl (boxc0 (hS.boxAt 0 rfl))))) ?_
            refine al_p (v := .int .i64 a0) (by kernel_rfl) 1 rfl rfl (by decide) hC (by kernel_rfl) (by kernel_rfl) (sv_on rfl (fun w' hw' => by obtain ⟨_, hS⟩ := (hCd _).1 hw'; exact (pv_move he135))) ?_
            refine al_two 2 7 (by kernel_rfl) rfl rfl ?_ ?_
            · refine el_call goes127 (impl_BigIntFromInt_ok hr151) (congrArg List.toArray (mapc rfl rfl)) (by decide) ?_
              rintro _ w154 ⟨v152, rfl, hS'⟩
              refine ⟨_, rfl, ?_⟩
              have hx155 := hS'.below
              replace hS := hS.call1 hS'
              refine el_nil ?_
              replace hS : Sat w0 w154 [Box b123 76 [v133], Own (sliceR intR 3) [v133] x132, Own (sliceR intR 3) [v152] r151, Box b103 76 [(.slice none 0 0)]] := hS.tops 4 [1, 2] rfl
              have hC := (hCd _).2 ⟨_, hS⟩
              refine ⟨fun _ => hC, ?_⟩
              refine al_two 3 7 (by kernel_rfl) rfl rfl ?_ ?_
              · refine el_call goes92 (impl_MulBigInt_ok (hS.rdAt (R := (sliceR intR 3)) 1 rfl) (hS.rdAt (R := (sliceR intR 3)) 2 rfl) hr156) (congrArg List.toArray (mapc rfl (mapc rfl rfl))) (by decide) ?_
                rintro _ w159 ⟨v157, rfl, hS'⟩
                refine ⟨_, rfl, ?_⟩
                have hx160 := hS'.below
                replace hS := hS.call1 hS'
                refine el_nil ?_
                replace hS : Sat w0 w159 [Box b123 76 [v133], Own (sliceR intR 3) [v133] x132, Own (sliceR intR 3) [v157] r156.1, Own (sliceR intR 3) [v152] r151, Box b103 76 [(.slice none 0 0)]] := hS.tops 5 [1, 2] rfl
                have hC := (hCd _).2 ⟨_, hS⟩
                refine ⟨fun _ => hC, ?_⟩
                refine al_p (v := .tuple #[.agg #[v157], .bool r156.2]) (by kernel_rfl) 4 rfl rfl (by decide) hC (by kernel_rfl) (by kernel_rfl) (sv_on rfl (fun w' hw' => by obtain ⟨_, hS⟩ := (hCd _).1 hw'; exact (pv_move rfl))) ?_
                refine al_p (v := .agg #[v157]) (by kernel_rfl) 5 rfl rfl (by decide) hC (by kernel_rfl) (by kernel_rfl) (sv_on rfl (fun w' hw' => by obtain ⟨_, hS⟩ := (hCd _).1 hw'; exact (pv_extract rfl rfl))) ?_
                refine al_p (v := .bool r156.2) (by kernel_rfl) 6 rfl rfl (by decide) hC (by kernel_rfl) (by kernel_rfl) (sv_on rfl (fun w' hw' => by obtain ⟨_, hS⟩ := (hCd _).1 hw'; exact (pv_extract rfl rfl))) ?_
                refine al_one 7 (by kernel_rfl) rfl ?_
                refine el_alloc hS (by decide) ?_
                intro w161 b162 hS hx163
                refine el_nil ?_
                replace hS : Sat w0 w161 [Box b123 76 [v133], Own (sliceR intR 3) [v133] x132, Box b162 76 [(.slice none 0 0)], Own (sliceR intR 3) [v157] r156.1, Own (sliceR intR 3) [v152] r151, Box b103 76 [(.slice none 0 0)]] := hS.tops 6 [1, 2] rfl
                have hC := (hCd _).2 ⟨_, hS⟩
                refine ⟨fun _ => hC, ?_⟩
                refine al_one 8 (by kernel_rfl) rfl ?_
                refine el_storev (hS.top 2 rfl) rfl [v157] rfl rfl (of_decide_eq_true rfl) (all_cons (oc (hS.rdAt (R := (sliceR intR 3)) 3 rfl)) rfl) ?_
                intro w165 hS
                replace hS : Sat w0 w165 [Box b162 76 [v157], Box b123 76 [v133], Own (sliceR intR 3) [v133] x132, Own (sliceR intR 3) [v157] r156.1, Own (sliceR intR 3) [v152] r151, Box b103 76 [(.slice none 0 0)]] := hS
                refine el_nil ?_
                replace hS : Sat w0 w165 [Box b123 76 [v133], Own (sliceR intR 3) [v133] x132, Box b162 76 [v157], Own (sliceR intR 3) [v157] r156.1, Own (sliceR intR 3) [v152] r151, Box b103 76 [(.slice none 0 0)]] := hS.tops 6 [1, 2] rfl
                have hC := (hCd _).2 ⟨_, hS⟩
                refine ⟨fun _ => hC, ?_⟩
                refine al_one 9 (by kernel_rfl) rfl ?_
                refine el_pv (v := .bool r156.2) (pv_assign rfl) (by decide) ?_
                refine el_nil ?_
                refine ⟨fun _ => hC, ?_⟩
                refine al_nil (by kernel_rfl) ?_
                replace hS : Sat w0 w165 [Box b123 76 [v133], Box b103 76 [(.slice none 0 0)], Own (sliceR intR 3) [v133] x132, Box b162 76 [v157], Own (sliceR intR 3) [v157] r156.1, Own (sliceR intR 3) [v152] r151] := hS.tops 6 [0, 5, 1, 2, 3] rfl
                replace hS : Sat w0 w165 [Box b123 76 [v133], Box b103 76 [(.slice none 0 0)], Own (sliceR intR 3) [v133] x132, Box b162 76 [v157], Own (sliceR intR 3) [v157] r156.1] := hS.rems 6 [5] rfl
                exact ⟨rfl, b162, v157, he135, he136, he137, he138, he139, rfl, rfl, hS⟩
              · refine el_alloc hS (by decide) ?_
                intro w161 b162 hS hx163
                refine el_nil ?_
                replace hS : Sat w0 w161 [Box b123 76 [v133], Own (sliceR intR 3) [v133] x132, Box b162 76 [(.slice none 0 0)], Own (sliceR intR 3) [v152] r151, Box b103 76 [(.slice none 0 0)]] := hS.tops 5 [1, 2] rfl
                have hC := (hCd _).2 ⟨_, hS⟩
                refine ⟨fun _ => hC, ?_⟩
                refine al_one 3 (by kernel_rfl) rfl ?_
                refine el_call goes92 (impl_MulBigInt_ok (hS.rdAt (R := (sliceR intR 3)) 1 rfl) (hS.rdAt (R := (sliceR intR 3)) 3 rfl) hr156) (congrArg List.toArray (mapc rfl (mapc rfl rfl))) (by decide) ?_
                rintro _ w159 ⟨v157, rfl, hS'⟩
                refine ⟨_, rfl, ?_⟩
                have hx160 := hS'.below
                replace hS := hS.call1 hS'
                refine el_nil ?_
                replace hS : Sat w0 w159 [Box b123 76 [v133], Own (sliceR intR 3) [v133] x132, Own (sliceR intR 3) [v157] r156.1, Box b162 76 [(.slice none 0 0)], Own (sliceR intR 3) [v152] r151, Box b103 76 [(.slice none 0 0)]] := hS.tops 6 [1, 2] rfl
                have hC := (hCd _).2 ⟨_, hS⟩
                refine ⟨fun _ => hC, ?_⟩
                refine al_one 4 (by kernel_rfl) rfl ?_
                refine el_pv (v := .tuple #[.agg #[v157], .bool r156.2]) (pv_move rfl) (by decide) ?_
                refine el_nil ?_
                refine ⟨fun _ => hC, ?_⟩
                refine al_p (v := .agg #[v157]) (by kernel_rfl) 5 rfl rfl (by decide) hC (by kernel_rfl) (by kernel_rfl) (sv_on rfl (fun w' hw' => by obtain ⟨_, hS⟩ := (hCd _).1 hw'; exact (pv_extract rfl rfl))) ?_
                refine al_p (v := .bool r156.2) (by kernel_rfl) 6 rfl rfl (by decide) hC (by kernel_rfl) (by kernel_rfl) (sv_on rfl (fun w' hw' => by obtain ⟨_, hS⟩ := (hCd _).1 hw'; exact (pv_extract rfl rfl))) ?_
                refine al_one 8 (by kernel_rfl) rfl ?_
                refine el_storev (hS.top 3 rfl) rfl [v157] rfl rfl (of_decide_eq_true rfl) (all_cons (oc (hS.rdAt (R := (sliceR intR 3)) 2 rfl)) rfl) ?_
                intro w165 hS
                replace hS : Sat w0 w165 [Box b162 76 [v157], Box b123 76 [v133], Own (sliceR intR 3) [v133] x132, Own (sliceR intR 3) [v157] r156.1, Own (sliceR intR 3) [v152] r151, Box b103 76 [(.slice none 0 0)]] := hS
                refine el_nil ?_
                replace hS : Sat w0 w165 [Box b123 76 [v133], Own (sliceR intR 3) [v133] x132, Box b162 76 [v157], Own (sliceR intR 3) [v157] r156.1, Own (sliceR intR 3) [v152] r151, Box b103 76 [(.slice none 0 0)]] := hS.tops 6 [1, 2] rfl
                have hC := (hCd _).2 ⟨_, hS⟩
                refine ⟨fun _ => hC, ?_⟩
                refine al_one 9 (by kernel_rfl) rfl ?_
                refine el_pv (v := .bool r156.2) (pv_assign rfl) (by decide) ?_
                refine el_nil ?_
                refine ⟨fun _ => hC, ?_⟩
                refine al_nil (by kernel_rfl) ?_
                replace hS : Sat w0 w165 [Box b123 76 [v133], Box b103 76 [(.slice none 0 0)], Own (sliceR intR 3) [v133] x132, Box b162 76 [v157], Own (sliceR intR 3) [v157] r156.1, Own (sliceR intR 3) [v152] r151] := hS.tops 6 [0, 5, 1, 2, 3] rfl
                replace hS : Sat w0 w165 [Box b123 76 [v133], Box b103 76 [(.slice none 0 0)], Own (sliceR intR 3) [v133] x132, Box b162 76 [v157], Own (sliceR intR 3) [v157] r156.1] := hS.rems 6 [5] rfl
                exact ⟨rfl, b162, v157, he135, he136, he137, he138, he139, rfl, rfl, hS⟩
            · refine el_alloc hS (by decide) ?_
              intro w161 b162 hS hx163
              refine el_nil ?_
              replace hS : Sat w0 w161 [Box b123 76 [v133], Own (sliceR intR 3) [v133] x132, Box b162 76 [(.slice none 0 0)], Box b103 76 [(.slice none 0 0)]] := hS.tops 4 [1, 2] rfl
              have hC := (hCd _).2 ⟨_, hS⟩
              refine ⟨fun _ => hC, ?_⟩
              refine al_one 2 (by kernel_rfl) rfl ?_
              refine el_call goes127 (impl_BigIntFromInt_ok hr151) (congrArg List.toArray (mapc rfl rfl)) (by decide) ?_
              rintro _ w154 ⟨v152, rfl, hS'⟩
              refine ⟨_, rfl, ?_⟩
              have hx155 := hS'.below
              replace hS := hS.call1 hS'
              refine el_nil ?_
              replace hS : Sat w0 w154 [Box b123 76 [v133], Own (sliceR intR 3) [v133] x132, Own (sliceR intR 3) [v152] r151, Box b162 76 [(.slice none 0 0)], Box b103 76 [(.slice none 0 0)]] := hS.tops 5 [1, 2] rfl
              have hC := (hCd _).2 ⟨_, hS⟩
              refine ⟨fun _ => hC, ?_⟩
              refine al_one 3 (by kernel_rfl) rfl ?_
              refine el_call goes92 (impl_MulBigInt_ok (hS.rdAt (R := (sliceR intR 3)) 1 rfl) (hS.rdAt (R := (sliceR intR 3)) 2 rfl) hr156) (congrArg List.toArray (mapc rfl (mapc rfl rfl))) (by decide) ?_
              rintro _ w159 ⟨v157, rfl, hS'⟩
              refine ⟨_, rfl, ?_⟩
              have hx160 := hS'.below
              replace hS := hS.call1 hS'
              refine el_nil ?_
              replace hS : Sat w0 w159 [Box b123 76 [v133], Own (sliceR intR 3) [v133] x132, Own (sliceR intR 3) [v157] r156.1, Own (sliceR intR 3) [v152] r151, Box b162 76 [(.slice none 0 0)], Box b103 76 [(.slice none 0 0)]] := hS.tops 6 [1, 2] rfl
              have hC := (hCd _).2 ⟨_, hS⟩
              refine ⟨fun _ => hC, ?_⟩
              refine al_one 4 (by kernel_rfl) rfl ?_
              refine el_pv (v := .tuple #[.agg #[v157], .bool r156.2]) (pv_move rfl) (by decide) ?_
              refine el_nil ?_
              refine ⟨fun _ => hC, ?_⟩
              refine al_p (v := .agg #[v157]) (by kernel_rfl) 5 rfl rfl (by decide) hC (by kernel_rfl) (by kernel_rfl) (sv_on rfl (fun w' hw' => by obtain ⟨_, hS⟩ := (hCd _).1 hw'; exact (pv_extract rfl rfl))) ?_
              refine al_p (v := .bool r156.2) (by kernel_rfl) 6 rfl rfl (by decide) hC (by kernel_rfl) (by kernel_rfl) (sv_on rfl (fun w' hw' => by obtain ⟨_, hS⟩ := (hCd _).1 hw'; exact (pv_extract rfl rfl))) ?_
              refine al_one 8 (by kernel_rfl) rfl ?_
              refine el_storev (hS.top 4 rfl) rfl [v157] rfl rfl (of_decide_eq_true rfl) (all_cons (oc (hS.rdAt (R := (sliceR intR 3)) 2 rfl)) rfl) ?_
              intro w165 hS
              replace hS : Sat w0 w165 [Box b162 76 [v157], Box b123 76 [v133], Own (sliceR intR 3) [v133] x132, Own (sliceR intR 3) [v157] r156.1, Own (sliceR intR 3) [v152] r151, Box b103 76 [(.slice none 0 0)]] := hS
              refine el_nil ?_
              replace hS : Sat w0 w165 [Box b123 76 [v133], Own (sliceR intR 3) [v133] x132, Box b162 76 [v157], Own (sliceR intR 3) [v157] r156.1, Own (sliceR intR 3) [v152] r151, Box b103 76 [(.slice none 0 0)]] := hS.tops 6 [1, 2] rfl
              have hC := (hCd _).2 ⟨_, hS⟩
              refine ⟨fun _ => hC, ?_⟩
              refine al_one 9 (by kernel_rfl) rfl ?_
              refine el_pv (v := .bool r156.2) (pv_assign rfl) (by decide) ?_
              refine el_nil ?_
              refine ⟨fun _ => hC, ?_⟩
              refine al_nil (by kernel_rfl) ?_
              replace hS : Sat w0 w165 [Box b123 76 [v133], Box b103 76 [(.slice none 0 0)], Own (sliceR intR 3) [v133] x132, Box b162 76 [v157], Own (sliceR intR 3) [v157] r156.1, Own (sliceR intR 3) [v152] r151] := hS.tops 6 [0, 5, 1, 2, 3] rfl
              replace hS : Sat w0 w165 [Box b123 76 [v133], Box b103 76 [(.slice none 0 0)], Own (sliceR intR 3) [v133] x132, Box b162 76 [v157], Own (sliceR intR 3) [v157] r156.1] := hS.rems 6 [5] rfl
              exact ⟨rfl, b162, v157, he135, he136, he137, he138, he139, rfl, rfl, hS⟩
          · rintro e168 w169 ⟨b162, v157, he170, he171, he172, he173, he174, he175, he176, hS⟩
            refine hQ148 _ _ _ ?_
            refine thn_n ?_
            refine cw_seq ?_
            refine cw_gen ?_
            intro Q177 hQ177
            refine cw_seq ?_
            refine cw_gen ?_
            intro Q178 hQ178
            refine cw_reg ?_
            refine el_pv (v := .bool r156.2) (pv_move he176) (by decide) ?_
            refine el_pv (v := .bool (!r156.2)) (pv_not rfl) (by decide) ?_
            refine el_nil ?_
            refine hQ178 _ _ _ ?_
            refine thn_n ?_
            replace hF := oif hF
            rcases hF with ⟨hb179, hF⟩ | ⟨hb179, hF⟩
            · refine cw_cond_f rfl (bnot_t hb179) ?_
              refine cw_skip ?_
              refine hQ177 _ _ _ ?_
              refine thn_n ?_
              refine cw_reg ?_
              refine el_pv (v := .agg #[v157]) (pv_loada (cs := [v157]) he175 rfl (boxc0 (hS.boxAt 3 rfl))) (by decide) ?_
              refine el_storev (hS.top 0 rfl) he173 [v157] rfl rfl (of_decide_eq_true rfl) (all_cons (oc (hS.rdAt (R := (sliceR intR 3)) 4 rfl)) rfl) ?_
              intro w180 hS
              replace hS : Sat w0 w180 [Box b123 76 [v157], Box b103 76 [(.slice none 0 0)], Own (sliceR intR 3) [v133] x132, Box b162 76 [v157], Own (sliceR intR 3) [v157] r156.1] := hS
              refine el_nil ?_
              refine hQ147 _ _ _ ?_
              refine inb_n ?_
              refine hQ146 _ _ _ ?_
              refine thn_n ?_
              replace hS : Sat w0 w180 [Box b123 76 [v157], Box b103 76 [(.slice none 0 0)], Own (sliceR intR 3) [v157] r156.1] := hS.rems 5 [2, 3] rfl
              refine cw_reg ?_
              refine el_pv (v := .int .i64 x134) (pv_move he174) (by decide) ?_
              replace hF := ob hF
              obtain ⟨x181, hx181, hF⟩ := hF
              refine el_pv (v := .int .i64 x181) (pv_add rfl rfl hx181) (by decide) ?_
              refine el_pv (v := .int .i64 x181) (pv_assign rfl) (by decide) ?_
              refine el_nil ?_
              refine hQ142 _ _ _ ?_
              refine thn_n ?_
              replace hS : Sat w0 w180 [Box b123 76 [v157], Own (sliceR intR 3) [v157] r156.1, Box b103 76 [(.slice none 0 0)]] := hS.tops 3 [0, 2, 1] rfl
              replace hS := hS.keep 3
              exact ⟨v157, r156.1, x181, he170, he171, he172, he173, rfl, hS, hF⟩
            · refine cw_cond_t rfl (bnot_f hb179) ?_
              refine cw_seq ?_
              refine cw_gen ?_
              intro Q182 hQ182
              replace hS : Sat w0 w169 [Box b103 76 [(.slice none 0 0)]] := hS.rems 5 [0, 2, 3, 4] rfl
              refine cw_reg ?_
              refine el_pv (v := .agg #[(.slice none 0 0)]) (pv_build [] [(.slice none 0 0)] rfl rfl) (by decide) ?_
              refine el_storev (hS.top 0 rfl) he172 [(.slice none 0 0)] rfl rfl (of_decide_eq_true rfl) (all_cons rfl rfl) ?_
              intro w183 hS
              replace hS : Sat w0 w183 [Box b103 76 [(.slice none 0 0)]] := hS
              refine el_pv (v := .bool false) (pv_assign rfl) (by decide) ?_
              refine el_nil ?_
              refine hQ182 _ _ _ ?_
              refine thn_n ?_
              refine cw_ret ?_
              refine hQ177 _ _ _ ?_
              refine thn_r ?_
              refine hQ147 _ _ _ ?_
              refine inb_r ?_
              refine hQ146 _ _ _ ?_
              refine thn_r ?_
              refine hQ142 _ _ _ ?_
              refine thn_r ?_
              refine hQ129 _ _ _ ?_
              refine inb_r ?_
              refine hQ127 _ _ _ ?_
              refine thn_r ?_
              replace hF := exL hF hK131
              replace hS := hS.nil intR 3
              refine finCT (cs := [(.slice none 0 0)]) rfl he172 rfl (boxc0 (hS.boxAt 1 rfl)) rfl ?_
              have hr := Option.some.inj hF
              exact ⟨(.slice none 0 0), congrArg (fun (r : (List Int) × Bool) => Ending.returned (.tuple #[.agg #[(.slice none 0 0)], .bool r.2])) hr, Eq.mp (congrArg (fun (r : (List Int) × Bool) => Sat w0 w183 [Own (sliceR intR 3) [(.slice none 0 0)] r.1]) hr) (hS.keep 1)⟩
        · refine cw_cond_f rfl hb145 ?_
          refine cw_exit ?_
          refine hQ143 _ _ _ ?_
          refine thn_x ?_
          refine hQ142 _ _ _ ?_
          refine thn_x ?_
          replace hF := exA hF hK131
          refine hQ129 _ _ _ ?_
          refine inb_s ?_
          refine hQ127 _ _ _ ?_
          refine thn_n ?_
          refine cw_seq ?_
          refine cw_gen ?_
          intro Q185 hQ185
          refine cw_reg ?_
          refine el_pv (v := .agg #[v133]) (pv_loada (cs := [v133]) he138 rfl (boxc0 (hS.boxAt 0 rfl))) (by decide) ?_
          refine el_storev (hS.top 2 rfl) he137 [v133] rfl rfl (of_decide_eq_true rfl) (all_cons (oc (hS.rdAt (R := (sliceR intR 3)) 1 rfl)) rfl) ?_
          intro w186 hS
          replace hS : Sat w0 w186 [Box b103 76 [v133], Box b123 76 [v133], Own (sliceR intR 3) [v133] x132] := hS
          refine el_pv (v := .bool true) (pv_assign rfl) (by decide) ?_
          refine el_nil ?_
          refine hQ185 _ _ _ ?_
          refine thn_n ?_
          refine cw_ret ?_
          refine finCT (cs := [v133]) rfl he137 rfl (boxc0 (hS.boxAt 0 rfl)) rfl ?_
          replace hS : Sat w0 w186 [Own (sliceR intR 3) [v133] x132, Box b103 76 [v133], Box b123 76 [v133]] := hS.tops 3 [2] rfl
          have hr := Option.some.inj hF
          exact ⟨v133, congrArg (fun (r : (List Int) × Bool) => Ending.returned (.tuple #[.agg #[v133], .bool r.2])) hr, Eq.mp (congrArg (fun (r : (List Int) × Bool) => Sat w0 w186 [Own (sliceR intR 3) [v133] r.1]) hr) (hS.keep 1)⟩
    · refine cw_cond_t rfl (bnot_f hb115) ?_
      refine cw_seq ?_
      refine cw_gen ?_
      intro Q187 hQ187
      refine cw_reg ?_
      refine el_pv (v := .agg #[(.slice none 0 0)]) (pv_build [] [(.slice none 0 0)] rfl rfl) (by decide) ?_
      refine el_storev (hS.top 0 rfl) rfl [(.slice none 0 0)] rfl rfl (of_decide_eq_true rfl) (all_cons rfl rfl) ?_
      intro w188 hS
      replace hS : Sat w0 w188 [Box b103 76 [(.slice none 0 0)]] := hS
      refine el_pv (v := .bool false) (pv_assign rfl) (by decide) ?_
      refine el_nil ?_
      refine hQ187 _ _ _ ?_
      refine thn_n ?_
      refine cw_ret ?_
      refine hQ106 _ _ _ ?_
      refine thn_r ?_
      replace hS := hS.nil intR 3
      refine finCT (cs := [(.slice none 0 0)]) rfl rfl rfl (boxc0 (hS.boxAt 1 rfl)) rfl ?_
      have hr := Option.some.inj hF
      exact ⟨(.slice none 0 0), congrArg (fun (r : (List Int) × Bool) => Ending.returned (.tuple #[.agg #[(.slice none 0 0)], .bool r.2])) hr, Eq.mp (congrArg (fun (r : (List Int) × Bool) => Sat w0 w188 [Own (sliceR intR 3) [(.slice none 0 0)] r.1]) hr) (hS.keep 1)⟩
set_option maxHeartbeats 4000000 in
theorem impl_ProductOfPowers_ok {w0 : World} {u0 : Value} {a0 : List Int} {u1 : Value} {a1 : List Int} (ha0 : (sliceR intR 3).rd w0 [u0] a0) (ha1 : (sliceR intR 3).rd w0 [u1] a1) {N : Nat} {r : (List Int) × Bool} (hF : impl_ProductOfPowers N a0 a1 = some r) :
    Calls Try.prog 91 #[u0, u1] w0 fun e w' => ∃ (q0 : Value), e = .returned (.tuple #[.agg #[q0], .bool r.2]) ∧ Sat w0 w' [Own (sliceR intR 3) [q0] r.1] := by
  unfold impl_ProductOfPowers at hF
  refine calls_E Try.func91 rfl rfl (of_decide_eq_true rfl) ?_
  have hS := Sat.start w0
  refine cw_seq ?_
  refine cw_gen ?_
  intro Q101 hQ101
  refine cw_reg ?_
  refine el_alloc hS (by decide) ?_
  intro w102 b103 hS hx104
  refine el_pv (v := .bool false) (pv_assign rfl) (by decide) ?_
  refine el_nil ?_
  refine hQ101 _ _ _ ?_
  refine thn_n ?_
  refine cw_seq ?_
  refine cw_gen ?_
  intro Q106 hQ106
  refine cw_seq ?_
  refine cw_gen ?_
  intro Q107 hQ107
  refine cw_reg ?_
  refine el_pv (v := u0) (pv_move rfl) (by decide) ?_
  refine el_pv (v := .int .i64 (a0.length : Int)) (pv_len rfl ha0) (by decide) ?_
  refine el_pv (v := u1) (pv_move rfl) (by decide) ?_
  refine el_pv (v := .int .i64 (a1.length : Int)) (pv_len rfl ha1) (by decide) ?_
  refine el_pv (v := .bool ((a0.length : Int) != (a1.length : Int))) (pv_neq rfl rfl) (by decide) ?_
  refine el_nil ?_
  refine hQ107 _ _ _ ?_
  refine thn_n ?_
  replace hF := oif hF
  rcases hF with ⟨hb108, hF⟩ | ⟨hb108, hF⟩
  · refine cw_cond_t rfl hb108 ?_
    refine cw_seq ?_
    refine cw_gen ?_
    intro Q109 hQ109
    refine cw_reg ?_
    refine el_pv (v := .agg #[(.slice none 0 0)]) (pv_build [] [(.slice none 0 0)] rfl rfl) (by decide) ?_
    refine el_storev (hS.top 0 rfl) rfl [(.slice none 0 0)] rfl rfl (of_decide_eq_true rfl) (all_cons rfl rfl) ?_
    intro w110 hS
    replace hS : Sat w0 w110 [Box b103 76 [(.slice none 0 0)]] := hS
    refine el_pv (v := .bool false) (pv_assign rfl) (by decide) ?_
    refine el_nil ?_
    refine hQ109 _ _ _ ?_
    refine thn_n ?_
    refine cw_ret ?_
    refine hQ106 _ _ _ ?_
    refine thn_r ?_
    replace hS := hS.nil intR 3
    refine finCT (cs := [(.slice none 0 0)]) rfl rfl rfl (boxc0 (hS.boxAt 1 rfl)) rfl ?_
    have hr := Option.some.inj hF
    exact ⟨(.slice none 0 0), congrArg (fun (r : (List Int) × Bool) => Ending.returned (.tuple #[.agg #[(.slice none 0 0)], .bool r.2])) hr, Eq.mp (congrArg (fun (r : (List Int) × Bool) => Sat w0 w110 [Own (sliceR intR 3) [(.slice none 0 0)] r.1]) hr) (hS.keep 1)⟩
  · refine cw_cond_f rfl hb108 ?_
    refine cw_skip ?_
    refine hQ106 _ _ _ ?_
    refine thn_n ?_
    refine cw_seq ?_
    refine cw_gen ?_
    intro Q112 hQ112
    refine cw_reg ?_
    replace hF := ob hF
    obtain ⟨r113, hr113, hF⟩ := hF
    refine el_call goes127 (impl_BigIntFromInt_ok hr113) (congrArg List.toArray (mapc rfl rfl)) (by decide) ?_
    rintro _ w116 ⟨v114, rfl, hS'⟩
    refine ⟨_, rfl, ?_⟩
    have hx117 := hS'.below
    replace hS := hS.call1 hS'
    refine el_alloc hS (by decide) ?_
    intro w118 b119 hS hx120
    refine el_storev (hS.top 0 rfl) rfl [v114] rfl rfl (of_decide_eq_true rfl) (all_cons (oc (hS.rdAt (R := (sliceR intR 3)) 1 rfl)) rfl) ?_
    intro w122 hS
    replace hS : Sat w0 w122 [Box b119 76 [v114], Own (sliceR intR 3) [v114] r113, Box b103 76 [(.slice none 0 0)]] := hS
    refine el_nil ?_
    refine hQ112 _ _ _ ?_
    refine thn_n ?_
    refine cw_seq ?_
    refine cw_gen ?_
    intro Q123 hQ123
    refine cw_seq ?_
    refine cw_gen ?_
    intro Q124 hQ124
    refine cw_reg ?_
    refine el_pv (v := u0) (pv_move rfl) (by decide) ?_
    refine el_pv (v := .int .i64 (a0.length : Int)) (pv_len rfl ha0) (by decide) ?_
    refine el_pv (v := .int .i64 0) (pv_move rfl) (by decide) ?_
    refine el_nil ?_
    refine hQ124 _ _ _ ?_
    refine thn_n ?_
    refine cw_block ?_
    refine cw_gen ?_
    intro Q125 hQ125
    obtain ⟨s126, hL, hK127⟩ := ob hF
    refine cw_loopS (fun k e w => ∃ (v129 : Value), ∃ (x128 : List Int), ∃ (x130 : Int), e 0 = u0 ∧ e 1 = u1 ∧ e 4 = .pointer (some ⟨b103, 0, none⟩) ∧ e 6 = .pointer (some ⟨b119, 0, none⟩) ∧ e 20 = .int .i64 (a0.length : Int) ∧ e 21 = .int .i64 x130 ∧ Sat w0 w [Box b119 76 [v129], Own (sliceR intR 3) [v129] x128, Box b103 76 [(.slice none 0 0)]] ∧ impl_ProductOfPowers_L1 N k a0 a1 [] x128 (a0.length : Int) x130 = some s126) N ?_ ?_ ?_
    · exact ⟨v114, r113, 0, rfl, rfl, rfl, rfl, rfl, rfl, hS, hL⟩
    · rintro e w ⟨_, _, _, _, _, _, _, _, _, _, hz⟩; exact nomatch (show none = some _ from hz)
    · rintro k e138 w137 ⟨v129, x128, x130, he131, he132, he133, he134, he135, he136, hS, hF⟩
      refine cw_gen ?_
      intro Q139 hQ139
      refine cw_seq ?_
      refine cw_gen ?_
      intro Q140 hQ140
      refine cw_reg ?_
      refine el_pv (v := .bool (decide (x130 < (a0.length : Int)))) (pv_lss he136 he135) (by decide) ?_
      refine el_nil ?_
      refine hQ140 _ _ _ ?_
      refine thn_n ?_
      refine cw_seq ?_
      refine cw_gen ?_
      intro Q141 hQ141
      replace hF := oif hF
      rcases hF with ⟨hb142, hF⟩ | ⟨hb142, hF⟩
      · refine cw_cond_t rfl hb142 ?_
        refine cw_skip ?_
        refine hQ141 _ _ _ ?_
        refine thn_n ?_
        refine cw_seq ?_
        refine cw_gen ?_
        intro Q143 hQ143
        refine cw_block ?_
        refine cw_gen ?_
        intro Q144 hQ144
        refine cw_seq ?_
        refine cw_gen ?_
        intro Q145 hQ145
        refine cw_reg ?_
        refine el_pv (v := .int .i64 x130) (pv_move he136) (by decide) ?_
        refine el_pv (v := .int .i64 x130) (pv_assign rfl) (by decide) ?_
        refine el_nil ?_
        refine hQ145 _ _ _ ?_
        refine thn_n ?_
        refine cw_seq ?_
        refine cw_gen ?_
        intro Q146 hQ146
        replace hF := ob hF
        obtain ⟨x149, hx149, hF⟩ := hF
        replace hF := ob hF
        obtain ⟨x155, hx155, hF⟩ := hF
        replace hF := ob hF
        obtain ⟨r161, hr161, hF⟩ := hF
        refine cw_mid (fun e w => ∃ (b167 : Nat), ∃ (v162 : Value), e 0 = u0 ∧ e 1 = u1 ∧ e 4 = .pointer (some ⟨b103, 0, none⟩) ∧ e 6 = .pointer (some ⟨b119, 0, none⟩) ∧ e 8 = .pointer (some ⟨b167, 0, none⟩) ∧ e 9 = .bool r161.2 ∧ e 20 = .int .i64 (a0.length : Int) ∧ e 21 = .int .i64 x130 ∧ Sat w0 w [Box b119 76 [v129], Box b103 76 [(.slice none 0 0)], Own (sliceR intR 3) [v129] x128, Box b167 76 [v162], Own (sliceR intR 3) [v162] r161.1]) ?_ ?_
        · obtain ⟨C, hCd⟩ : ∃ C : World → Prop, ∀ w, C w ↔ ∃ G, Sat w0 w ([] ++ G) := ⟨_, fun _ => Iff.rfl⟩
          refine cw_regb [0, 1, 2, 3, 4, 5, 6, 7, 8, 9, 10, 11, 12, 13, 14] C (by kernel_rfl) ?_
          intro w171 hx172
          replace hS := hS.ext hx172
          have hC := (hCd _).2 ⟨_, hS⟩
          refine al_p (v := u0) (by kernel_rfl) 0 rfl rfl (by decide) hC (by kernel_rfl) (by kernel_rfl) (sv_on rfl (fun w' hw' => by obtain ⟨_, hS⟩ := (hCd _).1 hw'; exact (pv_move he131))) ?_
          refine al_p (v := .int .i64 x130) (by kernel_rfl) 1 rfl rfl (by decide) hC (by kernel_rfl) (by kernel_rfl) (sv_on rfl (fun w' hw' => by obtain ⟨_, hS⟩ := (hCd _).1 hw'; exact (pv_move rfl))) ?_
          refine al_index (wA := w0) (by kernel_rfl) 2 rfl hC (by kernel_rfl) (by kernel_rfl) rfl ha0 rfl (by decide) rfl hx149 (by decide) ?_
          intro b150 of151 c152 hr153 hm154
          obtain rfl := hr153
          refine al_p (v := .int .i64 x149) (by kernel_rfl) 3 rfl rfl (by decide) hC (by kernel_rfl) (by kernel_rfl) (sv_on rfl (fun w' hw' => by obtain ⟨_, hS⟩ := (hCd _).1 hw'; exact (pv_loadc rfl ((cells_up hS.below hm154) 0 _ rfl)))) ?_
          refine al_p (v := u1) (by kernel_rfl) 4 rfl rfl (by decide) hC (by kernel_rfl) (by kernel_rfl) (sv_on rfl (fun w' hw' => by obtain ⟨_, hS⟩ := (hCd _).1 hw'; exact (pv_move he132))) ?_
          refine al_p (v := .int .i64 x130) (by kernel_rfl) 5 rfl rfl (by decide) hC (by kernel_rfl) (by kernel_rfl) (sv_on rfl (fun w' hw' => by obtain ⟨_, hS⟩ := (hCd _).1 hw'; exact (pv_move rfl))) ?_
          refine al_index (wA := w0) (by kernel_rfl) 6 rfl hC (by kernel_rfl) (by kernel_rfl) rfl ha1 rfl (by decide) rfl hx155 (by decide) ?_
          intro b156 of157 c158 hr159 hm160
          obtain rfl := hr159
          refine al_p (v := .int .i64 x155) (by kernel_rfl) 7 rfl rfl (by decide) hC (by kernel_rfl) (by kernel_rfl) (sv_on rfl (fun w' hw' => by obtain ⟨_, hS⟩ := (hCd _).1 hw'; exact (pv_loadc rfl ((cells_up hS.below hm160) 0 _ rfl)))) ?_
          refine al_two 8 12 (by kernel_rfl) rfl rfl ?_ ?_
          · refine el_call goes90 (impl_PowBigInt_ok hr161) (congrArg List.toArray (mapc rfl (mapc rfl rfl))) (by decide) ?_
            rintro _ w164 ⟨v162, rfl, hS'⟩
            refine ⟨_, rfl, ?_⟩
            have hx165 := hS'.below
            replace hS := hS.call1 hS'
            refine el_nil ?_
            have hC := (hCd _).2 ⟨_, hS⟩
            refine ⟨fun _ => hC, ?_⟩
            refine al_p (v := .tuple #[.agg #[v162], .bool r161.2]) (by kernel_rfl) 9 rfl rfl (by decide) hC (by kernel_rfl) (by kernel_rfl) (sv_on rfl (fun w' hw' => by obtain ⟨_, hS⟩ := (hCd _).1 hw'; exact (pv_move rfl))) ?_
            refine al_p (v := .agg #[v162]) (by kernel_rfl) 10 rfl rfl (by decide) hC (by kernel_rfl) (by kernel_rfl) (sv_on rfl (fun w' hw' => by obtain ⟨_, hS⟩ := (hCd _).1 hw'; exact (pv_extract rfl rfl))) ?_
            refine al_p (v := .bool r161.2) (by kernel_rfl) 11 rfl rfl (by decide) hC (by kernel_rfl) (by kernel_rfl) (sv_on rfl (fun w' hw' => by obtain ⟨_, hS⟩ := (hCd _).1 hw'; exact (pv_extract rfl rfl))) ?_
            refine al_one 12 (by kernel_rfl) rfl ?_
            refine el_alloc hS (by decide) ?_
            intro w166 b167 hS hx168
            refine el_nil ?_
            have hC := (hCd _).2 ⟨_, hS⟩
            refine ⟨fun _ => hC, ?_⟩
            refine al_one 13 (by kernel_rfl) rfl ?_
            refine el_storev (hS.top 0 rfl) rfl [v162] rfl rfl (of_decide_eq_true rfl) (all_cons (oc (hS.rdAt (R := (sliceR intR 3)) 1 rfl)) rfl) ?_
            intro w170 hS
            replace hS : Sat w0 w170 [Box b167 76 [v162], Own (sliceR intR 3) [v162] r161.1, Box b119 76 [v129], Own (sliceR intR 3) [v129] x128, Box b103 76 [(.slice none 0 0)]] := hS
            refine el_nil ?_
            have hC := (hCd _).2 ⟨_, hS⟩
            refine ⟨fun _ => hC, ?_⟩
            refine al_one 14 (by kernel_rfl) rfl ?_
            refine el_pv (v := .bool r161.2) (pv_assign rfl) (by decide) ?_
            refine el_nil ?_
            refine ⟨fun _ => hC, ?_⟩
            refine al_nil (by kernel_rfl) ?_
            replace hS : Sat w0 w170 [Box b119 76 [v129], Box b103 76 [(.slice none 0 0)], Own (sliceR intR 3) [v129] x128, Box b167 76 [v162], Own (sliceR intR 3) [v162] r161.1] := hS.tops 5 [2, 4, 3, 0, 1] rfl
            exact ⟨rfl, b167, v162, he131, he132, he133, he134, rfl, rfl, he135, he136, hS⟩
          · refine el_alloc hS (by decide) ?_
            intro w166 b167 hS hx168
            refine el_nil ?_
            have hC := (hCd _).2 ⟨_, hS⟩
            refine ⟨fun _ => hC, ?_⟩
            refine al_one 8 (by kernel_rfl) rfl ?_
            refine el_call goes90 (impl_PowBigInt_ok hr161) (congrArg List.toArray (mapc rfl (mapc rfl rfl))) (by decide) ?_
            rintro _ w164 ⟨v162, rfl, hS'⟩
            refine ⟨_, rfl, ?_⟩
            have hx165 := hS'.below
            replace hS := hS.call1 hS'
            refine el_nil ?_
            have hC := (hCd _).2 ⟨_, hS⟩
            refine ⟨fun _ => hC, ?_⟩
            refine al_one 9 (by kernel_rfl) rfl ?_
            refine el_pv (v := .tuple #[.agg #[v162], .bool r161.2]) (pv_move rfl) (by decide) ?_
            refine el_nil ?_
            refine ⟨fun _ => hC, ?_⟩
            refine al_p (v := .agg #[v162]) (by kernel_rfl) 10 rfl rfl (by decide) hC (by kernel_rfl) (by kernel_rfl) (sv_on rfl (fun w' hw' => by obtain ⟨_, hS⟩ := (hCd _).1 hw'; exact (pv_extract rfl rfl))) ?_
            refine al_p (v := .bool r161.2) (by kernel_rfl) 11 rfl rfl (by decide) hC (by kernel_rfl) (by kernel_rfl) (sv_on rfl (fun w' hw' => by obtain ⟨_, hS⟩ := (hCd _).1 hw'; exact (pv_extract rfl rfl))) ?_
            refine al_one 13 (by kernel_rfl) rfl ?_
            refine el_storev (hS.top 1 rfl) rfl [v162] rfl rfl (of_decide_eq_true rfl) (all_cons (oc (hS.rdAt (R := (sliceR intR 3)) 0 rfl)) rfl) ?_
            intro w170 hS
            replace hS : Sat w0 w170 [Box b167 76 [v162], Own (sliceR intR 3) [v162] r161.1, Box b119 76 [v129], Own (sliceR intR 3) [v129] x128, Box b103 76 [(.slice none 0 0)]] := hS
            refine el_nil ?_
            have hC := (hCd _).2 ⟨_, hS⟩
            refine ⟨fun _ => hC, ?_⟩
            refine al_one 14 (by kernel_rfl) rfl ?_
            refine el_pv (v := .bool r161.2) (pv_assign rfl) (by decide) ?_
            refine el_nil ?_
            refine ⟨fun _ => hC, ?_⟩
            refine al_nil (by kernel_rfl) ?_
            replace hS : Sat w0 w170 [Box b119 76 [v129], Box b103 76 [(.slice none 0 0)], Own (sliceR intR 3) [v129] x128, Box b167 76 [v162], Own (sliceR intR 3) [v162] r161.1] := hS.tops 5 [2, 4, 3, 0, 1] rfl
            exact ⟨rfl, b167, v162, he131, he132, he133, he134, rfl, rfl, he135, he136, hS⟩
        · rintro e173 w174 ⟨b167, v162, he175, he176, he177, he178, he179, he180, he181, he182, hS⟩
          refine hQ146 _ _ _ ?_
          refine thn_n ?_
          refine cw_seq ?_
          refine cw_gen ?_
          intro Q183 hQ183
          refine cw_reg ?_
          refine el_pv (v := .agg #[v129]) (pv_loada (cs := [v129]) he178 rfl (boxc0 (hS.boxAt 0 rfl))) (by decide) ?_
          refine el_pv (v := .agg #[v162]) (pv_loada (cs := [v162]) he179 rfl (boxc0 (hS.boxAt 3 rfl))) (by decide) ?_
          replace hF := ob hF
          obtain ⟨r184, hr184, hF⟩ := hF
          refine el_call goes92 (impl_MulBigInt_ok (hS.rdAt (R := (sliceR intR 3)) 2 rfl) (hS.rdAt (R := (sliceR intR 3)) 4 rfl) hr184) (congrArg List.toArray (mapc rfl (mapc rfl rfl))) (by decide) ?_
          rintro _ w187 ⟨v185, rfl, hS'⟩
          refine ⟨_, rfl, ?_⟩
          have hx188 := hS'.below
          replace hS := hS.call1 hS'
          refine el_pv (v := .tuple #[.agg #[v185], .bool r184.2]) (pv_move rfl) (by decide) ?_
          refine el_pv (v := .agg #[v185]) (pv_extract rfl rfl) (by decide) ?_
          refine el_pv (v := .bool r184.2) (pv_extract rfl rfl) (by decide) ?_
          refine el_alloc hS (by decide) ?_
          intro w189 b190 hS hx191
          refine el_storev (hS.top 0 rfl) rfl [v185] rfl rfl (of_decide_eq_true rfl) (all_cons (oc (hS.rdAt (R := (sliceR intR 3)) 1 rfl)) rfl) ?_
          intro w193 hS
          replace hS : Sat w0 w193 [Box b190 76 [v185], Own (sliceR intR 3) [v185] r184.1, Box b119 76 [v129], Box b103 76 [(.slice none 0 0)], Own (sliceR intR 3) [v129] x128, Box b167 76 [v162], Own (sliceR intR 3) [v162] r161.1] := hS
          refine el_pv (v := .bool r184.2) (pv_assign rfl) (by decide) ?_
          refine el_nil ?_
          refine hQ183 _ _ _ ?_
          refine thn_n ?_
          refine cw_seq ?_
          refine cw_gen ?_
          intro Q194 hQ194
          refine cw_seq ?_
          refine cw_gen ?_
          intro Q195 hQ195
          replace hS : Sat w0 w193 [Box b190 76 [v185], Own (sliceR intR 3) [v185] r184.1, Box b119 76 [v129], Box b103 76 [(.slice none 0 0)], Own (sliceR intR 3) [v129] x128] := hS.rems 7 [5, 6] rfl
          refine cw_reg ?_
          refine el_pv (v := .bool r161.2) (pv_move he180) (by decide) ?_
          refine el_pv (v := .bool (!r161.2)) (pv_not rfl) (by decide) ?_
          refine el_pv (v := .bool (!r161.2)) (pv_move rfl) (by decide) ?_
          replace hF := oif hF
          rcases hF with ⟨hb196, hF⟩ | ⟨hb196, hF⟩
          · refine el_on rfl (bnot_t hb196) ?_
            refine el_pv (v := .bool r184.2) (pv_move rfl) (by decide) ?_
            refine el_on rfl (bnot_t hb196) ?_
            refine el_pv (v := .bool (!r184.2)) (pv_not rfl) (by decide) ?_
            refine el_pv (v := .bool (!r184.2)) (pv_pick_f rfl (bnot_t hb196) rfl) (by decide) ?_
            refine el_nil ?_
            refine hQ195 _ _ _ ?_
            refine thn_n ?_
            replace hF := oif hF
            rcases hF with ⟨hb197, hF⟩ | ⟨hb197, hF⟩
            · refine cw_cond_f rfl (bnot_t hb197) ?_
              refine cw_skip ?_
              refine hQ194 _ _ _ ?_
              refine thn_n ?_
              refine cw_reg ?_
              refine el_pv (v := .agg #[v185]) (pv_loada (cs := [v185]) rfl rfl (boxc0 (hS.boxAt 0 rfl))) (by decide) ?_
              refine el_storev (hS.top 2 rfl) he178 [v185] rfl rfl (of_decide_eq_true rfl) (all_cons (oc (hS.rdAt (R := (sliceR intR 3)) 1 rfl)) rfl) ?_
              intro w198 hS
              replace hS : Sat w0 w198 [Box b119 76 [v185], Box b190 76 [v185], Own (sliceR intR 3) [v185] r184.1, Box b103 76 [(.slice none 0 0)], Own (sliceR intR 3) [v129] x128] := hS
              refine el_nil ?_
              refine hQ144 _ _ _ ?_
              refine inb_n ?_
              refine hQ143 _ _ _ ?_
              refine thn_n ?_
              replace hS : Sat w0 w198 [Box b119 76 [v185], Own (sliceR intR 3) [v185] r184.1, Box b103 76 [(.slice none 0 0)]] := hS.rems 5 [1, 4] rfl
              refine cw_reg ?_
              replace hF := ob hF
              obtain ⟨x199, hx199, hF⟩ := hF
              refine el_pv (v := .int .i64 x199) (pv_add he182 rfl hx199) (by decide) ?_
              refine el_pv (v := .int .i64 x199) (pv_move rfl) (by decide) ?_
              refine el_nil ?_
              refine hQ139 _ _ _ ?_
              refine thn_n ?_
              replace hS := hS.keep 3
              exact ⟨v185, r184.1, x199, he175, he176, he177, he178, he181, rfl, hS, hF⟩
            · refine cw_cond_t rfl (bnot_f hb197) ?_
              refine cw_seq ?_
              refine cw_gen ?_
              intro Q200 hQ200
              replace hS : Sat w0 w193 [Box b103 76 [(.slice none 0 0)]] := hS.rems 5 [0, 1, 2, 4] rfl
              refine cw_reg ?_
              refine el_pv (v := .agg #[(.slice none 0 0)]) (pv_build [] [(.slice none 0 0)] rfl rfl) (by decide) ?_
              refine el_storev (hS.top 0 rfl) he177 [(.slice none 0 0)] rfl rfl (of_decide_eq_true rfl) (all_cons rfl rfl) ?_
              intro w201 hS
              replace hS : Sat w0 w201 [Box b103 76 [(.slice none 0 0)]] := hS
              refine el_pv (v := .bool false) (pv_assign rfl) (by decide) ?_
              refine el_nil ?_
              refine hQ200 _ _ _ ?_
              refine thn_n ?_
              refine cw_ret ?_
              refine hQ194 _ _ _ ?_
              refine thn_r ?_
              refine hQ144 _ _ _ ?_
              refine inb_r ?_
              refine hQ143 _ _ _ ?_
              refine thn_r ?_
              refine hQ139 _ _ _ ?_
              refine thn_r ?_
              refine hQ125 _ _ _ ?_
              refine inb_r ?_
              refine hQ123 _ _ _ ?_
              refine thn_r ?_
              replace hF := exL hF hK127
              replace hS := hS.nil intR 3
              refine finCT (cs := [(.slice none 0 0)]) rfl he177 rfl (boxc0 (hS.boxAt 1 rfl)) rfl ?_
              have hr := Option.some.inj hF
              exact ⟨(.slice none 0 0), congrArg (fun (r : (List Int) × Bool) => Ending.returned (.tuple #[.agg #[(.slice none 0 0)], .bool r.2])) hr, Eq.mp (congrArg (fun (r : (List Int) × Bool) => Sat w0 w201 [Own (sliceR intR 3) [(.slice none 0 0)] r.1]) hr) (hS.keep 1)⟩
          · refine el_off rfl (bnot_f hb196) rfl (by decide) ?_
            refine el_off rfl (bnot_f hb196) rfl (by decide) ?_
            refine el_pv (v := .bool true) (pv_pick_t rfl (bnot_f hb196) rfl) (by decide) ?_
            refine el_nil ?_
            refine hQ195 _ _ _ ?_
            refine thn_n ?_
            refine cw_cond_t rfl rfl ?_
            refine cw_seq ?_
            refine cw_gen ?_
            intro Q203 hQ203
            replace hS : Sat w0 w193 [Box b103 76 [(.slice none 0 0)]] := hS.rems 5 [0, 1, 2, 4] rfl
            refine cw_reg ?_
            refine el_pv (v := .agg #[(.slice none 0 0)]) (pv_build [] [(.slice none 0 0)] rfl rfl) (by decide) ?_
            refine el_storev (hS.top 0 rfl) he177 [(.slice none 0 0)] rfl rfl (of_decide_eq_true rfl) (all_cons rfl rfl) ?_
            intro w204 hS
            replace hS : Sat w0 w204 [Box b103 76 [(.slice none 0 0)]] := hS
            refine el_pv (v := .bool false) (pv_assign rfl) (by decide) ?_
            refine el_nil ?_
            refine hQ203 _ _ _ ?_
            refine thn_n ?_
            refine cw_ret ?_
            refine hQ194 _ _ _ ?_
            refine thn_r ?_
            refine hQ144 _ _ _ ?_
            refine inb_r ?_
            refine hQ143 _ _ _ ?_
            refine thn_r ?_
            refine hQ139 _ _ _ ?_
            refine thn_r ?_
            refine hQ125 _ _ _ ?_
            refine inb_r ?_
            refine hQ123 _ _ _ ?_
            refine thn_r ?_
            replace hF := exL hF hK127
            replace hS := hS.nil intR 3
            refine finCT (cs := [(.slice none 0 0)]) rfl he177 rfl (boxc0 (hS.boxAt 1 rfl)) rfl ?_
            have hr := Option.some.inj hF
            exact ⟨(.slice none 0 0), congrArg (fun (r : (List Int) × Bool) => Ending.returned (.tuple #[.agg #[(.slice none 0 0)], .bool r.2])) hr, Eq.mp (congrArg (fun (r : (List Int) × Bool) => Sat w0 w204 [Own (sliceR intR 3) [(.slice none 0 0)] r.1]) hr) (hS.keep 1)⟩
      · refine cw_cond_f rfl hb142 ?_
        refine cw_exit ?_
        refine hQ141 _ _ _ ?_
        refine thn_x ?_
        refine hQ139 _ _ _ ?_
        refine thn_x ?_
        replace hF := exA hF hK127
        refine hQ125 _ _ _ ?_
        refine inb_s ?_
        refine hQ123 _ _ _ ?_
        refine thn_n ?_
        refine cw_seq ?_
        refine cw_gen ?_
        intro Q206 hQ206
        refine cw_reg ?_
        refine el_pv (v := .agg #[v129]) (pv_loada (cs := [v129]) he134 rfl (boxc0 (hS.boxAt 0 rfl))) (by decide) ?_
        refine el_storev (hS.top 2 rfl) he133 [v129] rfl rfl (of_decide_eq_true rfl) (all_cons (oc (hS.rdAt (R := (sliceR intR 3)) 1 rfl)) rfl) ?_
        intro w207 hS
        replace hS : Sat w0 w207 [Box b103 76 [v129], Box b119 76 [v129], Own (sliceR intR 3) [v129] x128] := hS
        refine el_pv (v := .bool true) (pv_assign rfl) (by decide) ?_
        refine el_nil ?_
        refine hQ206 _ _ _ ?_
        refine thn_n ?_
        refine cw_ret ?_
        refine finCT (cs := [v129]) rfl he133 rfl (boxc0 (hS.boxAt 0 rfl)) rfl ?_
        replace hS : Sat w0 w207 [Own (sliceR intR 3) [v129] x128, Box b103 76 [v129], Box b119 76 [v129]] := hS.tops 3 [2] rfl
        have hr := Option.some.inj hF
        exact ⟨v129, congrArg (fun (r : (List Int) × Bool) => Ending.returned (.tuple #[.agg #[v129], .bool r.2])) hr, Eq.mp (congrArg (fun (r : (List Int) × Bool) => Sat w0 w207 [Own (sliceR intR 3) [v129] r.1]) hr) (hS.keep 1)⟩
set_option maxHeartbeats 4000000 in
theorem impl_compareInts_ok {w0 : World} {a0 : Int} {a1 : Int}  {N : Nat} {r : Int} (hF : impl_compareInts N a0 a1 = some r) :
    Calls Try.prog 130 #[.int .i64 a0, .int .i64 a1] w0 fun e w' => e = .returned (.int .i64 r) ∧ Ext w0 w' := by
  unfold impl_compareInts at hF
  refine calls_E Try.func130 rfl rfl (of_decide_eq_true rfl) ?_
  have hS := Sat.start w0
  refine cw_seq ?_
  refine cw_gen ?_
  intro Q101 hQ101
  refine cw_reg ?_
  refine el_pv (v := .int .i64 0) (pv_assign rfl) (by decide) ?_
  refine el_nil ?_
  refine hQ101 _ _ _ ?_
  refine thn_n ?_
  refine cw_seq ?_
  refine cw_gen ?_
  intro Q102 hQ102
  refine cw_block ?_
  refine cw_gen ?_
  intro Q103 hQ103
  refine cw_seq ?_
  refine cw_gen ?_
  intro Q104 hQ104
  refine cw_reg ?_
  refine el_pv (v := .int .i64 a0) (pv_move rfl) (by decide) ?_
  refine el_pv (v := .int .i64 a1) (pv_move rfl) (by decide) ?_
  refine el_pv (v := .bool (decide (a0 < a1))) (pv_lss rfl rfl) (by decide) ?_
  refine el_pv (v := .bool (decide (a0 < a1))) (pv_assign rfl) (by decide) ?_
  refine el_nil ?_
  refine hQ104 _ _ _ ?_
  refine thn_n ?_
  replace hF := oif hF
  rcases hF with ⟨hb105, hF⟩ | ⟨hb105, hF⟩
  · refine cw_cond_t rfl hb105 ?_
    refine cw_seq ?_
    refine cw_gen ?_
    intro Q106 hQ106
    refine cw_reg ?_
    refine el_pv (v := .int .i64 (-1)) (pv_assign rfl) (by decide) ?_
    refine el_nil ?_
    refine hQ106 _ _ _ ?_
    refine thn_n ?_
    refine cw_ret ?_
    refine hQ103 _ _ _ ?_
    refine inb_r ?_
    refine hQ102 _ _ _ ?_
    refine thn_r ?_
    refine fin1 rfl rfl ?_
    have hr := Option.some.inj hF
    exact ⟨congrArg (fun (r : Int) => Ending.returned (.int .i64 r)) hr, hS.below⟩
  · refine cw_cond_f rfl hb105 ?_
    refine cw_seq ?_
    refine cw_gen ?_
    intro Q107 hQ107
    refine cw_reg ?_
    refine el_pv (v := .int .i64 a0) (pv_move rfl) (by decide) ?_
    refine el_pv (v := .int .i64 a1) (pv_move rfl) (by decide) ?_
    refine el_pv (v := .bool (decide (a1 < a0))) (pv_gtr rfl rfl) (by decide) ?_
    refine el_pv (v := .bool (decide (a1 < a0))) (pv_assign rfl) (by decide) ?_
    refine el_nil ?_
    refine hQ107 _ _ _ ?_
    refine thn_n ?_
    replace hF := oif hF
    rcases hF with ⟨hb108, hF⟩ | ⟨hb108, hF⟩
    · refine cw_cond_t rfl hb108 ?_
      refine cw_seq ?_
      refine cw_gen ?_
      intro Q109 hQ109
      refine cw_reg ?_
      refine el_pv (v := .int .i64 1) (pv_assign rfl) (by decide) ?_
      refine el_nil ?_
      refine hQ109 _ _ _ ?_
      refine thn_n ?_
      refine cw_ret ?_
      refine hQ103 _ _ _ ?_
      refine inb_r ?_
      refine hQ102 _ _ _ ?_
      refine thn_r ?_
      refine fin1 rfl rfl ?_
      have hr := Option.some.inj hF
      exact ⟨congrArg (fun (r : Int) => Ending.returned (.int .i64 r)) hr, hS.below⟩
    · refine cw_cond_f rfl hb108 ?_
      refine cw_skip ?_
      refine hQ103 _ _ _ ?_
      refine inb_n ?_
      refine hQ102 _ _ _ ?_
      refine thn_n ?_
      refine cw_seq ?_
      refine cw_gen ?_
      intro Q110 hQ110
      refine cw_reg ?_
      refine el_pv (v := .int .i64 0) (pv_assign rfl) (by decide) ?_
      refine el_nil ?_
      refine hQ110 _ _ _ ?_
      refine thn_n ?_
      refine cw_ret ?_
      refine fin1 rfl rfl ?_
      have hr := Option.some.inj hF
      exact ⟨congrArg (fun (r : Int) => Ending.returned (.int .i64 r)) hr, hS.below⟩
set_option maxHeartbeats 4000000 in
theorem impl_CompareBigInts_ok {w0 : World} {u0 : Value} {a0 : List Int} {u1 : Value} {a1 : List Int} (ha0 : (sliceR intR 3).rd w0 [u0] a0) (ha1 : (sliceR intR 3).rd w0 [u1] a1) {N : Nat} {r : Int} (hF : impl_CompareBigInts N a0 a1 = some r) :
    Calls Try.prog 93 #[.agg #[u0], .agg #[u1]] w0 fun e w' => e = .returned (.int .i64 r) ∧ Ext w0 w' := by
  unfold impl_CompareBigInts at hF
  refine calls_E Try.func93 rfl rfl (of_decide_eq_true rfl) ?_
  have hS := Sat.start w0
  refine cw_seq ?_
  refine cw_gen ?_
  intro Q101 hQ101
  refine cw_reg ?_
  refine el_box [u0] rfl hS (by decide) ?_
  intro w102 b103 hS hx104
  refine el_box [u1] rfl hS (by decide) ?_
  intro w106 b107 hS hx108
  refine el_pv (v := .int .i64 0) (pv_assign rfl) (by decide) ?_
  refine el_nil ?_
  refine hQ101 _ _ _ ?_
  refine thn_n ?_
  refine cw_seq ?_
  refine cw_gen ?_
  intro Q110 hQ110
  refine cw_seq ?_
  refine cw_gen ?_
  intro Q111 hQ111
  refine cw_reg ?_
  refine el_pv (v := .agg #[u0]) (pv_loada (cs := [u0]) rfl rfl (boxc0 (hS.boxAt 1 rfl))) (by decide) ?_
  replace hF := ob hF
  obtain ⟨r112, hr112, hF⟩ := hF
  refine el_call goes128 (impl_IsValidBigInt_ok (hS.up ha0) hr112) (congrArg List.toArray (mapc rfl rfl)) (by decide) ?_
  rintro _ w113 ⟨rfl, hx114⟩
  refine ⟨_, rfl, ?_⟩
  replace hS := hS.ext hx114
  refine el_pv (v := .bool (!r112)) (pv_not rfl) (by decide) ?_
  refine el_pv (v := .bool (!r112)) (pv_move rfl) (by decide) ?_
  replace hF := oif hF
  rcases hF with ⟨hb115, hF⟩ | ⟨hb115, hF⟩
  · refine el_on rfl (bnot_t hb115) ?_
    refine el_pv (v := .agg #[u1]) (pv_loada (cs := [u1]) rfl rfl (boxc0 (hS.boxAt 0 rfl))) (by decide) ?_
    refine el_on rfl (bnot_t hb115) ?_
    replace hF := ob hF
    obtain ⟨r116, hr116, hF⟩ := hF
    refine el_call goes128 (impl_IsValidBigInt_ok (hS.up ha1) hr116) (congrArg List.toArray (mapc rfl rfl)) (by decide) ?_
    rintro _ w117 ⟨rfl, hx118⟩
    refine ⟨_, rfl, ?_⟩
    replace hS := hS.ext hx118
    refine el_on rfl (bnot_t hb115) ?_
    refine el_pv (v := .bool (!r116)) (pv_not rfl) (by decide) ?_
    refine el_pv (v := .bool (!r116)) (pv_pick_f rfl (bnot_t hb115) rfl) (by decide) ?_
    refine el_nil ?_
    refine hQ111 _ _ _ ?_
    refine thn_n ?_
    replace hF := oif hF
    rcases hF with ⟨hb119, hF⟩ | ⟨hb119, hF⟩
    · refine cw_cond_f rfl (bnot_t hb119) ?_
      refine cw_skip ?_
      refine hQ110 _ _ _ ?_
      refine thn_n ?_
      refine cw_seq ?_
      refine cw_gen ?_
      intro Q120 hQ120
      refine cw_seq ?_
      refine cw_gen ?_
      intro Q121 hQ121
      refine cw_reg ?_
      refine el_pv (v := .pointer (some ⟨b103, 0 + 0, none⟩)) (pv_fieldAddr rfl) (by decide) ?_
      refine el_pv (v := u0) (pv_loadc rfl ((hS.boxAt 1 rfl) 0 _ rfl)) (by decide) ?_
      refine el_pv (v := .int .i64 (a0.length : Int)) (pv_len rfl ha0) (by decide) ?_
      refine el_pv (v := .pointer (some ⟨b107, 0 + 0, none⟩)) (pv_fieldAddr rfl) (by decide) ?_
      refine el_pv (v := u1) (pv_loadc rfl ((hS.boxAt 0 rfl) 0 _ rfl)) (by decide) ?_
      refine el_pv (v := .int .i64 (a1.length : Int)) (pv_len rfl ha1) (by decide) ?_
      refine el_pv (v := .bool ((a0.length : Int) != (a1.length : Int))) (pv_neq rfl rfl) (by decide) ?_
      refine el_nil ?_
      refine hQ121 _ _ _ ?_
      refine thn_n ?_
      replace hF := oif hF
      rcases hF with ⟨hb122, hF⟩ | ⟨hb122, hF⟩
      · refine cw_cond_t rfl hb122 ?_
        refine cw_seq ?_
        refine cw_gen ?_
        intro Q123 hQ123
        refine cw_reg ?_
        refine el_pv (v := .pointer (some ⟨b103, 0 + 0, none⟩)) (pv_fieldAddr rfl) (by decide) ?_
        refine el_pv (v := u0) (pv_loadc rfl ((hS.boxAt 1 rfl) 0 _ rfl)) (by decide) ?_
        refine el_pv (v := .int .i64 (a0.length : Int)) (pv_len rfl ha0) (by decide) ?_
        refine el_pv (v := .pointer (some ⟨b107, 0 + 0, none⟩)) (pv_fieldAddr rfl) (by decide) ?_
        refine el_pv (v := u1) (pv_loadc rfl ((hS.boxAt 0 rfl) 0 _ rfl)) (by decide) ?_
        refine el_pv (v := .int .i64 (a1.length : Int)) (pv_len rfl ha1) (by decide) ?_
        replace hF := ob hF
        obtain ⟨r124, hr124, hF⟩ := hF
        refine el_call goes130 (impl_compareInts_ok hr124) (congrArg List.toArray (mapc rfl (mapc rfl rfl))) (by decide) ?_
        rintro _ w125 ⟨rfl, hx126⟩
        refine ⟨_, rfl, ?_⟩
        replace hS := hS.ext hx126
        refine el_pv (v := .int .i64 r124) (pv_assign rfl) (by decide) ?_
        refine el_nil ?_
        refine hQ123 _ _ _ ?_
        refine thn_n ?_
        refine cw_ret ?_
        refine hQ120 _ _ _ ?_
        refine thn_r ?_
        refine fin1 rfl rfl ?_
        have hr := Option.some.inj hF
        exact ⟨congrArg (fun (r : Int) => Ending.returned (.int .i64 r)) hr, hS.below⟩
      · refine cw_cond_f rfl hb122 ?_
        refine cw_skip ?_
        refine hQ120 _ _ _ ?_
        refine thn_n ?_
        refine cw_seq ?_
        refine cw_gen ?_
        intro Q127 hQ127
        refine cw_seq ?_
        refine cw_gen ?_
        intro Q128 hQ128
        refine cw_reg ?_
        refine el_pv (v := .pointer (some ⟨b103, 0 + 0, none⟩)) (pv_fieldAddr rfl) (by decide) ?_
        refine el_pv (v := u0) (pv_loadc rfl ((hS.boxAt 1 rfl) 0 _ rfl)) (by decide) ?_
        refine el_pv (v := .int .i64 (a0.length : Int)) (pv_len rfl ha0) (by decide) ?_
        replace hF := ob hF
        obtain ⟨x129, hx129, hF⟩ := hF
        refine el_pv (v := .int .i64 x129) (pv_sub rfl rfl hx129) (by decide) ?_
        refine el_pv (v := .int .i64 x129) (pv_assign rfl) (by decide) ?_
        refine el_nil ?_
        refine hQ128 _ _ _ ?_
        refine thn_n ?_
        refine cw_block ?_
        refine cw_gen ?_
        intro Q130 hQ130
        obtain ⟨s131, hL, hK132⟩ := ob hF
        refine cw_loopS (fun k e w => ∃ (x133 : Int), e 2 = .pointer (some ⟨b103, 0, none⟩) ∧ e 3 = .pointer (some ⟨b107, 0, none⟩) ∧ e 5 = .int .i64 x133 ∧ Sat w0 w [Box b107 76 [u1], Box b103 76 [u0]] ∧ impl_CompareBigInts_L1 N k a0 a1 x133 = some s131) N ?_ ?_ ?_
        · exact ⟨x129, rfl, rfl, rfl, hS, hL⟩
        · rintro e w ⟨_, _, _, _, _, hz⟩; exact nomatch (show none = some _ from hz)
        · rintro k e138 w137 ⟨x133, he134, he135, he136, hS, hF⟩
          refine cw_gen ?_
          intro Q139 hQ139
          refine cw_seq ?_
          refine cw_gen ?_
          intro Q140 hQ140
          refine cw_seq ?_
          refine cw_gen ?_
          intro Q141 hQ141
          refine cw_reg ?_
          refine el_pv (v := .int .i64 x133) (pv_move he136) (by decide) ?_
          refine el_pv (v := .bool (decide (0 ≤ x133))) (pv_geq rfl rfl) (by decide) ?_
          refine el_nil ?_
          refine hQ141 _ _ _ ?_
          refine thn_n ?_
          replace hF := oif hF
          rcases hF with ⟨hb142, hF⟩ | ⟨hb142, hF⟩
          · refine cw_cond_t rfl hb142 ?_
            refine cw_skip ?_
            refine hQ140 _ _ _ ?_
            refine thn_n ?_
            refine cw_seq ?_
            refine cw_gen ?_
            intro Q143 hQ143
            refine cw_block ?_
            refine cw_gen ?_
            intro Q144 hQ144
            refine cw_seq ?_
            refine cw_gen ?_
            intro Q145 hQ145
            refine cw_regq (by kernel_rfl) (by kernel_rfl) ?_
            refine ql_pv (v := .pointer (some ⟨b103, 0 + 0, none⟩)) (pv_fieldAddr he134) (by decide) ?_
            refine ql_pv (v := u0) (pv_loadc rfl ((hS.boxAt 1 rfl) 0 _ rfl)) (by decide) ?_
            refine ql_pv (v := .int .i64 x133) (pv_move he136) (by decide) ?_
            replace hF := ob hF
            obtain ⟨x146, hx146, hF⟩ := hF
            refine ql_index (wA := w0) rfl ha0 rfl (by decide) rfl hx146 (by decide) ?_
            intro b147 of148 c149 hr150 hm151
            obtain rfl := hr150
            refine ql_pv (v := .int .i64 x146) (pv_loadc rfl ((cells_up hS.below hm151) 0 _ rfl)) (by decide) ?_
            refine ql_pv (v := .pointer (some ⟨b107, 0 + 0, none⟩)) (pv_fieldAddr he135) (by decide) ?_
            refine ql_pv (v := u1) (pv_loadc rfl ((hS.boxAt 0 rfl) 0 _ rfl)) (by decide) ?_
            refine ql_pv (v := .int .i64 x133) (pv_move he136) (by decide) ?_
            replace hF := ob hF
            obtain ⟨x152, hx152, hF⟩ := hF
            refine ql_index (wA := w0) rfl ha1 rfl (by decide) rfl hx152 (by decide) ?_
            intro b153 of154 c155 hr156 hm157
            obtain rfl := hr156
            refine ql_pv (v := .int .i64 x152) (pv_loadc rfl ((cells_up hS.below hm157) 0 _ rfl)) (by decide) ?_
            refine ql_pv (v := .bool (x146 != x152)) (pv_neq rfl rfl) (by decide) ?_
            refine ql_nil ?_
            intro w158 hx159
            replace hS := hS.ext hx159
            refine hQ145 _ _ _ ?_
            refine thn_n ?_
            replace hF := oif hF
            rcases hF with ⟨hb160, hF⟩ | ⟨hb160, hF⟩
            · refine cw_cond_t rfl hb160 ?_
              refine cw_seq ?_
              refine cw_gen ?_
              intro Q161 hQ161
              refine cw_regq (by kernel_rfl) (by kernel_rfl) ?_
              refine ql_pv (v := .pointer (some ⟨b103, 0 + 0, none⟩)) (pv_fieldAddr he134) (by decide) ?_
              refine ql_pv (v := u0) (pv_loadc rfl ((hS.boxAt 1 rfl) 0 _ rfl)) (by decide) ?_
              refine ql_pv (v := .int .i64 x133) (pv_move he136) (by decide) ?_
              replace hF := ob hF
              obtain ⟨x162, hx162, hF⟩ := hF
              refine ql_index (wA := w0) rfl ha0 rfl (by decide) rfl hx162 (by decide) ?_
              intro b163 of164 c165 hr166 hm167
              obtain rfl := hr166
              refine ql_pv (v := .int .i64 x162) (pv_loadc rfl ((cells_up hS.below hm167) 0 _ rfl)) (by decide) ?_
              refine ql_pv (v := .pointer (some ⟨b107, 0 + 0, none⟩)) (pv_fieldAddr he135) (by decide) ?_
              refine ql_pv (v := u1) (pv_loadc rfl ((hS.boxAt 0 rfl) 0 _ rfl)) (by decide) ?_
              refine ql_pv (v := .int .i64 x133) (pv_move he136) (by decide) ?_
              replace hF := ob hF
              obtain ⟨x168, hx168, hF⟩ := hF
              refine ql_index (wA := w0) rfl ha1 rfl (by decide) rfl hx168 (by decide) ?_
              intro b169 of170 c171 hr172 hm173
              obtain rfl := hr172
              refine ql_pv (v := .int .i64 x168) (pv_loadc rfl ((cells_up hS.below hm173) 0 _ rfl)) (by decide) ?_
              replace hF := ob hF
              obtain ⟨r174, hr174, hF⟩ := hF
              refine ql_call (.int .i64 r174) goes130 (fun w' hw' => impl_compareInts_ok hr174) (congrArg List.toArray (mapc rfl (mapc rfl rfl))) (by decide) ?_
              refine ql_pv (v := .int .i64 r174) (pv_assign rfl) (by decide) ?_
              refine ql_nil ?_
              intro w175 hx176
              replace hS := hS.ext hx176
              refine hQ161 _ _ _ ?_
              refine thn_n ?_
              refine cw_ret ?_
              refine hQ144 _ _ _ ?_
              refine inb_r ?_
              refine hQ143 _ _ _ ?_
              refine thn_r ?_
              refine hQ139 _ _ _ ?_
              refine thn_r ?_
              refine hQ130 _ _ _ ?_
              refine inb_r ?_
              refine hQ127 _ _ _ ?_
              refine thn_r ?_
              replace hF := exL hF hK132
              refine fin1 rfl rfl ?_
              have hr := Option.some.inj hF
              exact ⟨congrArg (fun (r : Int) => Ending.returned (.int .i64 r)) hr, hS.below⟩
            · refine cw_cond_f rfl hb160 ?_
              refine cw_skip ?_
              refine hQ144 _ _ _ ?_
              refine inb_n ?_
              refine hQ143 _ _ _ ?_
              refine thn_n ?_
              refine cw_reg ?_
              refine el_pv (v := .int .i64 x133) (pv_move he136) (by decide) ?_
              replace hF := ob hF
              obtain ⟨x177, hx177, hF⟩ := hF
              refine el_pv (v := .int .i64 x177) (pv_sub rfl rfl hx177) (by decide) ?_
              refine el_pv (v := .int .i64 x177) (pv_assign rfl) (by decide) ?_
              refine el_nil ?_
              refine hQ139 _ _ _ ?_
              refine thn_n ?_
              replace hS := hS.keep 2
              exact ⟨x177, he134, he135, rfl, hS, hF⟩
          · refine cw_cond_f rfl hb142 ?_
            refine cw_exit ?_
            refine hQ140 _ _ _ ?_
            refine thn_x ?_
            refine hQ139 _ _ _ ?_
            refine thn_x ?_
            replace hF := exA hF hK132
            refine hQ130 _ _ _ ?_
            refine inb_s ?_
            refine hQ127 _ _ _ ?_
            refine thn_n ?_
            refine cw_seq ?_
            refine cw_gen ?_
            intro Q178 hQ178
            replace hS : Sat w0 w137 [] := hS.rems 2 [0, 1] rfl
            refine cw_reg ?_
            refine el_pv (v := .int .i64 0) (pv_assign rfl) (by decide) ?_
            refine el_nil ?_
            refine hQ178 _ _ _ ?_
            refine thn_n ?_
            refine cw_ret ?_
            refine fin1 rfl rfl ?_
            have hr := Option.some.inj hF
            exact ⟨congrArg (fun (r : Int) => Ending.returned (.int .i64 r)) hr, hS.below⟩
    · refine cw_cond_t rfl (bnot_f hb119) ?_
      refine cw_seq ?_
      refine cw_gen ?_
      intro Q179 hQ179
      replace hS : Sat w0 w117 [] := hS.rems 2 [0, 1] rfl
      refine cw_reg ?_
      refine el_pv (v := .int .i64 0) (pv_assign rfl) (by decide) ?_
      refine el_nil ?_
      refine hQ179 _ _ _ ?_
      refine thn_n ?_
      refine cw_ret ?_
      refine hQ110 _ _ _ ?_
      refine thn_r ?_
      refine fin1 rfl rfl ?_
      have hr := Option.some.inj hF
      exact ⟨congrArg (fun (r : Int) => Ending.returned (.int .i64 r)) hr, hS.below⟩
  · refine el_off rfl (bnot_f hb115) rfl (by decide) ?_
    refine el_off rfl (bnot_f hb115) rfl (by decide) ?_
    refine el_off rfl (bnot_f hb115) rfl (by decide) ?_
    refine el_pv (v := .bool true) (pv_pick_t rfl (bnot_f hb115) rfl) (by decide) ?_
    refine el_nil ?_
    refine hQ111 _ _ _ ?_
    refine thn_n ?_
    refine cw_cond_t rfl rfl ?_
    refine cw_seq ?_
    refine cw_gen ?_
    intro Q180 hQ180
    replace hS : Sat w0 w113 [] := hS.rems 2 [0, 1] rfl
    refine cw_reg ?_
    refine el_pv (v := .int .i64 0) (pv_assign rfl) (by decide) ?_
    refine el_nil ?_
    refine hQ180 _ _ _ ?_
    refine thn_n ?_
    refine cw_ret ?_
    refine hQ110 _ _ _ ?_
    refine thn_r ?_
    refine fin1 rfl rfl ?_
    have hr := Option.some.inj hF
    exact ⟨congrArg (fun (r : Int) => Ending.returned (.int .i64 r)) hr, hS.below⟩
set_option maxHeartbeats 4000000 in
theorem impl_withinPowers_ok {w0 : World} {u0 : Value} {a0 : List Int} {u1 : Value} {a1 : List (Int × Int)} {a2 : Int} {a3 : Int} (ha0 : (sliceR intR 3).rd w0 [u0] a0) (ha1 : (sliceR (pairR intR intR) 83).rd w0 [u1] a1) {N : Nat} {r : Bool} (hF : impl_withinPowers N a0 a1 a2 a3 = some r) :
    Calls Try.prog 49 #[u0, u1, .int .i64 a2, .int .i64 a3] w0 fun e w' => e = .returned (.bool r) ∧ Ext w0 w' := by
  unfold impl_withinPowers at hF
  refine calls_E Try.func49 rfl rfl (of_decide_eq_true rfl) ?_
  have hS := Sat.start w0
  refine cw_seq ?_
  refine cw_gen ?_
  intro Q101 hQ101
  refine cw_reg ?_
  refine el_pv (v := .bool false) (pv_assign rfl) (by decide) ?_
  refine el_nil ?_
  refine hQ101 _ _ _ ?_
  refine thn_n ?_
  refine cw_seq ?_
  refine cw_gen ?_
  intro Q102 hQ102
  refine cw_reg ?_
  refine el_pv (v := u1) (pv_move rfl) (by decide) ?_
  replace hF := ob hF
  obtain ⟨r103, hr103, hF⟩ := hF
  refine el_call goes89 (impl_ScaleToIntegers_ok (hS.up ha1) hr103) (congrArg List.toArray (mapc rfl rfl)) (by decide) ?_
  rintro _ w106 ⟨v104, rfl, hS'⟩
  refine ⟨_, rfl, ?_⟩
  have hx107 := hS'.below
  replace hS := hS.call1 hS'
  refine el_pv (v := .tuple #[v104, .int .i64 r103.2]) (pv_move rfl) (by decide) ?_
  refine el_pv (v := v104) (pv_extract rfl rfl) (by decide) ?_
  refine el_pv (v := .int .i64 r103.2) (pv_extract rfl rfl) (by decide) ?_
  refine el_pv (v := v104) (pv_assign rfl) (by decide) ?_
  refine el_pv (v := .int .i64 r103.2) (pv_assign rfl) (by decide) ?_
  refine el_nil ?_
  refine hQ102 _ _ _ ?_
  refine thn_n ?_
  refine cw_seq ?_
  refine cw_gen ?_
  intro Q108 hQ108
  refine cw_seq ?_
  refine cw_gen ?_
  intro Q109 hQ109
  refine cw_reg ?_
  refine el_pv (v := .int .i64 a2) (pv_move rfl) (by decide) ?_
  refine el_pv (v := .bool (decide (a2 < 0))) (pv_lss rfl rfl) (by decide) ?_
  refine el_pv (v := .bool (decide (a2 < 0))) (pv_move rfl) (by decide) ?_
  replace hF := oif hF
  rcases hF with ⟨hb110, hF⟩ | ⟨hb110, hF⟩
  · refine el_off rfl hb110 rfl (by decide) ?_
    refine el_off rfl hb110 rfl (by decide) ?_
    refine el_pv (v := .bool true) (pv_pick_t rfl hb110 rfl) (by decide) ?_
    refine el_pv (v := .bool true) (pv_move rfl) (by decide) ?_
    refine el_off rfl rfl rfl (by decide) ?_
    refine el_off rfl rfl rfl (by decide) ?_
    refine el_pv (v := .bool true) (pv_pick_t rfl rfl rfl) (by decide) ?_
    refine el_nil ?_
    refine hQ109 _ _ _ ?_
    refine thn_n ?_
    refine cw_cond_t rfl rfl ?_
    refine cw_seq ?_
    refine cw_gen ?_
    intro Q111 hQ111
    replace hS : Sat w0 w106 [] := hS.rems 1 [0] rfl
    refine cw_reg ?_
    refine el_pv (v := .bool false) (pv_assign rfl) (by decide) ?_
    refine el_nil ?_
    refine hQ111 _ _ _ ?_
    refine thn_n ?_
    refine cw_ret ?_
    refine hQ108 _ _ _ ?_
    refine thn_r ?_
    refine fin1 rfl rfl ?_
    have hr := Option.some.inj hF
    exact ⟨congrArg (fun (r : Bool) => Ending.returned (.bool r)) hr, hS.below⟩
  · refine el_on rfl hb110 ?_
    refine el_pv (v := .int .i64 r103.2) (pv_move rfl) (by decide) ?_
    refine el_on rfl hb110 ?_
    refine el_pv (v := .bool (decide (r103.2 < 1))) (pv_lss rfl rfl) (by decide) ?_
    refine el_pv (v := .bool (decide (r103.2 < 1))) (pv_pick_f rfl hb110 rfl) (by decide) ?_
    refine el_pv (v := .bool (decide (r103.2 < 1))) (pv_move rfl) (by decide) ?_
    replace hF := oif hF
    rcases hF with ⟨hb112, hF⟩ | ⟨hb112, hF⟩
    · refine el_off rfl hb112 rfl (by decide) ?_
      refine el_off rfl hb112 rfl (by decide) ?_
      refine el_pv (v := .bool true) (pv_pick_t rfl hb112 rfl) (by decide) ?_
      refine el_nil ?_
      refine hQ109 _ _ _ ?_
      refine thn_n ?_
      refine cw_cond_t rfl rfl ?_
      refine cw_seq ?_
      refine cw_gen ?_
      intro Q113 hQ113
      replace hS : Sat w0 w106 [] := hS.rems 1 [0] rfl
      refine cw_reg ?_
      refine el_pv (v := .bool false) (pv_assign rfl) (by decide) ?_
      refine el_nil ?_
      refine hQ113 _ _ _ ?_
      refine thn_n ?_
      refine cw_ret ?_
      refine hQ108 _ _ _ ?_
      refine thn_r ?_
      refine fin1 rfl rfl ?_
      have hr := Option.some.inj hF
      exact ⟨congrArg (fun (r : Bool) => Ending.returned (.bool r)) hr, hS.below⟩
    · refine el_on rfl hb112 ?_
      refine el_pv (v := .int .i64 r103.2) (pv_move rfl) (by decide) ?_
      refine el_on rfl hb112 ?_
      refine el_pv (v := .bool (decide (100 < r103.2))) (pv_gtr rfl rfl) (by decide) ?_
      refine el_pv (v := .bool (decide (100 < r103.2))) (pv_pick_f rfl hb112 rfl) (by decide) ?_
      refine el_nil ?_
      refine hQ109 _ _ _ ?_
      refine thn_n ?_
      replace hF := oif hF
      rcases hF with ⟨hb114, hF⟩ | ⟨hb114, hF⟩
      · refine cw_cond_t rfl hb114 ?_
        refine cw_seq ?_
        refine cw_gen ?_
        intro Q115 hQ115
        replace hS : Sat w0 w106 [] := hS.rems 1 [0] rfl
        refine cw_reg ?_
        refine el_pv (v := .bool false) (pv_assign rfl) (by decide) ?_
        refine el_nil ?_
        refine hQ115 _ _ _ ?_
        refine thn_n ?_
        refine cw_ret ?_
        refine hQ108 _ _ _ ?_
        refine thn_r ?_
        refine fin1 rfl rfl ?_
        have hr := Option.some.inj hF
        exact ⟨congrArg (fun (r : Bool) => Ending.returned (.bool r)) hr, hS.below⟩
      · refine cw_cond_f rfl hb114 ?_
        refine cw_skip ?_
        refine hQ108 _ _ _ ?_
        refine thn_n ?_
        refine cw_seq ?_
        refine cw_gen ?_
        intro Q116 hQ116
        refine cw_seq ?_
        refine cw_gen ?_
        intro Q117 hQ117
        refine cw_reg ?_
        refine el_pv (v := u0) (pv_move rfl) (by decide) ?_
        refine el_pv (v := .int .i64 (a0.length : Int)) (pv_len rfl ha0) (by decide) ?_
        refine el_pv (v := .int .i64 0) (pv_move rfl) (by decide) ?_
        refine el_nil ?_
        refine hQ117 _ _ _ ?_
        refine thn_n ?_
        refine cw_block ?_
        refine cw_gen ?_
        intro Q118 hQ118
        obtain ⟨s119, hL, hK120⟩ := ob hF
        refine cw_loopS (fun k e w => ∃ (x121 : Int), e 0 = u0 ∧ e 2 = .int .i64 a2 ∧ e 3 = .int .i64 a3 ∧ e 9 = v104 ∧ e 10 = .int .i64 r103.2 ∧ e 36 = u0 ∧ e 37 = .int .i64 (a0.length : Int) ∧ e 38 = .int .i64 x121 ∧ Sat w0 w [Own (sliceR intR 3) [v104] r103.1] ∧ impl_withinPowers_L1 N k a0 a2 a3 r103.1 r103.2 a0 (a0.length : Int) x121 = some s119) N ?_ ?_ ?_
        · exact ⟨0, rfl, rfl, rfl, rfl, rfl, rfl, rfl, rfl, hS, hL⟩
        · rintro e w ⟨_, _, _, _, _, _, _, _, _, _, hz⟩; exact nomatch (show none = some _ from hz)
        · rintro k e131 w130 ⟨x121, he122, he123, he124, he125, he126, he127, he128, he129, hS, hF⟩
          refine cw_gen ?_
          intro Q132 hQ132
          refine cw_seq ?_
          refine cw_gen ?_
          intro Q133 hQ133
          refine cw_reg ?_
          refine el_pv (v := .bool (decide (x121 < (a0.length : Int)))) (pv_lss he129 he128) (by decide) ?_
          refine el_nil ?_
          refine hQ133 _ _ _ ?_
          refine thn_n ?_
          refine cw_seq ?_
          refine cw_gen ?_
          intro Q134 hQ134
          replace hF := oif hF
          rcases hF with ⟨hb135, hF⟩ | ⟨hb135, hF⟩
          · refine cw_cond_t rfl hb135 ?_
            refine cw_skip ?_
            refine hQ134 _ _ _ ?_
            refine thn_n ?_
            refine cw_seq ?_
            refine cw_gen ?_
            intro Q136 hQ136
            refine cw_block ?_
            refine cw_gen ?_
            intro Q137 hQ137
            refine cw_seq ?_
            refine cw_gen ?_
            intro Q138 hQ138
            refine cw_reg ?_
            replace hF := ob hF
            obtain ⟨x139, hx139, hF⟩ := hF
            refine el_index (wA := w0) he127 ha0 rfl (by decide) he129 hx139 (by decide) ?_
            intro b140 of141 c142 hr143 hm144
            obtain rfl := hr143
            refine el_pv (v := .int .i64 x139) (pv_loadc rfl ((cells_up hS.below hm144) 0 _ rfl)) (by decide) ?_
            refine el_pv (v := .int .i64 x139) (pv_assign rfl) (by decide) ?_
            refine el_nil ?_
            refine hQ138 _ _ _ ?_
            refine thn_n ?_
            refine cw_seq ?_
            refine cw_gen ?_
            intro Q145 hQ145
            refine cw_reg ?_
            refine el_pv (v := .int .i64 x139) (pv_move rfl) (by decide) ?_
            refine el_pv (v := .bool (decide (x139 < 0))) (pv_lss rfl rfl) (by decide) ?_
            refine el_nil ?_
            refine hQ145 _ _ _ ?_
            refine thn_n ?_
            replace hF := oif hF
            rcases hF with ⟨hb146, hF⟩ | ⟨hb146, hF⟩
            · refine cw_cond_t rfl hb146 ?_
              refine cw_seq ?_
              refine cw_gen ?_
              intro Q147 hQ147
              replace hS : Sat w0 w130 [] := hS.rems 1 [0] rfl
              refine cw_reg ?_
              refine el_pv (v := .bool false) (pv_assign rfl) (by decide) ?_
              refine el_nil ?_
              refine hQ147 _ _ _ ?_
              refine thn_n ?_
              refine cw_ret ?_
              refine hQ137 _ _ _ ?_
              refine inb_r ?_
              refine hQ136 _ _ _ ?_
              refine thn_r ?_
              refine hQ132 _ _ _ ?_
              refine thn_r ?_
              refine hQ118 _ _ _ ?_
              refine inb_r ?_
              refine hQ116 _ _ _ ?_
              refine thn_r ?_
              replace hF := exL hF hK120
              refine fin1 rfl rfl ?_
              have hr := Option.some.inj hF
              exact ⟨congrArg (fun (r : Bool) => Ending.returned (.bool r)) hr, hS.below⟩
            · refine cw_cond_f rfl hb146 ?_
              refine cw_skip ?_
              refine hQ137 _ _ _ ?_
              refine inb_n ?_
              refine hQ136 _ _ _ ?_
              refine thn_n ?_
              refine cw_reg ?_
              replace hF := ob hF
              obtain ⟨x148, hx148, hF⟩ := hF
              refine el_pv (v := .int .i64 x148) (pv_add he129 rfl hx148) (by decide) ?_
              refine el_pv (v := .int .i64 x148) (pv_move rfl) (by decide) ?_
              refine el_nil ?_
              refine hQ132 _ _ _ ?_
              refine thn_n ?_
              replace hS := hS.keep 1
              exact ⟨x148, he122, he123, he124, he125, he126, he127, he128, rfl, hS, hF⟩
          · refine cw_cond_f rfl hb135 ?_
            refine cw_exit ?_
            refine hQ134 _ _ _ ?_
            refine thn_x ?_
            refine hQ132 _ _ _ ?_
            refine thn_x ?_
            replace hF := exA hF hK120
            refine hQ118 _ _ _ ?_
            refine inb_s ?_
            refine hQ116 _ _ _ ?_
            refine thn_n ?_
            refine cw_seq ?_
            refine cw_gen ?_
            intro Q149 hQ149
            refine cw_reg ?_
            refine el_pv (v := .int .i64 a2) (pv_move he123) (by decide) ?_
            refine el_pv (v := .int .i64 r103.2) (pv_move he126) (by decide) ?_
            replace hF := ob hF
            obtain ⟨r150, hr150, hF⟩ := hF
            refine el_call goes90 (impl_PowBigInt_ok hr150) (congrArg List.toArray (mapc rfl (mapc rfl rfl))) (by decide) ?_
            rintro _ w153 ⟨v151, rfl, hS'⟩
            refine ⟨_, rfl, ?_⟩
            have hx154 := hS'.below
            replace hS := hS.call1 hS'
            refine el_pv (v := .tuple #[.agg #[v151], .bool r150.2]) (pv_move rfl) (by decide) ?_
            refine el_pv (v := .agg #[v151]) (pv_extract rfl rfl) (by decide) ?_
            refine el_pv (v := .bool r150.2) (pv_extract rfl rfl) (by decide) ?_
            refine el_alloc hS (by decide) ?_
            intro w155 b156 hS hx157
            refine el_storev (hS.top 0 rfl) rfl [v151] rfl rfl (of_decide_eq_true rfl) (all_cons (oc (hS.rdAt (R := (sliceR intR 3)) 1 rfl)) rfl) ?_
            intro w159 hS
            replace hS : Sat w0 w159 [Box b156 76 [v151], Own (sliceR intR 3) [v151] r150.1, Own (sliceR intR 3) [v104] r103.1] := hS
            refine el_pv (v := .bool r150.2) (pv_assign rfl) (by decide) ?_
            refine el_nil ?_
            refine hQ149 _ _ _ ?_
            refine thn_n ?_
            refine cw_seq ?_
            refine cw_gen ?_
            intro Q160 hQ160
            refine cw_reg ?_
            refine el_pv (v := u0) (pv_move he122) (by decide) ?_
            refine el_pv (v := v104) (pv_move he125) (by decide) ?_
            replace hF := ob hF
            obtain ⟨r161, hr161, hF⟩ := hF
            refine el_call goes91 (impl_ProductOfPowers_ok (hS.up ha0) (hS.rdAt (R := (sliceR intR 3)) 2 rfl) hr161) (congrArg List.toArray (mapc rfl (mapc rfl rfl))) (by decide) ?_
            rintro _ w164 ⟨v162, rfl, hS'⟩
            refine ⟨_, rfl, ?_⟩
            have hx165 := hS'.below
            replace hS := hS.call1 hS'
            refine el_pv (v := .tuple #[.agg #[v162], .bool r161.2]) (pv_move rfl) (by decide) ?_
            refine el_pv (v := .agg #[v162]) (pv_extract rfl rfl) (by decide) ?_
            refine el_pv (v := .bool r161.2) (pv_extract rfl rfl) (by decide) ?_
            refine el_alloc hS (by decide) ?_
            intro w166 b167 hS hx168
            refine el_storev (hS.top 0 rfl) rfl [v162] rfl rfl (of_decide_eq_true rfl) (all_cons (oc (hS.rdAt (R := (sliceR intR 3)) 1 rfl)) rfl) ?_
            intro w170 hS
            replace hS : Sat w0 w170 [Box b167 76 [v162], Own (sliceR intR 3) [v162] r161.1, Box b156 76 [v151], Own (sliceR intR 3) [v151] r150.1, Own (sliceR intR 3) [v104] r103.1] := hS
            refine el_pv (v := .bool r161.2) (pv_assign rfl) (by decide) ?_
            refine el_nil ?_
            refine hQ160 _ _ _ ?_
            refine thn_n ?_
            refine cw_seq ?_
            refine cw_gen ?_
            intro Q171 hQ171
            replace hS : Sat w0 w170 [Box b167 76 [v162], Own (sliceR intR 3) [v162] r161.1, Box b156 76 [v151], Own (sliceR intR 3) [v151] r150.1] := hS.rems 5 [4] rfl
            refine cw_reg ?_
            refine el_pv (v := .int .i64 a3) (pv_move he124) (by decide) ?_
            refine el_pv (v := .int .i64 r103.2) (pv_move he126) (by decide) ?_
            replace hF := ob hF
            obtain ⟨r172, hr172, hF⟩ := hF
            refine el_call goes90 (impl_PowBigInt_ok hr172) (congrArg List.toArray (mapc rfl (mapc rfl rfl))) (by decide) ?_
            rintro _ w175 ⟨v173, rfl, hS'⟩
            refine ⟨_, rfl, ?_⟩
            have hx176 := hS'.below
            replace hS := hS.call1 hS'
            refine el_pv (v := .tuple #[.agg #[v173], .bool r172.2]) (pv_move rfl) (by decide) ?_
            refine el_pv (v := .agg #[v173]) (pv_extract rfl rfl) (by decide) ?_
            refine el_pv (v := .bool r172.2) (pv_extract rfl rfl) (by decide) ?_
            refine el_alloc hS (by decide) ?_
            intro w177 b178 hS hx179
            refine el_storev (hS.top 0 rfl) rfl [v173] rfl rfl (of_decide_eq_true rfl) (all_cons (oc (hS.rdAt (R := (sliceR intR 3)) 1 rfl)) rfl) ?_
            intro w181 hS
            replace hS : Sat w0 w181 [Box b178 76 [v173], Own (sliceR intR 3) [v173] r172.1, Box b167 76 [v162], Own (sliceR intR 3) [v162] r161.1, Box b156 76 [v151], Own (sliceR intR 3) [v151] r150.1] := hS
            refine el_pv (v := .bool r172.2) (pv_assign rfl) (by decide) ?_
            refine el_nil ?_
            refine hQ171 _ _ _ ?_
            refine thn_n ?_
            refine cw_seq ?_
            refine cw_gen ?_
            intro Q182 hQ182
            refine cw_reg ?_
            refine el_pv (v := .agg #[v162]) (pv_loada (cs := [v162]) rfl rfl (boxc0 (hS.boxAt 2 rfl))) (by decide) ?_
            refine el_pv (v := .agg #[v173]) (pv_loada (cs := [v173]) rfl rfl (boxc0 (hS.boxAt 0 rfl))) (by decide) ?_
            replace hF := ob hF
            obtain ⟨r183, hr183, hF⟩ := hF
            refine el_call goes92 (impl_MulBigInt_ok (hS.rdAt (R := (sliceR intR 3)) 3 rfl) (hS.rdAt (R := (sliceR intR 3)) 1 rfl) hr183) (congrArg List.toArray (mapc rfl (mapc rfl rfl))) (by decide) ?_
            rintro _ w186 ⟨v184, rfl, hS'⟩
            refine ⟨_, rfl, ?_⟩
            have hx187 := hS'.below
            replace hS := hS.call1 hS'
            refine el_pv (v := .tuple #[.agg #[v184], .bool r183.2]) (pv_move rfl) (by decide) ?_
            refine el_pv (v := .agg #[v184]) (pv_extract rfl rfl) (by decide) ?_
            refine el_pv (v := .bool r183.2) (pv_extract rfl rfl) (by decide) ?_
            refine el_alloc hS (by decide) ?_
            intro w188 b189 hS hx190
            refine el_storev (hS.top 0 rfl) rfl [v184] rfl rfl (of_decide_eq_true rfl) (all_cons (oc (hS.rdAt (R := (sliceR intR 3)) 1 rfl)) rfl) ?_
            intro w192 hS
            replace hS : Sat w0 w192 [Box b189 76 [v184], Own (sliceR intR 3) [v184] r183.1, Box b178 76 [v173], Own (sliceR intR 3) [v173] r172.1, Box b167 76 [v162], Own (sliceR intR 3) [v162] r161.1, Box b156 76 [v151], Own (sliceR intR 3) [v151] r150.1] := hS
            refine el_pv (v := .bool r183.2) (pv_assign rfl) (by decide) ?_
            refine el_nil ?_
            refine hQ182 _ _ _ ?_
            refine thn_n ?_
            refine cw_seq ?_
            refine cw_gen ?_
            intro Q193 hQ193
            replace hS : Sat w0 w192 [Box b189 76 [v184], Own (sliceR intR 3) [v184] r183.1, Box b156 76 [v151], Own (sliceR intR 3) [v151] r150.1] := hS.rems 8 [2, 3, 4, 5] rfl
            refine cw_reg ?_
            refine el_pv (v := .bool r150.2) (pv_move rfl) (by decide) ?_
            refine el_pv (v := .bool r150.2) (pv_move rfl) (by decide) ?_
            replace hF := oif hF
            rcases hF with ⟨hb194, hF⟩ | ⟨hb194, hF⟩
            · refine el_on rfl hb194 ?_
              refine el_pv (v := .bool r161.2) (pv_move rfl) (by decide) ?_
              refine el_pv (v := .bool r161.2) (pv_pick_t rfl hb194 rfl) (by decide) ?_
              refine el_pv (v := .bool r161.2) (pv_move rfl) (by decide) ?_
              replace hF := oif hF
              rcases hF with ⟨hb195, hF⟩ | ⟨hb195, hF⟩
              · refine el_on rfl hb195 ?_
                refine el_pv (v := .bool r172.2) (pv_move rfl) (by decide) ?_
                refine el_pv (v := .bool r172.2) (pv_pick_t rfl hb195 rfl) (by decide) ?_
                refine el_pv (v := .bool r172.2) (pv_move rfl) (by decide) ?_
                replace hF := oif hF
                rcases hF with ⟨hb196, hF⟩ | ⟨hb196, hF⟩
                · refine el_on rfl hb196 ?_
                  refine el_pv (v := .bool r183.2) (pv_move rfl) (by decide) ?_
                  refine el_pv (v := .bool r183.2) (pv_pick_t rfl hb196 rfl) (by decide) ?_
                  refine el_pv (v := .bool r183.2) (pv_move rfl) (by decide) ?_
                  replace hF := oif hF
                  rcases hF with ⟨hb197, hF⟩ | ⟨hb197, hF⟩
                  · refine el_on rfl hb197 ?_
                    refine el_pv (v := .agg #[v151]) (pv_loada (cs := [v151]) rfl rfl (boxc0 (hS.boxAt 2 rfl))) (by decide) ?_
                    refine el_on rfl hb197 ?_
                    refine el_pv (v := .agg #[v184]) (pv_loada (cs := [v184]) rfl rfl (boxc0 (hS.boxAt 0 rfl))) (by decide) ?_
                    refine el_on rfl hb197 ?_
                    replace hF := ob hF
                    obtain ⟨r198, hr198, hF⟩ := hF
                    refine el_call goes93 (impl_CompareBigInts_ok (hS.rdAt (R := (sliceR intR 3)) 3 rfl) (hS.rdAt (R := (sliceR intR 3)) 1 rfl) hr198) (congrArg List.toArray (mapc rfl (mapc rfl rfl))) (by decide) ?_
                    rintro _ w199 ⟨rfl, hx200⟩
                    refine ⟨_, rfl, ?_⟩
                    replace hS := hS.ext hx200
                    refine el_on rfl hb197 ?_
                    refine el_pv (v := .bool (decide (r198 ≤ 0))) (pv_leq rfl rfl) (by decide) ?_
                    refine el_pv (v := .bool (decide (r198 ≤ 0))) (pv_pick_t rfl hb197 rfl) (by decide) ?_
                    refine el_pv (v := .bool (decide (r198 ≤ 0))) (pv_assign rfl) (by decide) ?_
                    refine el_nil ?_
                    refine hQ193 _ _ _ ?_
                    refine thn_n ?_
                    refine cw_ret ?_
                    refine fin1 rfl rfl ?_
                    have hr := Option.some.inj hF
                    exact ⟨congrArg (fun (r : Bool) => Ending.returned (.bool r)) hr, hS.below⟩
                  · refine el_off rfl hb197 rfl (by decide) ?_
                    refine el_off rfl hb197 rfl (by decide) ?_
                    refine el_off rfl hb197 rfl (by decide) ?_
                    refine el_off rfl hb197 rfl (by decide) ?_
                    refine el_pv (v := .bool false) (pv_pick_f rfl hb197 rfl) (by decide) ?_
                    refine el_pv (v := .bool false) (pv_assign rfl) (by decide) ?_
                    refine el_nil ?_
                    refine hQ193 _ _ _ ?_
                    refine thn_n ?_
                    refine cw_ret ?_
                    refine fin1 rfl rfl ?_
                    have hr := Option.some.inj hF
                    exact ⟨congrArg (fun (r : Bool) => Ending.returned (.bool r)) hr, hS.below⟩
                · refine el_off rfl hb196 rfl (by decide) ?_
                  refine el_pv (v := .bool false) (pv_pick_f rfl hb196 rfl) (by decide) ?_
                  refine el_pv (v := .bool false) (pv_move rfl) (by decide) ?_
                  refine el_off rfl rfl rfl (by decide) ?_
                  refine el_off rfl rfl rfl (by decide) ?_
                  refine el_off rfl rfl rfl (by decide) ?_
                  refine el_off rfl rfl rfl (by decide) ?_
                  refine el_pv (v := .bool false) (pv_pick_f rfl rfl rfl) (by decide) ?_
                  refine el_pv (v := .bool false) (pv_assign rfl) (by decide) ?_
                  refine el_nil ?_
                  refine hQ193 _ _ _ ?_
                  refine thn_n ?_
                  refine cw_ret ?_
                  refine fin1 rfl rfl ?_
                  have hr := Option.some.inj hF
                  exact ⟨congrArg (fun (r : Bool) => Ending.returned (.bool r)) hr, hS.below⟩
              · refine el_off rfl hb195 rfl (by decide) ?_
                refine el_pv (v := .bool false) (pv_pick_f rfl hb195 rfl) (by decide) ?_
                refine el_pv (v := .bool false) (pv_move rfl) (by decide) ?_
                refine el_off rfl rfl rfl (by decide) ?_
                refine el_pv (v := .bool false) (pv_pick_f rfl rfl rfl) (by decide) ?_
                refine el_pv (v := .bool false) (pv_move rfl) (by decide) ?_
                refine el_off rfl rfl rfl (by decide) ?_
                refine el_off rfl rfl rfl (by decide) ?_
                refine el_off rfl rfl rfl (by decide) ?_
                refine el_off rfl rfl rfl (by decide) ?_
                refine el_pv (v := .bool false) (pv_pick_f rfl rfl rfl) (by decide) ?_
                refine el_pv (v := .bool false) (pv_assign rfl) (by decide) ?_
                refine el_nil ?_
                refine hQ193 _ _ _ ?_
                refine thn_n ?_
                refine cw_ret ?_
                refine fin1 rfl rfl ?_
                have hr := Option.some.inj hF
                exact ⟨congrArg (fun (r : Bool) => Ending.returned (.bool r)) hr, hS.below⟩
            · refine el_off rfl hb194 rfl (by decide) ?_
              refine el_pv (v := .bool false) (pv_pick_f rfl hb194 rfl) (by decide) ?_
              refine el_pv (v := .bool false) (pv_move rfl) (by decide) ?_
              refine el_off rfl rfl rfl (by decide) ?_
              refine el_pv (v := .bool false) (pv_pick_f rfl rfl rfl) (by decide) ?_
              refine el_pv (v := .bool false) (pv_move rfl) (by decide) ?_
              refine el_off rfl rfl rfl (by decide) ?_
              refine el_pv (v := .bool false) (pv_pick_f rfl rfl rfl) (by decide) ?_
              refine el_pv (v := .bool false) (pv_move rfl) (by decide) ?_
              refine el_off rfl rfl rfl (by decide) ?_
              refine el_off rfl rfl rfl (by decide) ?_
              refine el_off rfl rfl rfl (by decide) ?_
              refine el_off rfl rfl rfl (by decide) ?_
              refine el_pv (v := .bool false) (pv_pick_f rfl rfl rfl) (by decide) ?_
              refine el_pv (v := .bool false) (pv_assign rfl) (by decide) ?_
              refine el_nil ?_
              refine hQ193 _ _ _ ?_
              refine thn_n ?_
              refine cw_ret ?_
              refine fin1 rfl rfl ?_
              have hr := Option.some.inj hF
              exact ⟨congrArg (fun (r : Bool) => Ending.returned (.bool r)) hr, hS.below⟩
set_option maxHeartbeats 4000000 in
theorem impl_IsWithinSeekBound_ok {w0 : World} {a0 : Int} {u1 : Value} {a1 : List (ByteArray × List Int)} {u2 : Value} {a2 : List Int} {u3 : Value} {a3 : List Int} {u4 : Value} {a4 : List (Int × Int)} {a5 : Int} (ha1 : (sliceR (pairR strR (sliceR intR 3)) 96).rd w0 [u1] a1) (ha2 : (sliceR intR 3).rd w0 [u2] a2) (ha3 : (sliceR intR 3).rd w0 [u3] a3) (ha4 : (sliceR (pairR intR intR) 83).rd w0 [u4] a4) {N : Nat} {r : Bool} (hF : impl_IsWithinSeekBound N a0 a1 a2 a3 a4 a5 = some r) :
    Calls Try.prog 16 #[.agg #[.int .i64 a0, u1, u2], u3, u4, .int .i64 a5] w0 fun e w' => e = .returned (.bool r) ∧ Ext w0 w' := by
  unfold impl_IsWithinSeekBound at hF
  refine calls_E Try.func16 rfl rfl (of_decide_eq_true rfl) ?_
  have hS := Sat.start w0
  refine cw_seq ?_
  refine cw_gen ?_
  intro Q101 hQ101
  refine cw_reg ?_
  refine el_box [.int .i64 a0, u1, u2] rfl hS (by decide) ?_
  intro w102 b103 hS hx104
  refine el_pv (v := .bool false) (pv_assign rfl) (by decide) ?_
  refine el_nil ?_
  refine hQ101 _ _ _ ?_
  refine thn_n ?_
  refine cw_seq ?_
  refine cw_gen ?_
  intro Q106 hQ106
  refine cw_reg ?_
  refine el_pv (v := .agg #[.int .i64 a0, u1, u2]) (pv_loada (cs := [.int .i64 a0, u1, u2]) rfl rfl (boxc0 (hS.boxAt 0 rfl))) (by decide) ?_
  replace hF := ob hF
  obtain ⟨r107, hr107, hF⟩ := hF
  refine el_call goes40 (impl_IsValidQuery_ok (hS.up ha1) (hS.up ha2) hr107) (congrArg List.toArray (mapc rfl rfl)) (by decide) ?_
  rintro _ w108 ⟨rfl, hx109⟩
  refine ⟨_, rfl, ?_⟩
  replace hS := hS.ext hx109
  refine el_pv (v := .bool r107) (pv_move rfl) (by decide) ?_
  replace hF := oif hF
  rcases hF with ⟨hb110, hF⟩ | ⟨hb110, hF⟩
  · refine el_on rfl hb110 ?_
    refine el_pv (v := u3) (pv_move rfl) (by decide) ?_
    refine el_on rfl hb110 ?_
    refine el_pv (v := u4) (pv_move rfl) (by decide) ?_
    refine el_on rfl hb110 ?_
    refine el_pv (v := .int .i64 a5) (pv_move rfl) (by decide) ?_
    refine el_on rfl hb110 ?_
    refine el_pv (v := .agg #[.int .i64 a0, u1, u2]) (pv_loada (cs := [.int .i64 a0, u1, u2]) rfl rfl (boxc0 (hS.boxAt 0 rfl))) (by decide) ?_
    refine el_on rfl hb110 ?_
    replace hF := ob hF
    obtain ⟨r111, hr111, hF⟩ := hF
    refine el_call goes10 (impl_SeekBound_ok (hS.up ha1) (hS.up ha2) hr111) (congrArg List.toArray (mapc rfl (mapc rfl rfl))) (by decide) ?_
    rintro _ w112 ⟨rfl, hx113⟩
    refine ⟨_, rfl, ?_⟩
    replace hS := hS.ext hx113
    refine el_on rfl hb110 ?_
    replace hF := ob hF
    obtain ⟨r114, hr114, hF⟩ := hF
    refine el_call goes49 (impl_withinPowers_ok (hS.up ha3) (hS.up ha4) hr114) (congrArg List.toArray (mapc rfl (mapc rfl (mapc rfl (mapc rfl rfl))))) (by decide) ?_
    rintro _ w115 ⟨rfl, hx116⟩
    refine ⟨_, rfl, ?_⟩
    replace hS := hS.ext hx116
    refine el_pv (v := .bool r114) (pv_pick_t rfl hb110 rfl) (by decide) ?_
    refine el_pv (v := .bool r114) (pv_assign rfl) (by decide) ?_
    refine el_nil ?_
    refine hQ106 _ _ _ ?_
    refine thn_n ?_
    refine cw_ret ?_
    refine fin1 rfl rfl ?_
    have hr := Option.some.inj hF
    exact ⟨congrArg (fun (r : Bool) => Ending.returned (.bool r)) hr, hS.below⟩
  · refine el_off rfl hb110 rfl (by decide) ?_
    refine el_off rfl hb110 rfl (by decide) ?_
    refine el_off rfl hb110 rfl (by decide) ?_
    refine el_off rfl hb110 rfl (by decide) ?_
    refine el_off rfl hb110 rfl (by decide) ?_
    refine el_off rfl hb110 rfl (by decide) ?_
    refine el_pv (v := .bool false) (pv_pick_f rfl hb110 rfl) (by decide) ?_
    refine el_pv (v := .bool false) (pv_assign rfl) (by decide) ?_
    refine el_nil ?_
    refine hQ106 _ _ _ ?_
    refine thn_n ?_
    refine cw_ret ?_
    refine fin1 rfl rfl ?_
    have hr := Option.some.inj hF
    exact ⟨congrArg (fun (r : Bool) => Ending.returned (.bool r)) hr, hS.below⟩
set_option maxHeartbeats 4000000 in
theorem laws_eqRational_ok {w0 : World} {a0 : Int} {a1 : Int} {a2 : Int} {a3 : Int}  {N : Nat} {r : Bool} (hF : laws_eqRational N a0 a1 a2 a3 = some r) :
    Calls Try.prog 50 #[.agg #[.int .i64 a0, .int .i64 a1], .agg #[.int .i64 a2, .int .i64 a3]] w0 fun e w' => e = .returned (.bool r) ∧ Ext w0 w' := by
  unfold laws_eqRational at hF
  refine calls_E Try.func50 rfl rfl (of_decide_eq_true rfl) ?_
  have hS := Sat.start w0
  refine cw_seq ?_
  refine cw_gen ?_
  intro Q101 hQ101
  refine cw_reg ?_
  refine el_box [.int .i64 a0, .int .i64 a1] rfl hS (by decide) ?_
  intro w102 b103 hS hx104
  refine el_box [.int .i64 a2, .int .i64 a3] rfl hS (by decide) ?_
  intro w106 b107 hS hx108
  refine el_pv (v := .bool false) (pv_assign rfl) (by decide) ?_
  refine el_nil ?_
  refine hQ101 _ _ _ ?_
  refine thn_n ?_
  refine cw_seq ?_
  refine cw_gen ?_
  intro Q110 hQ110
  refine cw_seq ?_
  refine cw_gen ?_
  intro Q111 hQ111
  refine cw_reg ?_
  refine el_pv (v := .pointer (some ⟨b103, 0 + 0, none⟩)) (pv_fieldAddr rfl) (by decide) ?_
  refine el_pv (v := .int .i64 a0) (pv_loadc rfl ((hS.boxAt 1 rfl) 0 _ rfl)) (by decide) ?_
  refine el_pv (v := .pointer (some ⟨b107, 0 + 0, none⟩)) (pv_fieldAddr rfl) (by decide) ?_
  refine el_pv (v := .int .i64 a2) (pv_loadc rfl ((hS.boxAt 0 rfl) 0 _ rfl)) (by decide) ?_
  refine el_pv (v := .bool (a0 != a2)) (pv_neq rfl rfl) (by decide) ?_
  refine el_nil ?_
  refine hQ111 _ _ _ ?_
  refine thn_n ?_
  replace hF := oif hF
  rcases hF with ⟨hb112, hF⟩ | ⟨hb112, hF⟩
  · refine cw_cond_t rfl hb112 ?_
    refine cw_seq ?_
    refine cw_gen ?_
    intro Q113 hQ113
    replace hS : Sat w0 w106 [] := hS.rems 2 [0, 1] rfl
    refine cw_reg ?_
    refine el_pv (v := .bool false) (pv_assign rfl) (by decide) ?_
    refine el_nil ?_
    refine hQ113 _ _ _ ?_
    refine thn_n ?_
    refine cw_ret ?_
    refine hQ110 _ _ _ ?_
    refine thn_r ?_
    refine fin1 rfl rfl ?_
    have hr := Option.some.inj hF
    exact ⟨congrArg (fun (r : Bool) => Ending.returned (.bool r)) hr, hS.below⟩
  · refine cw_cond_f rfl hb112 ?_
    refine cw_skip ?_
    refine hQ110 _ _ _ ?_
    refine thn_n ?_
    refine cw_seq ?_
    refine cw_gen ?_
    intro Q114 hQ114
    refine cw_seq ?_
    refine cw_gen ?_
    intro Q115 hQ115
    refine cw_reg ?_
    refine el_pv (v := .pointer (some ⟨b103, 0 + 1, none⟩)) (pv_fieldAddr rfl) (by decide) ?_
    refine el_pv (v := .int .i64 a1) (pv_loadc rfl ((hS.boxAt 1 rfl) 1 _ rfl)) (by decide) ?_
    refine el_pv (v := .pointer (some ⟨b107, 0 + 1, none⟩)) (pv_fieldAddr rfl) (by decide) ?_
    refine el_pv (v := .int .i64 a3) (pv_loadc rfl ((hS.boxAt 0 rfl) 1 _ rfl)) (by decide) ?_
    refine el_pv (v := .bool (a1 != a3)) (pv_neq rfl rfl) (by decide) ?_
    refine el_nil ?_
    refine hQ115 _ _ _ ?_
    refine thn_n ?_
    replace hF := oif hF
    rcases hF with ⟨hb116, hF⟩ | ⟨hb116, hF⟩
    · refine cw_cond_t rfl hb116 ?_
      refine cw_seq ?_
      refine cw_gen ?_
      intro Q117 hQ117
      replace hS : Sat w0 w106 [] := hS.rems 2 [0, 1] rfl
      refine cw_reg ?_
      refine el_pv (v := .bool false) (pv_assign rfl) (by decide) ?_
      refine el_nil ?_
      refine hQ117 _ _ _ ?_
      refine thn_n ?_
      refine cw_ret ?_
      refine hQ114 _ _ _ ?_
      refine thn_r ?_
      refine fin1 rfl rfl ?_
      have hr := Option.some.inj hF
      exact ⟨congrArg (fun (r : Bool) => Ending.returned (.bool r)) hr, hS.below⟩
    · refine cw_cond_f rfl hb116 ?_
      refine cw_skip ?_
      refine hQ114 _ _ _ ?_
      refine thn_n ?_
      refine cw_seq ?_
      refine cw_gen ?_
      intro Q118 hQ118
      replace hS : Sat w0 w106 [] := hS.rems 2 [0, 1] rfl
      refine cw_reg ?_
      refine el_pv (v := .bool true) (pv_assign rfl) (by decide) ?_
      refine el_nil ?_
      refine hQ118 _ _ _ ?_
      refine thn_n ?_
      refine cw_ret ?_
      refine fin1 rfl rfl ?_
      have hr := Option.some.inj hF
      exact ⟨congrArg (fun (r : Bool) => Ending.returned (.bool r)) hr, hS.below⟩
set_option maxHeartbeats 4000000 in
theorem laws_eqRationalS_ok {w0 : World} {u0 : Value} {a0 : List (Int × Int)} {u1 : Value} {a1 : List (Int × Int)} (ha0 : (sliceR (pairR intR intR) 83).rd w0 [u0] a0) (ha1 : (sliceR (pairR intR intR) 83).rd w0 [u1] a1) {N : Nat} {r : Bool} (hF : laws_eqRationalS N a0 a1 = some r) :
    Calls Try.prog 18 #[u0, u1] w0 fun e w' => e = .returned (.bool r) ∧ Ext w0 w' := by
  unfold laws_eqRationalS at hF
  refine calls_E Try.func18 rfl rfl (of_decide_eq_true rfl) ?_
  have hS := Sat.start w0
  refine cw_seq ?_
  refine cw_gen ?_
  intro Q101 hQ101
  refine cw_reg ?_
  refine el_pv (v := .bool false) (pv_assign rfl) (by decide) ?_
  refine el_nil ?_
  refine hQ101 _ _ _ ?_
  refine thn_n ?_
  refine cw_seq ?_
  refine cw_gen ?_
  intro Q102 hQ102
  refine cw_seq ?_
  refine cw_gen ?_
  intro Q103 hQ103
  refine cw_reg ?_
  refine el_pv (v := u0) (pv_move rfl) (by decide) ?_
  refine el_pv (v := .int .i64 (a0.length : Int)) (pv_len rfl ha0) (by decide) ?_
  refine el_pv (v := u1) (pv_move rfl) (by decide) ?_
  refine el_pv (v := .int .i64 (a1.length : Int)) (pv_len rfl ha1) (by decide) ?_
  refine el_pv (v := .bool ((a0.length : Int) != (a1.length : Int))) (pv_neq rfl rfl) (by decide) ?_
  refine el_nil ?_
  refine hQ103 _ _ _ ?_
  refine thn_n ?_
  replace hF := oif hF
  rcases hF with ⟨hb104, hF⟩ | ⟨hb104, hF⟩
  · refine cw_cond_t rfl hb104 ?_
    refine cw_seq ?_
    refine cw_gen ?_
    intro Q105 hQ105
    refine cw_reg ?_
    refine el_pv (v := .bool false) (pv_assign rfl) (by decide) ?_
    refine el_nil ?_
    refine hQ105 _ _ _ ?_
    refine thn_n ?_
    refine cw_ret ?_
    refine hQ102 _ _ _ ?_
    refine thn_r ?_
    refine fin1 rfl rfl ?_
    have hr := Option.some.inj hF
    exact ⟨congrArg (fun (r : Bool) => Ending.returned (.bool r)) hr, hS.below⟩
  · refine cw_cond_f rfl hb104 ?_
    refine cw_skip ?_
    refine hQ102 _ _ _ ?_
    refine thn_n ?_
    refine cw_seq ?_
    refine cw_gen ?_
    intro Q106 hQ106
    refine cw_seq ?_
    refine cw_gen ?_
    intro Q107 hQ107
    refine cw_reg ?_
    refine el_pv (v := .int .i64 0) (pv_assign rfl) (by decide) ?_
    refine el_nil ?_
    refine hQ107 _ _ _ ?_
    refine thn_n ?_
    refine cw_block ?_
    refine cw_gen ?_
    intro Q108 hQ108
    obtain ⟨s109, hL, hK110⟩ := ob hF
    refine cw_loopS (fun k e w => ∃ (x111 : Int), e 0 = u0 ∧ e 1 = u1 ∧ e 5 = .int .i64 x111 ∧ Sat w0 w [] ∧ laws_eqRationalS_L1 N k a0 a1 x111 = some s109) N ?_ ?_ ?_
    · exact ⟨0, rfl, rfl, rfl, hS, hL⟩
    · rintro e w ⟨_, _, _, _, _, hz⟩; exact nomatch (show none = some _ from hz)
    · rintro k e116 w115 ⟨x111, he112, he113, he114, hS, hF⟩
      refine cw_gen ?_
      intro Q117 hQ117
      refine cw_seq ?_
      refine cw_gen ?_
      intro Q118 hQ118
      refine cw_seq ?_
      refine cw_gen ?_
      intro Q119 hQ119
      refine cw_reg ?_
      refine el_pv (v := .int .i64 x111) (pv_move he114) (by decide) ?_
      refine el_pv (v := u0) (pv_move he112) (by decide) ?_
      refine el_pv (v := .int .i64 (a0.length : Int)) (pv_len rfl ha0) (by decide) ?_
      refine el_pv (v := .bool (decide (x111 < (a0.length : Int)))) (pv_lss rfl rfl) (by decide) ?_
      refine el_nil ?_
      refine hQ119 _ _ _ ?_
      refine thn_n ?_
      replace hF := oif hF
      rcases hF with ⟨hb120, hF⟩ | ⟨hb120, hF⟩
      · refine cw_cond_t rfl hb120 ?_
        refine cw_skip ?_
        refine hQ118 _ _ _ ?_
        refine thn_n ?_
        refine cw_seq ?_
        refine cw_gen ?_
        intro Q121 hQ121
        refine cw_block ?_
        refine cw_gen ?_
        intro Q122 hQ122
        refine cw_seq ?_
        refine cw_gen ?_
        intro Q123 hQ123
        refine cw_regq (by kernel_rfl) (by kernel_rfl) ?_
        refine ql_pv (v := u0) (pv_move he112) (by decide) ?_
        refine ql_pv (v := .int .i64 x111) (pv_move he114) (by decide) ?_
        replace hF := ob hF
        obtain ⟨x124, hx124, hF⟩ := hF
        refine ql_index (wA := w0) rfl ha0 rfl (by decide) rfl hx124 (by decide) ?_
        intro b125 of126 c127 hr128 hm129
        obtain ⟨_, _, rfl, hr130, hr131⟩ := hr128
        obtain rfl := hr130
        obtain rfl := hr131
        refine ql_pv (v := .agg #[.int .i64 x124.1, .int .i64 x124.2]) (pv_loada (cs := [.int .i64 x124.1, .int .i64 x124.2]) rfl rfl (cells_up hS.below hm129)) (by decide) ?_
        refine ql_pv (v := u1) (pv_move he113) (by decide) ?_
        refine ql_pv (v := .int .i64 x111) (pv_move he114) (by decide) ?_
        replace hF := ob hF
        obtain ⟨x132, hx132, hF⟩ := hF
        refine ql_index (wA := w0) rfl ha1 rfl (by decide) rfl hx132 (by decide) ?_
        intro b133 of134 c135 hr136 hm137
        obtain ⟨_, _, rfl, hr138, hr139⟩ := hr136
        obtain rfl := hr138
        obtain rfl := hr139
        refine ql_pv (v := .agg #[.int .i64 x132.1, .int .i64 x132.2]) (pv_loada (cs := [.int .i64 x132.1, .int .i64 x132.2]) rfl rfl (cells_up hS.below hm137)) (by decide) ?_
        replace hF := ob hF
        obtain ⟨r140, hr140, hF⟩ := hF
        refine ql_call (.bool r140) goes50 (fun w' hw' => laws_eqRational_ok hr140) (congrArg List.toArray (mapc rfl (mapc rfl rfl))) (by decide) ?_
        refine ql_pv (v := .bool (!r140)) (pv_not rfl) (by decide) ?_
        refine ql_nil ?_
        intro w141 hx142
        replace hS := hS.ext hx142
        refine hQ123 _ _ _ ?_
        refine thn_n ?_
        replace hF := oif hF
        rcases hF with ⟨hb143, hF⟩ | ⟨hb143, hF⟩
        · refine cw_cond_f rfl (bnot_t hb143) ?_
          refine cw_skip ?_
          refine hQ122 _ _ _ ?_
          refine inb_n ?_
          refine hQ121 _ _ _ ?_
          refine thn_n ?_
          refine cw_reg ?_
          refine el_pv (v := .int .i64 x111) (pv_move he114) (by decide) ?_
          replace hF := ob hF
          obtain ⟨x144, hx144, hF⟩ := hF
          refine el_pv (v := .int .i64 x144) (pv_add rfl rfl hx144) (by decide) ?_
          refine el_pv (v := .int .i64 x144) (pv_assign rfl) (by decide) ?_
          refine el_nil ?_
          refine hQ117 _ _ _ ?_
          refine thn_n ?_
          replace hS := hS.keep 0
          exact ⟨x144, he112, he113, rfl, hS, hF⟩
        · refine cw_cond_t rfl (bnot_f hb143) ?_
          refine cw_seq ?_
          refine cw_gen ?_
          intro Q145 hQ145
          refine cw_reg ?_
          refine el_pv (v := .bool false) (pv_assign rfl) (by decide) ?_
          refine el_nil ?_
          refine hQ145 _ _ _ ?_
          refine thn_n ?_
          refine cw_ret ?_
          refine hQ122 _ _ _ ?_
          refine inb_r ?_
          refine hQ121 _ _ _ ?_
          refine thn_r ?_
          refine hQ117 _ _ _ ?_
          refine thn_r ?_
          refine hQ108 _ _ _ ?_
          refine inb_r ?_
          refine hQ106 _ _ _ ?_
          refine thn_r ?_
          replace hF := exL hF hK110
          refine fin1 rfl rfl ?_
          have hr := Option.some.inj hF
          exact ⟨congrArg (fun (r : Bool) => Ending.returned (.bool r)) hr, hS.below⟩
      · refine cw_cond_f rfl hb120 ?_
        refine cw_exit ?_
        refine hQ118 _ _ _ ?_
        refine thn_x ?_
        refine hQ117 _ _ _ ?_
        refine thn_x ?_
        replace hF := exA hF hK110
        refine hQ108 _ _ _ ?_
        refine inb_s ?_
        refine hQ106 _ _ _ ?_
        refine thn_n ?_
        refine cw_seq ?_
        refine cw_gen ?_
        intro Q146 hQ146
        refine cw_reg ?_
        refine el_pv (v := .bool true) (pv_assign rfl) (by decide) ?_
        refine el_nil ?_
        refine hQ146 _ _ _ ?_
        refine thn_n ?_
        refine cw_ret ?_
        refine fin1 rfl rfl ?_
        have hr := Option.some.inj hF
        exact ⟨congrArg (fun (r : Bool) => Ending.returned (.bool r)) hr, hS.below⟩
set_option maxHeartbeats 4000000 in
theorem laws_FnExactIsWithinSeekBound_ok {w0 : World} {a0 : Int} {u1 : Value} {a1 : List (ByteArray × List Int)} {u2 : Value} {a2 : List Int} {u3 : Value} {a3 : List Int} {u4 : Value} {a4 : List (Int × Int)} {a5 : Int} (ha1 : (sliceR (pairR strR (sliceR intR 3)) 113).rd w0 [u1] a1) (ha2 : (sliceR intR 3).rd w0 [u2] a2) (ha3 : (sliceR intR 3).rd w0 [u3] a3) (ha4 : (sliceR (pairR intR intR) 85).rd w0 [u4] a4) {N : Nat} {r : Bool} (hF : laws_FnExactIsWithinSeekBound N a0 a1 a2 a3 a4 a5 = some r) :
    Calls Try.prog 4 #[.agg #[.int .i64 a0, u1, u2], u3, u4, .int .i64 a5] w0 fun e w' => e = .returned (.bool r) ∧ Ext w0 w' := by
  unfold laws_FnExactIsWithinSeekBound at hF
  refine calls_E Try.func4 rfl rfl (of_decide_eq_true rfl) ?_
  have hS := Sat.start w0
  refine cw_seq ?_
  refine cw_gen ?_
  intro Q101 hQ101
  refine cw_reg ?_
  refine el_box [.int .i64 a0, u1, u2] rfl hS (by decide) ?_
  intro w102 b103 hS hx104
  refine el_pv (v := .bool false) (pv_assign rfl) (by decide) ?_
  refine el_nil ?_
  refine hQ101 _ _ _ ?_
  refine thn_n ?_
  refine cw_seq ?_
  refine cw_gen ?_
  intro Q106 hQ106
  refine cw_seq ?_
  refine cw_gen ?_
  intro Q107 hQ107
  refine cw_reg ?_
  refine el_pv (v := u3) (pv_move rfl) (by decide) ?_
  refine el_pv (v := .int .i64 (a3.length : Int)) (pv_len rfl ha3) (by decide) ?_
  refine el_pv (v := .bool (decide (1048576 < (a3.length : Int)))) (pv_gtr rfl rfl) (by decide) ?_
  refine el_nil ?_
  refine hQ107 _ _ _ ?_
  refine thn_n ?_
  replace hF := oif hF
  rcases hF with ⟨hb108, hF⟩ | ⟨hb108, hF⟩
  · refine cw_cond_t rfl hb108 ?_
    refine cw_seq ?_
    refine cw_gen ?_
    intro Q109 hQ109
    replace hS : Sat w0 w102 [] := hS.rems 1 [0] rfl
    refine cw_reg ?_
    refine el_pv (v := .bool true) (pv_assign rfl) (by decide) ?_
    refine el_nil ?_
    refine hQ109 _ _ _ ?_
    refine thn_n ?_
    refine cw_ret ?_
    refine hQ106 _ _ _ ?_
    refine thn_r ?_
    refine fin1 rfl rfl ?_
    have hr := Option.some.inj hF
    exact ⟨congrArg (fun (r : Bool) => Ending.returned (.bool r)) hr, hS.below⟩
  · refine cw_cond_f rfl hb108 ?_
    refine cw_skip ?_
    refine hQ106 _ _ _ ?_
    refine thn_n ?_
    refine cw_seq ?_
    refine cw_gen ?_
    intro Q110 hQ110
    refine cw_reg ?_
    refine el_pv (v := .int .i64 1048576) (pv_assign rfl) (by decide) ?_
    refine el_nil ?_
    refine hQ110 _ _ _ ?_
    refine thn_n ?_
    refine cw_seq ?_
    refine cw_gen ?_
    intro Q111 hQ111
    refine cw_reg ?_
    refine el_pv (v := .agg #[.int .i64 a0, u1, u2]) (pv_loada (cs := [.int .i64 a0, u1, u2]) rfl rfl (boxc0 (hS.boxAt 0 rfl))) (by decide) ?_
    refine el_pv (v := .int .i64 1048576) (pv_move rfl) (by decide) ?_
    replace hF := ob hF
    obtain ⟨r112, hr112, hF⟩ := hF
    refine el_call goes7 (laws_szQuery_ok (hS.up ha1) (hS.up ha2) hr112) (congrArg List.toArray (mapc rfl (mapc rfl rfl))) (by decide) ?_
    rintro _ w113 ⟨rfl, hx114⟩
    refine ⟨_, rfl, ?_⟩
    replace hS := hS.ext hx114
    refine el_pv (v := .int .i64 r112) (pv_assign rfl) (by decide) ?_
    refine el_nil ?_
    refine hQ111 _ _ _ ?_
    refine thn_n ?_
    refine cw_seq ?_
    refine cw_gen ?_
    intro Q115 hQ115
    refine cw_seq ?_
    refine cw_gen ?_
    intro Q116 hQ116
    refine cw_reg ?_
    refine el_pv (v := .int .i64 r112) (pv_move rfl) (by decide) ?_
    refine el_pv (v := .bool (decide (r112 < 0))) (pv_lss rfl rfl) (by decide) ?_
    refine el_nil ?_
    refine hQ116 _ _ _ ?_
    refine thn_n ?_
    replace hF := oif hF
    rcases hF with ⟨hb117, hF⟩ | ⟨hb117, hF⟩
    · refine cw_cond_t rfl hb117 ?_
      refine cw_seq ?_
      refine cw_gen ?_
      intro Q118 hQ118
      replace hS : Sat w0 w113 [] := hS.rems 1 [0] rfl
      refine cw_reg ?_
      refine el_pv (v := .bool true) (pv_assign rfl) (by decide) ?_
      refine el_nil ?_
      refine hQ118 _ _ _ ?_
      refine thn_n ?_
      refine cw_ret ?_
      refine hQ115 _ _ _ ?_
      refine thn_r ?_
      refine fin1 rfl rfl ?_
      have hr := Option.some.inj hF
      exact ⟨congrArg (fun (r : Bool) => Ending.returned (.bool r)) hr, hS.below⟩
    · refine cw_cond_f rfl hb117 ?_
      refine cw_skip ?_
      refine hQ115 _ _ _ ?_
      refine thn_n ?_
      refine cw_seq ?_
      refine cw_gen ?_
      intro Q119 hQ119
      refine cw_reg ?_
      refine el_pv (v := u4) (pv_move rfl) (by decide) ?_
      refine el_pv (v := .int .i64 r112) (pv_move rfl) (by decide) ?_
      replace hF := ob hF
      obtain ⟨r120, hr120, hF⟩ := hF
      refine el_call goes12 (laws_szRationalS_ok (hS.up ha4) hr120) (congrArg List.toArray (mapc rfl (mapc rfl rfl))) (by decide) ?_
      rintro _ w121 ⟨rfl, hx122⟩
      refine ⟨_, rfl, ?_⟩
      replace hS := hS.ext hx122
      refine el_pv (v := .int .i64 r120) (pv_assign rfl) (by decide) ?_
      refine el_nil ?_
      refine hQ119 _ _ _ ?_
      refine thn_n ?_
      refine cw_seq ?_
      refine cw_gen ?_
      intro Q123 hQ123
      refine cw_seq ?_
      refine cw_gen ?_
      intro Q124 hQ124
      refine cw_reg ?_
      refine el_pv (v := .int .i64 r120) (pv_move rfl) (by decide) ?_
      refine el_pv (v := .bool (decide (r120 < 0))) (pv_lss rfl rfl) (by decide) ?_
      refine el_nil ?_
      refine hQ124 _ _ _ ?_
      refine thn_n ?_
      replace hF := oif hF
      rcases hF with ⟨hb125, hF⟩ | ⟨hb125, hF⟩
      · refine cw_cond_t rfl hb125 ?_
        refine cw_seq ?_
        refine cw_gen ?_
        intro Q126 hQ126
        replace hS : Sat w0 w121 [] := hS.rems 1 [0] rfl
        refine cw_reg ?_
        refine el_pv (v := .bool true) (pv_assign rfl) (by decide) ?_
        refine el_nil ?_
        refine hQ126 _ _ _ ?_
        refine thn_n ?_
        refine cw_ret ?_
        refine hQ123 _ _ _ ?_
        refine thn_r ?_
        refine fin1 rfl rfl ?_
        have hr := Option.some.inj hF
        exact ⟨congrArg (fun (r : Bool) => Ending.returned (.bool r)) hr, hS.below⟩
      · refine cw_cond_f rfl hb125 ?_
        refine cw_skip ?_
        refine hQ123 _ _ _ ?_
        refine thn_n ?_
        refine cw_seq ?_
        refine cw_gen ?_
        intro Q127 hQ127
        refine cw_reg ?_
        refine el_pv (v := .agg #[.int .i64 a0, u1, u2]) (pv_loada (cs := [.int .i64 a0, u1, u2]) rfl rfl (boxc0 (hS.boxAt 0 rfl))) (by decide) ?_
        replace hF := ob hF
        obtain ⟨r128, hr128, hF⟩ := hF
        refine el_call goes9 (laws_toQuery_ok (hS.up ha1) (hS.up ha2) hr128) (congrArg List.toArray (mapc rfl rfl)) (by decide) ?_
        rintro _ w133 ⟨v129, v130, rfl, hS'⟩
        refine ⟨_, rfl, ?_⟩
        have hx134 := hS'.below
        replace hS := hS.call2 hS'
        refine el_pv (v := u3) (pv_move rfl) (by decide) ?_
        replace hF := ob hF
        obtain ⟨r135, hr135, hF⟩ := hF
        refine el_call goes14 (laws_toIntS_ok (hS.up ha3) hr135) (congrArg List.toArray (mapc rfl rfl)) (by decide) ?_
        rintro _ w138 ⟨v136, rfl, hS'⟩
        refine ⟨_, rfl, ?_⟩
        have hx139 := hS'.below
        replace hS := hS.call1 hS'
        refine el_pv (v := u4) (pv_move rfl) (by decide) ?_
        replace hF := ob hF
        obtain ⟨r140, hr140, hF⟩ := hF
        refine el_call goes15 (laws_toRationalS_ok (hS.up ha4) hr140) (congrArg List.toArray (mapc rfl rfl)) (by decide) ?_
        rintro _ w143 ⟨v141, rfl, hS'⟩
        refine ⟨_, rfl, ?_⟩
        have hx144 := hS'.below
        replace hS := hS.call1 hS'
        refine el_pv (v := .int .i64 a5) (pv_move rfl) (by decide) ?_
        replace hF := ob hF
        obtain ⟨r145, hr145, hF⟩ := hF
        refine el_call goes13 (spec_IsWithinSeekBound_ok (hS.rdAt (R := (sliceR (pairR strR (sliceR intR 3)) 96)) 2 rfl) (hS.rdAt (R := (sliceR intR 3)) 3 rfl) (hS.rdAt (R := (sliceR intR 3)) 1 rfl) (hS.rdAt (R := (sliceR (pairR intR intR) 83)) 0 rfl) hr145) (congrArg List.toArray (mapc rfl (mapc rfl (mapc rfl (mapc rfl rfl))))) (by decide) ?_
        rintro _ w146 ⟨rfl, hx147⟩
        refine ⟨_, rfl, ?_⟩
        replace hS := hS.ext hx147
        refine el_pv (v := .bool r145) (pv_assign rfl) (by decide) ?_
        refine el_nil ?_
        refine hQ127 _ _ _ ?_
        refine thn_n ?_
        refine cw_seq ?_
        refine cw_gen ?_
        intro Q148 hQ148
        replace hS : Sat w0 w146 [Box b103 25 [.int .i64 a0, u1, u2]] := hS.rems 5 [0, 1, 2, 3] rfl
        refine cw_reg ?_
        refine el_pv (v := .agg #[.int .i64 a0, u1, u2]) (pv_loada (cs := [.int .i64 a0, u1, u2]) rfl rfl (boxc0 (hS.boxAt 0 rfl))) (by decide) ?_
        replace hF := ob hF
        obtain ⟨r149, hr149, hF⟩ := hF
        refine el_call goes9 (laws_toQuery_ok (hS.up ha1) (hS.up ha2) hr149) (congrArg List.toArray (mapc rfl rfl)) (by decide) ?_
        rintro _ w154 ⟨v150, v151, rfl, hS'⟩
        refine ⟨_, rfl, ?_⟩
        have hx155 := hS'.below
        replace hS := hS.call2 hS'
        refine el_alloc hS (by decide) ?_
        intro w156 b157 hS hx158
        refine el_storev (hS.top 0 rfl) rfl [.int .i64 r149.1, v150, v151] rfl rfl (of_decide_eq_true rfl) (all_cons rfl (all_cons (oc (hS.rdAt (R := (sliceR (pairR strR (sliceR intR 3)) 96)) 1 rfl)) (all_cons (oc (hS.rdAt (R := (sliceR intR 3)) 2 rfl)) rfl))) ?_
        intro w160 hS
        replace hS : Sat w0 w160 [Box b157 30 [.int .i64 r149.1, v150, v151], Own (sliceR (pairR strR (sliceR intR 3)) 96) [v150] r149.2.1, Own (sliceR intR 3) [v151] r149.2.2, Box b103 25 [.int .i64 a0, u1, u2]] := hS
        refine el_nil ?_
        refine hQ148 _ _ _ ?_
        refine thn_n ?_
        refine cw_seq ?_
        refine cw_gen ?_
        intro Q161 hQ161
        refine cw_reg ?_
        refine el_pv (v := u3) (pv_move rfl) (by decide) ?_
        replace hF := ob hF
        obtain ⟨r162, hr162, hF⟩ := hF
        refine el_call goes14 (laws_toIntS_ok (hS.up ha3) hr162) (congrArg List.toArray (mapc rfl rfl)) (by decide) ?_
        rintro _ w165 ⟨v163, rfl, hS'⟩
        refine ⟨_, rfl, ?_⟩
        have hx166 := hS'.below
        replace hS := hS.call1 hS'
        refine el_pv (v := v163) (pv_assign rfl) (by decide) ?_
        refine el_nil ?_
        refine hQ161 _ _ _ ?_
        refine thn_n ?_
        refine cw_seq ?_
        refine cw_gen ?_
        intro Q167 hQ167
        refine cw_reg ?_
        refine el_pv (v := u4) (pv_move rfl) (by decide) ?_
        replace hF := ob hF
        obtain ⟨r168, hr168, hF⟩ := hF
        refine el_call goes15 (laws_toRationalS_ok (hS.up ha4) hr168) (congrArg List.toArray (mapc rfl rfl)) (by decide) ?_
        rintro _ w171 ⟨v169, rfl, hS'⟩
        refine ⟨_, rfl, ?_⟩
        have hx172 := hS'.below
        replace hS := hS.call1 hS'
        refine el_pv (v := v169) (pv_assign rfl) (by decide) ?_
        refine el_nil ?_
        refine hQ167 _ _ _ ?_
        refine thn_n ?_
        refine cw_seq ?_
        refine cw_gen ?_
        intro Q173 hQ173
        refine cw_reg ?_
        refine el_pv (v := .agg #[.int .i64 r149.1, v150, v151]) (pv_loada (cs := [.int .i64 r149.1, v150, v151]) rfl rfl (boxc0 (hS.boxAt 2 rfl))) (by decide) ?_
        refine el_pv (v := v163) (pv_move rfl) (by decide) ?_
        refine el_pv (v := v169) (pv_move rfl) (by decide) ?_
        refine el_pv (v := .int .i64 a5) (pv_move rfl) (by decide) ?_
        replace hF := ob hF
        obtain ⟨r174, hr174, hF⟩ := hF
        refine el_call goes16 (impl_IsWithinSeekBound_ok (hS.rdAt (R := (sliceR (pairR strR (sliceR intR 3)) 96)) 3 rfl) (hS.rdAt (R := (sliceR intR 3)) 4 rfl) (hS.rdAt (R := (sliceR intR 3)) 1 rfl) (hS.rdAt (R := (sliceR (pairR intR intR) 83)) 0 rfl) hr174) (congrArg List.toArray (mapc rfl (mapc rfl (mapc rfl (mapc rfl rfl))))) (by decide) ?_
        rintro _ w175 ⟨rfl, hx176⟩
        refine ⟨_, rfl, ?_⟩
        replace hS := hS.ext hx176
        refine el_pv (v := .bool r174) (pv_assign rfl) (by decide) ?_
        refine el_nil ?_
        refine hQ173 _ _ _ ?_
        refine thn_n ?_
        refine cw_seq ?_
        refine cw_gen ?_
        intro Q177 hQ177
        refine cw_seq ?_
        refine cw_gen ?_
        intro Q178 hQ178
        refine cw_reg ?_
        refine el_pv (v := .bool r174) (pv_move rfl) (by decide) ?_
        refine el_pv (v := .bool r145) (pv_move rfl) (by decide) ?_
        refine el_pv (v := .bool (r174 != r145)) (pv_neqB Try.underlying4 rfl rfl) (by decide) ?_
        refine el_nil ?_
        refine hQ178 _ _ _ ?_
        refine thn_n ?_
        replace hF := oif hF
        rcases hF with ⟨hb179, hF⟩ | ⟨hb179, hF⟩
        · refine cw_cond_t rfl hb179 ?_
          refine cw_seq ?_
          refine cw_gen ?_
          intro Q180 hQ180
          replace hS : Sat w0 w175 [] := hS.rems 6 [0, 1, 2, 3, 4, 5] rfl
          refine cw_reg ?_
          refine el_pv (v := .bool false) (pv_assign rfl) (by decide) ?_
          refine el_nil ?_
          refine hQ180 _ _ _ ?_
          refine thn_n ?_
          refine cw_ret ?_
          refine hQ177 _ _ _ ?_
          refine thn_r ?_
          refine fin1 rfl rfl ?_
          have hr := Option.some.inj hF
          exact ⟨congrArg (fun (r : Bool) => Ending.returned (.bool r)) hr, hS.below⟩
        · refine cw_cond_f rfl hb179 ?_
          refine cw_skip ?_
          refine hQ177 _ _ _ ?_
          refine thn_n ?_
          refine cw_seq ?_
          refine cw_gen ?_
          intro Q181 hQ181
          refine cw_seq ?_
          refine cw_gen ?_
          intro Q182 hQ182
          obtain ⟨C, hCd⟩ : ∃ C : World → Prop, ∀ w, C w ↔ ∃ G, Sat w0 w ([Box b157 30 [.int .i64 r149.1, v150, v151], Box b103 25 [.int .i64 a0, u1, u2], Own (sliceR (pairR strR (sliceR intR 3)) 96) [v150] r149.2.1, Own (sliceR intR 3) [v151] r149.2.2] ++ G) := ⟨_, fun _ => Iff.rfl⟩
          refine cw_regb [0, 1, 2, 3, 4] C (by kernel_rfl) ?_
          intro w183 hx184
          replace hS := hS.ext hx184
          replace hS : Sat w0 w183 [Box b157 30 [.int .i64 r149.1, v150, v151], Box b103 25 [.int .i64 a0, u1, u2], Own (sliceR (pairR strR (sliceR intR 3)) 96) [v150] r149.2.1, Own (sliceR intR 3) [v151] r149.2.2, Own (sliceR (pairR intR intR) 83) [v169] r168, Own (sliceR intR 3) [v163] r162] := hS.tops 6 [2, 5, 3, 4] rfl
          have hC := (hCd _).2 ⟨_, hS⟩
          refine al_p (v := .agg #[.int .i64 r149.1, v150, v151]) (by kernel_rfl) 0 rfl rfl (by decide) hC (by kernel_rfl) (by kernel_rfl) (sv_on rfl (fun w' hw' => by obtain ⟨_, hS⟩ := (hCd _).1 hw'; exact (pv_loada (cs := [.int .i64 r149.1, v150, v151]) rfl rfl (boxc0 (hS.boxAt 0 rfl))))) ?_
          refine al_one 1 (by kernel_rfl) rfl ?_
          refine el_pv (v := .agg #[.int .i64 a0, u1, u2]) (pv_loada (cs := [.int .i64 a0, u1, u2]) rfl rfl (boxc0 (hS.boxAt 1 rfl))) (by decide) ?_
          refine el_nil ?_
          refine ⟨fun _ => hC, ?_⟩
          refine al_one 2 (by kernel_rfl) rfl ?_
          replace hF := ob hF
          obtain ⟨r185, hr185, hF⟩ := hF
          refine el_call goes9 (laws_toQuery_ok (hS.up ha1) (hS.up ha2) hr185) (congrArg List.toArray (mapc rfl rfl)) (by decide) ?_
          rintro _ w190 ⟨v186, v187, rfl, hS'⟩
          refine ⟨_, rfl, ?_⟩
          have hx191 := hS'.below
          replace hS := hS.call2 hS'
          refine el_nil ?_
          replace hS : Sat w0 w190 [Box b157 30 [.int .i64 r149.1, v150, v151], Box b103 25 [.int .i64 a0, u1, u2], Own (sliceR (pairR strR (sliceR intR 3)) 96) [v150] r149.2.1, Own (sliceR intR 3) [v151] r149.2.2, Own (sliceR (pairR strR (sliceR intR 3)) 96) [v186] r185.2.1, Own (sliceR intR 3) [v187] r185.2.2, Own (sliceR (pairR intR intR) 83) [v169] r168, Own (sliceR intR 3) [v163] r162] := hS.tops 8 [2, 3, 4, 5] rfl
          have hC := (hCd _).2 ⟨_, hS⟩
          refine ⟨fun _ => hC, ?_⟩
          refine al_one 3 (by kernel_rfl) rfl ?_
          replace hF := ob hF
          obtain ⟨r192, hr192, hF⟩ := hF
          refine el_call goes11 (laws_eqQuery_ok (hS.rdAt (R := (sliceR (pairR strR (sliceR intR 3)) 96)) 2 rfl) (hS.rdAt (R := (sliceR intR 3)) 3 rfl) (hS.rdAt (R := (sliceR (pairR strR (sliceR intR 3)) 96)) 4 rfl) (hS.rdAt (R := (sliceR intR 3)) 5 rfl) hr192) (congrArg List.toArray (mapc rfl (mapc rfl rfl))) (by decide) ?_
          rintro _ w193 ⟨rfl, hx194⟩
          refine ⟨_, rfl, ?_⟩
          replace hS := hS.ext hx194
          refine el_nil ?_
          have hC := (hCd _).2 ⟨_, hS⟩
          refine ⟨fun _ => hC, ?_⟩
          refine al_one 4 (by kernel_rfl) rfl ?_
          refine el_pv (v := .bool (!r192)) (pv_not rfl) (by decide) ?_
          refine el_nil ?_
          refine ⟨fun _ => hC, ?_⟩
          refine al_nil (by kernel_rfl) ?_
          refine hQ182 _ _ _ ?_
          refine thn_n ?_
          replace hF := oif hF
          rcases hF with ⟨hb195, hF⟩ | ⟨hb195, hF⟩
          · refine cw_cond_f rfl (bnot_t hb195) ?_
            refine cw_skip ?_
            refine hQ181 _ _ _ ?_
            refine thn_n ?_
            refine cw_seq ?_
            refine cw_gen ?_
            intro Q196 hQ196
            refine cw_seq ?_
            refine cw_gen ?_
            intro Q197 hQ197
            replace hS : Sat w0 w193 [Own (sliceR (pairR intR intR) 83) [v169] r168, Own (sliceR intR 3) [v163] r162] := hS.rems 8 [0, 1, 2, 3, 4, 5] rfl
            refine cw_reg ?_
            refine el_pv (v := v163) (pv_move rfl) (by decide) ?_
            refine el_pv (v := u3) (pv_move rfl) (by decide) ?_
            replace hF := ob hF
            obtain ⟨r198, hr198, hF⟩ := hF
            refine el_call goes14 (laws_toIntS_ok (hS.up ha3) hr198) (congrArg List.toArray (mapc rfl rfl)) (by decide) ?_
            rintro _ w201 ⟨v199, rfl, hS'⟩
            refine ⟨_, rfl, ?_⟩
            have hx202 := hS'.below
            replace hS := hS.call1 hS'
            replace hF := ob hF
            obtain ⟨r203, hr203, hF⟩ := hF
            refine el_call goes17 (laws_eqIntS_ok (hS.rdAt (R := (sliceR intR 3)) 2 rfl) (hS.rdAt (R := (sliceR intR 3)) 0 rfl) hr203) (congrArg List.toArray (mapc rfl (mapc rfl rfl))) (by decide) ?_
            rintro _ w204 ⟨rfl, hx205⟩
            refine ⟨_, rfl, ?_⟩
            replace hS := hS.ext hx205
            refine el_pv (v := .bool (!r203)) (pv_not rfl) (by decide) ?_
            refine el_nil ?_
            refine hQ197 _ _ _ ?_
            refine thn_n ?_
            replace hF := oif hF
            rcases hF with ⟨hb206, hF⟩ | ⟨hb206, hF⟩
            · refine cw_cond_f rfl (bnot_t hb206) ?_
              refine cw_skip ?_
              refine hQ196 _ _ _ ?_
              refine thn_n ?_
              refine cw_seq ?_
              refine cw_gen ?_
              intro Q207 hQ207
              refine cw_seq ?_
              refine cw_gen ?_
              intro Q208 hQ208
              replace hS : Sat w0 w204 [Own (sliceR (pairR intR intR) 83) [v169] r168] := hS.rems 3 [0, 2] rfl
              refine cw_reg ?_
              refine el_pv (v := v169) (pv_move rfl) (by decide) ?_
              refine el_pv (v := u4) (pv_move rfl) (by decide) ?_
              replace hF := ob hF
              obtain ⟨r209, hr209, hF⟩ := hF
              refine el_call goes15 (laws_toRationalS_ok (hS.up ha4) hr209) (congrArg List.toArray (mapc rfl rfl)) (by decide) ?_
              rintro _ w212 ⟨v210, rfl, hS'⟩
              refine ⟨_, rfl, ?_⟩
              have hx213 := hS'.below
              replace hS := hS.call1 hS'
              replace hF := ob hF
              obtain ⟨r214, hr214, hF⟩ := hF
              refine el_call goes18 (laws_eqRationalS_ok (hS.rdAt (R := (sliceR (pairR intR intR) 83)) 1 rfl) (hS.rdAt (R := (sliceR (pairR intR intR) 83)) 0 rfl) hr214) (congrArg List.toArray (mapc rfl (mapc rfl rfl))) (by decide) ?_
              rintro _ w215 ⟨rfl, hx216⟩
              refine ⟨_, rfl, ?_⟩
              replace hS := hS.ext hx216
              refine el_pv (v := .bool (!r214)) (pv_not rfl) (by decide) ?_
              refine el_nil ?_
              refine hQ208 _ _ _ ?_
              refine thn_n ?_
              replace hF := oif hF
              rcases hF with ⟨hb217, hF⟩ | ⟨hb217, hF⟩
              · refine cw_cond_f rfl (bnot_t hb217) ?_
                refine cw_skip ?_
                refine hQ207 _ _ _ ?_
                refine thn_n ?_
                refine cw_seq ?_
                refine cw_gen ?_
                intro Q218 hQ218
                replace hS : Sat w0 w215 [] := hS.rems 2 [0, 1] rfl
                refine cw_reg ?_
                refine el_pv (v := .bool true) (pv_assign rfl) (by decide) ?_
                refine el_nil ?_
                refine hQ218 _ _ _ ?_
                refine thn_n ?_
                refine cw_ret ?_
                refine fin1 rfl rfl ?_
                have hr := Option.some.inj hF
                exact ⟨congrArg (fun (r : Bool) => Ending.returned (.bool r)) hr, hS.below⟩
              · refine cw_cond_t rfl (bnot_f hb217) ?_
                refine cw_seq ?_
                refine cw_gen ?_
                intro Q219 hQ219
                replace hS : Sat w0 w215 [] := hS.rems 2 [0, 1] rfl
                refine cw_reg ?_
                refine el_pv (v := .bool false) (pv_assign rfl) (by decide) ?_
                refine el_nil ?_
                refine hQ219 _ _ _ ?_
                refine thn_n ?_
                refine cw_ret ?_
                refine hQ207 _ _ _ ?_
                refine thn_r ?_
                refine fin1 rfl rfl ?_
                have hr := Option.some.inj hF
                exact ⟨congrArg (fun (r : Bool) => Ending.returned (.bool r)) hr, hS.below⟩
            · refine cw_cond_t rfl (bnot_f hb206) ?_
              refine cw_seq ?_
              refine cw_gen ?_
              intro Q220 hQ220
              replace hS : Sat w0 w204 [] := hS.rems 3 [0, 1, 2] rfl
              refine cw_reg ?_
              refine el_pv (v := .bool false) (pv_assign rfl) (by decide) ?_
              refine el_nil ?_
              refine hQ220 _ _ _ ?_
              refine thn_n ?_
              refine cw_ret ?_
              refine hQ196 _ _ _ ?_
              refine thn_r ?_
              refine fin1 rfl rfl ?_
              have hr := Option.some.inj hF
              exact ⟨congrArg (fun (r : Bool) => Ending.returned (.bool r)) hr, hS.below⟩
          · refine cw_cond_t rfl (bnot_f hb195) ?_
            refine cw_seq ?_
            refine cw_gen ?_
            intro Q221 hQ221
            replace hS : Sat w0 w193 [] := hS.rems 8 [0, 1, 2, 3, 4, 5, 6, 7] rfl
            refine cw_reg ?_
            refine el_pv (v := .bool false) (pv_assign rfl) (by decide) ?_
            refine el_nil ?_
            refine hQ221 _ _ _ ?_
            refine thn_n ?_
            refine cw_ret ?_
            refine hQ181 _ _ _ ?_
            refine thn_r ?_
            refine fin1 rfl rfl ?_
            have hr := Option.some.inj hF
            exact ⟨congrArg (fun (r : Bool) => Ending.returned (.bool r)) hr, hS.below⟩
set_option maxHeartbeats 4000000 in
theorem laws_szIntSS_ok {w0 : World} {u0 : Value} {a0 : List (List Int)} {a1 : Int} (ha0 : (sliceR (sliceR intR 3) 23).rd w0 [u0] a0) {N : Nat} {r : Int} (hF : laws_szIntSS N a0 a1 = some r) :
    Calls Try.prog 144 #[u0, .int .i64 a1] w0 fun e w' => e = .returned (.int .i64 r) ∧ Ext w0 w' := by
  unfold laws_szIntSS at hF
  refine calls_E Try.func144 rfl rfl (of_decide_eq_true rfl) ?_
  have hS := Sat.start w0
  refine cw_seq ?_
  refine cw_gen ?_
  intro Q101 hQ101
  refine cw_reg ?_
  refine el_pv (v := .int .i64 0) (pv_assign rfl) (by decide) ?_
  refine el_nil ?_
  refine hQ101 _ _ _ ?_
  refine thn_n ?_
  refine cw_seq ?_
  refine cw_gen ?_
  intro Q102 hQ102
  refine cw_reg ?_
  refine el_pv (v := .int .i64 a1) (pv_move rfl) (by decide) ?_
  refine el_pv (v := u0) (pv_move rfl) (by decide) ?_
  refine el_pv (v := .int .i64 (a0.length : Int)) (pv_len rfl ha0) (by decide) ?_
  replace hF := ob hF
  obtain ⟨x103, hx103, hF⟩ := hF
  refine el_pv (v := .int .i64 x103) (pv_sub rfl rfl hx103) (by decide) ?_
  refine el_pv (v := .int .i64 x103) (pv_assign rfl) (by decide) ?_
  refine el_nil ?_
  refine hQ102 _ _ _ ?_
  refine thn_n ?_
  refine cw_seq ?_
  refine cw_gen ?_
  intro Q104 hQ104
  refine cw_seq ?_
  refine cw_gen ?_
  intro Q105 hQ105
  refine cw_reg ?_
  refine el_pv (v := .int .i64 x103) (pv_move rfl) (by decide) ?_
  refine el_pv (v := .bool (decide (x103 < 0))) (pv_lss rfl rfl) (by decide) ?_
  refine el_nil ?_
  refine hQ105 _ _ _ ?_
  refine thn_n ?_
  replace hF := oif hF
  rcases hF with ⟨hb106, hF⟩ | ⟨hb106, hF⟩
  · refine cw_cond_t rfl hb106 ?_
    refine cw_seq ?_
    refine cw_gen ?_
    intro Q107 hQ107
    refine cw_reg ?_
    refine el_pv (v := .int .i64 (-1)) (pv_assign rfl) (by decide) ?_
    refine el_nil ?_
    refine hQ107 _ _ _ ?_
    refine thn_n ?_
    refine cw_ret ?_
    refine hQ104 _ _ _ ?_
    refine thn_r ?_
    refine fin1 rfl rfl ?_
    have hr := Option.some.inj hF
    exact ⟨congrArg (fun (r : Int) => Ending.returned (.int .i64 r)) hr, hS.below⟩
  · refine cw_cond_f rfl hb106 ?_
    refine cw_skip ?_
    refine hQ104 _ _ _ ?_
    refine thn_n ?_
    refine cw_seq ?_
    refine cw_gen ?_
    intro Q108 hQ108
    refine cw_seq ?_
    refine cw_gen ?_
    intro Q109 hQ109
    refine cw_reg ?_
    refine el_pv (v := .int .i64 0) (pv_assign rfl) (by decide) ?_
    refine el_nil ?_
    refine hQ109 _ _ _ ?_
    refine thn_n ?_
    refine cw_block ?_
    refine cw_gen ?_
    intro Q110 hQ110
    obtain ⟨s111, hL, hK112⟩ := ob hF
    refine cw_loopS (fun k e w => ∃ (x113 : Int), ∃ (x114 : Int), e 0 = u0 ∧ e 1 = .int .i64 x113 ∧ e 5 = .int .i64 x114 ∧ Sat w0 w [] ∧ laws_szIntSS_L1 N k a0 x113 x114 = some s111) N ?_ ?_ ?_
    · exact ⟨x103, 0, rfl, rfl, rfl, hS, hL⟩
    · rintro e w ⟨_, _, _, _, _, _, hz⟩; exact nomatch (show none = some _ from hz)
    · rintro k e119 w118 ⟨x113, x114, he115, he116, he117, hS, hF⟩
      refine cw_gen ?_
      intro Q120 hQ120
      refine cw_seq ?_
      refine cw_gen ?_
      intro Q121 hQ121
      refine cw_seq ?_
      refine cw_gen ?_
      intro Q122 hQ122
      refine cw_reg ?_
      refine el_pv (v := .int .i64 x114) (pv_move he117) (by decide) ?_
      refine el_pv (v := u0) (pv_move he115) (by decide) ?_
      refine el_pv (v := .int .i64 (a0.length : Int)) (pv_len rfl ha0) (by decide) ?_
      refine el_pv (v := .bool (decide (x114 < (a0.length : Int)))) (pv_lss rfl rfl) (by decide) ?_
      refine el_nil ?_
      refine hQ122 _ _ _ ?_
      refine thn_n ?_
      replace hF := oif hF
      rcases hF with ⟨hb123, hF⟩ | ⟨hb123, hF⟩
      · refine cw_cond_t rfl hb123 ?_
        refine cw_skip ?_
        refine hQ121 _ _ _ ?_
        refine thn_n ?_
        refine cw_seq ?_
        refine cw_gen ?_
        intro Q124 hQ124
        refine cw_block ?_
        refine cw_gen ?_
        intro Q125 hQ125
        refine cw_seq ?_
        refine cw_gen ?_
        intro Q126 hQ126
        refine cw_reg ?_
        refine el_pv (v := u0) (pv_move he115) (by decide) ?_
        refine el_pv (v := .int .i64 x114) (pv_move he117) (by decide) ?_
        replace hF := ob hF
        obtain ⟨x127, hx127, hF⟩ := hF
        refine el_index (wA := w0) rfl ha0 rfl (by decide) rfl hx127 (by decide) ?_
        intro b128 of129 c130 hr131 hm132
        obtain ⟨v133, rfl⟩ := slice_one hr131
        refine el_pv (v := v133) (pv_loadc rfl ((cells_up hS.below hm132) 0 _ rfl)) (by decide) ?_
        refine el_pv (v := .int .i64 x113) (pv_move he116) (by decide) ?_
        replace hF := ob hF
        obtain ⟨r134, hr134, hF⟩ := hF
        refine el_call goes36 (laws_szIntS_ok (hS.up hr131) hr134) (congrArg List.toArray (mapc rfl (mapc rfl rfl))) (by decide) ?_
        rintro _ w135 ⟨rfl, hx136⟩
        refine ⟨_, rfl, ?_⟩
        replace hS := hS.ext hx136
        refine el_pv (v := .int .i64 r134) (pv_assign rfl) (by decide) ?_
        refine el_nil ?_
        refine hQ126 _ _ _ ?_
        refine thn_n ?_
        refine cw_seq ?_
        refine cw_gen ?_
        intro Q137 hQ137
        refine cw_reg ?_
        refine el_pv (v := .int .i64 r134) (pv_move rfl) (by decide) ?_
        refine el_pv (v := .bool (decide (r134 < 0))) (pv_lss rfl rfl) (by decide) ?_
        refine el_nil ?_
        refine hQ137 _ _ _ ?_
        refine thn_n ?_
        replace hF := oif hF
        rcases hF with ⟨hb138, hF⟩ | ⟨hb138, hF⟩
        · refine cw_cond_t rfl hb138 ?_
          refine cw_seq ?_
          refine cw_gen ?_
          intro Q139 hQ139
          refine cw_reg ?_
          refine el_pv (v := .int .i64 (-1)) (pv_assign rfl) (by decide) ?_
          refine el_nil ?_
          refine hQ139 _ _ _ ?_
          refine thn_n ?_
          refine cw_ret ?_
          refine hQ125 _ _ _ ?_
          refine inb_r ?_
          refine hQ124 _ _ _ ?_
          refine thn_r ?_
          refine hQ120 _ _ _ ?_
          refine thn_r ?_
          refine hQ110 _ _ _ ?_
          refine inb_r ?_
          refine hQ108 _ _ _ ?_
          refine thn_r ?_
          replace hF := exL hF hK112
          refine fin1 rfl rfl ?_
          have hr := Option.some.inj hF
          exact ⟨congrArg (fun (r : Int) => Ending.returned (.int .i64 r)) hr, hS.below⟩
        · refine cw_cond_f rfl hb138 ?_
          refine cw_skip ?_
          refine hQ125 _ _ _ ?_
          refine inb_n ?_
          refine hQ124 _ _ _ ?_
          refine thn_n ?_
          refine cw_reg ?_
          refine el_pv (v := .int .i64 x114) (pv_move he117) (by decide) ?_
          replace hF := ob hF
          obtain ⟨x140, hx140, hF⟩ := hF
          refine el_pv (v := .int .i64 x140) (pv_add rfl rfl hx140) (by decide) ?_
          refine el_pv (v := .int .i64 x140) (pv_assign rfl) (by decide) ?_
          refine el_nil ?_
          refine hQ120 _ _ _ ?_
          refine thn_n ?_
          replace hS := hS.keep 0
          exact ⟨r134, x140, he115, rfl, rfl, hS, hF⟩
      · refine cw_cond_f rfl hb123 ?_
        refine cw_exit ?_
        refine hQ121 _ _ _ ?_
        refine thn_x ?_
        refine hQ120 _ _ _ ?_
        refine thn_x ?_
        replace hF := exA hF hK112
        refine hQ110 _ _ _ ?_
        refine inb_s ?_
        refine hQ108 _ _ _ ?_
        refine thn_n ?_
        refine cw_seq ?_
        refine cw_gen ?_
        intro Q141 hQ141
        refine cw_reg ?_
        refine el_pv (v := .int .i64 x113) (pv_move he116) (by decide) ?_
        refine el_pv (v := .int .i64 x113) (pv_assign rfl) (by decide) ?_
        refine el_nil ?_
        refine hQ141 _ _ _ ?_
        refine thn_n ?_
        refine cw_ret ?_
        refine fin1 rfl rfl ?_
        have hr := Option.some.inj hF
        exact ⟨congrArg (fun (r : Int) => Ending.returned (.int .i64 r)) hr, hS.below⟩
set_option maxHeartbeats 4000000 in
theorem laws_szRelation_ok {w0 : World} {a0 : Int} {u1 : Value} {a1 : List (List Int)} {a2 : Int} (ha1 : (sliceR (sliceR intR 3) 23).rd w0 [u1] a1) {N : Nat} {r : Int} (hF : laws_szRelation N a0 a1 a2 = some r) :
    Calls Try.prog 131 #[.agg #[.int .i64 a0, u1], .int .i64 a2] w0 fun e w' => e = .returned (.int .i64 r) ∧ Ext w0 w' := by
  unfold laws_szRelation at hF
  refine calls_E Try.func131 rfl rfl (of_decide_eq_true rfl) ?_
  have hS := Sat.start w0
  refine cw_seq ?_
  refine cw_gen ?_
  intro Q101 hQ101
  refine cw_reg ?_
  refine el_box [.int .i64 a0, u1] rfl hS (by decide) ?_
  intro w102 b103 hS hx104
  refine el_pv (v := .int .i64 0) (pv_assign rfl) (by decide) ?_
  refine el_nil ?_
  refine hQ101 _ _ _ ?_
  refine thn_n ?_
  refine cw_seq ?_
  refine cw_gen ?_
  intro Q106 hQ106
  refine cw_reg ?_
  refine el_pv (v := .pointer (some ⟨b103, 0 + 1, none⟩)) (pv_fieldAddr rfl) (by decide) ?_
  refine el_pv (v := u1) (pv_loadc rfl ((hS.boxAt 0 rfl) 1 _ rfl)) (by decide) ?_
  refine el_pv (v := .int .i64 a2) (pv_move rfl) (by decide) ?_
  replace hF := ob hF
  obtain ⟨r107, hr107, hF⟩ := hF
  refine el_call goes144 (laws_szIntSS_ok (hS.up ha1) hr107) (congrArg List.toArray (mapc rfl (mapc rfl rfl))) (by decide) ?_
  rintro _ w108 ⟨rfl, hx109⟩
  refine ⟨_, rfl, ?_⟩
  replace hS := hS.ext hx109
  refine el_pv (v := .int .i64 r107) (pv_assign rfl) (by decide) ?_
  refine el_nil ?_
  refine hQ106 _ _ _ ?_
  refine thn_n ?_
  refine cw_seq ?_
  refine cw_gen ?_
  intro Q110 hQ110
  refine cw_seq ?_
  refine cw_gen ?_
  intro Q111 hQ111
  replace hS : Sat w0 w108 [] := hS.rems 1 [0] rfl
  refine cw_reg ?_
  refine el_pv (v := .int .i64 r107) (pv_move rfl) (by decide) ?_
  refine el_pv (v := .bool (decide (r107 < 0))) (pv_lss rfl rfl) (by decide) ?_
  refine el_nil ?_
  refine hQ111 _ _ _ ?_
  refine thn_n ?_
  replace hF := oif hF
  rcases hF with ⟨hb112, hF⟩ | ⟨hb112, hF⟩
  · refine cw_cond_t rfl hb112 ?_
    refine cw_seq ?_
    refine cw_gen ?_
    intro Q113 hQ113
    refine cw_reg ?_
    refine el_pv (v := .int .i64 (-1)) (pv_assign rfl) (by decide) ?_
    refine el_nil ?_
    refine hQ113 _ _ _ ?_
    refine thn_n ?_
    refine cw_ret ?_
    refine hQ110 _ _ _ ?_
    refine thn_r ?_
    refine fin1 rfl rfl ?_
    have hr := Option.some.inj hF
    exact ⟨congrArg (fun (r : Int) => Ending.returned (.int .i64 r)) hr, hS.below⟩
  · refine cw_cond_f rfl hb112 ?_
    refine cw_skip ?_
    refine hQ110 _ _ _ ?_
    refine thn_n ?_
    refine cw_seq ?_
    refine cw_gen ?_
    intro Q114 hQ114
    refine cw_reg ?_
    refine el_pv (v := .int .i64 r107) (pv_move rfl) (by decide) ?_
    refine el_pv (v := .int .i64 r107) (pv_assign rfl) (by decide) ?_
    refine el_nil ?_
    refine hQ114 _ _ _ ?_
    refine thn_n ?_
    refine cw_ret ?_
    refine fin1 rfl rfl ?_
    have hr := Option.some.inj hF
    exact ⟨congrArg (fun (r : Int) => Ending.returned (.int .i64 r)) hr, hS.below⟩
end Go.Proofs.Ytkpeabpdiffjhaa
