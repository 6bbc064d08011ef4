/- The walks through functions of the program: each hands back what it comes to. No condition but that it comes to something. -/
import Derived.Test.YtdingjlefilafaaW1
import Derived.Test.YtdingjlefilafaaW2D
namespace Go.Proofs.Ytdingjlefilafaa
open Go.RowKit
set_option maxRecDepth 100000
set_option maxHeartbeats 4000000 in
theorem impl_copyInts_ok {w0 : World} {u0 : Value} {a0 : List Int} (ha0 : (sliceR intR 3).rd w0 [u0] a0) {N : Nat} {r : (List Int)} (hF : impl_copyInts N a0 = some r) :
    Calls Try.prog 84 #[u0] w0 fun e w' => ∃ (q0 : Value), e = .returned (q0) ∧ Sat w0 w' [Own (sliceR intR 3) [q0] r] := by
  unfold impl_copyInts at hF
  refine calls_E Try.func84 rfl rfl (of_decide_eq_true rfl) ?_
  have hS := Sat.start w0
  refine cw_seq ?_
  refine cw_gen ?_
  intro Q101 hQ101
  refine cw_reg ?_
  refine el_pv (v := (.slice none 0 0)) (pv_assign rfl) (by decide) ?_
  refine el_nil ?_
  refine hQ101 _ _ _ ?_
  refine thn_n ?_
  refine cw_seq ?_
  refine cw_gen ?_
  intro Q102 hQ102
  refine cw_reg ?_
  refine el_buildSlice0 intR hS (by decide) ?_
  intro w103 v105 hS hx104
  refine el_pv (v := u0) (pv_move rfl) (by decide) ?_
  replace hF := ob hF
  obtain ⟨x109, hx109, hF⟩ := hF
  obtain ⟨ao110, c111, hv112, hn113, hrow114⟩ := row_ints (hS.up ha0)
  replace hS := hS.ints (xs := a0)
  refine el_append rfl (by decide) rfl (by decide) hS rfl (rfl.trans hv112) rfl hn113 hrow114 hx109 (by decide) ?_
  intro w107 v108 hS
  refine el_pv (v := v108) (pv_assign rfl) (by decide) ?_
  refine el_nil ?_
  refine hQ102 _ _ _ ?_
  refine thn_n ?_
  refine cw_ret ?_
  refine fin1 rfl rfl ?_
  have hr := Option.some.inj hF
  exact ⟨v108, congrArg (fun (r : (List Int)) => Ending.returned (v108)) hr, Eq.mp (congrArg (fun (r : (List Int)) => Sat w0 w107 [Own (sliceR intR 3) [v108] r]) hr) (hS.keep 1)⟩
set_option maxHeartbeats 4000000 in
theorem impl_expand_ok' (N : Nat) : ∀ {w0 : World} {w00 : World} {G0 : List Asn} {u0 : Value} {a0 : List Int} {u1 : Value} {a1 : List (List Int × List Int)} {a2 : Int} {u3 : Value} {a3 : List Int} {u4 : Value} {a4 : List (List Int)} (_ : (sliceR intR 3).rd w00 [u0] a0) (_ : (sliceR (pairR (sliceR intR 3) (sliceR intR 3)) 84).rd w00 [u1] a1) (_ : Sat w00 w0 (Own (sliceR intR 3) [u3] a3 :: Own (sliceR (sliceR intR 3) 26) [u4] a4 :: G0)) {r : (List (List Int))} (_ : impl_expand N a0 a1 a2 a3 a4 = some r),
    Calls Try.prog 63 #[.agg #[u0, u1], .int .i64 a2, u3, u4] w0 fun e w' => ∃ (q0 : Value), e = .returned (q0) ∧ Sat w00 w' (Own (sliceR (sliceR intR 3) 26) [q0] r :: G0) := by
  induction N with
  | zero => intros; exact nomatch (show none = some _ by assumption)
  | succ N ih =>
    intro w0 w00 G0 u0 a0 u1 a1 a2 u3 a3 u4 a4 ha0 ha1 hS r hF
    refine calls_E Try.func63 rfl rfl (of_decide_eq_true rfl) ?_
    refine cw_seq ?_
    refine cw_gen ?_
    intro Q101 hQ101
    refine cw_reg ?_
    refine el_box [u0, u1] rfl hS (by decide) ?_
    intro w102 b103 hS hx104
    refine el_pv (v := (.slice none 0 0)) (pv_assign rfl) (by decide) ?_
    refine el_nil ?_
    refine hQ101 _ _ _ ?_
    refine thn_n ?_
    refine cw_seq ?_
    refine cw_gen ?_
    intro Q106 hQ106
    refine cw_seq ?_
    refine cw_gen ?_
    intro Q107 hQ107
    refine cw_reg ?_
    refine el_pv (v := .int .i64 a2) (pv_move rfl) (by decide) ?_
    refine el_pv (v := .bool (a2 == 0)) (pv_eql rfl rfl) (by decide) ?_
    refine el_nil ?_
    refine hQ107 _ _ _ ?_
    refine thn_n ?_
    replace hF := oif hF
    rcases hF with ⟨hb108, hF⟩ | ⟨hb108, hF⟩
    · refine cw_cond_t rfl hb108 ?_
      refine cw_seq ?_
      refine cw_gen ?_
      intro Q109 hQ109
      replace hS : Sat w00 w102 (Own (sliceR intR 3) [u3] a3 :: Own (sliceR (sliceR intR 3) 26) [u4] a4 :: G0) := hS.rems 3 [0] rfl
      refine cw_reg ?_
      refine el_pv (v := u4) (pv_move rfl) (by decide) ?_
      refine el_pv (v := u3) (pv_move rfl) (by decide) ?_
      replace hF := ob hF
      obtain ⟨r110, hr110, hF⟩ := hF
      refine el_call goes84 (impl_copyInts_ok (hS.rdAt (R := (sliceR intR 3)) 0 rfl) hr110) (congrArg List.toArray (mapc rfl rfl)) (by decide) ?_
      rintro _ w113 ⟨v111, rfl, hS'⟩
      refine ⟨_, rfl, ?_⟩
      have hx114 := hS'.below
      replace hS := hS.call1 hS'
      refine el_buildSlice1 [v111] (cells_of rfl (oc (hS.rdAt (R := (sliceR intR 3)) 0 rfl))) (by rfl) (by decide) rfl (by decide) hS (by decide) ?_
      intro w115 b117 hS hx116
      replace hF := ob hF
      obtain ⟨x121, hx121, hF⟩ := hF
      have hrow122 := hS.boxRow 0 rfl
      replace hS : Sat w00 w115 (Own (sliceR (sliceR intR 3) 26) [u4] a4 :: Box b117 26 [v111] :: Own (sliceR intR 3) [v111] r110 :: Own (sliceR intR 3) [u3] a3 :: G0) := hS.top 3 rfl
      replace hS : Sat w00 w115 (Own (sliceR intR 3) [v111] r110 :: Own (sliceR (sliceR intR 3) 26) [u4] a4 :: Box b117 26 [v111] :: Own (sliceR intR 3) [u3] a3 :: G0) := hS.top 2 rfl
      replace hS := hS.one
      refine el_append rfl (by decide) rfl (by decide) hS rfl rfl rfl (by simp) hrow122 hx121 (by decide) ?_
      intro w119 v120 hS
      refine el_pv (v := v120) (pv_assign rfl) (by decide) ?_
      refine el_nil ?_
      refine hQ109 _ _ _ ?_
      refine thn_n ?_
      refine cw_ret ?_
      refine hQ106 _ _ _ ?_
      refine thn_r ?_
      refine fin1 rfl rfl ?_
      have hr := Option.some.inj hF
      replace hS : Sat w00 w119 (Own (sliceR (sliceR intR 3) 26) [v120] x121 :: G0) := hS.rems 3 [1, 2] rfl
      exact ⟨v120, congrArg (fun (r : (List (List Int))) => Ending.returned (v120)) hr, Eq.mp (congrArg (fun (r : (List (List Int))) => Sat w00 w119 (Own (sliceR (sliceR intR 3) 26) [v120] r :: G0)) hr) hS⟩
    · refine cw_cond_f rfl hb108 ?_
      refine cw_skip ?_
      refine hQ106 _ _ _ ?_
      refine thn_n ?_
      refine cw_seq ?_
      refine cw_gen ?_
      intro Q124 hQ124
      refine cw_reg ?_
      refine el_pv (v := .pointer (some ⟨b103, 0 + 1, none⟩)) (pv_fieldAddr rfl) (by decide) ?_
      refine el_pv (v := u1) (pv_loadc rfl ((hS.boxAt 0 rfl) 1 _ rfl)) (by decide) ?_
      refine el_pv (v := .int .i64 a2) (pv_move rfl) (by decide) ?_
      replace hF := ob hF
      obtain ⟨x125, hx125, hF⟩ := hF
      refine el_index (wA := w00) rfl ha1 rfl (by decide) rfl hx125 (by decide) ?_
      intro b126 of127 c128 hr129 hm130
      obtain ⟨_, _, rfl, hr131, hr132⟩ := hr129
      obtain ⟨v133, rfl⟩ := slice_one hr131
      obtain ⟨v134, rfl⟩ := slice_one hr132
      refine el_pv (v := .agg #[v133, v134]) (pv_loada (cs := [v133, v134]) rfl rfl (cells_up hS.below hm130)) (by decide) ?_
      refine el_alloc hS (by decide) ?_
      intro w135 b136 hS hx137
      refine el_storev (hS.top 0 rfl) rfl [v133, v134] rfl rfl (of_decide_eq_true rfl) (all_cons (oc hr131) (all_cons (oc hr132) rfl)) ?_
      intro w139 hS
      replace hS : Sat w00 w139 (Box b136 84 [v133, v134] :: Box b103 29 [u0, u1] :: Own (sliceR intR 3) [u3] a3 :: Own (sliceR (sliceR intR 3) 26) [u4] a4 :: G0) := hS
      refine el_nil ?_
      refine hQ124 _ _ _ ?_
      refine thn_n ?_
      refine cw_seq ?_
      refine cw_gen ?_
      intro Q140 hQ140
      refine cw_seq ?_
      refine cw_gen ?_
      intro Q141 hQ141
      refine cw_reg ?_
      refine el_pv (v := .pointer (some ⟨b136, 0 + 0, none⟩)) (pv_fieldAddr rfl) (by decide) ?_
      refine el_pv (v := v133) (pv_loadc rfl ((hS.boxAt 0 rfl) 0 _ rfl)) (by decide) ?_
      refine el_pv (v := .int .i64 (x125.1.length : Int)) (pv_len rfl hr131) (by decide) ?_
      refine el_pv (v := .int .i64 0) (pv_move rfl) (by decide) ?_
      refine el_nil ?_
      refine hQ141 _ _ _ ?_
      refine thn_n ?_
      refine cw_block ?_
      refine cw_gen ?_
      intro Q142 hQ142
      obtain ⟨s143, hL, hK144⟩ := ob hF
      refine cw_loopS (fun k e w => ∃ (v146 : Value), ∃ (x145 : List (List Int)), ∃ (x147 : Int), e 2 = u3 ∧ e 3 = v146 ∧ e 4 = .pointer (some ⟨b103, 0, none⟩) ∧ e 9 = .pointer (some ⟨b136, 0, none⟩) ∧ e 25 = v133 ∧ e 26 = .int .i64 (x125.1.length : Int) ∧ e 27 = .int .i64 x147 ∧ Sat w00 w (Box b136 84 [v133, v134] :: Box b103 29 [u0, u1] :: Own (sliceR intR 3) [u3] a3 :: Own (sliceR (sliceR intR 3) 26) [v146] x145 :: G0) ∧ impl_expand_L1 (impl_expand N) N k a3 x145 a0 a1 x125.1 x125.2 x125.1 (x125.1.length : Int) x147 = some s143) N ?_ ?_ ?_
      · exact ⟨u4, a4, 0, rfl, rfl, rfl, rfl, rfl, rfl, rfl, hS, hL⟩
      · rintro e w ⟨_, _, _, _, _, _, _, _, _, _, _, hz⟩; exact nomatch (show none = some _ from hz)
      · rintro k e156 w155 ⟨v146, x145, x147, he148, he149, he150, he151, he152, he153, he154, hS, hF⟩
        refine cw_gen ?_
        intro Q157 hQ157
        refine cw_seq ?_
        refine cw_gen ?_
        intro Q158 hQ158
        refine cw_reg ?_
        refine el_pv (v := .bool (decide (x147 < (x125.1.length : Int)))) (pv_lss he154 he153) (by decide) ?_
        refine el_nil ?_
        refine hQ158 _ _ _ ?_
        refine thn_n ?_
        refine cw_seq ?_
        refine cw_gen ?_
        intro Q159 hQ159
        replace hF := oif hF
        rcases hF with ⟨hb160, hF⟩ | ⟨hb160, hF⟩
        · refine cw_cond_t rfl hb160 ?_
          refine cw_skip ?_
          refine hQ159 _ _ _ ?_
          refine thn_n ?_
          refine cw_seq ?_
          refine cw_gen ?_
          intro Q161 hQ161
          refine cw_block ?_
          refine cw_gen ?_
          intro Q162 hQ162
          refine cw_seq ?_
          refine cw_gen ?_
          intro Q163 hQ163
          refine cw_reg ?_
          refine el_pv (v := .int .i64 x147) (pv_move he154) (by decide) ?_
          replace hF := ob hF
          obtain ⟨x164, hx164, hF⟩ := hF
          refine el_index (wA := w00) he152 hr131 rfl (by decide) he154 hx164 (by decide) ?_
          intro b165 of166 c167 hr168 hm169
          obtain rfl := hr168
          refine el_pv (v := .int .i64 x164) (pv_loadc rfl ((cells_up hS.below hm169) 0 _ rfl)) (by decide) ?_
          refine el_pv (v := .int .i64 x147) (pv_assign rfl) (by decide) ?_
          refine el_pv (v := .int .i64 x164) (pv_assign rfl) (by decide) ?_
          refine el_nil ?_
          refine hQ163 _ _ _ ?_
          refine thn_n ?_
          replace hF := ob hF
          obtain ⟨x172, hx172, hF⟩ := hF
          replace hF := ob hF
          obtain ⟨r178, hr178, hF⟩ := hF
          replace hF := ob hF
          obtain ⟨x189, hx189, hF⟩ := hF
          replace hF := ob hF
          obtain ⟨r192, hr192, hF⟩ := hF
          refine cw_mid (fun e w => ∃ (v194 : Value), e 2 = u3 ∧ e 3 = v194 ∧ e 4 = .pointer (some ⟨b103, 0, none⟩) ∧ e 9 = .pointer (some ⟨b136, 0, none⟩) ∧ e 25 = v133 ∧ e 26 = .int .i64 (x125.1.length : Int) ∧ e 27 = .int .i64 x147 ∧ Sat w00 w (Box b136 84 [v133, v134] :: Box b103 29 [u0, u1] :: Own (sliceR intR 3) [u3] a3 :: Own (sliceR (sliceR intR 3) 26) [v194] r192 :: G0)) ?_ ?_
          · obtain ⟨C, hCd⟩ : ∃ C : World → Prop, ∀ w, C w ↔ ∃ G, Sat w00 w ([Box b136 84 [v133, v134], Box b103 29 [u0, u1], Own (sliceR intR 3) [u3] a3] ++ G) := ⟨_, fun _ => Iff.rfl⟩
            refine cw_regb [0, 1, 2, 3, 4, 5, 6, 7, 8, 9, 10, 11, 12, 13] C (by kernel_rfl) ?_
            intro w196 hx197
            replace hS := hS.ext hx197
            have hC := (hCd _).2 ⟨_, hS⟩
            refine al_p (v := .agg #[u0, u1]) (by kernel_rfl) 0 rfl rfl (by decide) hC (by kernel_rfl) (by kernel_rfl) (sv_on rfl (fun w' hw' => by obtain ⟨_, hS⟩ := (hCd _).1 hw'; exact (pv_loada (cs := [u0, u1]) he150 rfl (boxc0 (hS.boxAt 1 rfl))))) ?_
            refine al_p (v := .pointer (some ⟨b136, 0 + 1, none⟩)) (by kernel_rfl) 1 rfl rfl (by decide) hC (by kernel_rfl) (by kernel_rfl) (sv_on rfl (fun w' hw' => by obtain ⟨_, hS⟩ := (hCd _).1 hw'; exact (pv_fieldAddr he151))) ?_
            refine al_p (v := v134) (by kernel_rfl) 2 rfl rfl (by decide) hC (by kernel_rfl) (by kernel_rfl) (sv_on rfl (fun w' hw' => by obtain ⟨_, hS⟩ := (hCd _).1 hw'; exact (pv_loadc rfl ((hS.boxAt 0 rfl) 1 _ rfl)))) ?_
            refine al_p (v := .int .i64 x147) (by kernel_rfl) 3 rfl rfl (by decide) hC (by kernel_rfl) (by kernel_rfl) (sv_on rfl (fun w' hw' => by obtain ⟨_, hS⟩ := (hCd _).1 hw'; exact (pv_move rfl))) ?_
            refine al_index (wA := w00) (by kernel_rfl) 4 rfl hC (by kernel_rfl) (by kernel_rfl) rfl hr132 rfl (by decide) rfl hx172 (by decide) ?_
            intro b173 of174 c175 hr176 hm177
            obtain rfl := hr176
            refine al_p (v := .int .i64 x172) (by kernel_rfl) 5 rfl rfl (by decide) hC (by kernel_rfl) (by kernel_rfl) (sv_on rfl (fun w' hw' => by obtain ⟨_, hS⟩ := (hCd _).1 hw'; exact (pv_loadc rfl ((cells_up hS.below hm177) 0 _ rfl)))) ?_
            refine al_p (v := u3) (by kernel_rfl) 6 rfl rfl (by decide) hC (by kernel_rfl) (by kernel_rfl) (sv_on rfl (fun w' hw' => by obtain ⟨_, hS⟩ := (hCd _).1 hw'; exact (pv_move he148))) ?_
            refine al_p (v := .int .i64 x164) (by kernel_rfl) 8 rfl rfl (by decide) hC (by kernel_rfl) (by kernel_rfl) (sv_on rfl (fun w' hw' => by obtain ⟨_, hS⟩ := (hCd _).1 hw'; exact (pv_move rfl))) ?_
            refine al_p (v := v146) (by kernel_rfl) 11 rfl rfl (by decide) hC (by kernel_rfl) (by kernel_rfl) (sv_on rfl (fun w' hw' => by obtain ⟨_, hS⟩ := (hCd _).1 hw'; exact (pv_move he149))) ?_
            refine al_two 7 9 (by kernel_rfl) rfl rfl ?_ ?_
            · refine el_call goes84 (impl_copyInts_ok (hS.rdAt (R := (sliceR intR 3)) 2 rfl) hr178) (congrArg List.toArray (mapc rfl rfl)) (by decide) ?_
              rintro _ w181 ⟨v179, rfl, hS'⟩
              refine ⟨_, rfl, ?_⟩
              have hx182 := hS'.below
              replace hS := hS.call1 hS'
              refine el_nil ?_
              replace hS : Sat w00 w181 (Box b136 84 [v133, v134] :: Box b103 29 [u0, u1] :: Own (sliceR intR 3) [u3] a3 :: Own (sliceR intR 3) [v179] r178 :: Own (sliceR (sliceR intR 3) 26) [v146] x145 :: G0) := hS.tops 5 [1, 2, 3] rfl
              have hC := (hCd _).2 ⟨_, hS⟩
              refine ⟨fun _ => hC, ?_⟩
              refine al_one 9 (by kernel_rfl) rfl ?_
              refine el_buildSlice1 [.int .i64 x164] rfl (by rfl) (by decide) rfl (by decide) hS (by decide) ?_
              intro w183 b185 hS hx184
              refine el_nil ?_
              replace hS : Sat w00 w183 (Box b136 84 [v133, v134] :: Box b103 29 [u0, u1] :: Own (sliceR intR 3) [u3] a3 :: Box b185 3 [.int .i64 x164] :: Own (sliceR intR 3) [v179] r178 :: Own (sliceR (sliceR intR 3) 26) [v146] x145 :: G0) := hS.tops 6 [1, 2, 3] rfl
              have hC := (hCd _).2 ⟨_, hS⟩
              refine ⟨fun _ => hC, ?_⟩
              refine al_one 10 (by kernel_rfl) rfl ?_
              have hrow190 := hS.boxRow 3 rfl
              replace hS : Sat w00 w183 (Own (sliceR intR 3) [v179] r178 :: Box b136 84 [v133, v134] :: Box b103 29 [u0, u1] :: Own (sliceR intR 3) [u3] a3 :: Box b185 3 [.int .i64 x164] :: Own (sliceR (sliceR intR 3) 26) [v146] x145 :: G0) := hS.top 4 rfl
              replace hS := hS.int x164
              replace hS := hS.one
              refine el_append rfl (by decide) rfl (by decide) hS rfl rfl rfl (by simp) hrow190 hx189 (by decide) ?_
              intro w187 v188 hS
              refine el_nil ?_
              replace hS : Sat w00 w187 (Box b136 84 [v133, v134] :: Box b103 29 [u0, u1] :: Own (sliceR intR 3) [u3] a3 :: Own (sliceR intR 3) [v188] x189 :: Box b185 3 [.int .i64 x164] :: Own (sliceR (sliceR intR 3) 26) [v146] x145 :: G0) := hS.tops 6 [1, 2, 3] rfl
              have hC := (hCd _).2 ⟨_, hS⟩
              refine ⟨fun _ => hC, ?_⟩
              refine al_one 12 (by kernel_rfl) rfl ?_
              replace hS : Sat w00 w187 (Own (sliceR intR 3) [v188] x189 :: Own (sliceR (sliceR intR 3) 26) [v146] x145 :: Box b136 84 [v133, v134] :: Box b103 29 [u0, u1] :: Own (sliceR intR 3) [u3] a3 :: Box b185 3 [.int .i64 x164] :: G0) := hS.tops 6 [3, 5] rfl
              refine el_call goes63 (ih ha0 ha1 hS hr192) (congrArg List.toArray (mapc rfl (mapc rfl (mapc rfl (mapc rfl rfl))))) (by decide) ?_
              rintro _ w193 ⟨v194, rfl, hS⟩
              refine ⟨_, rfl, ?_⟩
              replace hS : Sat w00 w193 (Own (sliceR (sliceR intR 3) 26) [v194] r192 :: Box b136 84 [v133, v134] :: Box b103 29 [u0, u1] :: Own (sliceR intR 3) [u3] a3 :: Box b185 3 [.int .i64 x164] :: G0) := hS
              refine el_nil ?_
              replace hS : Sat w00 w193 (Box b136 84 [v133, v134] :: Box b103 29 [u0, u1] :: Own (sliceR intR 3) [u3] a3 :: Own (sliceR (sliceR intR 3) 26) [v194] r192 :: Box b185 3 [.int .i64 x164] :: G0) := hS.tops 5 [1, 2, 3] rfl
              have hC := (hCd _).2 ⟨_, hS⟩
              refine ⟨fun _ => hC, ?_⟩
              refine al_one 13 (by kernel_rfl) rfl ?_
              refine el_pv (v := v194) (pv_assign rfl) (by decide) ?_
              refine el_nil ?_
              refine ⟨fun _ => hC, ?_⟩
              refine al_nil (by kernel_rfl) ?_
              replace hS : Sat w00 w193 (Box b136 84 [v133, v134] :: Box b103 29 [u0, u1] :: Own (sliceR intR 3) [u3] a3 :: Own (sliceR (sliceR intR 3) 26) [v194] r192 :: G0) := hS.rems 5 [4] rfl
              exact ⟨rfl, v194, he148, rfl, he150, he151, he152, he153, he154, hS⟩
            · refine el_buildSlice1 [.int .i64 x164] rfl (by rfl) (by decide) rfl (by decide) hS (by decide) ?_
              intro w183 b185 hS hx184
              refine el_nil ?_
              replace hS : Sat w00 w183 (Box b136 84 [v133, v134] :: Box b103 29 [u0, u1] :: Own (sliceR intR 3) [u3] a3 :: Box b185 3 [.int .i64 x164] :: Own (sliceR (sliceR intR 3) 26) [v146] x145 :: G0) := hS.tops 5 [1, 2, 3] rfl
              have hC := (hCd _).2 ⟨_, hS⟩
              refine ⟨fun _ => hC, ?_⟩
              refine al_one 7 (by kernel_rfl) rfl ?_
              refine el_call goes84 (impl_copyInts_ok (hS.rdAt (R := (sliceR intR 3)) 2 rfl) hr178) (congrArg List.toArray (mapc rfl rfl)) (by decide) ?_
              rintro _ w181 ⟨v179, rfl, hS'⟩
              refine ⟨_, rfl, ?_⟩
              have hx182 := hS'.below
              replace hS := hS.call1 hS'
              refine el_nil ?_
              replace hS : Sat w00 w181 (Box b136 84 [v133, v134] :: Box b103 29 [u0, u1] :: Own (sliceR intR 3) [u3] a3 :: Own (sliceR intR 3) [v179] r178 :: Box b185 3 [.int .i64 x164] :: Own (sliceR (sliceR intR 3) 26) [v146] x145 :: G0) := hS.tops 6 [1, 2, 3] rfl
              have hC := (hCd _).2 ⟨_, hS⟩
              refine ⟨fun _ => hC, ?_⟩
              refine al_one 10 (by kernel_rfl) rfl ?_
              have hrow190 := hS.boxRow 4 rfl
              replace hS : Sat w00 w181 (Own (sliceR intR 3) [v179] r178 :: Box b136 84 [v133, v134] :: Box b103 29 [u0, u1] :: Own (sliceR intR 3) [u3] a3 :: Box b185 3 [.int .i64 x164] :: Own (sliceR (sliceR intR 3) 26) [v146] x145 :: G0) := hS.top 3 rfl
              replace hS := hS.int x164
              replace hS := hS.one
              refine el_append rfl (by decide) rfl (by decide) hS rfl rfl rfl (by simp) hrow190 hx189 (by decide) ?_
              intro w187 v188 hS
              refine el_nil ?_
              replace hS : Sat w00 w187 (Box b136 84 [v133, v134] :: Box b103 29 [u0, u1] :: Own (sliceR intR 3) [u3] a3 :: Own (sliceR intR 3) [v188] x189 :: Box b185 3 [.int .i64 x164] :: Own (sliceR (sliceR intR 3) 26) [v146] x145 :: G0) := hS.tops 6 [1, 2, 3] rfl
              have hC := (hCd _).2 ⟨_, hS⟩
              refine ⟨fun _ => hC, ?_⟩
              refine al_one 12 (by kernel_rfl) rfl ?_
              replace hS : Sat w00 w187 (Own (sliceR intR 3) [v188] x189 :: Own (sliceR (sliceR intR 3) 26) [v146] x145 :: Box b136 84 [v133, v134] :: Box b103 29 [u0, u1] :: Own (sliceR intR 3) [u3] a3 :: Box b185 3 [.int .i64 x164] :: G0) := hS.tops 6 [3, 5] rfl
              refine el_call goes63 (ih ha0 ha1 hS hr192) (congrArg List.toArray (mapc rfl (mapc rfl (mapc rfl (mapc rfl rfl))))) (by decide) ?_
              rintro _ w193 ⟨v194, rfl, hS⟩
              refine ⟨_, rfl, ?_⟩
              replace hS : Sat w00 w193 (Own (sliceR (sliceR intR 3) 26) [v194] r192 :: Box b136 84 [v133, v134] :: Box b103 29 [u0, u1] :: Own (sliceR intR 3) [u3] a3 :: Box b185 3 [.int .i64 x164] :: G0) := hS
              refine el_nil ?_
              replace hS : Sat w00 w193 (Box b136 84 [v133, v134] :: Box b103 29 [u0, u1] :: Own (sliceR intR 3) [u3] a3 :: Own (sliceR (sliceR intR 3) 26) [v194] r192 :: Box b185 3 [.int .i64 x164] :: G0) := hS.tops 5 [1, 2, 3] rfl
              have hC := (hCd _).2 ⟨_, hS⟩
              refine ⟨fun _ => hC, ?_⟩
              refine al_one 13 (by kernel_rfl) rfl ?_
              refine el_pv (v := v194) (pv_assign rfl) (by decide) ?_
              refine el_nil ?_
              refine ⟨fun _ => hC, ?_⟩
              refine al_nil (by kernel_rfl) ?_
              replace hS : Sat w00 w193 (Box b136 84 [v133, v134] :: Box b103 29 [u0, u1] :: Own (sliceR intR 3) [u3] a3 :: Own (sliceR (sliceR intR 3) 26) [v194] r192 :: G0) := hS.rems 5 [4] rfl
              exact ⟨rfl, v194, he148, rfl, he150, he151, he152, he153, he154, hS⟩
          · rintro e198 w199 ⟨v194, he200, he201, he202, he203, he204, he205, he206, hS⟩
            refine hQ162 _ _ _ ?_
            refine inb_n ?_
            refine hQ161 _ _ _ ?_
            refine thn_n ?_
            refine cw_reg ?_
            replace hF := ob hF
            obtain ⟨x207, hx207, hF⟩ := hF
            refine el_pv (v := .int .i64 x207) (pv_add he206 rfl hx207) (by decide) ?_
            refine el_pv (v := .int .i64 x207) (pv_move rfl) (by decide) ?_
            refine el_nil ?_
            refine hQ157 _ _ _ ?_
            refine thn_n ?_
            exact ⟨v194, r192, x207, he200, he201, he202, he203, he204, he205, rfl, hS, hF⟩
        · refine cw_cond_f rfl hb160 ?_
          refine cw_exit ?_
          refine hQ159 _ _ _ ?_
          refine thn_x ?_
          refine hQ157 _ _ _ ?_
          refine thn_x ?_
          replace hF := exB hF hK144
          refine hQ142 _ _ _ ?_
          refine inb_s ?_
          refine hQ140 _ _ _ ?_
          refine thn_n ?_
          refine cw_seq ?_
          refine cw_gen ?_
          intro Q208 hQ208
          replace hS : Sat w00 w155 (Own (sliceR intR 3) [u3] a3 :: Own (sliceR (sliceR intR 3) 26) [v146] x145 :: G0) := hS.rems 4 [0, 1] rfl
          refine cw_reg ?_
          refine el_pv (v := v146) (pv_move he149) (by decide) ?_
          refine el_pv (v := v146) (pv_assign rfl) (by decide) ?_
          refine el_nil ?_
          refine hQ208 _ _ _ ?_
          refine thn_n ?_
          refine cw_ret ?_
          refine fin1 rfl rfl ?_
          replace hS : Sat w00 w155 (Own (sliceR (sliceR intR 3) 26) [v146] x145 :: Own (sliceR intR 3) [u3] a3 :: G0) := hS.tops 2 [1] rfl
          have hr := Option.some.inj hF
          replace hS : Sat w00 w155 (Own (sliceR (sliceR intR 3) 26) [v146] x145 :: G0) := hS.rems 2 [1] rfl
          exact ⟨v146, congrArg (fun (r : (List (List Int))) => Ending.returned (v146)) hr, Eq.mp (congrArg (fun (r : (List (List Int))) => Sat w00 w155 (Own (sliceR (sliceR intR 3) 26) [v146] r :: G0)) hr) hS⟩
theorem impl_expand_ok {w0 : World} {w00 : World} {G0 : List Asn} {u0 : Value} {a0 : List Int} {u1 : Value} {a1 : List (List Int × List Int)} {a2 : Int} {u3 : Value} {a3 : List Int} {u4 : Value} {a4 : List (List Int)} (ha0 : (sliceR intR 3).rd w00 [u0] a0) (ha1 : (sliceR (pairR (sliceR intR 3) (sliceR intR 3)) 84).rd w00 [u1] a1) (hS : Sat w00 w0 (Own (sliceR intR 3) [u3] a3 :: Own (sliceR (sliceR intR 3) 26) [u4] a4 :: G0)) {N : Nat} {r : (List (List Int))} (hF : impl_expand N a0 a1 a2 a3 a4 = some r) :
    Calls Try.prog 63 #[.agg #[u0, u1], .int .i64 a2, u3, u4] w0 fun e w' => ∃ (q0 : Value), e = .returned (q0) ∧ Sat w00 w' (Own (sliceR (sliceR intR 3) 26) [q0] r :: G0) := impl_expand_ok' N ha0 ha1 hS hF
set_option maxHeartbeats 4000000 in
theorem impl_ExpandFactorization_ok {w0 : World} {u0 : Value} {a0 : List Int} {u1 : Value} {a1 : List (List Int × List Int)} (ha0 : (sliceR intR 3).rd w0 [u0] a0) (ha1 : (sliceR (pairR (sliceR intR 3) (sliceR intR 3)) 84).rd w0 [u1] a1) {N : Nat} {r : (Int × List (List Int)) × Bool} (hF : impl_ExpandFactorization N a0 a1 = some r) :
    Calls Try.prog 23 #[.agg #[u0, u1]] w0 fun e w' => ∃ (q0 : Value), e = .returned (.tuple #[.agg #[.int .i64 r.1.1, q0], .bool r.2]) ∧ Sat w0 w' [Own (sliceR (sliceR intR 3) 26) [q0] r.1.2] := by
  unfold impl_ExpandFactorization at hF
  refine calls_E Try.func23 rfl rfl (of_decide_eq_true rfl) ?_
  have hS := Sat.start w0
  refine cw_seq ?_
  refine cw_gen ?_
  intro Q101 hQ101
  refine cw_reg ?_
  refine el_box [u0, u1] rfl hS (by decide) ?_
  intro w102 b103 hS hx104
  refine el_alloc hS (by decide) ?_
  intro w106 b107 hS hx108
  refine el_pv (v := .bool false) (pv_assign rfl) (by decide) ?_
  refine el_nil ?_
  refine hQ101 _ _ _ ?_
  refine thn_n ?_
  refine cw_seq ?_
  refine cw_gen ?_
  intro Q110 hQ110
  refine cw_seq ?_
  refine cw_gen ?_
  intro Q111 hQ111
  refine cw_reg ?_
  refine el_pv (v := .agg #[u0, u1]) (pv_loada (cs := [u0, u1]) rfl rfl (boxc0 (hS.boxAt 1 rfl))) (by decide) ?_
  replace hF := ob hF
  obtain ⟨r112, hr112, hF⟩ := hF
  refine el_call goes25 (impl_IsValidFactorization_ok (hS.up ha0) (hS.up ha1) hr112) (congrArg List.toArray (mapc rfl rfl)) (by decide) ?_
  rintro _ w113 ⟨rfl, hx114⟩
  refine ⟨_, rfl, ?_⟩
  replace hS := hS.ext hx114
  refine el_pv (v := .bool (!r112)) (pv_not rfl) (by decide) ?_
  refine el_pv (v := .bool (!r112)) (pv_move rfl) (by decide) ?_
  replace hF := oif hF
  rcases hF with ⟨hb115, hF⟩ | ⟨hb115, hF⟩
  · refine el_on rfl (bnot_t hb115) ?_
    refine el_pv (v := .agg #[u0, u1]) (pv_loada (cs := [u0, u1]) rfl rfl (boxc0 (hS.boxAt 1 rfl))) (by decide) ?_
    refine el_on rfl (bnot_t hb115) ?_
    replace hF := ob hF
    obtain ⟨r116, hr116, hF⟩ := hF
    refine el_call goes62 (impl_FactorizedRowCount_ok (hS.up ha0) (hS.up ha1) hr116) (congrArg List.toArray (mapc rfl rfl)) (by decide) ?_
    rintro _ w117 ⟨rfl, hx118⟩
    refine ⟨_, rfl, ?_⟩
    replace hS := hS.ext hx118
    refine el_on rfl (bnot_t hb115) ?_
    refine el_pv (v := .bool (decide (4000 < r116))) (pv_gtr rfl rfl) (by decide) ?_
    refine el_pv (v := .bool (decide (4000 < r116))) (pv_pick_f rfl (bnot_t hb115) rfl) (by decide) ?_
    refine el_nil ?_
    refine hQ111 _ _ _ ?_
    refine thn_n ?_
    replace hF := oif hF
    rcases hF with ⟨hb119, hF⟩ | ⟨hb119, hF⟩
    · refine cw_cond_t rfl hb119 ?_
      refine cw_seq ?_
      refine cw_gen ?_
      intro Q120 hQ120
      replace hS : Sat w0 w117 [Box b107 32 [.int .i64 0, (.slice none 0 0)]] := hS.rems 2 [1] rfl
      refine cw_reg ?_
      refine el_pv (v := .agg #[.int .i64 0, (.slice none 0 0)]) (pv_build [] [.int .i64 0, (.slice none 0 0)] rfl rfl) (by decide) ?_
      refine el_storev (hS.top 0 rfl) rfl [.int .i64 0, (.slice none 0 0)] rfl rfl (of_decide_eq_true rfl) (all_cons rfl (all_cons rfl rfl)) ?_
      intro w121 hS
      replace hS : Sat w0 w121 [Box b107 32 [.int .i64 0, (.slice none 0 0)]] := hS
      refine el_pv (v := .bool false) (pv_assign rfl) (by decide) ?_
      refine el_nil ?_
      refine hQ120 _ _ _ ?_
      refine thn_n ?_
      refine cw_ret ?_
      refine hQ110 _ _ _ ?_
      refine thn_r ?_
      replace hS := hS.nil (sliceR intR 3) 26
      refine finCT (cs := [.int .i64 0, (.slice none 0 0)]) rfl rfl rfl (boxc0 (hS.boxAt 1 rfl)) rfl ?_
      have hr := Option.some.inj hF
      exact ⟨(.slice none 0 0), congrArg (fun (r : (Int × List (List Int)) × Bool) => Ending.returned (.tuple #[.agg #[.int .i64 r.1.1, (.slice none 0 0)], .bool r.2])) hr, Eq.mp (congrArg (fun (r : (Int × List (List Int)) × Bool) => Sat w0 w121 [Own (sliceR (sliceR intR 3) 26) [(.slice none 0 0)] r.1.2]) hr) (hS.keep 1)⟩
    · refine cw_cond_f rfl hb119 ?_
      refine cw_skip ?_
      refine hQ110 _ _ _ ?_
      refine thn_n ?_
      refine cw_seq ?_
      refine cw_gen ?_
      intro Q123 hQ123
      obtain ⟨C, hCd⟩ : ∃ C : World → Prop, ∀ w, C w ↔ ∃ G, Sat w0 w ([Box b103 29 [u0, u1]] ++ G) := ⟨_, fun _ => Iff.rfl⟩
      refine cw_regb [0, 1, 2, 3, 4, 5, 6, 7, 8, 9, 10, 11] C (by kernel_rfl) ?_
      intro w124 hx125
      replace hS := hS.ext hx125
      replace hS : Sat w0 w124 [Box b103 29 [u0, u1], Box b107 32 [.int .i64 0, (.slice none 0 0)]] := hS.tops 2 [1] rfl
      have hC := (hCd _).2 ⟨_, hS⟩
      refine al_p (v := .pointer (some ⟨b103, 0 + 0, none⟩)) (by kernel_rfl) 0 rfl rfl (by decide) hC (by kernel_rfl) (by kernel_rfl) (sv_on rfl (fun w' hw' => by obtain ⟨_, hS⟩ := (hCd _).1 hw'; exact (pv_fieldAddr rfl))) ?_
      refine al_p (v := u0) (by kernel_rfl) 1 rfl rfl (by decide) hC (by kernel_rfl) (by kernel_rfl) (sv_on rfl (fun w' hw' => by obtain ⟨_, hS⟩ := (hCd _).1 hw'; exact (pv_loadc rfl ((hS.boxAt 0 rfl) 0 _ rfl)))) ?_
      refine al_p (v := .int .i64 (a0.length : Int)) (by kernel_rfl) 2 rfl rfl (by decide) hC (by kernel_rfl) (by kernel_rfl) (sv_on rfl (fun w' hw' => by obtain ⟨_, hS⟩ := (hCd _).1 hw'; exact (pv_len rfl ha0))) ?_
      refine al_p (v := .agg #[u0, u1]) (by kernel_rfl) 3 rfl rfl (by decide) hC (by kernel_rfl) (by kernel_rfl) (sv_on rfl (fun w' hw' => by obtain ⟨_, hS⟩ := (hCd _).1 hw'; exact (pv_loada (cs := [u0, u1]) rfl rfl (boxc0 (hS.boxAt 0 rfl))))) ?_
      refine al_one 4 (by kernel_rfl) rfl ?_
      refine el_pv (v := .pointer (some ⟨b103, 0 + 1, none⟩)) (pv_fieldAddr rfl) (by decide) ?_
      refine el_nil ?_
      refine ⟨fun _ => hC, ?_⟩
      refine al_one 5 (by kernel_rfl) rfl ?_
      refine el_pv (v := u1) (pv_loadc rfl ((hS.boxAt 0 rfl) 1 _ rfl)) (by decide) ?_
      refine el_nil ?_
      refine ⟨fun _ => hC, ?_⟩
      refine al_one 6 (by kernel_rfl) rfl ?_
      refine el_pv (v := .int .i64 (a1.length : Int)) (pv_len rfl ha1) (by decide) ?_
      refine el_nil ?_
      have hC := (hCd _).2 ⟨_, hS⟩
      refine ⟨fun _ => hC, ?_⟩
      refine al_one 7 (by kernel_rfl) rfl ?_
      replace hF := ob hF
      obtain ⟨x126, hx126, hF⟩ := hF
      refine el_pv (v := .int .i64 x126) (pv_sub rfl rfl hx126) (by decide) ?_
      refine el_nil ?_
      refine ⟨fun _ => hC, ?_⟩
      refine al_one 8 (by kernel_rfl) rfl ?_
      replace hS := hS.nil intR 3
      replace hS := hS.nil (sliceR intR 3) 26
      replace hS : Sat w0 w124 [Own (sliceR intR 3) [(.slice none 0 0)] [], Own (sliceR (sliceR intR 3) 26) [(.slice none 0 0)] [], Box b103 29 [u0, u1], Box b107 32 [.int .i64 0, (.slice none 0 0)]] := hS.tops 4 [1, 0] rfl
      replace hF := ob hF
      obtain ⟨r129, hr129, hF⟩ := hF
      refine el_call goes63 (impl_expand_ok ha0 ha1 hS hr129) (congrArg List.toArray (mapc rfl (mapc rfl (mapc rfl (mapc rfl rfl))))) (by decide) ?_
      rintro _ w130 ⟨v131, rfl, hS⟩
      refine ⟨_, rfl, ?_⟩
      replace hS : Sat w0 w130 [Own (sliceR (sliceR intR 3) 26) [v131] r129, Box b103 29 [u0, u1], Box b107 32 [.int .i64 0, (.slice none 0 0)]] := hS
      refine el_nil ?_
      replace hS : Sat w0 w130 [Box b103 29 [u0, u1], Own (sliceR (sliceR intR 3) 26) [v131] r129, Box b107 32 [.int .i64 0, (.slice none 0 0)]] := hS.tops 3 [1] rfl
      have hC := (hCd _).2 ⟨_, hS⟩
      refine ⟨fun _ => hC, ?_⟩
      refine al_one 9 (by kernel_rfl) rfl ?_
      refine el_pv (v := .agg #[.int .i64 (a0.length : Int), v131]) (pv_build [(0, [.int .i64 (a0.length : Int)]), (1, [v131])] [.int .i64 (a0.length : Int), v131] (partc rfl (partc (cells_of rfl (oc (hS.rdAt (R := (sliceR (sliceR intR 3) 26)) 1 rfl))) rfl)) rfl) (by decide) ?_
      refine el_nil ?_
      refine ⟨fun _ => hC, ?_⟩
      refine al_one 10 (by kernel_rfl) rfl ?_
      refine el_storev (hS.top 2 rfl) rfl [.int .i64 (a0.length : Int), v131] rfl rfl (of_decide_eq_true rfl) (all_cons rfl (all_cons (oc (hS.rdAt (R := (sliceR (sliceR intR 3) 26)) 1 rfl)) rfl)) ?_
      intro w133 hS
      replace hS : Sat w0 w133 [Box b107 32 [.int .i64 (a0.length : Int), v131], Box b103 29 [u0, u1], Own (sliceR (sliceR intR 3) 26) [v131] r129] := hS
      refine el_nil ?_
      replace hS : Sat w0 w133 [Box b103 29 [u0, u1], Box b107 32 [.int .i64 (a0.length : Int), v131], Own (sliceR (sliceR intR 3) 26) [v131] r129] := hS.tops 3 [1] rfl
      have hC := (hCd _).2 ⟨_, hS⟩
      refine ⟨fun _ => hC, ?_⟩
      refine al_one 11 (by kernel_rfl) rfl ?_
      refine el_pv (v := .bool true) (pv_assign rfl) (by decide) ?_
      refine el_nil ?_
      refine ⟨fun _ => hC, ?_⟩
      refine al_nil (by kernel_rfl) ?_
      refine hQ123 _ _ _ ?_
      refine thn_n ?_
      refine cw_ret ?_
      refine finCT (cs := [.int .i64 (a0.length : Int), v131]) rfl rfl rfl (boxc0 (hS.boxAt 1 rfl)) rfl ?_
      replace hS : Sat w0 w133 [Own (sliceR (sliceR intR 3) 26) [v131] r129, Box b103 29 [u0, u1], Box b107 32 [.int .i64 (a0.length : Int), v131]] := hS.tops 3 [2] rfl
      have hr := Option.some.inj hF
      exact ⟨v131, congrArg (fun (r : (Int × List (List Int)) × Bool) => Ending.returned (.tuple #[.agg #[.int .i64 r.1.1, v131], .bool r.2])) hr, Eq.mp (congrArg (fun (r : (Int × List (List Int)) × Bool) => Sat w0 w133 [Own (sliceR (sliceR intR 3) 26) [v131] r.1.2]) hr) (hS.keep 1)⟩
  · refine el_off rfl (bnot_f hb115) rfl (by decide) ?_
    refine el_off rfl (bnot_f hb115) rfl (by decide) ?_
    refine el_off rfl (bnot_f hb115) rfl (by decide) ?_
    refine el_pv (v := .bool true) (pv_pick_t rfl (bnot_f hb115) rfl) (by decide) ?_
    refine el_nil ?_
    refine hQ111 _ _ _ ?_
    refine thn_n ?_
    refine cw_cond_t rfl rfl ?_
    refine cw_seq ?_
    refine cw_gen ?_
    intro Q134 hQ134
    replace hS : Sat w0 w113 [Box b107 32 [.int .i64 0, (.slice none 0 0)]] := hS.rems 2 [1] rfl
    refine cw_reg ?_
    refine el_pv (v := .agg #[.int .i64 0, (.slice none 0 0)]) (pv_build [] [.int .i64 0, (.slice none 0 0)] rfl rfl) (by decide) ?_
    refine el_storev (hS.top 0 rfl) rfl [.int .i64 0, (.slice none 0 0)] rfl rfl (of_decide_eq_true rfl) (all_cons rfl (all_cons rfl rfl)) ?_
    intro w135 hS
    replace hS : Sat w0 w135 [Box b107 32 [.int .i64 0, (.slice none 0 0)]] := hS
    refine el_pv (v := .bool false) (pv_assign rfl) (by decide) ?_
    refine el_nil ?_
    refine hQ134 _ _ _ ?_
    refine thn_n ?_
    refine cw_ret ?_
    refine hQ110 _ _ _ ?_
    refine thn_r ?_
    replace hS := hS.nil (sliceR intR 3) 26
    refine finCT (cs := [.int .i64 0, (.slice none 0 0)]) rfl rfl rfl (boxc0 (hS.boxAt 1 rfl)) rfl ?_
    have hr := Option.some.inj hF
    exact ⟨(.slice none 0 0), congrArg (fun (r : (Int × List (List Int)) × Bool) => Ending.returned (.tuple #[.agg #[.int .i64 r.1.1, (.slice none 0 0)], .bool r.2])) hr, Eq.mp (congrArg (fun (r : (Int × List (List Int)) × Bool) => Sat w0 w135 [Own (sliceR (sliceR intR 3) 26) [(.slice none 0 0)] r.1.2]) hr) (hS.keep 1)⟩
set_option maxHeartbeats 4000000 in
theorem laws_szIntS_ok {w0 : World} {u0 : Value} {a0 : List Int} {a1 : Int} (ha0 : (sliceR intR 3).rd w0 [u0] a0) {N : Nat} {r : Int} (hF : laws_szIntS N a0 a1 = some r) :
    Calls Try.prog 69 #[u0, .int .i64 a1] w0 fun e w' => e = .returned (.int .i64 r) ∧ Ext w0 w' := by
  unfold laws_szIntS at hF
  refine calls_E Try.func69 rfl rfl (of_decide_eq_true rfl) ?_
  have hS := Sat.start w0
  refine cw_seq ?_
  refine cw_gen ?_
  intro Q101 hQ101
  refine cw_reg ?_
  refine el_pv (v := .int .i64 0) (pv_assign rfl) (by decide) ?_
  refine el_nil ?_
  refine hQ101 _ _ _ ?_
  refine thn_n ?_
  refine cw_seq ?_
  refine cw_gen ?_
  intro Q102 hQ102
  refine cw_reg ?_
  refine el_pv (v := .int .i64 a1) (pv_move rfl) (by decide) ?_
  refine el_pv (v := u0) (pv_move rfl) (by decide) ?_
  refine el_pv (v := .int .i64 (a0.length : Int)) (pv_len rfl ha0) (by decide) ?_
  replace hF := ob hF
  obtain ⟨x103, hx103, hF⟩ := hF
  refine el_pv (v := .int .i64 x103) (pv_sub rfl rfl hx103) (by decide) ?_
  refine el_pv (v := .int .i64 x103) (pv_assign rfl) (by decide) ?_
  refine el_nil ?_
  refine hQ102 _ _ _ ?_
  refine thn_n ?_
  refine cw_seq ?_
  refine cw_gen ?_
  intro Q104 hQ104
  refine cw_seq ?_
  refine cw_gen ?_
  intro Q105 hQ105
  refine cw_reg ?_
  refine el_pv (v := .int .i64 x103) (pv_move rfl) (by decide) ?_
  refine el_pv (v := .bool (decide (x103 < 0))) (pv_lss rfl rfl) (by decide) ?_
  refine el_nil ?_
  refine hQ105 _ _ _ ?_
  refine thn_n ?_
  replace hF := oif hF
  rcases hF with ⟨hb106, hF⟩ | ⟨hb106, hF⟩
  · refine cw_cond_t rfl hb106 ?_
    refine cw_seq ?_
    refine cw_gen ?_
    intro Q107 hQ107
    refine cw_reg ?_
    refine el_pv (v := .int .i64 (-1)) (pv_assign rfl) (by decide) ?_
    refine el_nil ?_
    refine hQ107 _ _ _ ?_
    refine thn_n ?_
    refine cw_ret ?_
    refine hQ104 _ _ _ ?_
    refine thn_r ?_
    refine fin1 rfl rfl ?_
    have hr := Option.some.inj hF
    exact ⟨congrArg (fun (r : Int) => Ending.returned (.int .i64 r)) hr, hS.below⟩
  · refine cw_cond_f rfl hb106 ?_
    refine cw_skip ?_
    refine hQ104 _ _ _ ?_
    refine thn_n ?_
    refine cw_seq ?_
    refine cw_gen ?_
    intro Q108 hQ108
    refine cw_reg ?_
    refine el_pv (v := .int .i64 x103) (pv_move rfl) (by decide) ?_
    refine el_pv (v := .int .i64 x103) (pv_assign rfl) (by decide) ?_
    refine el_nil ?_
    refine hQ108 _ _ _ ?_
    refine thn_n ?_
    refine cw_ret ?_
    refine fin1 rfl rfl ?_
    have hr := Option.some.inj hF
    exact ⟨congrArg (fun (r : Int) => Ending.returned (.int .i64 r)) hr, hS.below⟩
set_option maxHeartbeats 4000000 in
theorem laws_szFactorNode_ok {w0 : World} {u0 : Value} {a0 : List Int} {u1 : Value} {a1 : List Int} {a2 : Int} (ha0 : (sliceR intR 3).rd w0 [u0] a0) (ha1 : (sliceR intR 3).rd w0 [u1] a1) {N : Nat} {r : Int} (hF : laws_szFactorNode N a0 a1 a2 = some r) :
    Calls Try.prog 105 #[.agg #[u0, u1], .int .i64 a2] w0 fun e w' => e = .returned (.int .i64 r) ∧ Ext w0 w' := by
  unfold laws_szFactorNode at hF
  refine calls_E Try.func105 rfl rfl (of_decide_eq_true rfl) ?_
  have hS := Sat.start w0
  refine cw_seq ?_
  refine cw_gen ?_
  intro Q101 hQ101
  refine cw_reg ?_
  refine el_box [u0, u1] rfl hS (by decide) ?_
  intro w102 b103 hS hx104
  refine el_pv (v := .int .i64 0) (pv_assign rfl) (by decide) ?_
  refine el_nil ?_
  refine hQ101 _ _ _ ?_
  refine thn_n ?_
  refine cw_seq ?_
  refine cw_gen ?_
  intro Q106 hQ106
  refine cw_reg ?_
  refine el_pv (v := .pointer (some ⟨b103, 0 + 0, none⟩)) (pv_fieldAddr rfl) (by decide) ?_
  refine el_pv (v := u0) (pv_loadc rfl ((hS.boxAt 0 rfl) 0 _ rfl)) (by decide) ?_
  refine el_pv (v := .int .i64 a2) (pv_move rfl) (by decide) ?_
  replace hF := ob hF
  obtain ⟨r107, hr107, hF⟩ := hF
  refine el_call goes69 (laws_szIntS_ok (hS.up ha0) hr107) (congrArg List.toArray (mapc rfl (mapc rfl rfl))) (by decide) ?_
  rintro _ w108 ⟨rfl, hx109⟩
  refine ⟨_, rfl, ?_⟩
  replace hS := hS.ext hx109
  refine el_pv (v := .int .i64 r107) (pv_assign rfl) (by decide) ?_
  refine el_nil ?_
  refine hQ106 _ _ _ ?_
  refine thn_n ?_
  refine cw_seq ?_
  refine cw_gen ?_
  intro Q110 hQ110
  refine cw_seq ?_
  refine cw_gen ?_
  intro Q111 hQ111
  refine cw_reg ?_
  refine el_pv (v := .int .i64 r107) (pv_move rfl) (by decide) ?_
  refine el_pv (v := .bool (decide (r107 < 0))) (pv_lss rfl rfl) (by decide) ?_
  refine el_nil ?_
  refine hQ111 _ _ _ ?_
  refine thn_n ?_
  replace hF := oif hF
  rcases hF with ⟨hb112, hF⟩ | ⟨hb112, hF⟩
  · refine cw_cond_t rfl hb112 ?_
    refine cw_seq ?_
    refine cw_gen ?_
    intro Q113 hQ113
    replace hS : Sat w0 w108 [] := hS.rems 1 [0] rfl
    refine cw_reg ?_
    refine el_pv (v := .int .i64 (-1)) (pv_assign rfl) (by decide) ?_
    refine el_nil ?_
    refine hQ113 _ _ _ ?_
    refine thn_n ?_
    refine cw_ret ?_
    refine hQ110 _ _ _ ?_
    refine thn_r ?_
    refine fin1 rfl rfl ?_
    have hr := Option.some.inj hF
    exact ⟨congrArg (fun (r : Int) => Ending.returned (.int .i64 r)) hr, hS.below⟩
  · refine cw_cond_f rfl hb112 ?_
    refine cw_skip ?_
    refine hQ110 _ _ _ ?_
    refine thn_n ?_
    refine cw_seq ?_
    refine cw_gen ?_
    intro Q114 hQ114
    refine cw_reg ?_
    refine el_pv (v := .pointer (some ⟨b103, 0 + 1, none⟩)) (pv_fieldAddr rfl) (by decide) ?_
    refine el_pv (v := u1) (pv_loadc rfl ((hS.boxAt 0 rfl) 1 _ rfl)) (by decide) ?_
    refine el_pv (v := .int .i64 r107) (pv_move rfl) (by decide) ?_
    replace hF := ob hF
    obtain ⟨r115, hr115, hF⟩ := hF
    refine el_call goes69 (laws_szIntS_ok (hS.up ha1) hr115) (congrArg List.toArray (mapc rfl (mapc rfl rfl))) (by decide) ?_
    rintro _ w116 ⟨rfl, hx117⟩
    refine ⟨_, rfl, ?_⟩
    replace hS := hS.ext hx117
    refine el_pv (v := .int .i64 r115) (pv_assign rfl) (by decide) ?_
    refine el_nil ?_
    refine hQ114 _ _ _ ?_
    refine thn_n ?_
    refine cw_seq ?_
    refine cw_gen ?_
    intro Q118 hQ118
    refine cw_seq ?_
    refine cw_gen ?_
    intro Q119 hQ119
    replace hS : Sat w0 w116 [] := hS.rems 1 [0] rfl
    refine cw_reg ?_
    refine el_pv (v := .int .i64 r115) (pv_move rfl) (by decide) ?_
    refine el_pv (v := .bool (decide (r115 < 0))) (pv_lss rfl rfl) (by decide) ?_
    refine el_nil ?_
    refine hQ119 _ _ _ ?_
    refine thn_n ?_
    replace hF := oif hF
    rcases hF with ⟨hb120, hF⟩ | ⟨hb120, hF⟩
    · refine cw_cond_t rfl hb120 ?_
      refine cw_seq ?_
      refine cw_gen ?_
      intro Q121 hQ121
      refine cw_reg ?_
      refine el_pv (v := .int .i64 (-1)) (pv_assign rfl) (by decide) ?_
      refine el_nil ?_
      refine hQ121 _ _ _ ?_
      refine thn_n ?_
      refine cw_ret ?_
      refine hQ118 _ _ _ ?_
      refine thn_r ?_
      refine fin1 rfl rfl ?_
      have hr := Option.some.inj hF
      exact ⟨congrArg (fun (r : Int) => Ending.returned (.int .i64 r)) hr, hS.below⟩
    · refine cw_cond_f rfl hb120 ?_
      refine cw_skip ?_
      refine hQ118 _ _ _ ?_
      refine thn_n ?_
      refine cw_seq ?_
      refine cw_gen ?_
      intro Q122 hQ122
      refine cw_reg ?_
      refine el_pv (v := .int .i64 r115) (pv_move rfl) (by decide) ?_
      refine el_pv (v := .int .i64 r115) (pv_assign rfl) (by decide) ?_
      refine el_nil ?_
      refine hQ122 _ _ _ ?_
      refine thn_n ?_
      refine cw_ret ?_
      refine fin1 rfl rfl ?_
      have hr := Option.some.inj hF
      exact ⟨congrArg (fun (r : Int) => Ending.returned (.int .i64 r)) hr, hS.below⟩
set_option maxHeartbeats 4000000 in
theorem laws_szFactorNodeS_ok {w0 : World} {u0 : Value} {a0 : List (List Int × List Int)} {a1 : Int} (ha0 : (sliceR (pairR (sliceR intR 3) (sliceR intR 3)) 113).rd w0 [u0] a0) {N : Nat} {r : Int} (hF : laws_szFactorNodeS N a0 a1 = some r) :
    Calls Try.prog 70 #[u0, .int .i64 a1] w0 fun e w' => e = .returned (.int .i64 r) ∧ Ext w0 w' := by
  unfold laws_szFactorNodeS at hF
  refine calls_E Try.func70 rfl rfl (of_decide_eq_true rfl) ?_
  have hS := Sat.start w0
  refine cw_seq ?_
  refine cw_gen ?_
  intro Q101 hQ101
  refine cw_reg ?_
  refine el_pv (v := .int .i64 0) (pv_assign rfl) (by decide) ?_
  refine el_nil ?_
  refine hQ101 _ _ _ ?_
  refine thn_n ?_
  refine cw_seq ?_
  refine cw_gen ?_
  intro Q102 hQ102
  refine cw_reg ?_
  refine el_pv (v := .int .i64 a1) (pv_move rfl) (by decide) ?_
  refine el_pv (v := u0) (pv_move rfl) (by decide) ?_
  refine el_pv (v := .int .i64 (a0.length : Int)) (pv_len rfl ha0) (by decide) ?_
  replace hF := ob hF
  obtain ⟨x103, hx103, hF⟩ := hF
  refine el_pv (v := .int .i64 x103) (pv_sub rfl rfl hx103) (by decide) ?_
  refine el_pv (v := .int .i64 x103) (pv_assign rfl) (by decide) ?_
  refine el_nil ?_
  refine hQ102 _ _ _ ?_
  refine thn_n ?_
  refine cw_seq ?_
  refine cw_gen ?_
  intro Q104 hQ104
  refine cw_seq ?_
  refine cw_gen ?_
  intro Q105 hQ105
  refine cw_reg ?_
  refine el_pv (v := .int .i64 x103) (pv_move rfl) (by decide) ?_
  refine el_pv (v := .bool (decide (x103 < 0))) (pv_lss rfl rfl) (by decide) ?_
  refine el_nil ?_
  refine hQ105 _ _ _ ?_
  refine thn_n ?_
  replace hF := oif hF
  rcases hF with ⟨hb106, hF⟩ | ⟨hb106, hF⟩
  · refine cw_cond_t rfl hb106 ?_
    refine cw_seq ?_
    refine cw_gen ?_
    intro Q107 hQ107
    refine cw_reg ?_
    refine el_pv (v := .int .i64 (-1)) (pv_assign rfl) (by decide) ?_
    refine el_nil ?_
    refine hQ107 _ _ _ ?_
    refine thn_n ?_
    refine cw_ret ?_
    refine hQ104 _ _ _ ?_
    refine thn_r ?_
    refine fin1 rfl rfl ?_
    have hr := Option.some.inj hF
    exact ⟨congrArg (fun (r : Int) => Ending.returned (.int .i64 r)) hr, hS.below⟩
  · refine cw_cond_f rfl hb106 ?_
    refine cw_skip ?_
    refine hQ104 _ _ _ ?_
    refine thn_n ?_
    refine cw_seq ?_
    refine cw_gen ?_
    intro Q108 hQ108
    refine cw_seq ?_
    refine cw_gen ?_
    intro Q109 hQ109
    refine cw_reg ?_
    refine el_pv (v := .int .i64 0) (pv_assign rfl) (by decide) ?_
    refine el_nil ?_
    refine hQ109 _ _ _ ?_
    refine thn_n ?_
    refine cw_block ?_
    refine cw_gen ?_
    intro Q110 hQ110
    obtain ⟨s111, hL, hK112⟩ := ob hF
    refine cw_loopS (fun k e w => ∃ (x113 : Int), ∃ (x114 : Int), e 0 = u0 ∧ e 1 = .int .i64 x113 ∧ e 5 = .int .i64 x114 ∧ Sat w0 w [] ∧ laws_szFactorNodeS_L1 N k a0 x113 x114 = some s111) N ?_ ?_ ?_
    · exact ⟨x103, 0, rfl, rfl, rfl, hS, hL⟩
    · rintro e w ⟨_, _, _, _, _, _, hz⟩; exact nomatch (show none = some _ from hz)
    · rintro k e119 w118 ⟨x113, x114, he115, he116, he117, hS, hF⟩
      refine cw_gen ?_
      intro Q120 hQ120
      refine cw_seq ?_
      refine cw_gen ?_
      intro Q121 hQ121
      refine cw_seq ?_
      refine cw_gen ?_
      intro Q122 hQ122
      refine cw_reg ?_
      refine el_pv (v := .int .i64 x114) (pv_move he117) (by decide) ?_
      refine el_pv (v := u0) (pv_move he115) (by decide) ?_
      refine el_pv (v := .int .i64 (a0.length : Int)) (pv_len rfl ha0) (by decide) ?_
      refine el_pv (v := .bool (decide (x114 < (a0.length : Int)))) (pv_lss rfl rfl) (by decide) ?_
      refine el_nil ?_
      refine hQ122 _ _ _ ?_
      refine thn_n ?_
      replace hF := oif hF
      rcases hF with ⟨hb123, hF⟩ | ⟨hb123, hF⟩
      · refine cw_cond_t rfl hb123 ?_
        refine cw_skip ?_
        refine hQ121 _ _ _ ?_
        refine thn_n ?_
        refine cw_seq ?_
        refine cw_gen ?_
        intro Q124 hQ124
        refine cw_block ?_
        refine cw_gen ?_
        intro Q125 hQ125
        refine cw_seq ?_
        refine cw_gen ?_
        intro Q126 hQ126
        refine cw_reg ?_
        refine el_pv (v := u0) (pv_move he115) (by decide) ?_
        refine el_pv (v := .int .i64 x114) (pv_move he117) (by decide) ?_
        replace hF := ob hF
        obtain ⟨x127, hx127, hF⟩ := hF
        refine el_index (wA := w0) rfl ha0 rfl (by decide) rfl hx127 (by decide) ?_
        intro b128 of129 c130 hr131 hm132
        obtain ⟨_, _, rfl, hr133, hr134⟩ := hr131
        obtain ⟨v135, rfl⟩ := slice_one hr133
        obtain ⟨v136, rfl⟩ := slice_one hr134
        refine el_pv (v := .agg #[v135, v136]) (pv_loada (cs := [v135, v136]) rfl rfl (cells_up hS.below hm132)) (by decide) ?_
        refine el_pv (v := .int .i64 x113) (pv_move he116) (by decide) ?_
        replace hF := ob hF
        obtain ⟨r137, hr137, hF⟩ := hF
        refine el_call goes105 (laws_szFactorNode_ok (hS.up hr133) (hS.up hr134) hr137) (congrArg List.toArray (mapc rfl (mapc rfl rfl))) (by decide) ?_
        rintro _ w138 ⟨rfl, hx139⟩
        refine ⟨_, rfl, ?_⟩
        replace hS := hS.ext hx139
        refine el_pv (v := .int .i64 r137) (pv_assign rfl) (by decide) ?_
        refine el_nil ?_
        refine hQ126 _ _ _ ?_
        refine thn_n ?_
        refine cw_seq ?_
        refine cw_gen ?_
        intro Q140 hQ140
        refine cw_reg ?_
        refine el_pv (v := .int .i64 r137) (pv_move rfl) (by decide) ?_
        refine el_pv (v := .bool (decide (r137 < 0))) (pv_lss rfl rfl) (by decide) ?_
        refine el_nil ?_
        refine hQ140 _ _ _ ?_
        refine thn_n ?_
        replace hF := oif hF
        rcases hF with ⟨hb141, hF⟩ | ⟨hb141, hF⟩
        · refine cw_cond_t rfl hb141 ?_
          refine cw_seq ?_
          refine cw_gen ?_
          intro Q142 hQ142
          refine cw_reg ?_
          refine el_pv (v := .int .i64 (-1)) (pv_assign rfl) (by decide) ?_
          refine el_nil ?_
          refine hQ142 _ _ _ ?_
          refine thn_n ?_
          refine cw_ret ?_
          refine hQ125 _ _ _ ?_
          refine inb_r ?_
          refine hQ124 _ _ _ ?_
          refine thn_r ?_
          refine hQ120 _ _ _ ?_
          refine thn_r ?_
          refine hQ110 _ _ _ ?_
          refine inb_r ?_
          refine hQ108 _ _ _ ?_
          refine thn_r ?_
          replace hF := exL hF hK112
          refine fin1 rfl rfl ?_
          have hr := Option.some.inj hF
          exact ⟨congrArg (fun (r : Int) => Ending.returned (.int .i64 r)) hr, hS.below⟩
        · refine cw_cond_f rfl hb141 ?_
          refine cw_skip ?_
          refine hQ125 _ _ _ ?_
          refine inb_n ?_
          refine hQ124 _ _ _ ?_
          refine thn_n ?_
          refine cw_reg ?_
          refine el_pv (v := .int .i64 x114) (pv_move he117) (by decide) ?_
          replace hF := ob hF
          obtain ⟨x143, hx143, hF⟩ := hF
          refine el_pv (v := .int .i64 x143) (pv_add rfl rfl hx143) (by decide) ?_
          refine el_pv (v := .int .i64 x143) (pv_assign rfl) (by decide) ?_
          refine el_nil ?_
          refine hQ120 _ _ _ ?_
          refine thn_n ?_
          replace hS := hS.keep 0
          exact ⟨r137, x143, he115, rfl, rfl, hS, hF⟩
      · refine cw_cond_f rfl hb123 ?_
        refine cw_exit ?_
        refine hQ121 _ _ _ ?_
        refine thn_x ?_
        refine hQ120 _ _ _ ?_
        refine thn_x ?_
        replace hF := exA hF hK112
        refine hQ110 _ _ _ ?_
        refine inb_s ?_
        refine hQ108 _ _ _ ?_
        refine thn_n ?_
        refine cw_seq ?_
        refine cw_gen ?_
        intro Q144 hQ144
        refine cw_reg ?_
        refine el_pv (v := .int .i64 x113) (pv_move he116) (by decide) ?_
        refine el_pv (v := .int .i64 x113) (pv_assign rfl) (by decide) ?_
        refine el_nil ?_
        refine hQ144 _ _ _ ?_
        refine thn_n ?_
        refine cw_ret ?_
        refine fin1 rfl rfl ?_
        have hr := Option.some.inj hF
        exact ⟨congrArg (fun (r : Int) => Ending.returned (.int .i64 r)) hr, hS.below⟩
set_option maxHeartbeats 4000000 in
theorem laws_szFactorization_ok {w0 : World} {u0 : Value} {a0 : List Int} {u1 : Value} {a1 : List (List Int × List Int)} {a2 : Int} (ha0 : (sliceR intR 3).rd w0 [u0] a0) (ha1 : (sliceR (pairR (sliceR intR 3) (sliceR intR 3)) 113).rd w0 [u1] a1) {N : Nat} {r : Int} (hF : laws_szFactorization N a0 a1 a2 = some r) :
    Calls Try.prog 26 #[.agg #[u0, u1], .int .i64 a2] w0 fun e w' => e = .returned (.int .i64 r) ∧ Ext w0 w' := by
  unfold laws_szFactorization at hF
  refine calls_E Try.func26 rfl rfl (of_decide_eq_true rfl) ?_
  have hS := Sat.start w0
  refine cw_seq ?_
  refine cw_gen ?_
  intro Q101 hQ101
  refine cw_reg ?_
  refine el_box [u0, u1] rfl hS (by decide) ?_
  intro w102 b103 hS hx104
  refine el_pv (v := .int .i64 0) (pv_assign rfl) (by decide) ?_
  refine el_nil ?_
  refine hQ101 _ _ _ ?_
  refine thn_n ?_
  refine cw_seq ?_
  refine cw_gen ?_
  intro Q106 hQ106
  refine cw_reg ?_
  refine el_pv (v := .pointer (some ⟨b103, 0 + 0, none⟩)) (pv_fieldAddr rfl) (by decide) ?_
  refine el_pv (v := u0) (pv_loadc rfl ((hS.boxAt 0 rfl) 0 _ rfl)) (by decide) ?_
  refine el_pv (v := .int .i64 a2) (pv_move rfl) (by decide) ?_
  replace hF := ob hF
  obtain ⟨r107, hr107, hF⟩ := hF
  refine el_call goes69 (laws_szIntS_ok (hS.up ha0) hr107) (congrArg List.toArray (mapc rfl (mapc rfl rfl))) (by decide) ?_
  rintro _ w108 ⟨rfl, hx109⟩
  refine ⟨_, rfl, ?_⟩
  replace hS := hS.ext hx109
  refine el_pv (v := .int .i64 r107) (pv_assign rfl) (by decide) ?_
  refine el_nil ?_
  refine hQ106 _ _ _ ?_
  refine thn_n ?_
  refine cw_seq ?_
  refine cw_gen ?_
  intro Q110 hQ110
  refine cw_seq ?_
  refine cw_gen ?_
  intro Q111 hQ111
  refine cw_reg ?_
  refine el_pv (v := .int .i64 r107) (pv_move rfl) (by decide) ?_
  refine el_pv (v := .bool (decide (r107 < 0))) (pv_lss rfl rfl) (by decide) ?_
  refine el_nil ?_
  refine hQ111 _ _ _ ?_
  refine thn_n ?_
  replace hF := oif hF
  rcases hF with ⟨hb112, hF⟩ | ⟨hb112, hF⟩
  · refine cw_cond_t rfl hb112 ?_
    refine cw_seq ?_
    refine cw_gen ?_
    intro Q113 hQ113
    replace hS : Sat w0 w108 [] := hS.rems 1 [0] rfl
    refine cw_reg ?_
    refine el_pv (v := .int .i64 (-1)) (pv_assign rfl) (by decide) ?_
    refine el_nil ?_
    refine hQ113 _ _ _ ?_
    refine thn_n ?_
    refine cw_ret ?_
    refine hQ110 _ _ _ ?_
    refine thn_r ?_
    refine fin1 rfl rfl ?_
    have hr := Option.some.inj hF
    exact ⟨congrArg (fun (r : Int) => Ending.returned (.int .i64 r)) hr, hS.below⟩
  · refine cw_cond_f rfl hb112 ?_
    refine cw_skip ?_
    refine hQ110 _ _ _ ?_
    refine thn_n ?_
    refine cw_seq ?_
    refine cw_gen ?_
    intro Q114 hQ114
    refine cw_reg ?_
    refine el_pv (v := .pointer (some ⟨b103, 0 + 1, none⟩)) (pv_fieldAddr rfl) (by decide) ?_
    refine el_pv (v := u1) (pv_loadc rfl ((hS.boxAt 0 rfl) 1 _ rfl)) (by decide) ?_
    refine el_pv (v := .int .i64 r107) (pv_move rfl) (by decide) ?_
    replace hF := ob hF
    obtain ⟨r115, hr115, hF⟩ := hF
    refine el_call goes70 (laws_szFactorNodeS_ok (hS.up ha1) hr115) (congrArg List.toArray (mapc rfl (mapc rfl rfl))) (by decide) ?_
    rintro _ w116 ⟨rfl, hx117⟩
    refine ⟨_, rfl, ?_⟩
    replace hS := hS.ext hx117
    refine el_pv (v := .int .i64 r115) (pv_assign rfl) (by decide) ?_
    refine el_nil ?_
    refine hQ114 _ _ _ ?_
    refine thn_n ?_
    refine cw_seq ?_
    refine cw_gen ?_
    intro Q118 hQ118
    refine cw_seq ?_
    refine cw_gen ?_
    intro Q119 hQ119
    replace hS : Sat w0 w116 [] := hS.rems 1 [0] rfl
    refine cw_reg ?_
    refine el_pv (v := .int .i64 r115) (pv_move rfl) (by decide) ?_
    refine el_pv (v := .bool (decide (r115 < 0))) (pv_lss rfl rfl) (by decide) ?_
    refine el_nil ?_
    refine hQ119 _ _ _ ?_
    refine thn_n ?_
    replace hF := oif hF
    rcases hF with ⟨hb120, hF⟩ | ⟨hb120, hF⟩
    · refine cw_cond_t rfl hb120 ?_
      refine cw_seq ?_
      refine cw_gen ?_
      intro Q121 hQ121
      refine cw_reg ?_
      refine el_pv (v := .int .i64 (-1)) (pv_assign rfl) (by decide) ?_
      refine el_nil ?_
      refine hQ121 _ _ _ ?_
      refine thn_n ?_
      refine cw_ret ?_
      refine hQ118 _ _ _ ?_
      refine thn_r ?_
      refine fin1 rfl rfl ?_
      have hr := Option.some.inj hF
      exact ⟨congrArg (fun (r : Int) => Ending.returned (.int .i64 r)) hr, hS.below⟩
    · refine cw_cond_f rfl hb120 ?_
      refine cw_skip ?_
      refine hQ118 _ _ _ ?_
      refine thn_n ?_
      refine cw_seq ?_
      refine cw_gen ?_
      intro Q122 hQ122
      refine cw_reg ?_
      refine el_pv (v := .int .i64 r115) (pv_move rfl) (by decide) ?_
      refine el_pv (v := .int .i64 r115) (pv_assign rfl) (by decide) ?_
      refine el_nil ?_
      refine hQ122 _ _ _ ?_
      refine thn_n ?_
      refine cw_ret ?_
      refine fin1 rfl rfl ?_
      have hr := Option.some.inj hF
      exact ⟨congrArg (fun (r : Int) => Ending.returned (.int .i64 r)) hr, hS.below⟩
set_option maxHeartbeats 4000000 in
theorem spec_l1In_ok {w0 : World} {a0 : Int} {a1 : Int} {a2 : Int}  {N : Nat} {r : Bool} (hF : spec_l1In N a0 a1 a2 = some r) :
    Calls Try.prog 58 #[.int .i64 a0, .int .i64 a1, .int .i64 a2] w0 fun e w' => e = .returned (.bool r) ∧ Ext w0 w' := by
  unfold spec_l1In at hF
  refine calls_E Try.func58 rfl rfl (of_decide_eq_true rfl) ?_
  have hS := Sat.start w0
  refine cw_seq ?_
  refine cw_gen ?_
  intro Q101 hQ101
  refine cw_reg ?_
  refine el_pv (v := .bool false) (pv_assign rfl) (by decide) ?_
  refine el_nil ?_
  refine hQ101 _ _ _ ?_
  refine thn_n ?_
  refine cw_seq ?_
  refine cw_gen ?_
  intro Q102 hQ102
  refine cw_reg ?_
  refine el_pv (v := .int .i64 a0) (pv_move rfl) (by decide) ?_
  refine el_pv (v := .int .i64 a1) (pv_move rfl) (by decide) ?_
  refine el_pv (v := .bool (decide (a1 ≤ a0))) (pv_geq rfl rfl) (by decide) ?_
  refine el_pv (v := .bool (decide (a1 ≤ a0))) (pv_move rfl) (by decide) ?_
  replace hF := oif hF
  rcases hF with ⟨hb103, hF⟩ | ⟨hb103, hF⟩
  · refine el_on rfl hb103 ?_
    refine el_pv (v := .int .i64 a0) (pv_move rfl) (by decide) ?_
    refine el_on rfl hb103 ?_
    refine el_pv (v := .int .i64 a2) (pv_move rfl) (by decide) ?_
    refine el_on rfl hb103 ?_
    refine el_pv (v := .bool (decide (a0 ≤ a2))) (pv_leq rfl rfl) (by decide) ?_
    refine el_pv (v := .bool (decide (a0 ≤ a2))) (pv_pick_t rfl hb103 rfl) (by decide) ?_
    refine el_pv (v := .bool (decide (a0 ≤ a2))) (pv_assign rfl) (by decide) ?_
    refine el_nil ?_
    refine hQ102 _ _ _ ?_
    refine thn_n ?_
    refine cw_ret ?_
    refine fin1 rfl rfl ?_
    have hr := Option.some.inj hF
    exact ⟨congrArg (fun (r : Bool) => Ending.returned (.bool r)) hr, hS.below⟩
  · refine el_off rfl hb103 rfl (by decide) ?_
    refine el_off rfl hb103 rfl (by decide) ?_
    refine el_off rfl hb103 rfl (by decide) ?_
    refine el_pv (v := .bool false) (pv_pick_f rfl hb103 rfl) (by decide) ?_
    refine el_pv (v := .bool false) (pv_assign rfl) (by decide) ?_
    refine el_nil ?_
    refine hQ102 _ _ _ ?_
    refine thn_n ?_
    refine cw_ret ?_
    refine fin1 rfl rfl ?_
    have hr := Option.some.inj hF
    exact ⟨congrArg (fun (r : Bool) => Ending.returned (.bool r)) hr, hS.below⟩
set_option maxHeartbeats 4000000 in
theorem spec_AreValidValues_ok {w0 : World} {u0 : Value} {a0 : List Int} (ha0 : (sliceR intR 3).rd w0 [u0] a0) {N : Nat} {r : Bool} (hF : spec_AreValidValues N a0 = some r) :
    Calls Try.prog 59 #[u0] w0 fun e w' => e = .returned (.bool r) ∧ Ext w0 w' := by
  unfold spec_AreValidValues at hF
  refine calls_E Try.func59 rfl rfl (of_decide_eq_true rfl) ?_
  have hS := Sat.start w0
  refine cw_seq ?_
  refine cw_gen ?_
  intro Q101 hQ101
  refine cw_reg ?_
  refine el_pv (v := .bool false) (pv_assign rfl) (by decide) ?_
  refine el_nil ?_
  refine hQ101 _ _ _ ?_
  refine thn_n ?_
  refine cw_seq ?_
  refine cw_gen ?_
  intro Q102 hQ102
  refine cw_seq ?_
  refine cw_gen ?_
  intro Q103 hQ103
  refine cw_reg ?_
  refine el_pv (v := .int .i64 0) (pv_assign rfl) (by decide) ?_
  refine el_nil ?_
  refine hQ103 _ _ _ ?_
  refine thn_n ?_
  refine cw_block ?_
  refine cw_gen ?_
  intro Q104 hQ104
  obtain ⟨s105, hL, hK106⟩ := ob hF
  refine cw_loopS (fun k e w => ∃ (x107 : Int), e 0 = u0 ∧ e 3 = .int .i64 x107 ∧ Sat w0 w [] ∧ spec_AreValidValues_L1 N k a0 x107 = some s105) N ?_ ?_ ?_
  · exact ⟨0, rfl, rfl, hS, hL⟩
  · rintro e w ⟨_, _, _, _, hz⟩; exact nomatch (show none = some _ from hz)
  · rintro k e111 w110 ⟨x107, he108, he109, hS, hF⟩
    refine cw_gen ?_
    intro Q112 hQ112
    refine cw_seq ?_
    refine cw_gen ?_
    intro Q113 hQ113
    refine cw_seq ?_
    refine cw_gen ?_
    intro Q114 hQ114
    refine cw_reg ?_
    refine el_pv (v := .int .i64 x107) (pv_move he109) (by decide) ?_
    refine el_pv (v := u0) (pv_move he108) (by decide) ?_
    refine el_pv (v := .int .i64 (a0.length : Int)) (pv_len rfl ha0) (by decide) ?_
    refine el_pv (v := .bool (decide (x107 < (a0.length : Int)))) (pv_lss rfl rfl) (by decide) ?_
    refine el_nil ?_
    refine hQ114 _ _ _ ?_
    refine thn_n ?_
    replace hF := oif hF
    rcases hF with ⟨hb115, hF⟩ | ⟨hb115, hF⟩
    · refine cw_cond_t rfl hb115 ?_
      refine cw_skip ?_
      refine hQ113 _ _ _ ?_
      refine thn_n ?_
      refine cw_seq ?_
      refine cw_gen ?_
      intro Q116 hQ116
      refine cw_block ?_
      refine cw_gen ?_
      intro Q117 hQ117
      refine cw_seq ?_
      refine cw_gen ?_
      intro Q118 hQ118
      refine cw_reg ?_
      refine el_pv (v := u0) (pv_move he108) (by decide) ?_
      refine el_pv (v := .int .i64 x107) (pv_move he109) (by decide) ?_
      replace hF := ob hF
      obtain ⟨x119, hx119, hF⟩ := hF
      refine el_index (wA := w0) rfl ha0 rfl (by decide) rfl hx119 (by decide) ?_
      intro b120 of121 c122 hr123 hm124
      obtain rfl := hr123
      refine el_pv (v := .int .i64 x119) (pv_loadc rfl ((cells_up hS.below hm124) 0 _ rfl)) (by decide) ?_
      replace hF := ob hF
      obtain ⟨r125, hr125, hF⟩ := hF
      refine el_call goes58 (spec_l1In_ok hr125) (congrArg List.toArray (mapc rfl (mapc rfl (mapc rfl rfl)))) (by decide) ?_
      rintro _ w126 ⟨rfl, hx127⟩
      refine ⟨_, rfl, ?_⟩
      replace hS := hS.ext hx127
      refine el_pv (v := .bool (!r125)) (pv_not rfl) (by decide) ?_
      refine el_nil ?_
      refine hQ118 _ _ _ ?_
      refine thn_n ?_
      replace hF := oif hF
      rcases hF with ⟨hb128, hF⟩ | ⟨hb128, hF⟩
      · refine cw_cond_f rfl (bnot_t hb128) ?_
        refine cw_skip ?_
        refine hQ117 _ _ _ ?_
        refine inb_n ?_
        refine hQ116 _ _ _ ?_
        refine thn_n ?_
        refine cw_reg ?_
        refine el_pv (v := .int .i64 x107) (pv_move he109) (by decide) ?_
        replace hF := ob hF
        obtain ⟨x129, hx129, hF⟩ := hF
        refine el_pv (v := .int .i64 x129) (pv_add rfl rfl hx129) (by decide) ?_
        refine el_pv (v := .int .i64 x129) (pv_assign rfl) (by decide) ?_
        refine el_nil ?_
        refine hQ112 _ _ _ ?_
        refine thn_n ?_
        replace hS := hS.keep 0
        exact ⟨x129, he108, rfl, hS, hF⟩
      · refine cw_cond_t rfl (bnot_f hb128) ?_
        refine cw_seq ?_
        refine cw_gen ?_
        intro Q130 hQ130
        refine cw_reg ?_
        refine el_pv (v := .bool false) (pv_assign rfl) (by decide) ?_
        refine el_nil ?_
        refine hQ130 _ _ _ ?_
        refine thn_n ?_
        refine cw_ret ?_
        refine hQ117 _ _ _ ?_
        refine inb_r ?_
        refine hQ116 _ _ _ ?_
        refine thn_r ?_
        refine hQ112 _ _ _ ?_
        refine thn_r ?_
        refine hQ104 _ _ _ ?_
        refine inb_r ?_
        refine hQ102 _ _ _ ?_
        refine thn_r ?_
        replace hF := exL hF hK106
        refine fin1 rfl rfl ?_
        have hr := Option.some.inj hF
        exact ⟨congrArg (fun (r : Bool) => Ending.returned (.bool r)) hr, hS.below⟩
    · refine cw_cond_f rfl hb115 ?_
      refine cw_exit ?_
      refine hQ113 _ _ _ ?_
      refine thn_x ?_
      refine hQ112 _ _ _ ?_
      refine thn_x ?_
      replace hF := exA hF hK106
      refine hQ104 _ _ _ ?_
      refine inb_s ?_
      refine hQ102 _ _ _ ?_
      refine thn_n ?_
      refine cw_seq ?_
      refine cw_gen ?_
      intro Q131 hQ131
      refine cw_reg ?_
      refine el_pv (v := .bool true) (pv_assign rfl) (by decide) ?_
      refine el_nil ?_
      refine hQ131 _ _ _ ?_
      refine thn_n ?_
      refine cw_ret ?_
      refine fin1 rfl rfl ?_
      have hr := Option.some.inj hF
      exact ⟨congrArg (fun (r : Bool) => Ending.returned (.bool r)) hr, hS.below⟩
set_option maxHeartbeats 4000000 in
theorem spec_CompareRows_ok {w0 : World} {u0 : Value} {a0 : List Int} {u1 : Value} {a1 : List Int} (ha0 : (sliceR intR 3).rd w0 [u0] a0) (ha1 : (sliceR intR 3).rd w0 [u1] a1) {N : Nat} {r : Int} (hF : spec_CompareRows N a0 a1 = some r) :
    Calls Try.prog 60 #[u0, u1] w0 fun e w' => e = .returned (.int .i64 r) ∧ Ext w0 w' := by
  unfold spec_CompareRows at hF
  refine calls_E Try.func60 rfl rfl (of_decide_eq_true rfl) ?_
  have hS := Sat.start w0
  refine cw_seq ?_
  refine cw_gen ?_
  intro Q101 hQ101
  refine cw_reg ?_
  refine el_pv (v := .int .i64 0) (pv_assign rfl) (by decide) ?_
  refine el_nil ?_
  refine hQ101 _ _ _ ?_
  refine thn_n ?_
  refine cw_seq ?_
  refine cw_gen ?_
  intro Q102 hQ102
  refine cw_seq ?_
  refine cw_gen ?_
  intro Q103 hQ103
  refine cw_reg ?_
  refine el_pv (v := .int .i64 0) (pv_assign rfl) (by decide) ?_
  refine el_nil ?_
  refine hQ103 _ _ _ ?_
  refine thn_n ?_
  refine cw_block ?_
  refine cw_gen ?_
  intro Q104 hQ104
  obtain ⟨s105, hL, hK106⟩ := ob hF
  refine cw_loopS (fun k e w => ∃ (x107 : Int), e 0 = u0 ∧ e 1 = u1 ∧ e 5 = .int .i64 x107 ∧ Sat w0 w [] ∧ spec_CompareRows_L1 N k a0 a1 x107 = some s105) N ?_ ?_ ?_
  · exact ⟨0, rfl, rfl, rfl, hS, hL⟩
  · rintro e w ⟨_, _, _, _, _, hz⟩; exact nomatch (show none = some _ from hz)
  · rintro k e112 w111 ⟨x107, he108, he109, he110, hS, hF⟩
    refine cw_gen ?_
    intro Q113 hQ113
    refine cw_seq ?_
    refine cw_gen ?_
    intro Q114 hQ114
    refine cw_seq ?_
    refine cw_gen ?_
    intro Q115 hQ115
    refine cw_reg ?_
    refine el_pv (v := .int .i64 x107) (pv_move he110) (by decide) ?_
    refine el_pv (v := u0) (pv_move he108) (by decide) ?_
    refine el_pv (v := .int .i64 (a0.length : Int)) (pv_len rfl ha0) (by decide) ?_
    refine el_pv (v := .bool (decide (x107 < (a0.length : Int)))) (pv_lss rfl rfl) (by decide) ?_
    refine el_pv (v := .bool (decide (x107 < (a0.length : Int)))) (pv_move rfl) (by decide) ?_
    replace hF := oif hF
    rcases hF with ⟨hb116, hF⟩ | ⟨hb116, hF⟩
    · refine el_on rfl hb116 ?_
      refine el_pv (v := .int .i64 x107) (pv_move he110) (by decide) ?_
      refine el_on rfl hb116 ?_
      refine el_pv (v := u1) (pv_move he109) (by decide) ?_
      refine el_on rfl hb116 ?_
      refine el_pv (v := .int .i64 (a1.length : Int)) (pv_len rfl ha1) (by decide) ?_
      refine el_on rfl hb116 ?_
      refine el_pv (v := .bool (decide (x107 < (a1.length : Int)))) (pv_lss rfl rfl) (by decide) ?_
      refine el_pv (v := .bool (decide (x107 < (a1.length : Int)))) (pv_pick_t rfl hb116 rfl) (by decide) ?_
      refine el_nil ?_
      refine hQ115 _ _ _ ?_
      refine thn_n ?_
      replace hF := oif hF
      rcases hF with ⟨hb117, hF⟩ | ⟨hb117, hF⟩
      · refine cw_cond_t rfl hb117 ?_
        refine cw_skip ?_
        refine hQ114 _ _ _ ?_
        refine thn_n ?_
        refine cw_seq ?_
        refine cw_gen ?_
        intro Q118 hQ118
        refine cw_block ?_
        refine cw_gen ?_
        intro Q119 hQ119
        refine cw_seq ?_
        refine cw_gen ?_
        intro Q120 hQ120
        refine cw_seq ?_
        refine cw_gen ?_
        intro Q121 hQ121
        refine cw_regq (by kernel_rfl) (by kernel_rfl) ?_
        refine ql_pv (v := u0) (pv_move he108) (by decide) ?_
        refine ql_pv (v := .int .i64 x107) (pv_move he110) (by decide) ?_
        replace hF := ob hF
        obtain ⟨x122, hx122, hF⟩ := hF
        refine ql_index (wA := w0) rfl ha0 rfl (by decide) rfl hx122 (by decide) ?_
        intro b123 of124 c125 hr126 hm127
        obtain rfl := hr126
        refine ql_pv (v := .int .i64 x122) (pv_loadc rfl ((cells_up hS.below hm127) 0 _ rfl)) (by decide) ?_
        refine ql_pv (v := u1) (pv_move he109) (by decide) ?_
        refine ql_pv (v := .int .i64 x107) (pv_move he110) (by decide) ?_
        replace hF := ob hF
        obtain ⟨x128, hx128, hF⟩ := hF
        refine ql_index (wA := w0) rfl ha1 rfl (by decide) rfl hx128 (by decide) ?_
        intro b129 of130 c131 hr132 hm133
        obtain rfl := hr132
        refine ql_pv (v := .int .i64 x128) (pv_loadc rfl ((cells_up hS.below hm133) 0 _ rfl)) (by decide) ?_
        refine ql_pv (v := .bool (decide (x122 < x128))) (pv_lss rfl rfl) (by decide) ?_
        refine ql_nil ?_
        intro w134 hx135
        replace hS := hS.ext hx135
        refine hQ121 _ _ _ ?_
        refine thn_n ?_
        replace hF := oif hF
        rcases hF with ⟨hb136, hF⟩ | ⟨hb136, hF⟩
        · refine cw_cond_t rfl hb136 ?_
          refine cw_seq ?_
          refine cw_gen ?_
          intro Q137 hQ137
          refine cw_reg ?_
          refine el_pv (v := .int .i64 (-1)) (pv_assign rfl) (by decide) ?_
          refine el_nil ?_
          refine hQ137 _ _ _ ?_
          refine thn_n ?_
          refine cw_ret ?_
          refine hQ120 _ _ _ ?_
          refine thn_r ?_
          refine hQ119 _ _ _ ?_
          refine inb_r ?_
          refine hQ118 _ _ _ ?_
          refine thn_r ?_
          refine hQ113 _ _ _ ?_
          refine thn_r ?_
          refine hQ104 _ _ _ ?_
          refine inb_r ?_
          refine hQ102 _ _ _ ?_
          refine thn_r ?_
          replace hF := exL hF hK106
          refine fin1 rfl rfl ?_
          have hr := Option.some.inj hF
          exact ⟨congrArg (fun (r : Int) => Ending.returned (.int .i64 r)) hr, hS.below⟩
        · refine cw_cond_f rfl hb136 ?_
          refine cw_skip ?_
          refine hQ120 _ _ _ ?_
          refine thn_n ?_
          refine cw_seq ?_
          refine cw_gen ?_
          intro Q138 hQ138
          refine cw_regq (by kernel_rfl) (by kernel_rfl) ?_
          refine ql_pv (v := u0) (pv_move he108) (by decide) ?_
          refine ql_pv (v := .int .i64 x107) (pv_move he110) (by decide) ?_
          replace hF := ob hF
          obtain ⟨x139, hx139, hF⟩ := hF
          refine ql_index (wA := w0) rfl ha0 rfl (by decide) rfl hx139 (by decide) ?_
          intro b140 of141 c142 hr143 hm144
          obtain rfl := hr143
          refine ql_pv (v := .int .i64 x139) (pv_loadc rfl ((cells_up hS.below hm144) 0 _ rfl)) (by decide) ?_
          refine ql_pv (v := u1) (pv_move he109) (by decide) ?_
          refine ql_pv (v := .int .i64 x107) (pv_move he110) (by decide) ?_
          replace hF := ob hF
          obtain ⟨x145, hx145, hF⟩ := hF
          refine ql_index (wA := w0) rfl ha1 rfl (by decide) rfl hx145 (by decide) ?_
          intro b146 of147 c148 hr149 hm150
          obtain rfl := hr149
          refine ql_pv (v := .int .i64 x145) (pv_loadc rfl ((cells_up hS.below hm150) 0 _ rfl)) (by decide) ?_
          refine ql_pv (v := .bool (decide (x145 < x139))) (pv_gtr rfl rfl) (by decide) ?_
          refine ql_nil ?_
          intro w151 hx152
          replace hS := hS.ext hx152
          refine hQ138 _ _ _ ?_
          refine thn_n ?_
          replace hF := oif hF
          rcases hF with ⟨hb153, hF⟩ | ⟨hb153, hF⟩
          · refine cw_cond_t rfl hb153 ?_
            refine cw_seq ?_
            refine cw_gen ?_
            intro Q154 hQ154
            refine cw_reg ?_
            refine el_pv (v := .int .i64 1) (pv_assign rfl) (by decide) ?_
            refine el_nil ?_
            refine hQ154 _ _ _ ?_
            refine thn_n ?_
            refine cw_ret ?_
            refine hQ119 _ _ _ ?_
            refine inb_r ?_
            refine hQ118 _ _ _ ?_
            refine thn_r ?_
            refine hQ113 _ _ _ ?_
            refine thn_r ?_
            refine hQ104 _ _ _ ?_
            refine inb_r ?_
            refine hQ102 _ _ _ ?_
            refine thn_r ?_
            replace hF := exL hF hK106
            refine fin1 rfl rfl ?_
            have hr := Option.some.inj hF
            exact ⟨congrArg (fun (r : Int) => Ending.returned (.int .i64 r)) hr, hS.below⟩
          · refine cw_cond_f rfl hb153 ?_
            refine cw_skip ?_
            refine hQ119 _ _ _ ?_
            refine inb_n ?_
            refine hQ118 _ _ _ ?_
            refine thn_n ?_
            refine cw_reg ?_
            refine el_pv (v := .int .i64 x107) (pv_move he110) (by decide) ?_
            replace hF := ob hF
            obtain ⟨x155, hx155, hF⟩ := hF
            refine el_pv (v := .int .i64 x155) (pv_add rfl rfl hx155) (by decide) ?_
            refine el_pv (v := .int .i64 x155) (pv_assign rfl) (by decide) ?_
            refine el_nil ?_
            refine hQ113 _ _ _ ?_
            refine thn_n ?_
            replace hS := hS.keep 0
            exact ⟨x155, he108, he109, rfl, hS, hF⟩
      · refine cw_cond_f rfl hb117 ?_
        refine cw_exit ?_
        refine hQ114 _ _ _ ?_
        refine thn_x ?_
        refine hQ113 _ _ _ ?_
        refine thn_x ?_
        replace hF := exA hF hK106
        refine hQ104 _ _ _ ?_
        refine inb_s ?_
        refine hQ102 _ _ _ ?_
        refine thn_n ?_
        refine cw_seq ?_
        refine cw_gen ?_
        intro Q156 hQ156
        refine cw_seq ?_
        refine cw_gen ?_
        intro Q157 hQ157
        refine cw_reg ?_
        refine el_pv (v := u0) (pv_move he108) (by decide) ?_
        refine el_pv (v := .int .i64 (a0.length : Int)) (pv_len rfl ha0) (by decide) ?_
        refine el_pv (v := u1) (pv_move he109) (by decide) ?_
        refine el_pv (v := .int .i64 (a1.length : Int)) (pv_len rfl ha1) (by decide) ?_
        refine el_pv (v := .bool (decide ((a0.length : Int) < (a1.length : Int)))) (pv_lss rfl rfl) (by decide) ?_
        refine el_nil ?_
        refine hQ157 _ _ _ ?_
        refine thn_n ?_
        replace hF := oif hF
        rcases hF with ⟨hb158, hF⟩ | ⟨hb158, hF⟩
        · refine cw_cond_t rfl hb158 ?_
          refine cw_seq ?_
          refine cw_gen ?_
          intro Q159 hQ159
          refine cw_reg ?_
          refine el_pv (v := .int .i64 (-1)) (pv_assign rfl) (by decide) ?_
          refine el_nil ?_
          refine hQ159 _ _ _ ?_
          refine thn_n ?_
          refine cw_ret ?_
          refine hQ156 _ _ _ ?_
          refine thn_r ?_
          refine fin1 rfl rfl ?_
          have hr := Option.some.inj hF
          exact ⟨congrArg (fun (r : Int) => Ending.returned (.int .i64 r)) hr, hS.below⟩
        · refine cw_cond_f rfl hb158 ?_
          refine cw_skip ?_
          refine hQ156 _ _ _ ?_
          refine thn_n ?_
          refine cw_seq ?_
          refine cw_gen ?_
          intro Q160 hQ160
          refine cw_seq ?_
          refine cw_gen ?_
          intro Q161 hQ161
          refine cw_reg ?_
          refine el_pv (v := u0) (pv_move he108) (by decide) ?_
          refine el_pv (v := .int .i64 (a0.length : Int)) (pv_len rfl ha0) (by decide) ?_
          refine el_pv (v := u1) (pv_move he109) (by decide) ?_
          refine el_pv (v := .int .i64 (a1.length : Int)) (pv_len rfl ha1) (by decide) ?_
          refine el_pv (v := .bool (decide ((a1.length : Int) < (a0.length : Int)))) (pv_gtr rfl rfl) (by decide) ?_
          refine el_nil ?_
          refine hQ161 _ _ _ ?_
          refine thn_n ?_
          replace hF := oif hF
          rcases hF with ⟨hb162, hF⟩ | ⟨hb162, hF⟩
          · refine cw_cond_t rfl hb162 ?_
            refine cw_seq ?_
            refine cw_gen ?_
            intro Q163 hQ163
            refine cw_reg ?_
            refine el_pv (v := .int .i64 1) (pv_assign rfl) (by decide) ?_
            refine el_nil ?_
            refine hQ163 _ _ _ ?_
            refine thn_n ?_
            refine cw_ret ?_
            refine hQ160 _ _ _ ?_
            refine thn_r ?_
            refine fin1 rfl rfl ?_
            have hr := Option.some.inj hF
            exact ⟨congrArg (fun (r : Int) => Ending.returned (.int .i64 r)) hr, hS.below⟩
          · refine cw_cond_f rfl hb162 ?_
            refine cw_skip ?_
            refine hQ160 _ _ _ ?_
            refine thn_n ?_
            refine cw_seq ?_
            refine cw_gen ?_
            intro Q164 hQ164
            refine cw_reg ?_
            refine el_pv (v := .int .i64 0) (pv_assign rfl) (by decide) ?_
            refine el_nil ?_
            refine hQ164 _ _ _ ?_
            refine thn_n ?_
            refine cw_ret ?_
            refine fin1 rfl rfl ?_
            have hr := Option.some.inj hF
            exact ⟨congrArg (fun (r : Int) => Ending.returned (.int .i64 r)) hr, hS.below⟩
    · refine el_off rfl hb116 rfl (by decide) ?_
      refine el_off rfl hb116 rfl (by decide) ?_
      refine el_off rfl hb116 rfl (by decide) ?_
      refine el_off rfl hb116 rfl (by decide) ?_
      refine el_pv (v := .bool false) (pv_pick_f rfl hb116 rfl) (by decide) ?_
      refine el_nil ?_
      refine hQ115 _ _ _ ?_
      refine thn_n ?_
      refine cw_cond_f rfl rfl ?_
      refine cw_exit ?_
      refine hQ114 _ _ _ ?_
      refine thn_x ?_
      refine hQ113 _ _ _ ?_
      refine thn_x ?_
      replace hF := exA hF hK106
      refine hQ104 _ _ _ ?_
      refine inb_s ?_
      refine hQ102 _ _ _ ?_
      refine thn_n ?_
      refine cw_seq ?_
      refine cw_gen ?_
      intro Q165 hQ165
      refine cw_seq ?_
      refine cw_gen ?_
      intro Q166 hQ166
      refine cw_reg ?_
      refine el_pv (v := u0) (pv_move he108) (by decide) ?_
      refine el_pv (v := .int .i64 (a0.length : Int)) (pv_len rfl ha0) (by decide) ?_
      refine el_pv (v := u1) (pv_move he109) (by decide) ?_
      refine el_pv (v := .int .i64 (a1.length : Int)) (pv_len rfl ha1) (by decide) ?_
      refine el_pv (v := .bool (decide ((a0.length : Int) < (a1.length : Int)))) (pv_lss rfl rfl) (by decide) ?_
      refine el_nil ?_
      refine hQ166 _ _ _ ?_
      refine thn_n ?_
      replace hF := oif hF
      rcases hF with ⟨hb167, hF⟩ | ⟨hb167, hF⟩
      · refine cw_cond_t rfl hb167 ?_
        refine cw_seq ?_
        refine cw_gen ?_
        intro Q168 hQ168
        refine cw_reg ?_
        refine el_pv (v := .int .i64 (-1)) (pv_assign rfl) (by decide) ?_
        refine el_nil ?_
        refine hQ168 _ _ _ ?_
        refine thn_n ?_
        refine cw_ret ?_
        refine hQ165 _ _ _ ?_
        refine thn_r ?_
        refine fin1 rfl rfl ?_
        have hr := Option.some.inj hF
        exact ⟨congrArg (fun (r : Int) => Ending.returned (.int .i64 r)) hr, hS.below⟩
      · refine cw_cond_f rfl hb167 ?_
        refine cw_skip ?_
        refine hQ165 _ _ _ ?_
        refine thn_n ?_
        refine cw_seq ?_
        refine cw_gen ?_
        intro Q169 hQ169
        refine cw_seq ?_
        refine cw_gen ?_
        intro Q170 hQ170
        refine cw_reg ?_
        refine el_pv (v := u0) (pv_move he108) (by decide) ?_
        refine el_pv (v := .int .i64 (a0.length : Int)) (pv_len rfl ha0) (by decide) ?_
        refine el_pv (v := u1) (pv_move he109) (by decide) ?_
        refine el_pv (v := .int .i64 (a1.length : Int)) (pv_len rfl ha1) (by decide) ?_
        refine el_pv (v := .bool (decide ((a1.length : Int) < (a0.length : Int)))) (pv_gtr rfl rfl) (by decide) ?_
        refine el_nil ?_
        refine hQ170 _ _ _ ?_
        refine thn_n ?_
        replace hF := oif hF
        rcases hF with ⟨hb171, hF⟩ | ⟨hb171, hF⟩
        · refine cw_cond_t rfl hb171 ?_
          refine cw_seq ?_
          refine cw_gen ?_
          intro Q172 hQ172
          refine cw_reg ?_
          refine el_pv (v := .int .i64 1) (pv_assign rfl) (by decide) ?_
          refine el_nil ?_
          refine hQ172 _ _ _ ?_
          refine thn_n ?_
          refine cw_ret ?_
          refine hQ169 _ _ _ ?_
          refine thn_r ?_
          refine fin1 rfl rfl ?_
          have hr := Option.some.inj hF
          exact ⟨congrArg (fun (r : Int) => Ending.returned (.int .i64 r)) hr, hS.below⟩
        · refine cw_cond_f rfl hb171 ?_
          refine cw_skip ?_
          refine hQ169 _ _ _ ?_
          refine thn_n ?_
          refine cw_seq ?_
          refine cw_gen ?_
          intro Q173 hQ173
          refine cw_reg ?_
          refine el_pv (v := .int .i64 0) (pv_assign rfl) (by decide) ?_
          refine el_nil ?_
          refine hQ173 _ _ _ ?_
          refine thn_n ?_
          refine cw_ret ?_
          refine fin1 rfl rfl ?_
          have hr := Option.some.inj hF
          exact ⟨congrArg (fun (r : Int) => Ending.returned (.int .i64 r)) hr, hS.below⟩
set_option maxHeartbeats 4000000 in
theorem spec_l7Find_ok {w0 : World} {u0 : Value} {a0 : List Int} {a1 : Int} (ha0 : (sliceR intR 3).rd w0 [u0] a0) {N : Nat} {r : Int} (hF : spec_l7Find N a0 a1 = some r) :
    Calls Try.prog 118 #[u0, .int .i64 a1] w0 fun e w' => e = .returned (.int .i64 r) ∧ Ext w0 w' := by
  unfold spec_l7Find at hF
  refine calls_E Try.func118 rfl rfl (of_decide_eq_true rfl) ?_
  have hS := Sat.start w0
  refine cw_seq ?_
  refine cw_gen ?_
  intro Q101 hQ101
  refine cw_reg ?_
  refine el_pv (v := .int .i64 0) (pv_assign rfl) (by decide) ?_
  refine el_nil ?_
  refine hQ101 _ _ _ ?_
  refine thn_n ?_
  refine cw_seq ?_
  refine cw_gen ?_
  intro Q102 hQ102
  refine cw_seq ?_
  refine cw_gen ?_
  intro Q103 hQ103
  refine cw_reg ?_
  refine el_pv (v := .int .i64 0) (pv_assign rfl) (by decide) ?_
  refine el_nil ?_
  refine hQ103 _ _ _ ?_
  refine thn_n ?_
  refine cw_block ?_
  refine cw_gen ?_
  intro Q104 hQ104
  obtain ⟨s105, hL, hK106⟩ := ob hF
  refine cw_loopS (fun k e w => ∃ (x107 : Int), e 0 = u0 ∧ e 1 = .int .i64 a1 ∧ e 5 = .int .i64 x107 ∧ Sat w0 w [] ∧ spec_l7Find_L1 N k a0 a1 x107 = some s105) N ?_ ?_ ?_
  · exact ⟨0, rfl, rfl, rfl, hS, hL⟩
  · rintro e w ⟨_, _, _, _, _, hz⟩; exact nomatch (show none = some _ from hz)
  · rintro k e112 w111 ⟨x107, he108, he109, he110, hS, hF⟩
    refine cw_gen ?_
    intro Q113 hQ113
    refine cw_seq ?_
    refine cw_gen ?_
    intro Q114 hQ114
    refine cw_seq ?_
    refine cw_gen ?_
    intro Q115 hQ115
    refine cw_reg ?_
    refine el_pv (v := .int .i64 x107) (pv_move he110) (by decide) ?_
    refine el_pv (v := u0) (pv_move he108) (by decide) ?_
    refine el_pv (v := .int .i64 (a0.length : Int)) (pv_len rfl ha0) (by decide) ?_
    refine el_pv (v := .bool (decide (x107 < (a0.length : Int)))) (pv_lss rfl rfl) (by decide) ?_
    refine el_nil ?_
    refine hQ115 _ _ _ ?_
    refine thn_n ?_
    replace hF := oif hF
    rcases hF with ⟨hb116, hF⟩ | ⟨hb116, hF⟩
    · refine cw_cond_t rfl hb116 ?_
      refine cw_skip ?_
      refine hQ114 _ _ _ ?_
      refine thn_n ?_
      refine cw_seq ?_
      refine cw_gen ?_
      intro Q117 hQ117
      refine cw_block ?_
      refine cw_gen ?_
      intro Q118 hQ118
      refine cw_seq ?_
      refine cw_gen ?_
      intro Q119 hQ119
      refine cw_reg ?_
      refine el_pv (v := u0) (pv_move he108) (by decide) ?_
      refine el_pv (v := .int .i64 x107) (pv_move he110) (by decide) ?_
      replace hF := ob hF
      obtain ⟨x120, hx120, hF⟩ := hF
      refine el_index (wA := w0) rfl ha0 rfl (by decide) rfl hx120 (by decide) ?_
      intro b121 of122 c123 hr124 hm125
      obtain rfl := hr124
      refine el_pv (v := .int .i64 x120) (pv_loadc rfl ((cells_up hS.below hm125) 0 _ rfl)) (by decide) ?_
      refine el_pv (v := .int .i64 a1) (pv_move he109) (by decide) ?_
      refine el_pv (v := .bool (x120 == a1)) (pv_eql rfl rfl) (by decide) ?_
      refine el_nil ?_
      refine hQ119 _ _ _ ?_
      refine thn_n ?_
      replace hF := oif hF
      rcases hF with ⟨hb126, hF⟩ | ⟨hb126, hF⟩
      · refine cw_cond_t rfl hb126 ?_
        refine cw_seq ?_
        refine cw_gen ?_
        intro Q127 hQ127
        refine cw_reg ?_
        refine el_pv (v := .int .i64 x107) (pv_move he110) (by decide) ?_
        refine el_pv (v := .int .i64 x107) (pv_assign rfl) (by decide) ?_
        refine el_nil ?_
        refine hQ127 _ _ _ ?_
        refine thn_n ?_
        refine cw_ret ?_
        refine hQ118 _ _ _ ?_
        refine inb_r ?_
        refine hQ117 _ _ _ ?_
        refine thn_r ?_
        refine hQ113 _ _ _ ?_
        refine thn_r ?_
        refine hQ104 _ _ _ ?_
        refine inb_r ?_
        refine hQ102 _ _ _ ?_
        refine thn_r ?_
        replace hF := exL hF hK106
        refine fin1 rfl rfl ?_
        have hr := Option.some.inj hF
        exact ⟨congrArg (fun (r : Int) => Ending.returned (.int .i64 r)) hr, hS.below⟩
      · refine cw_cond_f rfl hb126 ?_
        refine cw_skip ?_
        refine hQ118 _ _ _ ?_
        refine inb_n ?_
        refine hQ117 _ _ _ ?_
        refine thn_n ?_
        refine cw_reg ?_
        refine el_pv (v := .int .i64 x107) (pv_move he110) (by decide) ?_
        replace hF := ob hF
        obtain ⟨x128, hx128, hF⟩ := hF
        refine el_pv (v := .int .i64 x128) (pv_add rfl rfl hx128) (by decide) ?_
        refine el_pv (v := .int .i64 x128) (pv_assign rfl) (by decide) ?_
        refine el_nil ?_
        refine hQ113 _ _ _ ?_
        refine thn_n ?_
        replace hS := hS.keep 0
        exact ⟨x128, he108, he109, rfl, hS, hF⟩
    · refine cw_cond_f rfl hb116 ?_
      refine cw_exit ?_
      refine hQ114 _ _ _ ?_
      refine thn_x ?_
      refine hQ113 _ _ _ ?_
      refine thn_x ?_
      replace hF := exA hF hK106
      refine hQ104 _ _ _ ?_
      refine inb_s ?_
      refine hQ102 _ _ _ ?_
      refine thn_n ?_
      refine cw_seq ?_
      refine cw_gen ?_
      intro Q129 hQ129
      refine cw_reg ?_
      refine el_pv (v := .int .i64 (-1)) (pv_assign rfl) (by decide) ?_
      refine el_nil ?_
      refine hQ129 _ _ _ ?_
      refine thn_n ?_
      refine cw_ret ?_
      refine fin1 rfl rfl ?_
      have hr := Option.some.inj hF
      exact ⟨congrArg (fun (r : Int) => Ending.returned (.int .i64 r)) hr, hS.below⟩
set_option maxHeartbeats 4000000 in
theorem spec_IsPermutation_ok {w0 : World} {u0 : Value} {a0 : List Int} (ha0 : (sliceR intR 3).rd w0 [u0] a0) {N : Nat} {r : Bool} (hF : spec_IsPermutation N a0 = some r) :
    Calls Try.prog 106 #[u0] w0 fun e w' => e = .returned (.bool r) ∧ Ext w0 w' := by
  unfold spec_IsPermutation at hF
  refine calls_E Try.func106 rfl rfl (of_decide_eq_true rfl) ?_
  have hS := Sat.start w0
  refine cw_seq ?_
  refine cw_gen ?_
  intro Q101 hQ101
  refine cw_reg ?_
  refine el_pv (v := .bool false) (pv_assign rfl) (by decide) ?_
  refine el_nil ?_
  refine hQ101 _ _ _ ?_
  refine thn_n ?_
  refine cw_seq ?_
  refine cw_gen ?_
  intro Q102 hQ102
  refine cw_seq ?_
  refine cw_gen ?_
  intro Q103 hQ103
  refine cw_reg ?_
  refine el_pv (v := .int .i64 0) (pv_assign rfl) (by decide) ?_
  refine el_nil ?_
  refine hQ103 _ _ _ ?_
  refine thn_n ?_
  refine cw_block ?_
  refine cw_gen ?_
  intro Q104 hQ104
  obtain ⟨s105, hL, hK106⟩ := ob hF
  refine cw_loopS (fun k e w => ∃ (x107 : Int), e 0 = u0 ∧ e 3 = .int .i64 x107 ∧ Sat w0 w [] ∧ spec_IsPermutation_L1 N k a0 x107 = some s105) N ?_ ?_ ?_
  · exact ⟨0, rfl, rfl, hS, hL⟩
  · rintro e w ⟨_, _, _, _, hz⟩; exact nomatch (show none = some _ from hz)
  · rintro k e111 w110 ⟨x107, he108, he109, hS, hF⟩
    refine cw_gen ?_
    intro Q112 hQ112
    refine cw_seq ?_
    refine cw_gen ?_
    intro Q113 hQ113
    refine cw_seq ?_
    refine cw_gen ?_
    intro Q114 hQ114
    refine cw_reg ?_
    refine el_pv (v := .int .i64 x107) (pv_move he109) (by decide) ?_
    refine el_pv (v := u0) (pv_move he108) (by decide) ?_
    refine el_pv (v := .int .i64 (a0.length : Int)) (pv_len rfl ha0) (by decide) ?_
    refine el_pv (v := .bool (decide (x107 < (a0.length : Int)))) (pv_lss rfl rfl) (by decide) ?_
    refine el_nil ?_
    refine hQ114 _ _ _ ?_
    refine thn_n ?_
    replace hF := oif hF
    rcases hF with ⟨hb115, hF⟩ | ⟨hb115, hF⟩
    · refine cw_cond_t rfl hb115 ?_
      refine cw_skip ?_
      refine hQ113 _ _ _ ?_
      refine thn_n ?_
      refine cw_seq ?_
      refine cw_gen ?_
      intro Q116 hQ116
      refine cw_block ?_
      refine cw_gen ?_
      intro Q117 hQ117
      refine cw_seq ?_
      refine cw_gen ?_
      intro Q118 hQ118
      refine cw_regq (by kernel_rfl) (by kernel_rfl) ?_
      refine ql_pv (v := u0) (pv_move he108) (by decide) ?_
      refine ql_pv (v := .int .i64 x107) (pv_move he109) (by decide) ?_
      replace hF := ob hF
      obtain ⟨x119, hx119, hF⟩ := hF
      refine ql_index (wA := w0) rfl ha0 rfl (by decide) rfl hx119 (by decide) ?_
      intro b120 of121 c122 hr123 hm124
      obtain rfl := hr123
      refine ql_pv (v := .int .i64 x119) (pv_loadc rfl ((cells_up hS.below hm124) 0 _ rfl)) (by decide) ?_
      refine ql_pv (v := u0) (pv_move he108) (by decide) ?_
      refine ql_pv (v := .int .i64 (a0.length : Int)) (pv_len rfl ha0) (by decide) ?_
      replace hF := ob hF
      obtain ⟨x125, hx125, hF⟩ := hF
      refine ql_pv (v := .int .i64 x125) (pv_sub rfl rfl hx125) (by decide) ?_
      replace hF := ob hF
      obtain ⟨r126, hr126, hF⟩ := hF
      refine ql_call (.bool r126) goes58 (fun w' hw' => spec_l1In_ok hr126) (congrArg List.toArray (mapc rfl (mapc rfl (mapc rfl rfl)))) (by decide) ?_
      refine ql_pv (v := .bool (!r126)) (pv_not rfl) (by decide) ?_
      refine ql_pv (v := .bool (!r126)) (pv_move rfl) (by decide) ?_
      replace hF := oif hF
      rcases hF with ⟨hb127, hF⟩ | ⟨hb127, hF⟩
      · refine ql_on rfl (bnot_t hb127) ?_
        refine ql_pv (v := u0) (pv_move he108) (by decide) ?_
        refine ql_on rfl (bnot_t hb127) ?_
        refine ql_pv (v := .int .i64 x107) (pv_move he109) (by decide) ?_
        refine ql_on rfl (bnot_t hb127) ?_
        replace hF := ob hF
        obtain ⟨x128, hx128, hF⟩ := hF
        refine ql_slice (wA := w0) rfl rfl ha0 (.inr ⟨rfl, rfl⟩) (.inl (congrArg some rfl)) hx128 (by decide) ?_
        intro v129 hr130
        refine ql_on rfl (bnot_t hb127) ?_
        refine ql_pv (v := u0) (pv_move he108) (by decide) ?_
        refine ql_on rfl (bnot_t hb127) ?_
        refine ql_pv (v := .int .i64 x107) (pv_move he109) (by decide) ?_
        refine ql_on rfl (bnot_t hb127) ?_
        replace hF := ob hF
        obtain ⟨x131, hx131, hF⟩ := hF
        refine ql_index (wA := w0) rfl ha0 rfl (by decide) rfl hx131 (by decide) ?_
        intro b132 of133 c134 hr135 hm136
        obtain rfl := hr135
        refine ql_on rfl (bnot_t hb127) ?_
        refine ql_pv (v := .int .i64 x131) (pv_loadc rfl ((cells_up hS.below hm136) 0 _ rfl)) (by decide) ?_
        refine ql_on rfl (bnot_t hb127) ?_
        replace hF := ob hF
        obtain ⟨r137, hr137, hF⟩ := hF
        refine ql_call (.int .i64 r137) goes118 (fun w' hw' => spec_l7Find_ok (rd_up (hS.up hr130) hw') hr137) (congrArg List.toArray (mapc rfl (mapc rfl rfl))) (by decide) ?_
        refine ql_on rfl (bnot_t hb127) ?_
        refine ql_pv (v := .bool (decide (0 ≤ r137))) (pv_geq rfl rfl) (by decide) ?_
        refine ql_pv (v := .bool (decide (0 ≤ r137))) (pv_pick_f rfl (bnot_t hb127) rfl) (by decide) ?_
        refine ql_nil ?_
        intro w138 hx139
        replace hS := hS.ext hx139
        refine hQ118 _ _ _ ?_
        refine thn_n ?_
        replace hF := oif hF
        rcases hF with ⟨hb140, hF⟩ | ⟨hb140, hF⟩
        · refine cw_cond_t rfl hb140 ?_
          refine cw_seq ?_
          refine cw_gen ?_
          intro Q141 hQ141
          refine cw_reg ?_
          refine el_pv (v := .bool false) (pv_assign rfl) (by decide) ?_
          refine el_nil ?_
          refine hQ141 _ _ _ ?_
          refine thn_n ?_
          refine cw_ret ?_
          refine hQ117 _ _ _ ?_
          refine inb_r ?_
          refine hQ116 _ _ _ ?_
          refine thn_r ?_
          refine hQ112 _ _ _ ?_
          refine thn_r ?_
          refine hQ104 _ _ _ ?_
          refine inb_r ?_
          refine hQ102 _ _ _ ?_
          refine thn_r ?_
          replace hF := exL hF hK106
          refine fin1 rfl rfl ?_
          have hr := Option.some.inj hF
          exact ⟨congrArg (fun (r : Bool) => Ending.returned (.bool r)) hr, hS.below⟩
        · refine cw_cond_f rfl hb140 ?_
          refine cw_skip ?_
          refine hQ117 _ _ _ ?_
          refine inb_n ?_
          refine hQ116 _ _ _ ?_
          refine thn_n ?_
          refine cw_reg ?_
          refine el_pv (v := .int .i64 x107) (pv_move he109) (by decide) ?_
          replace hF := ob hF
          obtain ⟨x142, hx142, hF⟩ := hF
          refine el_pv (v := .int .i64 x142) (pv_add rfl rfl hx142) (by decide) ?_
          refine el_pv (v := .int .i64 x142) (pv_assign rfl) (by decide) ?_
          refine el_nil ?_
          refine hQ112 _ _ _ ?_
          refine thn_n ?_
          replace hS := hS.keep 0
          exact ⟨x142, he108, rfl, hS, hF⟩
      · refine ql_off rfl (bnot_f hb127) rfl (by decide) ?_
        refine ql_off rfl (bnot_f hb127) rfl (by decide) ?_
        refine ql_off rfl (bnot_f hb127) rfl (by decide) ?_
        refine ql_off rfl (bnot_f hb127) rfl (by decide) ?_
        refine ql_off rfl (bnot_f hb127) rfl (by decide) ?_
        refine ql_off rfl (bnot_f hb127) rfl (by decide) ?_
        refine ql_off rfl (bnot_f hb127) rfl (by decide) ?_
        refine ql_off rfl (bnot_f hb127) rfl (by decide) ?_
        refine ql_off rfl (bnot_f hb127) rfl (by decide) ?_
        refine ql_pv (v := .bool true) (pv_pick_t rfl (bnot_f hb127) rfl) (by decide) ?_
        refine ql_nil ?_
        intro w143 hx144
        replace hS := hS.ext hx144
        refine hQ118 _ _ _ ?_
        refine thn_n ?_
        refine cw_cond_t rfl rfl ?_
        refine cw_seq ?_
        refine cw_gen ?_
        intro Q145 hQ145
        refine cw_reg ?_
        refine el_pv (v := .bool false) (pv_assign rfl) (by decide) ?_
        refine el_nil ?_
        refine hQ145 _ _ _ ?_
        refine thn_n ?_
        refine cw_ret ?_
        refine hQ117 _ _ _ ?_
        refine inb_r ?_
        refine hQ116 _ _ _ ?_
        refine thn_r ?_
        refine hQ112 _ _ _ ?_
        refine thn_r ?_
        refine hQ104 _ _ _ ?_
        refine inb_r ?_
        refine hQ102 _ _ _ ?_
        refine thn_r ?_
        replace hF := exL hF hK106
        refine fin1 rfl rfl ?_
        have hr := Option.some.inj hF
        exact ⟨congrArg (fun (r : Bool) => Ending.returned (.bool r)) hr, hS.below⟩
    · refine cw_cond_f rfl hb115 ?_
      refine cw_exit ?_
      refine hQ113 _ _ _ ?_
      refine thn_x ?_
      refine hQ112 _ _ _ ?_
      refine thn_x ?_
      replace hF := exA hF hK106
      refine hQ104 _ _ _ ?_
      refine inb_s ?_
      refine hQ102 _ _ _ ?_
      refine thn_n ?_
      refine cw_seq ?_
      refine cw_gen ?_
      intro Q146 hQ146
      refine cw_reg ?_
      refine el_pv (v := u0) (pv_move he108) (by decide) ?_
      refine el_pv (v := .int .i64 (a0.length : Int)) (pv_len rfl ha0) (by decide) ?_
      refine el_pv (v := .bool (decide ((a0.length : Int) ≤ 5))) (pv_leq rfl rfl) (by decide) ?_
      refine el_pv (v := .bool (decide ((a0.length : Int) ≤ 5))) (pv_assign rfl) (by decide) ?_
      refine el_nil ?_
      refine hQ146 _ _ _ ?_
      refine thn_n ?_
      refine cw_ret ?_
      refine fin1 rfl rfl ?_
      have hr := Option.some.inj hF
      exact ⟨congrArg (fun (r : Bool) => Ending.returned (.bool r)) hr, hS.below⟩
end Go.Proofs.Ytdingjlefilafaa
