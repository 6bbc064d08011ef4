/- The walks through functions of the program: each hands back what it comes to. No condition but that it comes to something. -/
import Derived.Test.YtkpeabpdiffjhaaW2
import Derived.Test.YtkpeabpdiffjhaaW3D
namespace Go.Proofs.Ytkpeabpdiffjhaa
open Go.RowKit
set_option maxRecDepth 100000
set_option maxHeartbeats 4000000 in
theorem spec_ProductOfPowers_ok {w0 : World} {u0 : Value} {a0 : List Int} {u1 : Value} {a1 : List Int} (ha0 : (sliceR intR 3).rd w0 [u0] a0) (ha1 : (sliceR intR 3).rd w0 [u1] a1) {N : Nat} {r : (List Int) × Bool} (hF : spec_ProductOfPowers N a0 a1 = some r) :
    Calls Try.prog 44 #[u0, u1] w0 fun e w' => ∃ (q0 : Value), e = .returned (.tuple #[.agg #[q0], .bool r.2]) ∧ Sat w0 w' [Own (sliceR intR 3) [q0] r.1] := by
  unfold spec_ProductOfPowers at hF
  refine calls_E Try.func44 rfl rfl (of_decide_eq_true rfl) ?_
  have hS := Sat.start w0
  refine cw_seq ?_
  refine cw_gen ?_
  intro Q101 hQ101
  refine cw_reg ?_
  refine el_alloc hS (by decide) ?_
  intro w102 b103 hS hx104
  refine el_pv (v := .bool false) (pv_assign rfl) (by decide) ?_
  refine el_nil ?_
  refine hQ101 _ _ _ ?_
  refine thn_n ?_
  refine cw_seq ?_
  refine cw_gen ?_
  intro Q106 hQ106
  refine cw_seq ?_
  refine cw_gen ?_
  intro Q107 hQ107
  refine cw_reg ?_
  refine el_pv (v := u0) (pv_move rfl) (by decide) ?_
  refine el_pv (v := .int .i64 (a0.length : Int)) (pv_len rfl ha0) (by decide) ?_
  refine el_pv (v := u1) (pv_move rfl) (by decide) ?_
  refine el_pv (v := .int .i64 (a1.length : Int)) (pv_len rfl ha1) (by decide) ?_
  refine el_pv (v := .bool ((a0.length : Int) != (a1.length : Int))) (pv_neq rfl rfl) (by decide) ?_
  refine el_nil ?_
  refine hQ107 _ _ _ ?_
  refine thn_n ?_
  replace hF := oif hF
  rcases hF with ⟨hb108, hF⟩ | ⟨hb108, hF⟩
  · refine cw_cond_t rfl hb108 ?_
    refine cw_seq ?_
    refine cw_gen ?_
    intro Q109 hQ109
    refine cw_reg ?_
    refine el_pv (v := .agg #[(.slice none 0 0)]) (pv_build [] [(.slice none 0 0)] rfl rfl) (by decide) ?_
    refine el_storev (hS.top 0 rfl) rfl [(.slice none 0 0)] rfl rfl (of_decide_eq_true rfl) (all_cons rfl rfl) ?_
    intro w110 hS
    replace hS : Sat w0 w110 [Box b103 76 [(.slice none 0 0)]] := hS
    refine el_pv (v := .bool false) (pv_assign rfl) (by decide) ?_
    refine el_nil ?_
    refine hQ109 _ _ _ ?_
    refine thn_n ?_
    refine cw_ret ?_
    refine hQ106 _ _ _ ?_
    refine thn_r ?_
    replace hS := hS.nil intR 3
    refine finCT (cs := [(.slice none 0 0)]) rfl rfl rfl (boxc0 (hS.boxAt 1 rfl)) rfl ?_
    have hr := Option.some.inj hF
    exact ⟨(.slice none 0 0), congrArg (fun (r : (List Int) × Bool) => Ending.returned (.tuple #[.agg #[(.slice none 0 0)], .bool r.2])) hr, Eq.mp (congrArg (fun (r : (List Int) × Bool) => Sat w0 w110 [Own (sliceR intR 3) [(.slice none 0 0)] r.1]) hr) (hS.keep 1)⟩
  · refine cw_cond_f rfl hb108 ?_
    refine cw_skip ?_
    refine hQ106 _ _ _ ?_
    refine thn_n ?_
    refine cw_seq ?_
    refine cw_gen ?_
    intro Q112 hQ112
    refine cw_reg ?_
    replace hF := ob hF
    obtain ⟨r113, hr113, hF⟩ := hF
    refine el_call goes86 (spec_BigIntFromInt_ok hr113) (congrArg List.toArray (mapc rfl rfl)) (by decide) ?_
    rintro _ w116 ⟨v114, rfl, hS'⟩
    refine ⟨_, rfl, ?_⟩
    have hx117 := hS'.below
    replace hS := hS.call1 hS'
    refine el_alloc hS (by decide) ?_
    intro w118 b119 hS hx120
    refine el_storev (hS.top 0 rfl) rfl [v114] rfl rfl (of_decide_eq_true rfl) (all_cons (oc (hS.rdAt (R := (sliceR intR 3)) 1 rfl)) rfl) ?_
    intro w122 hS
    replace hS : Sat w0 w122 [Box b119 76 [v114], Own (sliceR intR 3) [v114] r113, Box b103 76 [(.slice none 0 0)]] := hS
    refine el_nil ?_
    refine hQ112 _ _ _ ?_
    refine thn_n ?_
    refine cw_seq ?_
    refine cw_gen ?_
    intro Q123 hQ123
    refine cw_seq ?_
    refine cw_gen ?_
    intro Q124 hQ124
    refine cw_reg ?_
    refine el_pv (v := .int .i64 0) (pv_assign rfl) (by decide) ?_
    refine el_nil ?_
    refine hQ124 _ _ _ ?_
    refine thn_n ?_
    refine cw_block ?_
    refine cw_gen ?_
    intro Q125 hQ125
    obtain ⟨s126, hL, hK127⟩ := ob hF
    refine cw_loopS (fun k e w => ∃ (v129 : Value), ∃ (x128 : List Int), ∃ (x130 : Int), e 0 = u0 ∧ e 1 = u1 ∧ e 4 = .pointer (some ⟨b103, 0, none⟩) ∧ e 6 = .pointer (some ⟨b119, 0, none⟩) ∧ e 7 = .int .i64 x130 ∧ Sat w0 w [Box b119 76 [v129], Own (sliceR intR 3) [v129] x128, Box b103 76 [(.slice none 0 0)]] ∧ spec_ProductOfPowers_L1 N k a0 a1 [] x128 x130 = some s126) N ?_ ?_ ?_
    · exact ⟨v114, r113, 0, rfl, rfl, rfl, rfl, rfl, hS, hL⟩
    · rintro e w ⟨_, _, _, _, _, _, _, _, _, hz⟩; exact nomatch (show none = some _ from hz)
    · rintro k e137 w136 ⟨v129, x128, x130, he131, he132, he133, he134, he135, hS, hF⟩
      refine cw_gen ?_
      intro Q138 hQ138
      refine cw_seq ?_
      refine cw_gen ?_
      intro Q139 hQ139
      refine cw_seq ?_
      refine cw_gen ?_
      intro Q140 hQ140
      refine cw_reg ?_
      refine el_pv (v := .int .i64 x130) (pv_move he135) (by decide) ?_
      refine el_pv (v := u0) (pv_move he131) (by decide) ?_
      refine el_pv (v := .int .i64 (a0.length : Int)) (pv_len rfl ha0) (by decide) ?_
      refine el_pv (v := .bool (decide (x130 < (a0.length : Int)))) (pv_lss rfl rfl) (by decide) ?_
      refine el_nil ?_
      refine hQ140 _ _ _ ?_
      refine thn_n ?_
      replace hF := oif hF
      rcases hF with ⟨hb141, hF⟩ | ⟨hb141, hF⟩
      · refine cw_cond_t rfl hb141 ?_
        refine cw_skip ?_
        refine hQ139 _ _ _ ?_
        refine thn_n ?_
        refine cw_seq ?_
        refine cw_gen ?_
        intro Q142 hQ142
        refine cw_block ?_
        refine cw_gen ?_
        intro Q143 hQ143
        refine cw_seq ?_
        refine cw_gen ?_
        intro Q144 hQ144
        replace hF := ob hF
        obtain ⟨x147, hx147, hF⟩ := hF
        replace hF := ob hF
        obtain ⟨x153, hx153, hF⟩ := hF
        replace hF := ob hF
        obtain ⟨r159, hr159, hF⟩ := hF
        refine cw_mid (fun e w => ∃ (b165 : Nat), ∃ (v160 : Value), e 0 = u0 ∧ e 1 = u1 ∧ e 4 = .pointer (some ⟨b103, 0, none⟩) ∧ e 6 = .pointer (some ⟨b119, 0, none⟩) ∧ e 7 = .int .i64 x130 ∧ e 8 = .pointer (some ⟨b165, 0, none⟩) ∧ e 9 = .bool r159.2 ∧ Sat w0 w [Box b119 76 [v129], Box b103 76 [(.slice none 0 0)], Own (sliceR intR 3) [v129] x128, Box b165 76 [v160], Own (sliceR intR 3) [v160] r159.1]) ?_ ?_
        · obtain ⟨C, hCd⟩ : ∃ C : World → Prop, ∀ w, C w ↔ ∃ G, Sat w0 w ([] ++ G) := ⟨_, fun _ => Iff.rfl⟩
          refine cw_regb [0, 1, 2, 3, 4, 5, 6, 7, 8, 9, 10, 11, 12, 13, 14] C (by kernel_rfl) ?_
          intro w169 hx170
          replace hS := hS.ext hx170
          have hC := (hCd _).2 ⟨_, hS⟩
          refine al_p (v := u0) (by kernel_rfl) 0 rfl rfl (by decide) hC (by kernel_rfl) (by kernel_rfl) (sv_on rfl (fun w' hw' => by obtain ⟨_, hS⟩ := (hCd _).1 hw'; exact (pv_move he131))) ?_
          refine al_p (v := .int .i64 x130) (by kernel_rfl) 1 rfl rfl (by decide) hC (by kernel_rfl) (by kernel_rfl) (sv_on rfl (fun w' hw' => by obtain ⟨_, hS⟩ := (hCd _).1 hw'; exact (pv_move he135))) ?_
          refine al_index (wA := w0) (by kernel_rfl) 2 rfl hC (by kernel_rfl) (by kernel_rfl) rfl ha0 rfl (by decide) rfl hx147 (by decide) ?_
          intro b148 of149 c150 hr151 hm152
          obtain rfl := hr151
          refine al_p (v := .int .i64 x147) (by kernel_rfl) 3 rfl rfl (by decide) hC (by kernel_rfl) (by kernel_rfl) (sv_on rfl (fun w' hw' => by obtain ⟨_, hS⟩ := (hCd _).1 hw'; exact (pv_loadc rfl ((cells_up hS.below hm152) 0 _ rfl)))) ?_
          refine al_p (v := u1) (by kernel_rfl) 4 rfl rfl (by decide) hC (by kernel_rfl) (by kernel_rfl) (sv_on rfl (fun w' hw' => by obtain ⟨_, hS⟩ := (hCd _).1 hw'; exact (pv_move he132))) ?_
          refine al_p (v := .int .i64 x130) (by kernel_rfl) 5 rfl rfl (by decide) hC (by kernel_rfl) (by kernel_rfl) (sv_on rfl (fun w' hw' => by obtain ⟨_, hS⟩ := (hCd _).1 hw'; exact (pv_move he135))) ?_
          refine al_index (wA := w0) (by kernel_rfl) 6 rfl hC (by kernel_rfl) (by kernel_rfl) rfl ha1 rfl (by decide) rfl hx153 (by decide) ?_
          intro b154 of155 c156 hr157 hm158
          obtain rfl := hr157
          refine al_p (v := .int .i64 x153) (by kernel_rfl) 7 rfl rfl (by decide) hC (by kernel_rfl) (by kernel_rfl) (sv_on rfl (fun w' hw' => by obtain ⟨_, hS⟩ := (hCd _).1 hw'; exact (pv_loadc rfl ((cells_up hS.below hm158) 0 _ rfl)))) ?_
          refine al_two 8 12 (by kernel_rfl) rfl rfl ?_ ?_
          · refine el_call goes45 (spec_PowBigInt_ok hr159) (congrArg List.toArray (mapc rfl (mapc rfl rfl))) (by decide) ?_
            rintro _ w162 ⟨v160, rfl, hS'⟩
            refine ⟨_, rfl, ?_⟩
            have hx163 := hS'.below
            replace hS := hS.call1 hS'
            refine el_nil ?_
            have hC := (hCd _).2 ⟨_, hS⟩
            refine ⟨fun _ => hC, ?_⟩
            refine al_p (v := .tuple #[.agg #[v160], .bool r159.2]) (by kernel_rfl) 9 rfl rfl (by decide) hC (by kernel_rfl) (by kernel_rfl) (sv_on rfl (fun w' hw' => by obtain ⟨_, hS⟩ := (hCd _).1 hw'; exact (pv_move rfl))) ?_
            refine al_p (v := .agg #[v160]) (by kernel_rfl) 10 rfl rfl (by decide) hC (by kernel_rfl) (by kernel_rfl) (sv_on rfl (fun w' hw' => by obtain ⟨_, hS⟩ := (hCd _).1 hw'; exact (pv_extract rfl rfl))) ?_
            refine al_p (v := .bool r159.2) (by kernel_rfl) 11 rfl rfl (by decide) hC (by kernel_rfl) (by kernel_rfl) (sv_on rfl (fun w' hw' => by obtain ⟨_, hS⟩ := (hCd _).1 hw'; exact (pv_extract rfl rfl))) ?_
            refine al_one 12 (by kernel_rfl) rfl ?_
            refine el_alloc hS (by decide) ?_
            intro w164 b165 hS hx166
            refine el_nil ?_
            have hC := (hCd _).2 ⟨_, hS⟩
            refine ⟨fun _ => hC, ?_⟩
            refine al_one 13 (by kernel_rfl) rfl ?_
            refine el_storev (hS.top 0 rfl) rfl [v160] rfl rfl (of_decide_eq_true rfl) (all_cons (oc (hS.rdAt (R := (sliceR intR 3)) 1 rfl)) rfl) ?_
            intro w168 hS
            replace hS : Sat w0 w168 [Box b165 76 [v160], Own (sliceR intR 3) [v160] r159.1, Box b119 76 [v129], Own (sliceR intR 3) [v129] x128, Box b103 76 [(.slice none 0 0)]] := hS
            refine el_nil ?_
            have hC := (hCd _).2 ⟨_, hS⟩
            refine ⟨fun _ => hC, ?_⟩
            refine al_one 14 (by kernel_rfl) rfl ?_
            refine el_pv (v := .bool r159.2) (pv_assign rfl) (by decide) ?_
            refine el_nil ?_
            refine ⟨fun _ => hC, ?_⟩
            refine al_nil (by kernel_rfl) ?_
            replace hS : Sat w0 w168 [Box b119 76 [v129], Box b103 76 [(.slice none 0 0)], Own (sliceR intR 3) [v129] x128, Box b165 76 [v160], Own (sliceR intR 3) [v160] r159.1] := hS.tops 5 [2, 4, 3, 0, 1] rfl
            exact ⟨rfl, b165, v160, he131, he132, he133, he134, he135, rfl, rfl, hS⟩
          · refine el_alloc hS (by decide) ?_
            intro w164 b165 hS hx166
            refine el_nil ?_
            have hC := (hCd _).2 ⟨_, hS⟩
            refine ⟨fun _ => hC, ?_⟩
            refine al_one 8 (by kernel_rfl) rfl ?_
            refine el_call goes45 (spec_PowBigInt_ok hr159) (congrArg List.toArray (mapc rfl (mapc rfl rfl))) (by decide) ?_
            rintro _ w162 ⟨v160, rfl, hS'⟩
            refine ⟨_, rfl, ?_⟩
            have hx163 := hS'.below
            replace hS := hS.call1 hS'
            refine el_nil ?_
            have hC := (hCd _).2 ⟨_, hS⟩
            refine ⟨fun _ => hC, ?_⟩
            refine al_one 9 (by kernel_rfl) rfl ?_
            refine el_pv (v := .tuple #[.agg #[v160], .bool r159.2]) (pv_move rfl) (by decide) ?_
            refine el_nil ?_
            refine ⟨fun _ => hC, ?_⟩
            refine al_p (v := .agg #[v160]) (by kernel_rfl) 10 rfl rfl (by decide) hC (by kernel_rfl) (by kernel_rfl) (sv_on rfl (fun w' hw' => by obtain ⟨_, hS⟩ := (hCd _).1 hw'; exact (pv_extract rfl rfl))) ?_
            refine al_p (v := .bool r159.2) (by kernel_rfl) 11 rfl rfl (by decide) hC (by kernel_rfl) (by kernel_rfl) (sv_on rfl (fun w' hw' => by obtain ⟨_, hS⟩ := (hCd _).1 hw'; exact (pv_extract rfl rfl))) ?_
            refine al_one 13 (by kernel_rfl) rfl ?_
            refine el_storev (hS.top 1 rfl) rfl [v160] rfl rfl (of_decide_eq_true rfl) (all_cons (oc (hS.rdAt (R := (sliceR intR 3)) 0 rfl)) rfl) ?_
            intro w168 hS
            replace hS : Sat w0 w168 [Box b165 76 [v160], Own (sliceR intR 3) [v160] r159.1, Box b119 76 [v129], Own (sliceR intR 3) [v129] x128, Box b103 76 [(.slice none 0 0)]] := hS
            refine el_nil ?_
            have hC := (hCd _).2 ⟨_, hS⟩
            refine ⟨fun _ => hC, ?_⟩
            refine al_one 14 (by kernel_rfl) rfl ?_
            refine el_pv (v := .bool r159.2) (pv_assign rfl) (by decide) ?_
            refine el_nil ?_
            refine ⟨fun _ => hC, ?_⟩
            refine al_nil (by kernel_rfl) ?_
            replace hS : Sat w0 w168 [Box b119 76 [v129], Box b103 76 [(.slice none 0 0)], Own (sliceR intR 3) [v129] x128, Box b165 76 [v160], Own (sliceR intR 3) [v160] r159.1] := hS.tops 5 [2, 4, 3, 0, 1] rfl
            exact ⟨rfl, b165, v160, he131, he132, he133, he134, he135, rfl, rfl, hS⟩
        · rintro e171 w172 ⟨b165, v160, he173, he174, he175, he176, he177, he178, he179, hS⟩
          refine hQ144 _ _ _ ?_
          refine thn_n ?_
          refine cw_seq ?_
          refine cw_gen ?_
          intro Q180 hQ180
          refine cw_reg ?_
          refine el_pv (v := .agg #[v129]) (pv_loada (cs := [v129]) he176 rfl (boxc0 (hS.boxAt 0 rfl))) (by decide) ?_
          refine el_pv (v := .agg #[v160]) (pv_loada (cs := [v160]) he178 rfl (boxc0 (hS.boxAt 3 rfl))) (by decide) ?_
          replace hF := ob hF
          obtain ⟨r181, hr181, hF⟩ := hF
          refine el_call goes46 (spec_MulBigInt_ok (hS.rdAt (R := (sliceR intR 3)) 2 rfl) (hS.rdAt (R := (sliceR intR 3)) 4 rfl) hr181) (congrArg List.toArray (mapc rfl (mapc rfl rfl))) (by decide) ?_
          rintro _ w184 ⟨v182, rfl, hS'⟩
          refine ⟨_, rfl, ?_⟩
          have hx185 := hS'.below
          replace hS := hS.call1 hS'
          refine el_pv (v := .tuple #[.agg #[v182], .bool r181.2]) (pv_move rfl) (by decide) ?_
          refine el_pv (v := .agg #[v182]) (pv_extract rfl rfl) (by decide) ?_
          refine el_pv (v := .bool r181.2) (pv_extract rfl rfl) (by decide) ?_
          refine el_alloc hS (by decide) ?_
          intro w186 b187 hS hx188
          refine el_storev (hS.top 0 rfl) rfl [v182] rfl rfl (of_decide_eq_true rfl) (all_cons (oc (hS.rdAt (R := (sliceR intR 3)) 1 rfl)) rfl) ?_
          intro w190 hS
          replace hS : Sat w0 w190 [Box b187 76 [v182], Own (sliceR intR 3) [v182] r181.1, Box b119 76 [v129], Box b103 76 [(.slice none 0 0)], Own (sliceR intR 3) [v129] x128, Box b165 76 [v160], Own (sliceR intR 3) [v160] r159.1] := hS
          refine el_pv (v := .bool r181.2) (pv_assign rfl) (by decide) ?_
          refine el_nil ?_
          refine hQ180 _ _ _ ?_
          refine thn_n ?_
          refine cw_seq ?_
          refine cw_gen ?_
          intro Q191 hQ191
          refine cw_seq ?_
          refine cw_gen ?_
          intro Q192 hQ192
          replace hS : Sat w0 w190 [Box b187 76 [v182], Own (sliceR intR 3) [v182] r181.1, Box b119 76 [v129], Box b103 76 [(.slice none 0 0)], Own (sliceR intR 3) [v129] x128] := hS.rems 7 [5, 6] rfl
          refine cw_reg ?_
          refine el_pv (v := .bool r159.2) (pv_move he179) (by decide) ?_
          refine el_pv (v := .bool (!r159.2)) (pv_not rfl) (by decide) ?_
          refine el_pv (v := .bool (!r159.2)) (pv_move rfl) (by decide) ?_
          replace hF := oif hF
          rcases hF with ⟨hb193, hF⟩ | ⟨hb193, hF⟩
          · refine el_on rfl (bnot_t hb193) ?_
            refine el_pv (v := .bool r181.2) (pv_move rfl) (by decide) ?_
            refine el_on rfl (bnot_t hb193) ?_
            refine el_pv (v := .bool (!r181.2)) (pv_not rfl) (by decide) ?_
            refine el_pv (v := .bool (!r181.2)) (pv_pick_f rfl (bnot_t hb193) rfl) (by decide) ?_
            refine el_nil ?_
            refine hQ192 _ _ _ ?_
            refine thn_n ?_
            replace hF := oif hF
            rcases hF with ⟨hb194, hF⟩ | ⟨hb194, hF⟩
            · refine cw_cond_f rfl (bnot_t hb194) ?_
              refine cw_skip ?_
              refine hQ191 _ _ _ ?_
              refine thn_n ?_
              refine cw_reg ?_
              refine el_pv (v := .agg #[v182]) (pv_loada (cs := [v182]) rfl rfl (boxc0 (hS.boxAt 0 rfl))) (by decide) ?_
              refine el_storev (hS.top 2 rfl) he176 [v182] rfl rfl (of_decide_eq_true rfl) (all_cons (oc (hS.rdAt (R := (sliceR intR 3)) 1 rfl)) rfl) ?_
              intro w195 hS
              replace hS : Sat w0 w195 [Box b119 76 [v182], Box b187 76 [v182], Own (sliceR intR 3) [v182] r181.1, Box b103 76 [(.slice none 0 0)], Own (sliceR intR 3) [v129] x128] := hS
              refine el_nil ?_
              refine hQ143 _ _ _ ?_
              refine inb_n ?_
              refine hQ142 _ _ _ ?_
              refine thn_n ?_
              replace hS : Sat w0 w195 [Box b119 76 [v182], Own (sliceR intR 3) [v182] r181.1, Box b103 76 [(.slice none 0 0)]] := hS.rems 5 [1, 4] rfl
              refine cw_reg ?_
              refine el_pv (v := .int .i64 x130) (pv_move he177) (by decide) ?_
              replace hF := ob hF
              obtain ⟨x196, hx196, hF⟩ := hF
              refine el_pv (v := .int .i64 x196) (pv_add rfl rfl hx196) (by decide) ?_
              refine el_pv (v := .int .i64 x196) (pv_assign rfl) (by decide) ?_
              refine el_nil ?_
              refine hQ138 _ _ _ ?_
              refine thn_n ?_
              replace hS := hS.keep 3
              exact ⟨v182, r181.1, x196, he173, he174, he175, he176, rfl, hS, hF⟩
            · refine cw_cond_t rfl (bnot_f hb194) ?_
              refine cw_seq ?_
              refine cw_gen ?_
              intro Q197 hQ197
              replace hS : Sat w0 w190 [Box b103 76 [(.slice none 0 0)]] := hS.rems 5 [0, 1, 2, 4] rfl
              refine cw_reg ?_
              refine el_pv (v := .agg #[(.slice none 0 0)]) (pv_build [] [(.slice none 0 0)] rfl rfl) (by decide) ?_
              refine el_storev (hS.top 0 rfl) he175 [(.slice none 0 0)] rfl rfl (of_decide_eq_true rfl) (all_cons rfl rfl) ?_
              intro w198 hS
              replace hS : Sat w0 w198 [Box b103 76 [(.slice none 0 0)]] := hS
              refine el_pv (v := .bool false) (pv_assign rfl) (by decide) ?_
              refine el_nil ?_
              refine hQ197 _ _ _ ?_
              refine thn_n ?_
              refine cw_ret ?_
              refine hQ191 _ _ _ ?_
              refine thn_r ?_
              refine hQ143 _ _ _ ?_
              refine inb_r ?_
              refine hQ142 _ _ _ ?_
              refine thn_r ?_
              refine hQ138 _ _ _ ?_
              refine thn_r ?_
              refine hQ125 _ _ _ ?_
              refine inb_r ?_
              refine hQ123 _ _ _ ?_
              refine thn_r ?_
              replace hF := exL hF hK127
              replace hS := hS.nil intR 3
              refine finCT (cs := [(.slice none 0 0)]) rfl he175 rfl (boxc0 (hS.boxAt 1 rfl)) rfl ?_
              have hr := Option.some.inj hF
              exact ⟨(.slice none 0 0), congrArg (fun (r : (List Int) × Bool) => Ending.returned (.tuple #[.agg #[(.slice none 0 0)], .bool r.2])) hr, Eq.mp (congrArg (fun (r : (List Int) × Bool) => Sat w0 w198 [Own (sliceR intR 3) [(.slice none 0 0)] r.1]) hr) (hS.keep 1)⟩
          · refine el_off rfl (bnot_f hb193) rfl (by decide) ?_
            refine el_off rfl (bnot_f hb193) rfl (by decide) ?_
            refine el_pv (v := .bool true) (pv_pick_t rfl (bnot_f hb193) rfl) (by decide) ?_
            refine el_nil ?_
            refine hQ192 _ _ _ ?_
            refine thn_n ?_
            refine cw_cond_t rfl rfl ?_
            refine cw_seq ?_
            refine cw_gen ?_
            intro Q200 hQ200
            replace hS : Sat w0 w190 [Box b103 76 [(.slice none 0 0)]] := hS.rems 5 [0, 1, 2, 4] rfl
            refine cw_reg ?_
            refine el_pv (v := .agg #[(.slice none 0 0)]) (pv_build [] [(.slice none 0 0)] rfl rfl) (by decide) ?_
            refine el_storev (hS.top 0 rfl) he175 [(.slice none 0 0)] rfl rfl (of_decide_eq_true rfl) (all_cons rfl rfl) ?_
            intro w201 hS
            replace hS : Sat w0 w201 [Box b103 76 [(.slice none 0 0)]] := hS
            refine el_pv (v := .bool false) (pv_assign rfl) (by decide) ?_
            refine el_nil ?_
            refine hQ200 _ _ _ ?_
            refine thn_n ?_
            refine cw_ret ?_
            refine hQ191 _ _ _ ?_
            refine thn_r ?_
            refine hQ143 _ _ _ ?_
            refine inb_r ?_
            refine hQ142 _ _ _ ?_
            refine thn_r ?_
            refine hQ138 _ _ _ ?_
            refine thn_r ?_
            refine hQ125 _ _ _ ?_
            refine inb_r ?_
            refine hQ123 _ _ _ ?_
            refine thn_r ?_
            replace hF := exL hF hK127
            replace hS := hS.nil intR 3
            refine finCT (cs := [(.slice none 0 0)]) rfl he175 rfl (boxc0 (hS.boxAt 1 rfl)) rfl ?_
            have hr := Option.some.inj hF
            exact ⟨(.slice none 0 0), congrArg (fun (r : (List Int) × Bool) => Ending.returned (.tuple #[.agg #[(.slice none 0 0)], .bool r.2])) hr, Eq.mp (congrArg (fun (r : (List Int) × Bool) => Sat w0 w201 [Own (sliceR intR 3) [(.slice none 0 0)] r.1]) hr) (hS.keep 1)⟩
      · refine cw_cond_f rfl hb141 ?_
        refine cw_exit ?_
        refine hQ139 _ _ _ ?_
        refine thn_x ?_
        refine hQ138 _ _ _ ?_
        refine thn_x ?_
        replace hF := exA hF hK127
        refine hQ125 _ _ _ ?_
        refine inb_s ?_
        refine hQ123 _ _ _ ?_
        refine thn_n ?_
        refine cw_seq ?_
        refine cw_gen ?_
        intro Q203 hQ203
        refine cw_reg ?_
        refine el_pv (v := .agg #[v129]) (pv_loada (cs := [v129]) he134 rfl (boxc0 (hS.boxAt 0 rfl))) (by decide) ?_
        refine el_storev (hS.top 2 rfl) he133 [v129] rfl rfl (of_decide_eq_true rfl) (all_cons (oc (hS.rdAt (R := (sliceR intR 3)) 1 rfl)) rfl) ?_
        intro w204 hS
        replace hS : Sat w0 w204 [Box b103 76 [v129], Box b119 76 [v129], Own (sliceR intR 3) [v129] x128] := hS
        refine el_pv (v := .bool true) (pv_assign rfl) (by decide) ?_
        refine el_nil ?_
        refine hQ203 _ _ _ ?_
        refine thn_n ?_
        refine cw_ret ?_
        refine finCT (cs := [v129]) rfl he133 rfl (boxc0 (hS.boxAt 0 rfl)) rfl ?_
        replace hS : Sat w0 w204 [Own (sliceR intR 3) [v129] x128, Box b103 76 [v129], Box b119 76 [v129]] := hS.tops 3 [2] rfl
        have hr := Option.some.inj hF
        exact ⟨v129, congrArg (fun (r : (List Int) × Bool) => Ending.returned (.tuple #[.agg #[v129], .bool r.2])) hr, Eq.mp (congrArg (fun (r : (List Int) × Bool) => Sat w0 w204 [Own (sliceR intR 3) [v129] r.1]) hr) (hS.keep 1)⟩
set_option maxHeartbeats 4000000 in
theorem spec_CompareBigInts_ok {w0 : World} {u0 : Value} {a0 : List Int} {u1 : Value} {a1 : List Int} (ha0 : (sliceR intR 3).rd w0 [u0] a0) (ha1 : (sliceR intR 3).rd w0 [u1] a1) {N : Nat} {r : Int} (hF : spec_CompareBigInts N a0 a1 = some r) :
    Calls Try.prog 47 #[.agg #[u0], .agg #[u1]] w0 fun e w' => e = .returned (.int .i64 r) ∧ Ext w0 w' := by
  unfold spec_CompareBigInts at hF
  refine calls_E Try.func47 rfl rfl (of_decide_eq_true rfl) ?_
  have hS := Sat.start w0
  refine cw_seq ?_
  refine cw_gen ?_
  intro Q101 hQ101
  refine cw_reg ?_
  refine el_box [u0] rfl hS (by decide) ?_
  intro w102 b103 hS hx104
  refine el_box [u1] rfl hS (by decide) ?_
  intro w106 b107 hS hx108
  refine el_pv (v := .int .i64 0) (pv_assign rfl) (by decide) ?_
  refine el_nil ?_
  refine hQ101 _ _ _ ?_
  refine thn_n ?_
  refine cw_seq ?_
  refine cw_gen ?_
  intro Q110 hQ110
  refine cw_seq ?_
  refine cw_gen ?_
  intro Q111 hQ111
  refine cw_reg ?_
  refine el_pv (v := .agg #[u0]) (pv_loada (cs := [u0]) rfl rfl (boxc0 (hS.boxAt 1 rfl))) (by decide) ?_
  replace hF := ob hF
  obtain ⟨r112, hr112, hF⟩ := hF
  refine el_call goes87 (spec_IsValidBigInt_ok (hS.up ha0) hr112) (congrArg List.toArray (mapc rfl rfl)) (by decide) ?_
  rintro _ w113 ⟨rfl, hx114⟩
  refine ⟨_, rfl, ?_⟩
  replace hS := hS.ext hx114
  refine el_pv (v := .bool (!r112)) (pv_not rfl) (by decide) ?_
  refine el_pv (v := .bool (!r112)) (pv_move rfl) (by decide) ?_
  replace hF := oif hF
  rcases hF with ⟨hb115, hF⟩ | ⟨hb115, hF⟩
  · refine el_on rfl (bnot_t hb115) ?_
    refine el_pv (v := .agg #[u1]) (pv_loada (cs := [u1]) rfl rfl (boxc0 (hS.boxAt 0 rfl))) (by decide) ?_
    refine el_on rfl (bnot_t hb115) ?_
    replace hF := ob hF
    obtain ⟨r116, hr116, hF⟩ := hF
    refine el_call goes87 (spec_IsValidBigInt_ok (hS.up ha1) hr116) (congrArg List.toArray (mapc rfl rfl)) (by decide) ?_
    rintro _ w117 ⟨rfl, hx118⟩
    refine ⟨_, rfl, ?_⟩
    replace hS := hS.ext hx118
    refine el_on rfl (bnot_t hb115) ?_
    refine el_pv (v := .bool (!r116)) (pv_not rfl) (by decide) ?_
    refine el_pv (v := .bool (!r116)) (pv_pick_f rfl (bnot_t hb115) rfl) (by decide) ?_
    refine el_nil ?_
    refine hQ111 _ _ _ ?_
    refine thn_n ?_
    replace hF := oif hF
    rcases hF with ⟨hb119, hF⟩ | ⟨hb119, hF⟩
    · refine cw_cond_f rfl (bnot_t hb119) ?_
      refine cw_skip ?_
      refine hQ110 _ _ _ ?_
      refine thn_n ?_
      refine cw_seq ?_
      refine cw_gen ?_
      intro Q120 hQ120
      refine cw_seq ?_
      refine cw_gen ?_
      intro Q121 hQ121
      refine cw_reg ?_
      refine el_pv (v := .pointer (some ⟨b103, 0 + 0, none⟩)) (pv_fieldAddr rfl) (by decide) ?_
      refine el_pv (v := u0) (pv_loadc rfl ((hS.boxAt 1 rfl) 0 _ rfl)) (by decide) ?_
      refine el_pv (v := .int .i64 (a0.length : Int)) (pv_len rfl ha0) (by decide) ?_
      refine el_pv (v := .pointer (some ⟨b107, 0 + 0, none⟩)) (pv_fieldAddr rfl) (by decide) ?_
      refine el_pv (v := u1) (pv_loadc rfl ((hS.boxAt 0 rfl) 0 _ rfl)) (by decide) ?_
      refine el_pv (v := .int .i64 (a1.length : Int)) (pv_len rfl ha1) (by decide) ?_
      refine el_pv (v := .bool ((a0.length : Int) != (a1.length : Int))) (pv_neq rfl rfl) (by decide) ?_
      refine el_nil ?_
      refine hQ121 _ _ _ ?_
      refine thn_n ?_
      replace hF := oif hF
      rcases hF with ⟨hb122, hF⟩ | ⟨hb122, hF⟩
      · refine cw_cond_t rfl hb122 ?_
        refine cw_seq ?_
        refine cw_gen ?_
        intro Q123 hQ123
        refine cw_seq ?_
        refine cw_gen ?_
        intro Q124 hQ124
        refine cw_reg ?_
        refine el_pv (v := .pointer (some ⟨b103, 0 + 0, none⟩)) (pv_fieldAddr rfl) (by decide) ?_
        refine el_pv (v := u0) (pv_loadc rfl ((hS.boxAt 1 rfl) 0 _ rfl)) (by decide) ?_
        refine el_pv (v := .int .i64 (a0.length : Int)) (pv_len rfl ha0) (by decide) ?_
        refine el_pv (v := .pointer (some ⟨b107, 0 + 0, none⟩)) (pv_fieldAddr rfl) (by decide) ?_
        refine el_pv (v := u1) (pv_loadc rfl ((hS.boxAt 0 rfl) 0 _ rfl)) (by decide) ?_
        refine el_pv (v := .int .i64 (a1.length : Int)) (pv_len rfl ha1) (by decide) ?_
        refine el_pv (v := .bool (decide ((a0.length : Int) < (a1.length : Int)))) (pv_lss rfl rfl) (by decide) ?_
        refine el_nil ?_
        refine hQ124 _ _ _ ?_
        refine thn_n ?_
        replace hF := oif hF
        rcases hF with ⟨hb125, hF⟩ | ⟨hb125, hF⟩
        · refine cw_cond_t rfl hb125 ?_
          refine cw_seq ?_
          refine cw_gen ?_
          intro Q126 hQ126
          replace hS : Sat w0 w117 [] := hS.rems 2 [0, 1] rfl
          refine cw_reg ?_
          refine el_pv (v := .int .i64 (-1)) (pv_assign rfl) (by decide) ?_
          refine el_nil ?_
          refine hQ126 _ _ _ ?_
          refine thn_n ?_
          refine cw_ret ?_
          refine hQ123 _ _ _ ?_
          refine thn_r ?_
          refine hQ120 _ _ _ ?_
          refine thn_r ?_
          refine fin1 rfl rfl ?_
          have hr := Option.some.inj hF
          exact ⟨congrArg (fun (r : Int) => Ending.returned (.int .i64 r)) hr, hS.below⟩
        · refine cw_cond_f rfl hb125 ?_
          refine cw_skip ?_
          refine hQ123 _ _ _ ?_
          refine thn_n ?_
          refine cw_seq ?_
          refine cw_gen ?_
          intro Q127 hQ127
          replace hS : Sat w0 w117 [] := hS.rems 2 [0, 1] rfl
          refine cw_reg ?_
          refine el_pv (v := .int .i64 1) (pv_assign rfl) (by decide) ?_
          refine el_nil ?_
          refine hQ127 _ _ _ ?_
          refine thn_n ?_
          refine cw_ret ?_
          refine hQ120 _ _ _ ?_
          refine thn_r ?_
          refine fin1 rfl rfl ?_
          have hr := Option.some.inj hF
          exact ⟨congrArg (fun (r : Int) => Ending.returned (.int .i64 r)) hr, hS.below⟩
      · refine cw_cond_f rfl hb122 ?_
        refine cw_skip ?_
        refine hQ120 _ _ _ ?_
        refine thn_n ?_
        refine cw_seq ?_
        refine cw_gen ?_
        intro Q128 hQ128
        refine cw_seq ?_
        refine cw_gen ?_
        intro Q129 hQ129
        refine cw_reg ?_
        refine el_pv (v := .pointer (some ⟨b103, 0 + 0, none⟩)) (pv_fieldAddr rfl) (by decide) ?_
        refine el_pv (v := u0) (pv_loadc rfl ((hS.boxAt 1 rfl) 0 _ rfl)) (by decide) ?_
        refine el_pv (v := .int .i64 (a0.length : Int)) (pv_len rfl ha0) (by decide) ?_
        replace hF := ob hF
        obtain ⟨x130, hx130, hF⟩ := hF
        refine el_pv (v := .int .i64 x130) (pv_sub rfl rfl hx130) (by decide) ?_
        refine el_pv (v := .int .i64 x130) (pv_assign rfl) (by decide) ?_
        refine el_nil ?_
        refine hQ129 _ _ _ ?_
        refine thn_n ?_
        refine cw_block ?_
        refine cw_gen ?_
        intro Q131 hQ131
        obtain ⟨s132, hL, hK133⟩ := ob hF
        refine cw_loopS (fun k e w => ∃ (x134 : Int), e 2 = .pointer (some ⟨b103, 0, none⟩) ∧ e 3 = .pointer (some ⟨b107, 0, none⟩) ∧ e 5 = .int .i64 x134 ∧ Sat w0 w [Box b107 76 [u1], Box b103 76 [u0]] ∧ spec_CompareBigInts_L1 N k a0 a1 x134 = some s132) N ?_ ?_ ?_
        · exact ⟨x130, rfl, rfl, rfl, hS, hL⟩
        · rintro e w ⟨_, _, _, _, _, hz⟩; exact nomatch (show none = some _ from hz)
        · rintro k e139 w138 ⟨x134, he135, he136, he137, hS, hF⟩
          refine cw_gen ?_
          intro Q140 hQ140
          refine cw_seq ?_
          refine cw_gen ?_
          intro Q141 hQ141
          refine cw_seq ?_
          refine cw_gen ?_
          intro Q142 hQ142
          refine cw_reg ?_
          refine el_pv (v := .int .i64 x134) (pv_move he137) (by decide) ?_
          refine el_pv (v := .bool (decide (0 ≤ x134))) (pv_geq rfl rfl) (by decide) ?_
          refine el_nil ?_
          refine hQ142 _ _ _ ?_
          refine thn_n ?_
          replace hF := oif hF
          rcases hF with ⟨hb143, hF⟩ | ⟨hb143, hF⟩
          · refine cw_cond_t rfl hb143 ?_
            refine cw_skip ?_
            refine hQ141 _ _ _ ?_
            refine thn_n ?_
            refine cw_seq ?_
            refine cw_gen ?_
            intro Q144 hQ144
            refine cw_block ?_
            refine cw_gen ?_
            intro Q145 hQ145
            refine cw_seq ?_
            refine cw_gen ?_
            intro Q146 hQ146
            refine cw_seq ?_
            refine cw_gen ?_
            intro Q147 hQ147
            refine cw_regq (by kernel_rfl) (by kernel_rfl) ?_
            refine ql_pv (v := .pointer (some ⟨b103, 0 + 0, none⟩)) (pv_fieldAddr he135) (by decide) ?_
            refine ql_pv (v := u0) (pv_loadc rfl ((hS.boxAt 1 rfl) 0 _ rfl)) (by decide) ?_
            refine ql_pv (v := .int .i64 x134) (pv_move he137) (by decide) ?_
            replace hF := ob hF
            obtain ⟨x148, hx148, hF⟩ := hF
            refine ql_index (wA := w0) rfl ha0 rfl (by decide) rfl hx148 (by decide) ?_
            intro b149 of150 c151 hr152 hm153
            obtain rfl := hr152
            refine ql_pv (v := .int .i64 x148) (pv_loadc rfl ((cells_up hS.below hm153) 0 _ rfl)) (by decide) ?_
            refine ql_pv (v := .pointer (some ⟨b107, 0 + 0, none⟩)) (pv_fieldAddr he136) (by decide) ?_
            refine ql_pv (v := u1) (pv_loadc rfl ((hS.boxAt 0 rfl) 0 _ rfl)) (by decide) ?_
            refine ql_pv (v := .int .i64 x134) (pv_move he137) (by decide) ?_
            replace hF := ob hF
            obtain ⟨x154, hx154, hF⟩ := hF
            refine ql_index (wA := w0) rfl ha1 rfl (by decide) rfl hx154 (by decide) ?_
            intro b155 of156 c157 hr158 hm159
            obtain rfl := hr158
            refine ql_pv (v := .int .i64 x154) (pv_loadc rfl ((cells_up hS.below hm159) 0 _ rfl)) (by decide) ?_
            refine ql_pv (v := .bool (decide (x148 < x154))) (pv_lss rfl rfl) (by decide) ?_
            refine ql_nil ?_
            intro w160 hx161
            replace hS := hS.ext hx161
            refine hQ147 _ _ _ ?_
            refine thn_n ?_
            replace hF := oif hF
            rcases hF with ⟨hb162, hF⟩ | ⟨hb162, hF⟩
            · refine cw_cond_t rfl hb162 ?_
              refine cw_seq ?_
              refine cw_gen ?_
              intro Q163 hQ163
              replace hS : Sat w0 w160 [] := hS.rems 2 [0, 1] rfl
              refine cw_reg ?_
              refine el_pv (v := .int .i64 (-1)) (pv_assign rfl) (by decide) ?_
              refine el_nil ?_
              refine hQ163 _ _ _ ?_
              refine thn_n ?_
              refine cw_ret ?_
              refine hQ146 _ _ _ ?_
              refine thn_r ?_
              refine hQ145 _ _ _ ?_
              refine inb_r ?_
              refine hQ144 _ _ _ ?_
              refine thn_r ?_
              refine hQ140 _ _ _ ?_
              refine thn_r ?_
              refine hQ131 _ _ _ ?_
              refine inb_r ?_
              refine hQ128 _ _ _ ?_
              refine thn_r ?_
              replace hF := exL hF hK133
              refine fin1 rfl rfl ?_
              have hr := Option.some.inj hF
              exact ⟨congrArg (fun (r : Int) => Ending.returned (.int .i64 r)) hr, hS.below⟩
            · refine cw_cond_f rfl hb162 ?_
              refine cw_skip ?_
              refine hQ146 _ _ _ ?_
              refine thn_n ?_
              refine cw_seq ?_
              refine cw_gen ?_
              intro Q164 hQ164
              refine cw_regq (by kernel_rfl) (by kernel_rfl) ?_
              refine ql_pv (v := .pointer (some ⟨b103, 0 + 0, none⟩)) (pv_fieldAddr he135) (by decide) ?_
              refine ql_pv (v := u0) (pv_loadc rfl ((hS.boxAt 1 rfl) 0 _ rfl)) (by decide) ?_
              refine ql_pv (v := .int .i64 x134) (pv_move he137) (by decide) ?_
              replace hF := ob hF
              obtain ⟨x165, hx165, hF⟩ := hF
              refine ql_index (wA := w0) rfl ha0 rfl (by decide) rfl hx165 (by decide) ?_
              intro b166 of167 c168 hr169 hm170
              obtain rfl := hr169
              refine ql_pv (v := .int .i64 x165) (pv_loadc rfl ((cells_up hS.below hm170) 0 _ rfl)) (by decide) ?_
              refine ql_pv (v := .pointer (some ⟨b107, 0 + 0, none⟩)) (pv_fieldAddr he136) (by decide) ?_
              refine ql_pv (v := u1) (pv_loadc rfl ((hS.boxAt 0 rfl) 0 _ rfl)) (by decide) ?_
              refine ql_pv (v := .int .i64 x134) (pv_move he137) (by decide) ?_
              replace hF := ob hF
              obtain ⟨x171, hx171, hF⟩ := hF
              refine ql_index (wA := w0) rfl ha1 rfl (by decide) rfl hx171 (by decide) ?_
              intro b172 of173 c174 hr175 hm176
              obtain rfl := hr175
              refine ql_pv (v := .int .i64 x171) (pv_loadc rfl ((cells_up hS.below hm176) 0 _ rfl)) (by decide) ?_
              refine ql_pv (v := .bool (decide (x171 < x165))) (pv_gtr rfl rfl) (by decide) ?_
              refine ql_nil ?_
              intro w177 hx178
              replace hS := hS.ext hx178
              refine hQ164 _ _ _ ?_
              refine thn_n ?_
              replace hF := oif hF
              rcases hF with ⟨hb179, hF⟩ | ⟨hb179, hF⟩
              · refine cw_cond_t rfl hb179 ?_
                refine cw_seq ?_
                refine cw_gen ?_
                intro Q180 hQ180
                replace hS : Sat w0 w177 [] := hS.rems 2 [0, 1] rfl
                refine cw_reg ?_
                refine el_pv (v := .int .i64 1) (pv_assign rfl) (by decide) ?_
                refine el_nil ?_
                refine hQ180 _ _ _ ?_
                refine thn_n ?_
                refine cw_ret ?_
                refine hQ145 _ _ _ ?_
                refine inb_r ?_
                refine hQ144 _ _ _ ?_
                refine thn_r ?_
                refine hQ140 _ _ _ ?_
                refine thn_r ?_
                refine hQ131 _ _ _ ?_
                refine inb_r ?_
                refine hQ128 _ _ _ ?_
                refine thn_r ?_
                replace hF := exL hF hK133
                refine fin1 rfl rfl ?_
                have hr := Option.some.inj hF
                exact ⟨congrArg (fun (r : Int) => Ending.returned (.int .i64 r)) hr, hS.below⟩
              · refine cw_cond_f rfl hb179 ?_
                refine cw_skip ?_
                refine hQ145 _ _ _ ?_
                refine inb_n ?_
                refine hQ144 _ _ _ ?_
                refine thn_n ?_
                refine cw_reg ?_
                refine el_pv (v := .int .i64 x134) (pv_move he137) (by decide) ?_
                replace hF := ob hF
                obtain ⟨x181, hx181, hF⟩ := hF
                refine el_pv (v := .int .i64 x181) (pv_sub rfl rfl hx181) (by decide) ?_
                refine el_pv (v := .int .i64 x181) (pv_assign rfl) (by decide) ?_
                refine el_nil ?_
                refine hQ140 _ _ _ ?_
                refine thn_n ?_
                replace hS := hS.keep 2
                exact ⟨x181, he135, he136, rfl, hS, hF⟩
          · refine cw_cond_f rfl hb143 ?_
            refine cw_exit ?_
            refine hQ141 _ _ _ ?_
            refine thn_x ?_
            refine hQ140 _ _ _ ?_
            refine thn_x ?_
            replace hF := exA hF hK133
            refine hQ131 _ _ _ ?_
            refine inb_s ?_
            refine hQ128 _ _ _ ?_
            refine thn_n ?_
            refine cw_seq ?_
            refine cw_gen ?_
            intro Q182 hQ182
            replace hS : Sat w0 w138 [] := hS.rems 2 [0, 1] rfl
            refine cw_reg ?_
            refine el_pv (v := .int .i64 0) (pv_assign rfl) (by decide) ?_
            refine el_nil ?_
            refine hQ182 _ _ _ ?_
            refine thn_n ?_
            refine cw_ret ?_
            refine fin1 rfl rfl ?_
            have hr := Option.some.inj hF
            exact ⟨congrArg (fun (r : Int) => Ending.returned (.int .i64 r)) hr, hS.below⟩
    · refine cw_cond_t rfl (bnot_f hb119) ?_
      refine cw_seq ?_
      refine cw_gen ?_
      intro Q183 hQ183
      replace hS : Sat w0 w117 [] := hS.rems 2 [0, 1] rfl
      refine cw_reg ?_
      refine el_pv (v := .int .i64 0) (pv_assign rfl) (by decide) ?_
      refine el_nil ?_
      refine hQ183 _ _ _ ?_
      refine thn_n ?_
      refine cw_ret ?_
      refine hQ110 _ _ _ ?_
      refine thn_r ?_
      refine fin1 rfl rfl ?_
      have hr := Option.some.inj hF
      exact ⟨congrArg (fun (r : Int) => Ending.returned (.int .i64 r)) hr, hS.below⟩
  · refine el_off rfl (bnot_f hb115) rfl (by decide) ?_
    refine el_off rfl (bnot_f hb115) rfl (by decide) ?_
    refine el_off rfl (bnot_f hb115) rfl (by decide) ?_
    refine el_pv (v := .bool true) (pv_pick_t rfl (bnot_f hb115) rfl) (by decide) ?_
    refine el_nil ?_
    refine hQ111 _ _ _ ?_
    refine thn_n ?_
    refine cw_cond_t rfl rfl ?_
    refine cw_seq ?_
    refine cw_gen ?_
    intro Q184 hQ184
    replace hS : Sat w0 w113 [] := hS.rems 2 [0, 1] rfl
    refine cw_reg ?_
    refine el_pv (v := .int .i64 0) (pv_assign rfl) (by decide) ?_
    refine el_nil ?_
    refine hQ184 _ _ _ ?_
    refine thn_n ?_
    refine cw_ret ?_
    refine hQ110 _ _ _ ?_
    refine thn_r ?_
    refine fin1 rfl rfl ?_
    have hr := Option.some.inj hF
    exact ⟨congrArg (fun (r : Int) => Ending.returned (.int .i64 r)) hr, hS.below⟩
set_option maxHeartbeats 4000000 in
theorem spec_IsWithinSeekBound_ok {w0 : World} {a0 : Int} {u1 : Value} {a1 : List (ByteArray × List Int)} {u2 : Value} {a2 : List Int} {u3 : Value} {a3 : List Int} {u4 : Value} {a4 : List (Int × Int)} {a5 : Int} (ha1 : (sliceR (pairR strR (sliceR intR 3)) 96).rd w0 [u1] a1) (ha2 : (sliceR intR 3).rd w0 [u2] a2) (ha3 : (sliceR intR 3).rd w0 [u3] a3) (ha4 : (sliceR (pairR intR intR) 83).rd w0 [u4] a4) {N : Nat} {r : Bool} (hF : spec_IsWithinSeekBound N a0 a1 a2 a3 a4 a5 = some r) :
    Calls Try.prog 13 #[.agg #[.int .i64 a0, u1, u2], u3, u4, .int .i64 a5] w0 fun e w' => e = .returned (.bool r) ∧ Ext w0 w' := by
  unfold spec_IsWithinSeekBound at hF
  refine calls_E Try.func13 rfl rfl (of_decide_eq_true rfl) ?_
  have hS := Sat.start w0
  refine cw_seq ?_
  refine cw_gen ?_
  intro Q101 hQ101
  refine cw_reg ?_
  refine el_box [.int .i64 a0, u1, u2] rfl hS (by decide) ?_
  intro w102 b103 hS hx104
  refine el_pv (v := .bool false) (pv_assign rfl) (by decide) ?_
  refine el_nil ?_
  refine hQ101 _ _ _ ?_
  refine thn_n ?_
  refine cw_seq ?_
  refine cw_gen ?_
  intro Q106 hQ106
  refine cw_reg ?_
  refine el_pv (v := u4) (pv_move rfl) (by decide) ?_
  replace hF := ob hF
  obtain ⟨r107, hr107, hF⟩ := hF
  refine el_call goes43 (spec_ScaleToIntegers_ok (hS.up ha4) hr107) (congrArg List.toArray (mapc rfl rfl)) (by decide) ?_
  rintro _ w110 ⟨v108, rfl, hS'⟩
  refine ⟨_, rfl, ?_⟩
  have hx111 := hS'.below
  replace hS := hS.call1 hS'
  refine el_pv (v := .tuple #[v108, .int .i64 r107.2]) (pv_move rfl) (by decide) ?_
  refine el_pv (v := v108) (pv_extract rfl rfl) (by decide) ?_
  refine el_pv (v := .int .i64 r107.2) (pv_extract rfl rfl) (by decide) ?_
  refine el_pv (v := v108) (pv_assign rfl) (by decide) ?_
  refine el_pv (v := .int .i64 r107.2) (pv_assign rfl) (by decide) ?_
  refine el_nil ?_
  refine hQ106 _ _ _ ?_
  refine thn_n ?_
  refine cw_seq ?_
  refine cw_gen ?_
  intro Q112 hQ112
  refine cw_reg ?_
  refine el_pv (v := u3) (pv_move rfl) (by decide) ?_
  refine el_pv (v := v108) (pv_move rfl) (by decide) ?_
  replace hF := ob hF
  obtain ⟨r113, hr113, hF⟩ := hF
  refine el_call goes44 (spec_ProductOfPowers_ok (hS.up ha3) (hS.rdAt (R := (sliceR intR 3)) 0 rfl) hr113) (congrArg List.toArray (mapc rfl (mapc rfl rfl))) (by decide) ?_
  rintro _ w116 ⟨v114, rfl, hS'⟩
  refine ⟨_, rfl, ?_⟩
  have hx117 := hS'.below
  replace hS := hS.call1 hS'
  refine el_pv (v := .tuple #[.agg #[v114], .bool r113.2]) (pv_move rfl) (by decide) ?_
  refine el_pv (v := .agg #[v114]) (pv_extract rfl rfl) (by decide) ?_
  refine el_pv (v := .bool r113.2) (pv_extract rfl rfl) (by decide) ?_
  refine el_alloc hS (by decide) ?_
  intro w118 b119 hS hx120
  refine el_storev (hS.top 0 rfl) rfl [v114] rfl rfl (of_decide_eq_true rfl) (all_cons (oc (hS.rdAt (R := (sliceR intR 3)) 1 rfl)) rfl) ?_
  intro w122 hS
  replace hS : Sat w0 w122 [Box b119 76 [v114], Own (sliceR intR 3) [v114] r113.1, Own (sliceR intR 3) [v108] r107.1, Box b103 30 [.int .i64 a0, u1, u2]] := hS
  refine el_pv (v := .bool r113.2) (pv_assign rfl) (by decide) ?_
  refine el_nil ?_
  refine hQ112 _ _ _ ?_
  refine thn_n ?_
  refine cw_seq ?_
  refine cw_gen ?_
  intro Q123 hQ123
  replace hS : Sat w0 w122 [Box b119 76 [v114], Own (sliceR intR 3) [v114] r113.1, Box b103 30 [.int .i64 a0, u1, u2]] := hS.rems 4 [2] rfl
  refine cw_reg ?_
  refine el_pv (v := .int .i64 a5) (pv_move rfl) (by decide) ?_
  refine el_pv (v := .int .i64 r107.2) (pv_move rfl) (by decide) ?_
  replace hF := ob hF
  obtain ⟨r124, hr124, hF⟩ := hF
  refine el_call goes45 (spec_PowBigInt_ok hr124) (congrArg List.toArray (mapc rfl (mapc rfl rfl))) (by decide) ?_
  rintro _ w127 ⟨v125, rfl, hS'⟩
  refine ⟨_, rfl, ?_⟩
  have hx128 := hS'.below
  replace hS := hS.call1 hS'
  refine el_pv (v := .tuple #[.agg #[v125], .bool r124.2]) (pv_move rfl) (by decide) ?_
  refine el_pv (v := .agg #[v125]) (pv_extract rfl rfl) (by decide) ?_
  refine el_pv (v := .bool r124.2) (pv_extract rfl rfl) (by decide) ?_
  refine el_alloc hS (by decide) ?_
  intro w129 b130 hS hx131
  refine el_storev (hS.top 0 rfl) rfl [v125] rfl rfl (of_decide_eq_true rfl) (all_cons (oc (hS.rdAt (R := (sliceR intR 3)) 1 rfl)) rfl) ?_
  intro w133 hS
  replace hS : Sat w0 w133 [Box b130 76 [v125], Own (sliceR intR 3) [v125] r124.1, Box b119 76 [v114], Own (sliceR intR 3) [v114] r113.1, Box b103 30 [.int .i64 a0, u1, u2]] := hS
  refine el_pv (v := .bool r124.2) (pv_assign rfl) (by decide) ?_
  refine el_nil ?_
  refine hQ123 _ _ _ ?_
  refine thn_n ?_
  refine cw_seq ?_
  refine cw_gen ?_
  intro Q134 hQ134
  refine cw_reg ?_
  refine el_pv (v := .agg #[.int .i64 a0, u1, u2]) (pv_loada (cs := [.int .i64 a0, u1, u2]) rfl rfl (boxc0 (hS.boxAt 4 rfl))) (by decide) ?_
  replace hF := ob hF
  obtain ⟨r135, hr135, hF⟩ := hF
  refine el_call goes8 (spec_SeekBound_ok (hS.up ha1) (hS.up ha2) hr135) (congrArg List.toArray (mapc rfl (mapc rfl rfl))) (by decide) ?_
  rintro _ w136 ⟨rfl, hx137⟩
  refine ⟨_, rfl, ?_⟩
  replace hS := hS.ext hx137
  refine el_pv (v := .int .i64 r107.2) (pv_move rfl) (by decide) ?_
  replace hF := ob hF
  obtain ⟨r138, hr138, hF⟩ := hF
  refine el_call goes45 (spec_PowBigInt_ok hr138) (congrArg List.toArray (mapc rfl (mapc rfl rfl))) (by decide) ?_
  rintro _ w141 ⟨v139, rfl, hS'⟩
  refine ⟨_, rfl, ?_⟩
  have hx142 := hS'.below
  replace hS := hS.call1 hS'
  refine el_pv (v := .tuple #[.agg #[v139], .bool r138.2]) (pv_move rfl) (by decide) ?_
  refine el_pv (v := .agg #[v139]) (pv_extract rfl rfl) (by decide) ?_
  refine el_pv (v := .bool r138.2) (pv_extract rfl rfl) (by decide) ?_
  refine el_alloc hS (by decide) ?_
  intro w143 b144 hS hx145
  refine el_storev (hS.top 0 rfl) rfl [v139] rfl rfl (of_decide_eq_true rfl) (all_cons (oc (hS.rdAt (R := (sliceR intR 3)) 1 rfl)) rfl) ?_
  intro w147 hS
  replace hS : Sat w0 w147 [Box b144 76 [v139], Own (sliceR intR 3) [v139] r138.1, Box b130 76 [v125], Own (sliceR intR 3) [v125] r124.1, Box b119 76 [v114], Own (sliceR intR 3) [v114] r113.1, Box b103 30 [.int .i64 a0, u1, u2]] := hS
  refine el_pv (v := .bool r138.2) (pv_assign rfl) (by decide) ?_
  refine el_nil ?_
  refine hQ134 _ _ _ ?_
  refine thn_n ?_
  refine cw_seq ?_
  refine cw_gen ?_
  intro Q148 hQ148
  refine cw_reg ?_
  refine el_pv (v := .agg #[v114]) (pv_loada (cs := [v114]) rfl rfl (boxc0 (hS.boxAt 4 rfl))) (by decide) ?_
  refine el_pv (v := .agg #[v139]) (pv_loada (cs := [v139]) rfl rfl (boxc0 (hS.boxAt 0 rfl))) (by decide) ?_
  replace hF := ob hF
  obtain ⟨r149, hr149, hF⟩ := hF
  refine el_call goes46 (spec_MulBigInt_ok (hS.rdAt (R := (sliceR intR 3)) 5 rfl) (hS.rdAt (R := (sliceR intR 3)) 1 rfl) hr149) (congrArg List.toArray (mapc rfl (mapc rfl rfl))) (by decide) ?_
  rintro _ w152 ⟨v150, rfl, hS'⟩
  refine ⟨_, rfl, ?_⟩
  have hx153 := hS'.below
  replace hS := hS.call1 hS'
  refine el_pv (v := .tuple #[.agg #[v150], .bool r149.2]) (pv_move rfl) (by decide) ?_
  refine el_pv (v := .agg #[v150]) (pv_extract rfl rfl) (by decide) ?_
  refine el_pv (v := .bool r149.2) (pv_extract rfl rfl) (by decide) ?_
  refine el_alloc hS (by decide) ?_
  intro w154 b155 hS hx156
  refine el_storev (hS.top 0 rfl) rfl [v150] rfl rfl (of_decide_eq_true rfl) (all_cons (oc (hS.rdAt (R := (sliceR intR 3)) 1 rfl)) rfl) ?_
  intro w158 hS
  replace hS : Sat w0 w158 [Box b155 76 [v150], Own (sliceR intR 3) [v150] r149.1, Box b144 76 [v139], Own (sliceR intR 3) [v139] r138.1, Box b130 76 [v125], Own (sliceR intR 3) [v125] r124.1, Box b119 76 [v114], Own (sliceR intR 3) [v114] r113.1, Box b103 30 [.int .i64 a0, u1, u2]] := hS
  refine el_pv (v := .bool r149.2) (pv_assign rfl) (by decide) ?_
  refine el_nil ?_
  refine hQ148 _ _ _ ?_
  refine thn_n ?_
  refine cw_seq ?_
  refine cw_gen ?_
  intro Q159 hQ159
  replace hS : Sat w0 w158 [Box b155 76 [v150], Own (sliceR intR 3) [v150] r149.1, Box b130 76 [v125], Own (sliceR intR 3) [v125] r124.1, Box b103 30 [.int .i64 a0, u1, u2]] := hS.rems 9 [2, 3, 6, 7] rfl
  refine cw_reg ?_
  refine el_pv (v := .int .i64 r107.2) (pv_move rfl) (by decide) ?_
  refine el_pv (v := .bool (decide (0 < r107.2))) (pv_gtr rfl rfl) (by decide) ?_
  refine el_pv (v := .bool (decide (0 < r107.2))) (pv_move rfl) (by decide) ?_
  replace hF := oif hF
  rcases hF with ⟨hb160, hF⟩ | ⟨hb160, hF⟩
  · refine el_on rfl hb160 ?_
    refine el_pv (v := .bool r113.2) (pv_move rfl) (by decide) ?_
    refine el_pv (v := .bool r113.2) (pv_pick_t rfl hb160 rfl) (by decide) ?_
    refine el_pv (v := .bool r113.2) (pv_move rfl) (by decide) ?_
    replace hF := oif hF
    rcases hF with ⟨hb161, hF⟩ | ⟨hb161, hF⟩
    · refine el_on rfl hb161 ?_
      refine el_pv (v := .bool r124.2) (pv_move rfl) (by decide) ?_
      refine el_pv (v := .bool r124.2) (pv_pick_t rfl hb161 rfl) (by decide) ?_
      refine el_pv (v := .bool r124.2) (pv_move rfl) (by decide) ?_
      replace hF := oif hF
      rcases hF with ⟨hb162, hF⟩ | ⟨hb162, hF⟩
      · refine el_on rfl hb162 ?_
        refine el_pv (v := .bool r138.2) (pv_move rfl) (by decide) ?_
        refine el_pv (v := .bool r138.2) (pv_pick_t rfl hb162 rfl) (by decide) ?_
        refine el_pv (v := .bool r138.2) (pv_move rfl) (by decide) ?_
        replace hF := oif hF
        rcases hF with ⟨hb163, hF⟩ | ⟨hb163, hF⟩
        · refine el_on rfl hb163 ?_
          refine el_pv (v := .bool r149.2) (pv_move rfl) (by decide) ?_
          refine el_pv (v := .bool r149.2) (pv_pick_t rfl hb163 rfl) (by decide) ?_
          refine el_pv (v := .bool r149.2) (pv_move rfl) (by decide) ?_
          replace hF := oif hF
          rcases hF with ⟨hb164, hF⟩ | ⟨hb164, hF⟩
          · refine el_on rfl hb164 ?_
            refine el_pv (v := .agg #[.int .i64 a0, u1, u2]) (pv_loada (cs := [.int .i64 a0, u1, u2]) rfl rfl (boxc0 (hS.boxAt 4 rfl))) (by decide) ?_
            refine el_on rfl hb164 ?_
            replace hF := ob hF
            obtain ⟨r165, hr165, hF⟩ := hF
            refine el_call goes37 (spec_IsValidQuery_ok (hS.up ha1) (hS.up ha2) hr165) (congrArg List.toArray (mapc rfl rfl)) (by decide) ?_
            rintro _ w166 ⟨rfl, hx167⟩
            refine ⟨_, rfl, ?_⟩
            replace hS := hS.ext hx167
            refine el_pv (v := .bool r165) (pv_pick_t rfl hb164 rfl) (by decide) ?_
            refine el_pv (v := .bool r165) (pv_move rfl) (by decide) ?_
            replace hF := oif hF
            rcases hF with ⟨hb168, hF⟩ | ⟨hb168, hF⟩
            · refine el_on rfl hb168 ?_
              refine el_pv (v := .agg #[v125]) (pv_loada (cs := [v125]) rfl rfl (boxc0 (hS.boxAt 2 rfl))) (by decide) ?_
              refine el_on rfl hb168 ?_
              refine el_pv (v := .agg #[v150]) (pv_loada (cs := [v150]) rfl rfl (boxc0 (hS.boxAt 0 rfl))) (by decide) ?_
              refine el_on rfl hb168 ?_
              replace hF := ob hF
              obtain ⟨r169, hr169, hF⟩ := hF
              refine el_call goes47 (spec_CompareBigInts_ok (hS.rdAt (R := (sliceR intR 3)) 3 rfl) (hS.rdAt (R := (sliceR intR 3)) 1 rfl) hr169) (congrArg List.toArray (mapc rfl (mapc rfl rfl))) (by decide) ?_
              rintro _ w170 ⟨rfl, hx171⟩
              refine ⟨_, rfl, ?_⟩
              replace hS := hS.ext hx171
              refine el_on rfl hb168 ?_
              refine el_pv (v := .bool (decide (r169 ≤ 0))) (pv_leq rfl rfl) (by decide) ?_
              refine el_pv (v := .bool (decide (r169 ≤ 0))) (pv_pick_t rfl hb168 rfl) (by decide) ?_
              refine el_pv (v := .bool (decide (r169 ≤ 0))) (pv_assign rfl) (by decide) ?_
              refine el_nil ?_
              refine hQ159 _ _ _ ?_
              refine thn_n ?_
              refine cw_ret ?_
              refine fin1 rfl rfl ?_
              have hr := Option.some.inj hF
              exact ⟨congrArg (fun (r : Bool) => Ending.returned (.bool r)) hr, hS.below⟩
            · refine el_off rfl hb168 rfl (by decide) ?_
              refine el_off rfl hb168 rfl (by decide) ?_
              refine el_off rfl hb168 rfl (by decide) ?_
              refine el_off rfl hb168 rfl (by decide) ?_
              refine el_pv (v := .bool false) (pv_pick_f rfl hb168 rfl) (by decide) ?_
              refine el_pv (v := .bool false) (pv_assign rfl) (by decide) ?_
              refine el_nil ?_
              refine hQ159 _ _ _ ?_
              refine thn_n ?_
              refine cw_ret ?_
              refine fin1 rfl rfl ?_
              have hr := Option.some.inj hF
              exact ⟨congrArg (fun (r : Bool) => Ending.returned (.bool r)) hr, hS.below⟩
          · refine el_off rfl hb164 rfl (by decide) ?_
            refine el_off rfl hb164 rfl (by decide) ?_
            refine el_pv (v := .bool false) (pv_pick_f rfl hb164 rfl) (by decide) ?_
            refine el_pv (v := .bool false) (pv_move rfl) (by decide) ?_
            refine el_off rfl rfl rfl (by decide) ?_
            refine el_off rfl rfl rfl (by decide) ?_
            refine el_off rfl rfl rfl (by decide) ?_
            refine el_off rfl rfl rfl (by decide) ?_
            refine el_pv (v := .bool false) (pv_pick_f rfl rfl rfl) (by decide) ?_
            refine el_pv (v := .bool false) (pv_assign rfl) (by decide) ?_
            refine el_nil ?_
            refine hQ159 _ _ _ ?_
            refine thn_n ?_
            refine cw_ret ?_
            refine fin1 rfl rfl ?_
            have hr := Option.some.inj hF
            exact ⟨congrArg (fun (r : Bool) => Ending.returned (.bool r)) hr, hS.below⟩
        · refine el_off rfl hb163 rfl (by decide) ?_
          refine el_pv (v := .bool false) (pv_pick_f rfl hb163 rfl) (by decide) ?_
          refine el_pv (v := .bool false) (pv_move rfl) (by decide) ?_
          refine el_off rfl rfl rfl (by decide) ?_
          refine el_off rfl rfl rfl (by decide) ?_
          refine el_pv (v := .bool false) (pv_pick_f rfl rfl rfl) (by decide) ?_
          refine el_pv (v := .bool false) (pv_move rfl) (by decide) ?_
          refine el_off rfl rfl rfl (by decide) ?_
          refine el_off rfl rfl rfl (by decide) ?_
          refine el_off rfl rfl rfl (by decide) ?_
          refine el_off rfl rfl rfl (by decide) ?_
          refine el_pv (v := .bool false) (pv_pick_f rfl rfl rfl) (by decide) ?_
          refine el_pv (v := .bool false) (pv_assign rfl) (by decide) ?_
          refine el_nil ?_
          refine hQ159 _ _ _ ?_
          refine thn_n ?_
          refine cw_ret ?_
          refine fin1 rfl rfl ?_
          have hr := Option.some.inj hF
          exact ⟨congrArg (fun (r : Bool) => Ending.returned (.bool r)) hr, hS.below⟩
      · refine el_off rfl hb162 rfl (by decide) ?_
        refine el_pv (v := .bool false) (pv_pick_f rfl hb162 rfl) (by decide) ?_
        refine el_pv (v := .bool false) (pv_move rfl) (by decide) ?_
        refine el_off rfl rfl rfl (by decide) ?_
        refine el_pv (v := .bool false) (pv_pick_f rfl rfl rfl) (by decide) ?_
        refine el_pv (v := .bool false) (pv_move rfl) (by decide) ?_
        refine el_off rfl rfl rfl (by decide) ?_
        refine el_off rfl rfl rfl (by decide) ?_
        refine el_pv (v := .bool false) (pv_pick_f rfl rfl rfl) (by decide) ?_
        refine el_pv (v := .bool false) (pv_move rfl) (by decide) ?_
        refine el_off rfl rfl rfl (by decide) ?_
        refine el_off rfl rfl rfl (by decide) ?_
        refine el_off rfl rfl rfl (by decide) ?_
        refine el_off rfl rfl rfl (by decide) ?_
        refine el_pv (v := .bool false) (pv_pick_f rfl rfl rfl) (by decide) ?_
        refine el_pv (v := .bool false) (pv_assign rfl) (by decide) ?_
        refine el_nil ?_
        refine hQ159 _ _ _ ?_
        refine thn_n ?_
        refine cw_ret ?_
        refine fin1 rfl rfl ?_
        have hr := Option.some.inj hF
        exact ⟨congrArg (fun (r : Bool) => Ending.returned (.bool r)) hr, hS.below⟩
    · refine el_off rfl hb161 rfl (by decide) ?_
      refine el_pv (v := .bool false) (pv_pick_f rfl hb161 rfl) (by decide) ?_
      refine el_pv (v := .bool false) (pv_move rfl) (by decide) ?_
      refine el_off rfl rfl rfl (by decide) ?_
      refine el_pv (v := .bool false) (pv_pick_f rfl rfl rfl) (by decide) ?_
      refine el_pv (v := .bool false) (pv_move rfl) (by decide) ?_
      refine el_off rfl rfl rfl (by decide) ?_
      refine el_pv (v := .bool false) (pv_pick_f rfl rfl rfl) (by decide) ?_
      refine el_pv (v := .bool false) (pv_move rfl) (by decide) ?_
      refine el_off rfl rfl rfl (by decide) ?_
      refine el_off rfl rfl rfl (by decide) ?_
      refine el_pv (v := .bool false) (pv_pick_f rfl rfl rfl) (by decide) ?_
      refine el_pv (v := .bool false) (pv_move rfl) (by decide) ?_
      refine el_off rfl rfl rfl (by decide) ?_
      refine el_off rfl rfl rfl (by decide) ?_
      refine el_off rfl rfl rfl (by decide) ?_
      refine el_off rfl rfl rfl (by decide) ?_
      refine el_pv (v := .bool false) (pv_pick_f rfl rfl rfl) (by decide) ?_
      refine el_pv (v := .bool false) (pv_assign rfl) (by decide) ?_
      refine el_nil ?_
      refine hQ159 _ _ _ ?_
      refine thn_n ?_
      refine cw_ret ?_
      refine fin1 rfl rfl ?_
      have hr := Option.some.inj hF
      exact ⟨congrArg (fun (r : Bool) => Ending.returned (.bool r)) hr, hS.below⟩
  · refine el_off rfl hb160 rfl (by decide) ?_
    refine el_pv (v := .bool false) (pv_pick_f rfl hb160 rfl) (by decide) ?_
    refine el_pv (v := .bool false) (pv_move rfl) (by decide) ?_
    refine el_off rfl rfl rfl (by decide) ?_
    refine el_pv (v := .bool false) (pv_pick_f rfl rfl rfl) (by decide) ?_
    refine el_pv (v := .bool false) (pv_move rfl) (by decide) ?_
    refine el_off rfl rfl rfl (by decide) ?_
    refine el_pv (v := .bool false) (pv_pick_f rfl rfl rfl) (by decide) ?_
    refine el_pv (v := .bool false) (pv_move rfl) (by decide) ?_
    refine el_off rfl rfl rfl (by decide) ?_
    refine el_pv (v := .bool false) (pv_pick_f rfl rfl rfl) (by decide) ?_
    refine el_pv (v := .bool false) (pv_move rfl) (by decide) ?_
    refine el_off rfl rfl rfl (by decide) ?_
    refine el_off rfl rfl rfl (by decide) ?_
    refine el_pv (v := .bool false) (pv_pick_f rfl rfl rfl) (by decide) ?_
    refine el_pv (v := .bool false) (pv_move rfl) (by decide) ?_
    refine el_off rfl rfl rfl (by decide) ?_
    refine el_off rfl rfl rfl (by decide) ?_
    refine el_off rfl rfl rfl (by decide) ?_
    refine el_off rfl rfl rfl (by decide) ?_
    refine el_pv (v := .bool false) (pv_pick_f rfl rfl rfl) (by decide) ?_
    refine el_pv (v := .bool false) (pv_assign rfl) (by decide) ?_
    refine el_nil ?_
    refine hQ159 _ _ _ ?_
    refine thn_n ?_
    refine cw_ret ?_
    refine fin1 rfl rfl ?_
    have hr := Option.some.inj hF
    exact ⟨congrArg (fun (r : Bool) => Ending.returned (.bool r)) hr, hS.below⟩
set_option maxHeartbeats 4000000 in
theorem laws_toRational_ok {w0 : World} {a0 : Int} {a1 : Int}  {N : Nat} {r : Int × Int} (hF : laws_toRational N a0 a1 = some r) :
    Calls Try.prog 48 #[.agg #[.int .i64 a0, .int .i64 a1]] w0 fun e w' => e = .returned (.agg #[.int .i64 r.1, .int .i64 r.2]) ∧ Ext w0 w' := by
  unfold laws_toRational at hF
  refine calls_E Try.func48 rfl rfl (of_decide_eq_true rfl) ?_
  have hS := Sat.start w0
  refine cw_seq ?_
  refine cw_gen ?_
  intro Q101 hQ101
  refine cw_reg ?_
  refine el_box [.int .i64 a0, .int .i64 a1] rfl hS (by decide) ?_
  intro w102 b103 hS hx104
  refine el_alloc hS (by decide) ?_
  intro w106 b107 hS hx108
  refine el_nil ?_
  refine hQ101 _ _ _ ?_
  refine thn_n ?_
  refine cw_seq ?_
  refine cw_gen ?_
  intro Q110 hQ110
  refine cw_reg ?_
  refine el_alloc hS (by decide) ?_
  intro w111 b112 hS hx113
  refine el_nil ?_
  refine hQ110 _ _ _ ?_
  refine thn_n ?_
  refine cw_seq ?_
  refine cw_gen ?_
  intro Q115 hQ115
  refine cw_reg ?_
  refine el_pv (v := .pointer (some ⟨b103, 0 + 0, none⟩)) (pv_fieldAddr rfl) (by decide) ?_
  refine el_pv (v := .int .i64 a0) (pv_loadc rfl ((hS.boxAt 2 rfl) 0 _ rfl)) (by decide) ?_
  refine el_pv (v := .pointer (some ⟨b112, 0 + 0, none⟩)) (pv_fieldAddr rfl) (by decide) ?_
  refine el_storev (hS.top 0 rfl) rfl [.int .i64 a0] rfl rfl (of_decide_eq_true rfl) (all_cons rfl rfl) ?_
  intro w116 hS
  replace hS : Sat w0 w116 [Box b112 83 [.int .i64 a0, .int .i64 0], Box b107 83 [.int .i64 0, .int .i64 0], Box b103 85 [.int .i64 a0, .int .i64 a1]] := hS
  refine el_nil ?_
  refine hQ115 _ _ _ ?_
  refine thn_n ?_
  refine cw_seq ?_
  refine cw_gen ?_
  intro Q117 hQ117
  refine cw_reg ?_
  refine el_pv (v := .pointer (some ⟨b103, 0 + 1, none⟩)) (pv_fieldAddr rfl) (by decide) ?_
  refine el_pv (v := .int .i64 a1) (pv_loadc rfl ((hS.boxAt 2 rfl) 1 _ rfl)) (by decide) ?_
  refine el_pv (v := .pointer (some ⟨b112, 0 + 1, none⟩)) (pv_fieldAddr rfl) (by decide) ?_
  refine el_storev (hS.top 0 rfl) rfl [.int .i64 a1] rfl rfl (of_decide_eq_true rfl) (all_cons rfl rfl) ?_
  intro w118 hS
  replace hS : Sat w0 w118 [Box b112 83 [.int .i64 a0, .int .i64 a1], Box b107 83 [.int .i64 0, .int .i64 0], Box b103 85 [.int .i64 a0, .int .i64 a1]] := hS
  refine el_nil ?_
  refine hQ117 _ _ _ ?_
  refine thn_n ?_
  refine cw_seq ?_
  refine cw_gen ?_
  intro Q119 hQ119
  replace hS : Sat w0 w118 [Box b112 83 [.int .i64 a0, .int .i64 a1], Box b107 83 [.int .i64 0, .int .i64 0]] := hS.rems 3 [2] rfl
  refine cw_reg ?_
  refine el_pv (v := .agg #[.int .i64 a0, .int .i64 a1]) (pv_loada (cs := [.int .i64 a0, .int .i64 a1]) rfl rfl (boxc0 (hS.boxAt 0 rfl))) (by decide) ?_
  refine el_storev (hS.top 1 rfl) rfl [.int .i64 a0, .int .i64 a1] rfl rfl (of_decide_eq_true rfl) (all_cons rfl (all_cons rfl rfl)) ?_
  intro w120 hS
  replace hS : Sat w0 w120 [Box b107 83 [.int .i64 a0, .int .i64 a1], Box b112 83 [.int .i64 a0, .int .i64 a1]] := hS
  refine el_nil ?_
  refine hQ119 _ _ _ ?_
  refine thn_n ?_
  refine cw_ret ?_
  refine finC (cs := [.int .i64 a0, .int .i64 a1]) rfl rfl rfl (boxc0 (hS.boxAt 0 rfl))  ?_
  have hr := Option.some.inj hF
  exact ⟨congrArg (fun (r : Int × Int) => Ending.returned (.agg #[.int .i64 r.1, .int .i64 r.2])) hr, hS.below⟩
set_option maxHeartbeats 4000000 in
theorem laws_toRationalS_ok {w0 : World} {u0 : Value} {a0 : List (Int × Int)} (ha0 : (sliceR (pairR intR intR) 85).rd w0 [u0] a0) {N : Nat} {r : (List (Int × Int))} (hF : laws_toRationalS N a0 = some r) :
    Calls Try.prog 15 #[u0] w0 fun e w' => ∃ (q0 : Value), e = .returned (q0) ∧ Sat w0 w' [Own (sliceR (pairR intR intR) 83) [q0] r] := by
  unfold laws_toRationalS at hF
  refine calls_E Try.func15 rfl rfl (of_decide_eq_true rfl) ?_
  have hS := Sat.start w0
  refine cw_seq ?_
  refine cw_gen ?_
  intro Q101 hQ101
  refine cw_reg ?_
  refine el_pv (v := (.slice none 0 0)) (pv_assign rfl) (by decide) ?_
  refine el_nil ?_
  refine hQ101 _ _ _ ?_
  refine thn_n ?_
  refine cw_seq ?_
  refine cw_gen ?_
  intro Q102 hQ102
  refine cw_reg ?_
  refine el_pv (v := u0) (pv_move rfl) (by decide) ?_
  refine el_pv (v := .int .i64 (a0.length : Int)) (pv_len rfl ha0) (by decide) ?_
  replace hF := ob hF
  obtain ⟨x106, hx106, hF⟩ := hF
  refine el_make (R := (pairR intR intR)) (x0 := (0, 0)) rfl (by decide) rfl (fun _ => ⟨_, _, [], [], rfl, rfl, ⟨rfl, rfl⟩, ⟨rfl, rfl⟩⟩) rfl rfl hx106 hS (by decide) ?_
  intro w103 g104 k105 hS hx107 hlx106
  refine el_pv (v := (.slice (some ⟨g104, 0, none⟩) k105 k105)) (pv_assign rfl) (by decide) ?_
  refine el_nil ?_
  refine hQ102 _ _ _ ?_
  refine thn_n ?_
  refine cw_seq ?_
  refine cw_gen ?_
  intro Q109 hQ109
  refine cw_seq ?_
  refine cw_gen ?_
  intro Q110 hQ110
  refine cw_reg ?_
  refine el_pv (v := .int .i64 0) (pv_assign rfl) (by decide) ?_
  refine el_nil ?_
  refine hQ110 _ _ _ ?_
  refine thn_n ?_
  refine cw_block ?_
  refine cw_gen ?_
  intro Q111 hQ111
  obtain ⟨s112, hL, hK113⟩ := ob hF
  refine cw_loopS (fun k e w => ∃ (v115 : Value), ∃ (x114 : List (Int × Int)), ∃ (x116 : Int), e 0 = u0 ∧ e 3 = v115 ∧ e 4 = .int .i64 x116 ∧ Sat w0 w [Own (sliceR (pairR intR intR) 83) [v115] x114] ∧ laws_toRationalS_L1 N k a0 x114 x116 = some s112) N ?_ ?_ ?_
  · exact ⟨(.slice (some ⟨g104, 0, none⟩) k105 k105), x106, 0, rfl, rfl, rfl, hS, hL⟩
  · rintro e w ⟨_, _, _, _, _, _, _, hz⟩; exact nomatch (show none = some _ from hz)
  · rintro k e121 w120 ⟨v115, x114, x116, he117, he118, he119, hS, hF⟩
    refine cw_gen ?_
    intro Q122 hQ122
    refine cw_seq ?_
    refine cw_gen ?_
    intro Q123 hQ123
    refine cw_seq ?_
    refine cw_gen ?_
    intro Q124 hQ124
    refine cw_reg ?_
    refine el_pv (v := .int .i64 x116) (pv_move he119) (by decide) ?_
    refine el_pv (v := u0) (pv_move he117) (by decide) ?_
    refine el_pv (v := .int .i64 (a0.length : Int)) (pv_len rfl ha0) (by decide) ?_
    refine el_pv (v := .bool (decide (x116 < (a0.length : Int)))) (pv_lss rfl rfl) (by decide) ?_
    refine el_nil ?_
    refine hQ124 _ _ _ ?_
    refine thn_n ?_
    replace hF := oif hF
    rcases hF with ⟨hb125, hF⟩ | ⟨hb125, hF⟩
    · refine cw_cond_t rfl hb125 ?_
      refine cw_skip ?_
      refine hQ123 _ _ _ ?_
      refine thn_n ?_
      refine cw_seq ?_
      refine cw_gen ?_
      intro Q126 hQ126
      refine cw_block ?_
      refine cw_gen ?_
      intro Q127 hQ127
      refine cw_reg ?_
      refine el_pv (v := v115) (pv_move he118) (by decide) ?_
      refine el_pv (v := .int .i64 x116) (pv_move he119) (by decide) ?_
      refine el_pv (v := u0) (pv_move he117) (by decide) ?_
      refine el_pv (v := .int .i64 x116) (pv_move he119) (by decide) ?_
      replace hF := ob hF
      obtain ⟨x128, hx128, hF⟩ := hF
      refine el_index (wA := w0) rfl ha0 rfl (by decide) rfl hx128 (by decide) ?_
      intro b129 of130 c131 hr132 hm133
      obtain ⟨_, _, rfl, hr134, hr135⟩ := hr132
      obtain rfl := hr134
      obtain rfl := hr135
      refine el_pv (v := .agg #[.int .i64 x128.1, .int .i64 x128.2]) (pv_loada (cs := [.int .i64 x128.1, .int .i64 x128.2]) rfl rfl (cells_up hS.below hm133)) (by decide) ?_
      replace hF := ob hF
      obtain ⟨r136, hr136, hF⟩ := hF
      refine el_call goes48 (laws_toRational_ok hr136) (congrArg List.toArray (mapc rfl rfl)) (by decide) ?_
      rintro _ w137 ⟨rfl, hx138⟩
      refine ⟨_, rfl, ?_⟩
      replace hS := hS.ext hx138
      replace hF := ob hF
      obtain ⟨x139, hx139, hF⟩ := hF
      refine el_indexO hS rfl rfl (by decide) rfl hx139 (by decide) ?_
      intro b140 of141 c142 hv145 hr143 hm144
      obtain ⟨_, _, rfl, hr146, hr147⟩ := hr143
      obtain rfl := hr146
      obtain rfl := hr147
      replace hF := ob hF
      obtain ⟨x149, hx149, hF⟩ := hF
      replace hS := hS.int r136.2
      replace hS := hS.int r136.1
      replace hS := hS.pair
      refine el_storeO rfl hv145 hS hx149 rfl rfl ?_
      intro w148 hS
      refine el_nil ?_
      refine hQ127 _ _ _ ?_
      refine inb_n ?_
      refine hQ126 _ _ _ ?_
      refine thn_n ?_
      refine cw_reg ?_
      refine el_pv (v := .int .i64 x116) (pv_move he119) (by decide) ?_
      replace hF := ob hF
      obtain ⟨x150, hx150, hF⟩ := hF
      refine el_pv (v := .int .i64 x150) (pv_add rfl rfl hx150) (by decide) ?_
      refine el_pv (v := .int .i64 x150) (pv_assign rfl) (by decide) ?_
      refine el_nil ?_
      refine hQ122 _ _ _ ?_
      refine thn_n ?_
      replace hS := hS.keep 1
      exact ⟨v115, x149, x150, he117, he118, rfl, hS, hF⟩
    · refine cw_cond_f rfl hb125 ?_
      refine cw_exit ?_
      refine hQ123 _ _ _ ?_
      refine thn_x ?_
      refine hQ122 _ _ _ ?_
      refine thn_x ?_
      replace hF := exB hF hK113
      refine hQ111 _ _ _ ?_
      refine inb_s ?_
      refine hQ109 _ _ _ ?_
      refine thn_n ?_
      refine cw_seq ?_
      refine cw_gen ?_
      intro Q151 hQ151
      refine cw_reg ?_
      refine el_pv (v := v115) (pv_move he118) (by decide) ?_
      refine el_pv (v := v115) (pv_assign rfl) (by decide) ?_
      refine el_nil ?_
      refine hQ151 _ _ _ ?_
      refine thn_n ?_
      refine cw_ret ?_
      refine fin1 rfl rfl ?_
      have hr := Option.some.inj hF
      exact ⟨v115, congrArg (fun (r : (List (Int × Int))) => Ending.returned (v115)) hr, Eq.mp (congrArg (fun (r : (List (Int × Int))) => Sat w0 w120 [Own (sliceR (pairR intR intR) 83) [v115] r]) hr) (hS.keep 1)⟩
set_option maxHeartbeats 4000000 in
theorem impl_gcd_ok {w0 : World} {a0 : Int} {a1 : Int}  {N : Nat} {r : Int} (hF : impl_gcd N a0 a1 = some r) :
    Calls Try.prog 126 #[.int .i64 a0, .int .i64 a1] w0 fun e w' => e = .returned (.int .i64 r) ∧ Ext w0 w' := by
  unfold impl_gcd at hF
  refine calls_E Try.func126 rfl rfl (of_decide_eq_true rfl) ?_
  have hS := Sat.start w0
  refine cw_seq ?_
  refine cw_gen ?_
  intro Q101 hQ101
  refine cw_reg ?_
  refine el_pv (v := .int .i64 0) (pv_assign rfl) (by decide) ?_
  refine el_nil ?_
  refine hQ101 _ _ _ ?_
  refine thn_n ?_
  refine cw_seq ?_
  refine cw_gen ?_
  intro Q102 hQ102
  refine cw_block ?_
  refine cw_gen ?_
  intro Q103 hQ103
  obtain ⟨s104, hL, hK105⟩ := ob hF
  refine cw_loopS (fun k e w => ∃ (x106 : Int), ∃ (x107 : Int), e 0 = .int .i64 x106 ∧ e 1 = .int .i64 x107 ∧ Sat w0 w [] ∧ impl_gcd_L1 N k x106 x107 = some s104) N ?_ ?_ ?_
  · exact ⟨a0, a1, rfl, rfl, hS, hL⟩
  · rintro e w ⟨_, _, _, _, _, hz⟩; exact nomatch (show none = some _ from hz)
  · rintro k e111 w110 ⟨x106, x107, he108, he109, hS, hF⟩
    refine cw_gen ?_
    intro Q112 hQ112
    refine cw_seq ?_
    refine cw_gen ?_
    intro Q113 hQ113
    refine cw_seq ?_
    refine cw_gen ?_
    intro Q114 hQ114
    refine cw_reg ?_
    refine el_pv (v := .int .i64 x107) (pv_move he109) (by decide) ?_
    refine el_pv (v := .bool (x107 != 0)) (pv_neq rfl rfl) (by decide) ?_
    refine el_nil ?_
    refine hQ114 _ _ _ ?_
    refine thn_n ?_
    replace hF := oif hF
    rcases hF with ⟨hb115, hF⟩ | ⟨hb115, hF⟩
    · refine cw_cond_t rfl hb115 ?_
      refine cw_skip ?_
      refine hQ113 _ _ _ ?_
      refine thn_n ?_
      refine cw_block ?_
      refine cw_gen ?_
      intro Q116 hQ116
      refine cw_regq (by kernel_rfl) (by kernel_rfl) ?_
      refine ql_pv (v := .int .i64 x107) (pv_move he109) (by decide) ?_
      refine ql_pv (v := .int .i64 x106) (pv_move he108) (by decide) ?_
      refine ql_pv (v := .int .i64 x107) (pv_move he109) (by decide) ?_
      replace hF := ob hF
      obtain ⟨x117, hx117, hF⟩ := hF
      refine ql_pv (v := .int .i64 x117) (pv_rem rfl rfl hx117) (by decide) ?_
      refine ql_pv (v := .int .i64 x107) (pv_assign rfl) (by decide) ?_
      refine ql_pv (v := .int .i64 x117) (pv_assign rfl) (by decide) ?_
      refine ql_nil ?_
      intro w118 hx119
      replace hS := hS.ext hx119
      refine hQ116 _ _ _ ?_
      refine inb_n ?_
      refine hQ112 _ _ _ ?_
      refine thn_n ?_
      replace hS := hS.keep 0
      exact ⟨x107, x117, rfl, rfl, hS, hF⟩
    · refine cw_cond_f rfl hb115 ?_
      refine cw_exit ?_
      refine hQ113 _ _ _ ?_
      refine thn_x ?_
      refine hQ112 _ _ _ ?_
      refine thn_x ?_
      replace hF := exB hF hK105
      refine hQ103 _ _ _ ?_
      refine inb_s ?_
      refine hQ102 _ _ _ ?_
      refine thn_n ?_
      refine cw_seq ?_
      refine cw_gen ?_
      intro Q120 hQ120
      refine cw_reg ?_
      refine el_pv (v := .int .i64 x106) (pv_move he108) (by decide) ?_
      refine el_pv (v := .int .i64 x106) (pv_assign rfl) (by decide) ?_
      refine el_nil ?_
      refine hQ120 _ _ _ ?_
      refine thn_n ?_
      refine cw_ret ?_
      refine fin1 rfl rfl ?_
      have hr := Option.some.inj hF
      exact ⟨congrArg (fun (r : Int) => Ending.returned (.int .i64 r)) hr, hS.below⟩
set_option maxHeartbeats 4000000 in
theorem impl_abs_ok {w0 : World} {a0 : Int}  {N : Nat} {r : Int} (hF : impl_abs N a0 = some r) :
    Calls Try.prog 143 #[.int .i64 a0] w0 fun e w' => e = .returned (.int .i64 r) ∧ Ext w0 w' := by
  unfold impl_abs at hF
  refine calls_E Try.func143 rfl rfl (of_decide_eq_true rfl) ?_
  have hS := Sat.start w0
  refine cw_seq ?_
  refine cw_gen ?_
  intro Q101 hQ101
  refine cw_reg ?_
  refine el_pv (v := .int .i64 0) (pv_assign rfl) (by decide) ?_
  refine el_nil ?_
  refine hQ101 _ _ _ ?_
  refine thn_n ?_
  refine cw_seq ?_
  refine cw_gen ?_
  intro Q102 hQ102
  refine cw_reg ?_
  refine el_pv (v := .int .i64 a0) (pv_move rfl) (by decide) ?_
  refine el_pv (v := .int .i64 a0) (pv_move rfl) (by decide) ?_
  replace hF := ob hF
  obtain ⟨x103, hx103, hF⟩ := hF
  refine el_pv (v := .int .i64 x103) (pv_neg rfl hx103) (by decide) ?_
  refine el_pv (v := .int .i64 (imx a0 x103)) (pv_max rfl rfl) (by decide) ?_
  refine el_pv (v := .int .i64 (imx a0 x103)) (pv_assign rfl) (by decide) ?_
  refine el_nil ?_
  refine hQ102 _ _ _ ?_
  refine thn_n ?_
  refine cw_ret ?_
  refine fin1 rfl rfl ?_
  have hr := Option.some.inj hF
  exact ⟨congrArg (fun (r : Int) => Ending.returned (.int .i64 r)) hr, hS.below⟩
set_option maxHeartbeats 4000000 in
theorem impl_IsValidRational_ok {w0 : World} {a0 : Int} {a1 : Int}  {N : Nat} {r : Bool} (hF : impl_IsValidRational N a0 a1 = some r) :
    Calls Try.prog 125 #[.agg #[.int .i64 a0, .int .i64 a1]] w0 fun e w' => e = .returned (.bool r) ∧ Ext w0 w' := by
  unfold impl_IsValidRational at hF
  refine calls_E Try.func125 rfl rfl (of_decide_eq_true rfl) ?_
  have hS := Sat.start w0
  refine cw_seq ?_
  refine cw_gen ?_
  intro Q101 hQ101
  refine cw_reg ?_
  refine el_box [.int .i64 a0, .int .i64 a1] rfl hS (by decide) ?_
  intro w102 b103 hS hx104
  refine el_pv (v := .bool false) (pv_assign rfl) (by decide) ?_
  refine el_nil ?_
  refine hQ101 _ _ _ ?_
  refine thn_n ?_
  refine cw_seq ?_
  refine cw_gen ?_
  intro Q106 hQ106
  refine cw_regq (by kernel_rfl) (by kernel_rfl) ?_
  refine ql_pv (v := .pointer (some ⟨b103, 0 + 1, none⟩)) (pv_fieldAddr rfl) (by decide) ?_
  refine ql_pv (v := .int .i64 a1) (pv_loadc rfl ((hS.boxAt 0 rfl) 1 _ rfl)) (by decide) ?_
  replace hF := ob hF
  obtain ⟨r107, hr107, hF⟩ := hF
  refine ql_call (.bool r107) goes41 (fun w' hw' => impl_within_ok hr107) (congrArg List.toArray (mapc rfl (mapc rfl (mapc rfl rfl)))) (by decide) ?_
  refine ql_pv (v := .bool r107) (pv_move rfl) (by decide) ?_
  replace hF := oif hF
  rcases hF with ⟨hb108, hF⟩ | ⟨hb108, hF⟩
  · refine ql_on rfl hb108 ?_
    refine ql_pv (v := .pointer (some ⟨b103, 0 + 0, none⟩)) (pv_fieldAddr rfl) (by decide) ?_
    refine ql_on rfl hb108 ?_
    refine ql_pv (v := .int .i64 a0) (pv_loadc rfl ((hS.boxAt 0 rfl) 0 _ rfl)) (by decide) ?_
    refine ql_on rfl hb108 ?_
    replace hF := ob hF
    obtain ⟨r109, hr109, hF⟩ := hF
    refine ql_call (.bool r109) goes41 (fun w' hw' => impl_within_ok hr109) (congrArg List.toArray (mapc rfl (mapc rfl (mapc rfl rfl)))) (by decide) ?_
    refine ql_pv (v := .bool r109) (pv_pick_t rfl hb108 rfl) (by decide) ?_
    refine ql_pv (v := .bool r109) (pv_move rfl) (by decide) ?_
    replace hF := oif hF
    rcases hF with ⟨hb110, hF⟩ | ⟨hb110, hF⟩
    · refine ql_on rfl hb110 ?_
      refine ql_pv (v := .pointer (some ⟨b103, 0 + 0, none⟩)) (pv_fieldAddr rfl) (by decide) ?_
      refine ql_on rfl hb110 ?_
      refine ql_pv (v := .int .i64 a0) (pv_loadc rfl ((hS.boxAt 0 rfl) 0 _ rfl)) (by decide) ?_
      refine ql_on rfl hb110 ?_
      replace hF := ob hF
      obtain ⟨r111, hr111, hF⟩ := hF
      refine ql_call (.int .i64 r111) goes143 (fun w' hw' => impl_abs_ok hr111) (congrArg List.toArray (mapc rfl rfl)) (by decide) ?_
      refine ql_on rfl hb110 ?_
      refine ql_pv (v := .pointer (some ⟨b103, 0 + 1, none⟩)) (pv_fieldAddr rfl) (by decide) ?_
      refine ql_on rfl hb110 ?_
      refine ql_pv (v := .int .i64 a1) (pv_loadc rfl ((hS.boxAt 0 rfl) 1 _ rfl)) (by decide) ?_
      refine ql_on rfl hb110 ?_
      replace hF := ob hF
      obtain ⟨r112, hr112, hF⟩ := hF
      refine ql_call (.int .i64 r112) goes126 (fun w' hw' => impl_gcd_ok hr112) (congrArg List.toArray (mapc rfl (mapc rfl rfl))) (by decide) ?_
      refine ql_on rfl hb110 ?_
      refine ql_pv (v := .bool (r112 == 1)) (pv_eql rfl rfl) (by decide) ?_
      refine ql_pv (v := .bool (r112 == 1)) (pv_pick_t rfl hb110 rfl) (by decide) ?_
      refine ql_pv (v := .bool (r112 == 1)) (pv_assign rfl) (by decide) ?_
      refine ql_nil ?_
      intro w113 hx114
      replace hS := hS.ext hx114
      refine hQ106 _ _ _ ?_
      refine thn_n ?_
      refine cw_ret ?_
      refine fin1 rfl rfl ?_
      have hr := Option.some.inj hF
      exact ⟨congrArg (fun (r : Bool) => Ending.returned (.bool r)) hr, hS.below⟩
    · refine ql_off rfl hb110 rfl (by decide) ?_
      refine ql_off rfl hb110 rfl (by decide) ?_
      refine ql_off rfl hb110 rfl (by decide) ?_
      refine ql_off rfl hb110 rfl (by decide) ?_
      refine ql_off rfl hb110 rfl (by decide) ?_
      refine ql_off rfl hb110 rfl (by decide) ?_
      refine ql_off rfl hb110 rfl (by decide) ?_
      refine ql_pv (v := .bool false) (pv_pick_f rfl hb110 rfl) (by decide) ?_
      refine ql_pv (v := .bool false) (pv_assign rfl) (by decide) ?_
      refine ql_nil ?_
      intro w115 hx116
      replace hS := hS.ext hx116
      refine hQ106 _ _ _ ?_
      refine thn_n ?_
      refine cw_ret ?_
      refine fin1 rfl rfl ?_
      have hr := Option.some.inj hF
      exact ⟨congrArg (fun (r : Bool) => Ending.returned (.bool r)) hr, hS.below⟩
  · refine ql_off rfl hb108 rfl (by decide) ?_
    refine ql_off rfl hb108 rfl (by decide) ?_
    refine ql_off rfl hb108 rfl (by decide) ?_
    refine ql_pv (v := .bool false) (pv_pick_f rfl hb108 rfl) (by decide) ?_
    refine ql_pv (v := .bool false) (pv_move rfl) (by decide) ?_
    refine ql_off rfl rfl rfl (by decide) ?_
    refine ql_off rfl rfl rfl (by decide) ?_
    refine ql_off rfl rfl rfl (by decide) ?_
    refine ql_off rfl rfl rfl (by decide) ?_
    refine ql_off rfl rfl rfl (by decide) ?_
    refine ql_off rfl rfl rfl (by decide) ?_
    refine ql_off rfl rfl rfl (by decide) ?_
    refine ql_pv (v := .bool false) (pv_pick_f rfl rfl rfl) (by decide) ?_
    refine ql_pv (v := .bool false) (pv_assign rfl) (by decide) ?_
    refine ql_nil ?_
    intro w117 hx118
    replace hS := hS.ext hx118
    refine hQ106 _ _ _ ?_
    refine thn_n ?_
    refine cw_ret ?_
    refine fin1 rfl rfl ?_
    have hr := Option.some.inj hF
    exact ⟨congrArg (fun (r : Bool) => Ending.returned (.bool r)) hr, hS.below⟩
set_option maxHeartbeats 4000000 in
theorem impl_ScaleToIntegers_ok {w0 : World} {u0 : Value} {a0 : List (Int × Int)} (ha0 : (sliceR (pairR intR intR) 83).rd w0 [u0] a0) {N : Nat} {r : (List Int) × Int} (hF : impl_ScaleToIntegers N a0 = some r) :
    Calls Try.prog 89 #[u0] w0 fun e w' => ∃ (q0 : Value), e = .returned (.tuple #[q0, .int .i64 r.2]) ∧ Sat w0 w' [Own (sliceR intR 3) [q0] r.1] := by
  unfold impl_ScaleToIntegers at hF
  refine calls_E Try.func89 rfl rfl (of_decide_eq_true rfl) ?_
  have hS := Sat.start w0
  refine cw_seq ?_
  refine cw_gen ?_
  intro Q101 hQ101
  refine cw_reg ?_
  refine el_pv (v := (.slice none 0 0)) (pv_assign rfl) (by decide) ?_
  refine el_pv (v := .int .i64 0) (pv_assign rfl) (by decide) ?_
  refine el_nil ?_
  refine hQ101 _ _ _ ?_
  refine thn_n ?_
  refine cw_seq ?_
  refine cw_gen ?_
  intro Q102 hQ102
  refine cw_reg ?_
  refine el_pv (v := .int .i64 1) (pv_assign rfl) (by decide) ?_
  refine el_nil ?_
  refine hQ102 _ _ _ ?_
  refine thn_n ?_
  refine cw_seq ?_
  refine cw_gen ?_
  intro Q103 hQ103
  refine cw_seq ?_
  refine cw_gen ?_
  intro Q104 hQ104
  refine cw_reg ?_
  refine el_pv (v := u0) (pv_move rfl) (by decide) ?_
  refine el_pv (v := .int .i64 (a0.length : Int)) (pv_len rfl ha0) (by decide) ?_
  refine el_pv (v := .int .i64 0) (pv_move rfl) (by decide) ?_
  refine el_nil ?_
  refine hQ104 _ _ _ ?_
  refine thn_n ?_
  refine cw_block ?_
  refine cw_gen ?_
  intro Q105 hQ105
  obtain ⟨s106, hL, hK107⟩ := ob hF
  refine cw_loopS (fun k e w => ∃ (x108 : Int), e 0 = u0 ∧ e 4 = .int .i64 1 ∧ e 12 = u0 ∧ e 13 = .int .i64 (a0.length : Int) ∧ e 14 = .int .i64 x108 ∧ Sat w0 w [] ∧ impl_ScaleToIntegers_L1 N k a0 1 a0 (a0.length : Int) x108 = some s106) N ?_ ?_ ?_
  · exact ⟨0, rfl, rfl, rfl, rfl, rfl, hS, hL⟩
  · rintro e w ⟨_, _, _, _, _, _, _, hz⟩; exact nomatch (show none = some _ from hz)
  · rintro k e115 w114 ⟨x108, he109, he110, he111, he112, he113, hS, hF⟩
    refine cw_gen ?_
    intro Q116 hQ116
    refine cw_seq ?_
    refine cw_gen ?_
    intro Q117 hQ117
    refine cw_reg ?_
    refine el_pv (v := .bool (decide (x108 < (a0.length : Int)))) (pv_lss he113 he112) (by decide) ?_
    refine el_nil ?_
    refine hQ117 _ _ _ ?_
    refine thn_n ?_
    refine cw_seq ?_
    refine cw_gen ?_
    intro Q118 hQ118
    replace hF := oif hF
    rcases hF with ⟨hb119, hF⟩ | ⟨hb119, hF⟩
    · refine cw_cond_t rfl hb119 ?_
      refine cw_skip ?_
      refine hQ118 _ _ _ ?_
      refine thn_n ?_
      refine cw_seq ?_
      refine cw_gen ?_
      intro Q120 hQ120
      refine cw_block ?_
      refine cw_gen ?_
      intro Q121 hQ121
      refine cw_seq ?_
      refine cw_gen ?_
      intro Q122 hQ122
      refine cw_reg ?_
      replace hF := ob hF
      obtain ⟨x123, hx123, hF⟩ := hF
      refine el_index (wA := w0) he111 ha0 rfl (by decide) he113 hx123 (by decide) ?_
      intro b124 of125 c126 hr127 hm128
      obtain ⟨_, _, rfl, hr129, hr130⟩ := hr127
      obtain rfl := hr129
      obtain rfl := hr130
      refine el_pv (v := .agg #[.int .i64 x123.1, .int .i64 x123.2]) (pv_loada (cs := [.int .i64 x123.1, .int .i64 x123.2]) rfl rfl (cells_up hS.below hm128)) (by decide) ?_
      refine el_alloc hS (by decide) ?_
      intro w131 b132 hS hx133
      refine el_storev (hS.top 0 rfl) rfl [.int .i64 x123.1, .int .i64 x123.2] rfl rfl (of_decide_eq_true rfl) (all_cons rfl (all_cons rfl rfl)) ?_
      intro w135 hS
      replace hS : Sat w0 w135 [Box b132 83 [.int .i64 x123.1, .int .i64 x123.2]] := hS
      refine el_nil ?_
      refine hQ122 _ _ _ ?_
      refine thn_n ?_
      refine cw_seq ?_
      refine cw_gen ?_
      intro Q136 hQ136
      refine cw_reg ?_
      refine el_pv (v := .agg #[.int .i64 x123.1, .int .i64 x123.2]) (pv_loada (cs := [.int .i64 x123.1, .int .i64 x123.2]) rfl rfl (boxc0 (hS.boxAt 0 rfl))) (by decide) ?_
      replace hF := ob hF
      obtain ⟨r137, hr137, hF⟩ := hF
      refine el_call goes125 (impl_IsValidRational_ok hr137) (congrArg List.toArray (mapc rfl rfl)) (by decide) ?_
      rintro _ w138 ⟨rfl, hx139⟩
      refine ⟨_, rfl, ?_⟩
      replace hS := hS.ext hx139
      refine el_pv (v := .bool (!r137)) (pv_not rfl) (by decide) ?_
      refine el_pv (v := .bool (!r137)) (pv_move rfl) (by decide) ?_
      replace hF := oif hF
      rcases hF with ⟨hb140, hF⟩ | ⟨hb140, hF⟩
      · refine el_on rfl (bnot_t hb140) ?_
        refine el_pv (v := .pointer (some ⟨b132, 0 + 0, none⟩)) (pv_fieldAddr rfl) (by decide) ?_
        refine el_on rfl (bnot_t hb140) ?_
        refine el_pv (v := .int .i64 x123.1) (pv_loadc rfl ((hS.boxAt 0 rfl) 0 _ rfl)) (by decide) ?_
        refine el_on rfl (bnot_t hb140) ?_
        refine el_pv (v := .bool (decide (x123.1 < 0))) (pv_lss rfl rfl) (by decide) ?_
        refine el_pv (v := .bool (decide (x123.1 < 0))) (pv_pick_f rfl (bnot_t hb140) rfl) (by decide) ?_
        refine el_nil ?_
        refine hQ136 _ _ _ ?_
        refine thn_n ?_
        replace hF := oif hF
        rcases hF with ⟨hb141, hF⟩ | ⟨hb141, hF⟩
        · refine cw_cond_t rfl hb141 ?_
          refine cw_seq ?_
          refine cw_gen ?_
          intro Q142 hQ142
          replace hS : Sat w0 w138 [] := hS.rems 1 [0] rfl
          refine cw_reg ?_
          refine el_pv (v := (.slice none 0 0)) (pv_assign rfl) (by decide) ?_
          refine el_pv (v := .int .i64 0) (pv_assign rfl) (by decide) ?_
          refine el_nil ?_
          refine hQ142 _ _ _ ?_
          refine thn_n ?_
          refine cw_ret ?_
          refine hQ121 _ _ _ ?_
          refine inb_r ?_
          refine hQ120 _ _ _ ?_
          refine thn_r ?_
          refine hQ116 _ _ _ ?_
          refine thn_r ?_
          refine hQ105 _ _ _ ?_
          refine inb_r ?_
          refine hQ103 _ _ _ ?_
          refine thn_r ?_
          replace hF := exL hF hK107
          replace hS := hS.nil intR 3
          refine fin2 rfl rfl rfl ?_
          have hr := Option.some.inj hF
          exact ⟨(.slice none 0 0), congrArg (fun (r : (List Int) × Int) => Ending.returned (.tuple #[(.slice none 0 0), .int .i64 r.2])) hr, Eq.mp (congrArg (fun (r : (List Int) × Int) => Sat w0 w138 [Own (sliceR intR 3) [(.slice none 0 0)] r.1]) hr) (hS.keep 1)⟩
        · refine cw_cond_f rfl hb141 ?_
          refine cw_skip ?_
          refine hQ121 _ _ _ ?_
          refine inb_n ?_
          refine hQ120 _ _ _ ?_
          refine thn_n ?_
          replace hS : Sat w0 w138 [] := hS.rems 1 [0] rfl
          refine cw_reg ?_
          replace hF := ob hF
          obtain ⟨x144, hx144, hF⟩ := hF
          refine el_pv (v := .int .i64 x144) (pv_add he113 rfl hx144) (by decide) ?_
          refine el_pv (v := .int .i64 x144) (pv_move rfl) (by decide) ?_
          refine el_nil ?_
          refine hQ116 _ _ _ ?_
          refine thn_n ?_
          replace hS := hS.keep 0
          exact ⟨x144, he109, he110, he111, he112, rfl, hS, hF⟩
      · refine el_off rfl (bnot_f hb140) rfl (by decide) ?_
        refine el_off rfl (bnot_f hb140) rfl (by decide) ?_
        refine el_off rfl (bnot_f hb140) rfl (by decide) ?_
        refine el_pv (v := .bool true) (pv_pick_t rfl (bnot_f hb140) rfl) (by decide) ?_
        refine el_nil ?_
        refine hQ136 _ _ _ ?_
        refine thn_n ?_
        refine cw_cond_t rfl rfl ?_
        refine cw_seq ?_
        refine cw_gen ?_
        intro Q145 hQ145
        replace hS : Sat w0 w138 [] := hS.rems 1 [0] rfl
        refine cw_reg ?_
        refine el_pv (v := (.slice none 0 0)) (pv_assign rfl) (by decide) ?_
        refine el_pv (v := .int .i64 0) (pv_assign rfl) (by decide) ?_
        refine el_nil ?_
        refine hQ145 _ _ _ ?_
        refine thn_n ?_
        refine cw_ret ?_
        refine hQ121 _ _ _ ?_
        refine inb_r ?_
        refine hQ120 _ _ _ ?_
        refine thn_r ?_
        refine hQ116 _ _ _ ?_
        refine thn_r ?_
        refine hQ105 _ _ _ ?_
        refine inb_r ?_
        refine hQ103 _ _ _ ?_
        refine thn_r ?_
        replace hF := exL hF hK107
        replace hS := hS.nil intR 3
        refine fin2 rfl rfl rfl ?_
        have hr := Option.some.inj hF
        exact ⟨(.slice none 0 0), congrArg (fun (r : (List Int) × Int) => Ending.returned (.tuple #[(.slice none 0 0), .int .i64 r.2])) hr, Eq.mp (congrArg (fun (r : (List Int) × Int) => Sat w0 w138 [Own (sliceR intR 3) [(.slice none 0 0)] r.1]) hr) (hS.keep 1)⟩
    · refine cw_cond_f rfl hb119 ?_
      refine cw_exit ?_
      refine hQ118 _ _ _ ?_
      refine thn_x ?_
      refine hQ116 _ _ _ ?_
      refine thn_x ?_
      replace hF := exA hF hK107
      refine hQ105 _ _ _ ?_
      refine inb_s ?_
      refine hQ103 _ _ _ ?_
      refine thn_n ?_
      refine cw_seq ?_
      refine cw_gen ?_
      intro Q147 hQ147
      refine cw_seq ?_
      refine cw_gen ?_
      intro Q148 hQ148
      refine cw_reg ?_
      refine el_pv (v := u0) (pv_move he109) (by decide) ?_
      refine el_pv (v := .int .i64 (a0.length : Int)) (pv_len rfl ha0) (by decide) ?_
      refine el_pv (v := .int .i64 0) (pv_move rfl) (by decide) ?_
      refine el_nil ?_
      refine hQ148 _ _ _ ?_
      refine thn_n ?_
      refine cw_block ?_
      refine cw_gen ?_
      intro Q149 hQ149
      obtain ⟨s150, hL, hK151⟩ := ob hF
      refine cw_loopS (fun k e w => ∃ (x152 : Int), ∃ (x153 : Int), e 0 = u0 ∧ e 4 = .int .i64 x152 ∧ e 27 = u0 ∧ e 28 = .int .i64 (a0.length : Int) ∧ e 29 = .int .i64 x153 ∧ Sat w0 w [] ∧ impl_ScaleToIntegers_L2 N k a0 x152 a0 (a0.length : Int) x153 = some s150) N ?_ ?_ ?_
      · exact ⟨1, 0, he109, he110, rfl, rfl, rfl, hS, hL⟩
      · rintro e w ⟨_, _, _, _, _, _, _, _, hz⟩; exact nomatch (show none = some _ from hz)
      · rintro k e160 w159 ⟨x152, x153, he154, he155, he156, he157, he158, hS, hF⟩
        refine cw_gen ?_
        intro Q161 hQ161
        refine cw_seq ?_
        refine cw_gen ?_
        intro Q162 hQ162
        refine cw_reg ?_
        refine el_pv (v := .bool (decide (x153 < (a0.length : Int)))) (pv_lss he158 he157) (by decide) ?_
        refine el_nil ?_
        refine hQ162 _ _ _ ?_
        refine thn_n ?_
        refine cw_seq ?_
        refine cw_gen ?_
        intro Q163 hQ163
        replace hF := oif hF
        rcases hF with ⟨hb164, hF⟩ | ⟨hb164, hF⟩
        · refine cw_cond_t rfl hb164 ?_
          refine cw_skip ?_
          refine hQ163 _ _ _ ?_
          refine thn_n ?_
          refine cw_seq ?_
          refine cw_gen ?_
          intro Q165 hQ165
          refine cw_block ?_
          refine cw_gen ?_
          intro Q166 hQ166
          refine cw_seq ?_
          refine cw_gen ?_
          intro Q167 hQ167
          refine cw_reg ?_
          replace hF := ob hF
          obtain ⟨x168, hx168, hF⟩ := hF
          refine el_index (wA := w0) he156 ha0 rfl (by decide) he158 hx168 (by decide) ?_
          intro b169 of170 c171 hr172 hm173
          obtain ⟨_, _, rfl, hr174, hr175⟩ := hr172
          obtain rfl := hr174
          obtain rfl := hr175
          refine el_pv (v := .agg #[.int .i64 x168.1, .int .i64 x168.2]) (pv_loada (cs := [.int .i64 x168.1, .int .i64 x168.2]) rfl rfl (cells_up hS.below hm173)) (by decide) ?_
          refine el_alloc hS (by decide) ?_
          intro w176 b177 hS hx178
          refine el_storev (hS.top 0 rfl) rfl [.int .i64 x168.1, .int .i64 x168.2] rfl rfl (of_decide_eq_true rfl) (all_cons rfl (all_cons rfl rfl)) ?_
          intro w180 hS
          replace hS : Sat w0 w180 [Box b177 83 [.int .i64 x168.1, .int .i64 x168.2]] := hS
          refine el_nil ?_
          refine hQ167 _ _ _ ?_
          refine thn_n ?_
          refine cw_seq ?_
          refine cw_gen ?_
          intro Q181 hQ181
          refine cw_regq (by kernel_rfl) (by kernel_rfl) ?_
          refine ql_pv (v := .int .i64 x152) (pv_move he155) (by decide) ?_
          refine ql_pv (v := .int .i64 x152) (pv_move he155) (by decide) ?_
          refine ql_pv (v := .pointer (some ⟨b177, 0 + 1, none⟩)) (pv_fieldAddr rfl) (by decide) ?_
          refine ql_pv (v := .int .i64 x168.2) (pv_loadc rfl ((hS.boxAt 0 rfl) 1 _ rfl)) (by decide) ?_
          replace hF := ob hF
          obtain ⟨r182, hr182, hF⟩ := hF
          refine ql_call (.int .i64 r182) goes126 (fun w' hw' => impl_gcd_ok hr182) (congrArg List.toArray (mapc rfl (mapc rfl rfl))) (by decide) ?_
          replace hF := ob hF
          obtain ⟨x183, hx183, hF⟩ := hF
          refine ql_pv (v := .int .i64 x183) (pv_quo rfl rfl hx183) (by decide) ?_
          refine ql_pv (v := .pointer (some ⟨b177, 0 + 1, none⟩)) (pv_fieldAddr rfl) (by decide) ?_
          refine ql_pv (v := .int .i64 x168.2) (pv_loadc rfl ((hS.boxAt 0 rfl) 1 _ rfl)) (by decide) ?_
          replace hF := ob hF
          obtain ⟨x184, hx184, hF⟩ := hF
          refine ql_pv (v := .int .i64 x184) (pv_mul rfl rfl hx184) (by decide) ?_
          refine ql_pv (v := .int .i64 x184) (pv_assign rfl) (by decide) ?_
          refine ql_nil ?_
          intro w185 hx186
          replace hS := hS.ext hx186
          refine hQ181 _ _ _ ?_
          refine thn_n ?_
          refine cw_seq ?_
          refine cw_gen ?_
          intro Q187 hQ187
          replace hS : Sat w0 w185 [] := hS.rems 1 [0] rfl
          refine cw_reg ?_
          refine el_pv (v := .int .i64 x184) (pv_move rfl) (by decide) ?_
          refine el_pv (v := .bool (decide (1000 < x184))) (pv_gtr rfl rfl) (by decide) ?_
          refine el_nil ?_
          refine hQ187 _ _ _ ?_
          refine thn_n ?_
          replace hF := oif hF
          rcases hF with ⟨hb188, hF⟩ | ⟨hb188, hF⟩
          · refine cw_cond_t rfl hb188 ?_
            refine cw_seq ?_
            refine cw_gen ?_
            intro Q189 hQ189
            refine cw_reg ?_
            refine el_pv (v := (.slice none 0 0)) (pv_assign rfl) (by decide) ?_
            refine el_pv (v := .int .i64 0) (pv_assign rfl) (by decide) ?_
            refine el_nil ?_
            refine hQ189 _ _ _ ?_
            refine thn_n ?_
            refine cw_ret ?_
            refine hQ166 _ _ _ ?_
            refine inb_r ?_
            refine hQ165 _ _ _ ?_
            refine thn_r ?_
            refine hQ161 _ _ _ ?_
            refine thn_r ?_
            refine hQ149 _ _ _ ?_
            refine inb_r ?_
            refine hQ147 _ _ _ ?_
            refine thn_r ?_
            replace hF := exL hF hK151
            replace hS := hS.nil intR 3
            refine fin2 rfl rfl rfl ?_
            have hr := Option.some.inj hF
            exact ⟨(.slice none 0 0), congrArg (fun (r : (List Int) × Int) => Ending.returned (.tuple #[(.slice none 0 0), .int .i64 r.2])) hr, Eq.mp (congrArg (fun (r : (List Int) × Int) => Sat w0 w185 [Own (sliceR intR 3) [(.slice none 0 0)] r.1]) hr) (hS.keep 1)⟩
          · refine cw_cond_f rfl hb188 ?_
            refine cw_skip ?_
            refine hQ166 _ _ _ ?_
            refine inb_n ?_
            refine hQ165 _ _ _ ?_
            refine thn_n ?_
            refine cw_reg ?_
            replace hF := ob hF
            obtain ⟨x191, hx191, hF⟩ := hF
            refine el_pv (v := .int .i64 x191) (pv_add he158 rfl hx191) (by decide) ?_
            refine el_pv (v := .int .i64 x191) (pv_move rfl) (by decide) ?_
            refine el_nil ?_
            refine hQ161 _ _ _ ?_
            refine thn_n ?_
            replace hS := hS.keep 0
            exact ⟨x184, x191, he154, rfl, he156, he157, rfl, hS, hF⟩
        · refine cw_cond_f rfl hb164 ?_
          refine cw_exit ?_
          refine hQ163 _ _ _ ?_
          refine thn_x ?_
          refine hQ161 _ _ _ ?_
          refine thn_x ?_
          replace hF := exA hF hK151
          refine hQ149 _ _ _ ?_
          refine inb_s ?_
          refine hQ147 _ _ _ ?_
          refine thn_n ?_
          refine cw_seq ?_
          refine cw_gen ?_
          intro Q192 hQ192
          refine cw_reg ?_
          refine el_pv (v := (.slice none 0 0)) (pv_assign rfl) (by decide) ?_
          refine el_nil ?_
          refine hQ192 _ _ _ ?_
          refine thn_n ?_
          refine cw_seq ?_
          refine cw_gen ?_
          intro Q193 hQ193
          refine cw_seq ?_
          refine cw_gen ?_
          intro Q194 hQ194
          refine cw_reg ?_
          refine el_pv (v := u0) (pv_move he154) (by decide) ?_
          refine el_pv (v := .int .i64 (a0.length : Int)) (pv_len rfl ha0) (by decide) ?_
          refine el_pv (v := .int .i64 0) (pv_move rfl) (by decide) ?_
          refine el_nil ?_
          refine hQ194 _ _ _ ?_
          refine thn_n ?_
          refine cw_block ?_
          refine cw_gen ?_
          intro Q195 hQ195
          replace hS := hS.nil intR 3
          obtain ⟨s197, hL, hK198⟩ := ob hF
          refine cw_loopS (fun k e w => ∃ (v200 : Value), ∃ (x199 : List Int), ∃ (x201 : Int), e 4 = .int .i64 x152 ∧ e 9 = v200 ∧ e 45 = u0 ∧ e 46 = .int .i64 (a0.length : Int) ∧ e 47 = .int .i64 x201 ∧ Sat w0 w [Own (sliceR intR 3) [v200] x199] ∧ impl_ScaleToIntegers_L3 N k x152 x199 a0 (a0.length : Int) x201 = some s197) N ?_ ?_ ?_
          · exact ⟨(.slice none 0 0), [], 0, he155, rfl, rfl, rfl, rfl, hS, hL⟩
          · rintro e w ⟨_, _, _, _, _, _, _, _, _, hz⟩; exact nomatch (show none = some _ from hz)
          · rintro k e208 w207 ⟨v200, x199, x201, he202, he203, he204, he205, he206, hS, hF⟩
            refine cw_gen ?_
            intro Q209 hQ209
            refine cw_seq ?_
            refine cw_gen ?_
            intro Q210 hQ210
            refine cw_reg ?_
            refine el_pv (v := .bool (decide (x201 < (a0.length : Int)))) (pv_lss he206 he205) (by decide) ?_
            refine el_nil ?_
            refine hQ210 _ _ _ ?_
            refine thn_n ?_
            refine cw_seq ?_
            refine cw_gen ?_
            intro Q211 hQ211
            replace hF := oif hF
            rcases hF with ⟨hb212, hF⟩ | ⟨hb212, hF⟩
            · refine cw_cond_t rfl hb212 ?_
              refine cw_skip ?_
              refine hQ211 _ _ _ ?_
              refine thn_n ?_
              refine cw_seq ?_
              refine cw_gen ?_
              intro Q213 hQ213
              refine cw_block ?_
              refine cw_gen ?_
              intro Q214 hQ214
              refine cw_seq ?_
              refine cw_gen ?_
              intro Q215 hQ215
              refine cw_reg ?_
              replace hF := ob hF
              obtain ⟨x216, hx216, hF⟩ := hF
              refine el_index (wA := w0) he204 ha0 rfl (by decide) he206 hx216 (by decide) ?_
              intro b217 of218 c219 hr220 hm221
              obtain ⟨_, _, rfl, hr222, hr223⟩ := hr220
              obtain rfl := hr222
              obtain rfl := hr223
              refine el_pv (v := .agg #[.int .i64 x216.1, .int .i64 x216.2]) (pv_loada (cs := [.int .i64 x216.1, .int .i64 x216.2]) rfl rfl (cells_up hS.below hm221)) (by decide) ?_
              refine el_alloc hS (by decide) ?_
              intro w224 b225 hS hx226
              refine el_storev (hS.top 0 rfl) rfl [.int .i64 x216.1, .int .i64 x216.2] rfl rfl (of_decide_eq_true rfl) (all_cons rfl (all_cons rfl rfl)) ?_
              intro w228 hS
              replace hS : Sat w0 w228 [Box b225 83 [.int .i64 x216.1, .int .i64 x216.2], Own (sliceR intR 3) [v200] x199] := hS
              refine el_nil ?_
              refine hQ215 _ _ _ ?_
              refine thn_n ?_
              obtain ⟨C, hCd⟩ : ∃ C : World → Prop, ∀ w, C w ↔ ∃ G, Sat w0 w ([Box b225 83 [.int .i64 x216.1, .int .i64 x216.2]] ++ G) := ⟨_, fun _ => Iff.rfl⟩
              refine cw_regb [0, 1, 2, 3, 4, 5, 6, 7, 8, 9, 10] C (by kernel_rfl) ?_
              intro w229 hx230
              replace hS := hS.ext hx230
              have hC := (hCd _).2 ⟨_, hS⟩
              refine al_p (v := v200) (by kernel_rfl) 0 rfl rfl (by decide) hC (by kernel_rfl) (by kernel_rfl) (sv_on rfl (fun w' hw' => by obtain ⟨_, hS⟩ := (hCd _).1 hw'; exact (pv_move he203))) ?_
              refine al_p (v := .pointer (some ⟨b225, 0 + 0, none⟩)) (by kernel_rfl) 1 rfl rfl (by decide) hC (by kernel_rfl) (by kernel_rfl) (sv_on rfl (fun w' hw' => by obtain ⟨_, hS⟩ := (hCd _).1 hw'; exact (pv_fieldAddr rfl))) ?_
              refine al_p (v := .int .i64 x216.1) (by kernel_rfl) 2 rfl rfl (by decide) hC (by kernel_rfl) (by kernel_rfl) (sv_on rfl (fun w' hw' => by obtain ⟨_, hS⟩ := (hCd _).1 hw'; exact (pv_loadc rfl ((hS.boxAt 0 rfl) 0 _ rfl)))) ?_
              refine al_p (v := .int .i64 x152) (by kernel_rfl) 3 rfl rfl (by decide) hC (by kernel_rfl) (by kernel_rfl) (sv_on rfl (fun w' hw' => by obtain ⟨_, hS⟩ := (hCd _).1 hw'; exact (pv_move he202))) ?_
              refine al_one 4 (by kernel_rfl) rfl ?_
              refine el_pv (v := .pointer (some ⟨b225, 0 + 1, none⟩)) (pv_fieldAddr rfl) (by decide) ?_
              refine el_nil ?_
              refine ⟨fun _ => hC, ?_⟩
              refine al_one 5 (by kernel_rfl) rfl ?_
              refine el_pv (v := .int .i64 x216.2) (pv_loadc rfl ((hS.boxAt 0 rfl) 1 _ rfl)) (by decide) ?_
              refine el_nil ?_
              refine ⟨fun _ => hC, ?_⟩
              refine al_one 6 (by kernel_rfl) rfl ?_
              replace hF := ob hF
              obtain ⟨x231, hx231, hF⟩ := hF
              refine el_pv (v := .int .i64 x231) (pv_quo rfl rfl hx231) (by decide) ?_
              refine el_nil ?_
              refine ⟨fun _ => hC, ?_⟩
              refine al_one 7 (by kernel_rfl) rfl ?_
              replace hF := ob hF
              obtain ⟨x232, hx232, hF⟩ := hF
              refine el_pv (v := .int .i64 x232) (pv_mul rfl rfl hx232) (by decide) ?_
              refine el_nil ?_
              refine ⟨fun _ => hC, ?_⟩
              refine al_one 8 (by kernel_rfl) rfl ?_
              refine el_buildSlice1 [.int .i64 x232] rfl (by rfl) (by decide) rfl (by decide) hS (by decide) ?_
              intro w233 b235 hS hx234
              refine el_nil ?_
              replace hS : Sat w0 w233 [Box b225 83 [.int .i64 x216.1, .int .i64 x216.2], Box b235 3 [.int .i64 x232], Own (sliceR intR 3) [v200] x199] := hS.tops 3 [1] rfl
              have hC := (hCd _).2 ⟨_, hS⟩
              refine ⟨fun _ => hC, ?_⟩
              refine al_one 9 (by kernel_rfl) rfl ?_
              replace hF := ob hF
              obtain ⟨x239, hx239, hF⟩ := hF
              have hrow240 := hS.boxRow 1 rfl
              replace hS : Sat w0 w233 [Own (sliceR intR 3) [v200] x199, Box b225 83 [.int .i64 x216.1, .int .i64 x216.2], Box b235 3 [.int .i64 x232]] := hS.top 2 rfl
              replace hS := hS.int x232
              replace hS := hS.one
              refine el_append rfl (by decide) rfl (by decide) hS rfl rfl rfl (by simp) hrow240 hx239 (by decide) ?_
              intro w237 v238 hS
              refine el_nil ?_
              replace hS : Sat w0 w237 [Box b225 83 [.int .i64 x216.1, .int .i64 x216.2], Own (sliceR intR 3) [v238] x239, Box b235 3 [.int .i64 x232]] := hS.tops 3 [1] rfl
              have hC := (hCd _).2 ⟨_, hS⟩
              refine ⟨fun _ => hC, ?_⟩
              refine al_one 10 (by kernel_rfl) rfl ?_
              refine el_pv (v := v238) (pv_assign rfl) (by decide) ?_
              refine el_nil ?_
              refine ⟨fun _ => hC, ?_⟩
              refine al_nil (by kernel_rfl) ?_
              refine hQ214 _ _ _ ?_
              refine inb_n ?_
              refine hQ213 _ _ _ ?_
              refine thn_n ?_
              replace hS : Sat w0 w237 [Own (sliceR intR 3) [v238] x239] := hS.rems 3 [0, 2] rfl
              refine cw_reg ?_
              replace hF := ob hF
              obtain ⟨x242, hx242, hF⟩ := hF
              refine el_pv (v := .int .i64 x242) (pv_add he206 rfl hx242) (by decide) ?_
              refine el_pv (v := .int .i64 x242) (pv_move rfl) (by decide) ?_
              refine el_nil ?_
              refine hQ209 _ _ _ ?_
              refine thn_n ?_
              replace hS := hS.keep 1
              exact ⟨v238, x239, x242, he202, rfl, he204, he205, rfl, hS, hF⟩
            · refine cw_cond_f rfl hb212 ?_
              refine cw_exit ?_
              refine hQ211 _ _ _ ?_
              refine thn_x ?_
              refine hQ209 _ _ _ ?_
              refine thn_x ?_
              replace hF := exB hF hK198
              refine hQ195 _ _ _ ?_
              refine inb_s ?_
              refine hQ193 _ _ _ ?_
              refine thn_n ?_
              refine cw_seq ?_
              refine cw_gen ?_
              intro Q243 hQ243
              refine cw_reg ?_
              refine el_pv (v := v200) (pv_move he203) (by decide) ?_
              refine el_pv (v := .int .i64 x152) (pv_move he202) (by decide) ?_
              refine el_pv (v := v200) (pv_assign rfl) (by decide) ?_
              refine el_pv (v := .int .i64 x152) (pv_assign rfl) (by decide) ?_
              refine el_nil ?_
              refine hQ243 _ _ _ ?_
              refine thn_n ?_
              refine cw_ret ?_
              refine fin2 rfl rfl rfl ?_
              have hr := Option.some.inj hF
              exact ⟨v200, congrArg (fun (r : (List Int) × Int) => Ending.returned (.tuple #[v200, .int .i64 r.2])) hr, Eq.mp (congrArg (fun (r : (List Int) × Int) => Sat w0 w207 [Own (sliceR intR 3) [v200] r.1]) hr) (hS.keep 1)⟩
set_option maxHeartbeats 4000000 in
theorem impl_IsValidBigInt_ok {w0 : World} {u0 : Value} {a0 : List Int} (ha0 : (sliceR intR 3).rd w0 [u0] a0) {N : Nat} {r : Bool} (hF : impl_IsValidBigInt N a0 = some r) :
    Calls Try.prog 128 #[.agg #[u0]] w0 fun e w' => e = .returned (.bool r) ∧ Ext w0 w' := by
  unfold impl_IsValidBigInt at hF
  refine calls_E Try.func128 rfl rfl (of_decide_eq_true rfl) ?_
  have hS := Sat.start w0
  refine cw_seq ?_
  refine cw_gen ?_
  intro Q101 hQ101
  refine cw_reg ?_
  refine el_box [u0] rfl hS (by decide) ?_
  intro w102 b103 hS hx104
  refine el_pv (v := .bool false) (pv_assign rfl) (by decide) ?_
  refine el_nil ?_
  refine hQ101 _ _ _ ?_
  refine thn_n ?_
  refine cw_seq ?_
  refine cw_gen ?_
  intro Q106 hQ106
  refine cw_reg ?_
  refine el_pv (v := .pointer (some ⟨b103, 0 + 0, none⟩)) (pv_fieldAddr rfl) (by decide) ?_
  refine el_pv (v := u0) (pv_loadc rfl ((hS.boxAt 0 rfl) 0 _ rfl)) (by decide) ?_
  refine el_pv (v := .int .i64 (a0.length : Int)) (pv_len rfl ha0) (by decide) ?_
  refine el_pv (v := .int .i64 (a0.length : Int)) (pv_assign rfl) (by decide) ?_
  refine el_nil ?_
  refine hQ106 _ _ _ ?_
  refine thn_n ?_
  refine cw_seq ?_
  refine cw_gen ?_
  intro Q107 hQ107
  refine cw_seq ?_
  refine cw_gen ?_
  intro Q108 hQ108
  refine cw_reg ?_
  refine el_pv (v := .pointer (some ⟨b103, 0 + 0, none⟩)) (pv_fieldAddr rfl) (by decide) ?_
  refine el_pv (v := u0) (pv_loadc rfl ((hS.boxAt 0 rfl) 0 _ rfl)) (by decide) ?_
  refine el_pv (v := .int .i64 (a0.length : Int)) (pv_len rfl ha0) (by decide) ?_
  refine el_pv (v := .int .i64 0) (pv_move rfl) (by decide) ?_
  refine el_nil ?_
  refine hQ108 _ _ _ ?_
  refine thn_n ?_
  refine cw_block ?_
  refine cw_gen ?_
  intro Q109 hQ109
  obtain ⟨s110, hL, hK111⟩ := ob hF
  refine cw_loopS (fun k e w => ∃ (x112 : Int), e 1 = .pointer (some ⟨b103, 0, none⟩) ∧ e 3 = .int .i64 (a0.length : Int) ∧ e 10 = u0 ∧ e 11 = .int .i64 (a0.length : Int) ∧ e 12 = .int .i64 x112 ∧ Sat w0 w [Box b103 76 [u0]] ∧ impl_IsValidBigInt_L1 N k a0 (a0.length : Int) a0 (a0.length : Int) x112 = some s110) N ?_ ?_ ?_
  · exact ⟨0, rfl, rfl, rfl, rfl, rfl, hS, hL⟩
  · rintro e w ⟨_, _, _, _, _, _, _, hz⟩; exact nomatch (show none = some _ from hz)
  · rintro k e119 w118 ⟨x112, he113, he114, he115, he116, he117, hS, hF⟩
    refine cw_gen ?_
    intro Q120 hQ120
    refine cw_seq ?_
    refine cw_gen ?_
    intro Q121 hQ121
    refine cw_reg ?_
    refine el_pv (v := .bool (decide (x112 < (a0.length : Int)))) (pv_lss he117 he116) (by decide) ?_
    refine el_nil ?_
    refine hQ121 _ _ _ ?_
    refine thn_n ?_
    refine cw_seq ?_
    refine cw_gen ?_
    intro Q122 hQ122
    replace hF := oif hF
    rcases hF with ⟨hb123, hF⟩ | ⟨hb123, hF⟩
    · refine cw_cond_t rfl hb123 ?_
      refine cw_skip ?_
      refine hQ122 _ _ _ ?_
      refine thn_n ?_
      refine cw_seq ?_
      refine cw_gen ?_
      intro Q124 hQ124
      refine cw_block ?_
      refine cw_gen ?_
      intro Q125 hQ125
      refine cw_seq ?_
      refine cw_gen ?_
      intro Q126 hQ126
      refine cw_reg ?_
      replace hF := ob hF
      obtain ⟨x127, hx127, hF⟩ := hF
      refine el_index (wA := w0) he115 ha0 rfl (by decide) he117 hx127 (by decide) ?_
      intro b128 of129 c130 hr131 hm132
      obtain rfl := hr131
      refine el_pv (v := .int .i64 x127) (pv_loadc rfl ((cells_up hS.below hm132) 0 _ rfl)) (by decide) ?_
      refine el_pv (v := .int .i64 x127) (pv_assign rfl) (by decide) ?_
      refine el_nil ?_
      refine hQ126 _ _ _ ?_
      refine thn_n ?_
      refine cw_seq ?_
      refine cw_gen ?_
      intro Q133 hQ133
      refine cw_reg ?_
      refine el_pv (v := .int .i64 x127) (pv_move rfl) (by decide) ?_
      replace hF := ob hF
      obtain ⟨r134, hr134, hF⟩ := hF
      refine el_call goes41 (impl_within_ok hr134) (congrArg List.toArray (mapc rfl (mapc rfl (mapc rfl rfl)))) (by decide) ?_
      rintro _ w135 ⟨rfl, hx136⟩
      refine ⟨_, rfl, ?_⟩
      replace hS := hS.ext hx136
      refine el_pv (v := .bool (!r134)) (pv_not rfl) (by decide) ?_
      refine el_nil ?_
      refine hQ133 _ _ _ ?_
      refine thn_n ?_
      replace hF := oif hF
      rcases hF with ⟨hb137, hF⟩ | ⟨hb137, hF⟩
      · refine cw_cond_f rfl (bnot_t hb137) ?_
        refine cw_skip ?_
        refine hQ125 _ _ _ ?_
        refine inb_n ?_
        refine hQ124 _ _ _ ?_
        refine thn_n ?_
        refine cw_reg ?_
        replace hF := ob hF
        obtain ⟨x138, hx138, hF⟩ := hF
        refine el_pv (v := .int .i64 x138) (pv_add he117 rfl hx138) (by decide) ?_
        refine el_pv (v := .int .i64 x138) (pv_move rfl) (by decide) ?_
        refine el_nil ?_
        refine hQ120 _ _ _ ?_
        refine thn_n ?_
        replace hS := hS.keep 1
        exact ⟨x138, he113, he114, he115, he116, rfl, hS, hF⟩
      · refine cw_cond_t rfl (bnot_f hb137) ?_
        refine cw_seq ?_
        refine cw_gen ?_
        intro Q139 hQ139
        replace hS : Sat w0 w135 [] := hS.rems 1 [0] rfl
        refine cw_reg ?_
        refine el_pv (v := .bool false) (pv_assign rfl) (by decide) ?_
        refine el_nil ?_
        refine hQ139 _ _ _ ?_
        refine thn_n ?_
        refine cw_ret ?_
        refine hQ125 _ _ _ ?_
        refine inb_r ?_
        refine hQ124 _ _ _ ?_
        refine thn_r ?_
        refine hQ120 _ _ _ ?_
        refine thn_r ?_
        refine hQ109 _ _ _ ?_
        refine inb_r ?_
        refine hQ107 _ _ _ ?_
        refine thn_r ?_
        replace hF := exL hF hK111
        refine fin1 rfl rfl ?_
        have hr := Option.some.inj hF
        exact ⟨congrArg (fun (r : Bool) => Ending.returned (.bool r)) hr, hS.below⟩
    · refine cw_cond_f rfl hb123 ?_
      refine cw_exit ?_
      refine hQ122 _ _ _ ?_
      refine thn_x ?_
      refine hQ120 _ _ _ ?_
      refine thn_x ?_
      replace hF := exA hF hK111
      refine hQ109 _ _ _ ?_
      refine inb_s ?_
      refine hQ107 _ _ _ ?_
      refine thn_n ?_
      refine cw_seq ?_
      refine cw_gen ?_
      intro Q140 hQ140
      refine cw_reg ?_
      refine el_pv (v := .int .i64 (a0.length : Int)) (pv_move he114) (by decide) ?_
      refine el_pv (v := .bool (decide ((a0.length : Int) ≤ 60))) (pv_leq rfl rfl) (by decide) ?_
      refine el_pv (v := .bool (decide ((a0.length : Int) ≤ 60))) (pv_move rfl) (by decide) ?_
      replace hF := oif hF
      rcases hF with ⟨hb141, hF⟩ | ⟨hb141, hF⟩
      · refine el_on rfl hb141 ?_
        refine el_pv (v := .int .i64 (a0.length : Int)) (pv_move he114) (by decide) ?_
        refine el_on rfl hb141 ?_
        refine el_pv (v := .bool ((a0.length : Int) == 0)) (pv_eql rfl rfl) (by decide) ?_
        refine el_on rfl hb141 ?_
        refine el_pv (v := .bool ((a0.length : Int) == 0)) (pv_move rfl) (by decide) ?_
        replace hF := oif hF
        rcases hF with ⟨hb142, hF⟩ | ⟨hb142, hF⟩
        · refine el_off rfl hb142 rfl (by decide) ?_
          refine el_off rfl hb142 rfl (by decide) ?_
          refine el_off rfl hb142 rfl (by decide) ?_
          refine el_off rfl hb142 rfl (by decide) ?_
          refine el_off rfl hb142 rfl (by decide) ?_
          refine el_off rfl hb142 rfl (by decide) ?_
          refine el_off rfl hb142 rfl (by decide) ?_
          refine el_on rfl hb141 ?_
          refine el_pv (v := .bool true) (pv_pick_t rfl hb142 rfl) (by decide) ?_
          refine el_pv (v := .bool true) (pv_pick_t rfl hb141 rfl) (by decide) ?_
          refine el_pv (v := .bool true) (pv_assign rfl) (by decide) ?_
          refine el_nil ?_
          refine hQ140 _ _ _ ?_
          refine thn_n ?_
          refine cw_ret ?_
          refine fin1 rfl rfl ?_
          have hr := Option.some.inj hF
          exact ⟨congrArg (fun (r : Bool) => Ending.returned (.bool r)) hr, hS.below⟩
        · refine el_on rfl hb142 ?_
          refine el_pv (v := .pointer (some ⟨b103, 0 + 0, none⟩)) (pv_fieldAddr he113) (by decide) ?_
          refine el_on rfl hb142 ?_
          refine el_pv (v := u0) (pv_loadc rfl ((hS.boxAt 0 rfl) 0 _ rfl)) (by decide) ?_
          refine el_on rfl hb142 ?_
          refine el_pv (v := .int .i64 (a0.length : Int)) (pv_move he114) (by decide) ?_
          refine el_on rfl hb142 ?_
          replace hF := ob hF
          obtain ⟨x143, hx143, hF⟩ := hF
          refine el_pv (v := .int .i64 x143) (pv_sub rfl rfl hx143) (by decide) ?_
          refine el_on rfl hb142 ?_
          replace hF := ob hF
          obtain ⟨x144, hx144, hF⟩ := hF
          refine el_index (wA := w0) rfl ha0 rfl (by decide) rfl hx144 (by decide) ?_
          intro b145 of146 c147 hr148 hm149
          obtain rfl := hr148
          refine el_on rfl hb142 ?_
          refine el_pv (v := .int .i64 x144) (pv_loadc rfl ((cells_up hS.below hm149) 0 _ rfl)) (by decide) ?_
          refine el_on rfl hb142 ?_
          refine el_pv (v := .bool (x144 != 0)) (pv_neq rfl rfl) (by decide) ?_
          refine el_on rfl hb141 ?_
          refine el_pv (v := .bool (x144 != 0)) (pv_pick_f rfl hb142 rfl) (by decide) ?_
          refine el_pv (v := .bool (x144 != 0)) (pv_pick_t rfl hb141 rfl) (by decide) ?_
          refine el_pv (v := .bool (x144 != 0)) (pv_assign rfl) (by decide) ?_
          refine el_nil ?_
          refine hQ140 _ _ _ ?_
          refine thn_n ?_
          refine cw_ret ?_
          refine fin1 rfl rfl ?_
          have hr := Option.some.inj hF
          exact ⟨congrArg (fun (r : Bool) => Ending.returned (.bool r)) hr, hS.below⟩
      · refine el_off rfl hb141 rfl (by decide) ?_
        refine el_off rfl hb141 rfl (by decide) ?_
        refine el_off rfl hb141 rfl (by decide) ?_
        refine el_offu rfl (by decide) ?_
        refine el_offu rfl (by decide) ?_
        refine el_offu rfl (by decide) ?_
        refine el_offu rfl (by decide) ?_
        refine el_offu rfl (by decide) ?_
        refine el_offu rfl (by decide) ?_
        refine el_offu rfl (by decide) ?_
        refine el_off rfl hb141 rfl (by decide) ?_
        refine el_pv (v := .bool false) (pv_pick_f rfl hb141 rfl) (by decide) ?_
        refine el_pv (v := .bool false) (pv_assign rfl) (by decide) ?_
        refine el_nil ?_
        refine hQ140 _ _ _ ?_
        refine thn_n ?_
        refine cw_ret ?_
        refine fin1 rfl rfl ?_
        have hr := Option.some.inj hF
        exact ⟨congrArg (fun (r : Bool) => Ending.returned (.bool r)) hr, hS.below⟩
set_option maxHeartbeats 4000000 in
theorem impl_carried_ok {w0 : World} {u0 : Value} {a0 : List Int} (ha0 : (sliceR intR 3).rd w0 [u0] a0) {N : Nat} {r : (List Int) × Bool} (hF : impl_carried N a0 = some r) :
    Calls Try.prog 129 #[u0] w0 fun e w' => ∃ (q0 : Value), e = .returned (.tuple #[.agg #[q0], .bool r.2]) ∧ Sat w0 w' [Own (sliceR intR 3) [q0] r.1] := by
  unfold impl_carried at hF
  refine calls_E Try.func129 rfl rfl (of_decide_eq_true rfl) ?_
  have hS := Sat.start w0
  refine cw_seq ?_
  refine cw_gen ?_
  intro Q101 hQ101
  refine cw_reg ?_
  refine el_alloc hS (by decide) ?_
  intro w102 b103 hS hx104
  refine el_pv (v := .bool false) (pv_assign rfl) (by decide) ?_
  refine el_nil ?_
  refine hQ101 _ _ _ ?_
  refine thn_n ?_
  refine cw_seq ?_
  refine cw_gen ?_
  intro Q106 hQ106
  refine cw_reg ?_
  refine el_alloc hS (by decide) ?_
  intro w107 b108 hS hx109
  refine el_nil ?_
  refine hQ106 _ _ _ ?_
  refine thn_n ?_
  refine cw_seq ?_
  refine cw_gen ?_
  intro Q111 hQ111
  refine cw_reg ?_
  refine el_pv (v := .int .i64 0) (pv_assign rfl) (by decide) ?_
  refine el_nil ?_
  refine hQ111 _ _ _ ?_
  refine thn_n ?_
  refine cw_seq ?_
  refine cw_gen ?_
  intro Q112 hQ112
  refine cw_seq ?_
  refine cw_gen ?_
  intro Q113 hQ113
  refine cw_reg ?_
  refine el_pv (v := .int .i64 0) (pv_assign rfl) (by decide) ?_
  refine el_nil ?_
  refine hQ113 _ _ _ ?_
  refine thn_n ?_
  refine cw_block ?_
  refine cw_gen ?_
  intro Q114 hQ114
  replace hS := hS.nil intR 3
  obtain ⟨s116, hL, hK117⟩ := ob hF
  refine cw_loopS (fun k e w => ∃ (v119 : Value), ∃ (x118 : List Int), ∃ (x120 : Int), ∃ (x121 : Int), e 0 = u0 ∧ e 2 = .pointer (some ⟨b103, 0, none⟩) ∧ e 4 = .pointer (some ⟨b108, 0, none⟩) ∧ e 5 = .int .i64 x120 ∧ e 6 = .int .i64 x121 ∧ Sat w0 w [Own (sliceR intR 3) [v119] x118, Box b108 76 [v119], Box b103 76 [(.slice none 0 0)]] ∧ impl_carried_L1 N k a0 [] x118 x120 x121 = some s116) N ?_ ?_ ?_
  · exact ⟨(.slice none 0 0), [], 0, 0, rfl, rfl, rfl, rfl, rfl, hS, hL⟩
  · rintro e w ⟨_, _, _, _, _, _, _, _, _, _, hz⟩; exact nomatch (show none = some _ from hz)
  · rintro k e128 w127 ⟨v119, x118, x120, x121, he122, he123, he124, he125, he126, hS, hF⟩
    refine cw_gen ?_
    intro Q129 hQ129
    refine cw_seq ?_
    refine cw_gen ?_
    intro Q130 hQ130
    refine cw_seq ?_
    refine cw_gen ?_
    intro Q131 hQ131
    refine cw_reg ?_
    refine el_pv (v := .int .i64 x121) (pv_move he126) (by decide) ?_
    refine el_pv (v := u0) (pv_move he122) (by decide) ?_
    refine el_pv (v := .int .i64 (a0.length : Int)) (pv_len rfl ha0) (by decide) ?_
    refine el_pv (v := .bool (decide (x121 < (a0.length : Int)))) (pv_lss rfl rfl) (by decide) ?_
    refine el_pv (v := .bool (decide (x121 < (a0.length : Int)))) (pv_move rfl) (by decide) ?_
    replace hF := oif hF
    rcases hF with ⟨hb132, hF⟩ | ⟨hb132, hF⟩
    · refine el_off rfl hb132 rfl (by decide) ?_
      refine el_off rfl hb132 rfl (by decide) ?_
      refine el_pv (v := .bool true) (pv_pick_t rfl hb132 rfl) (by decide) ?_
      refine el_nil ?_
      refine hQ131 _ _ _ ?_
      refine thn_n ?_
      refine cw_cond_t rfl rfl ?_
      refine cw_skip ?_
      refine hQ130 _ _ _ ?_
      refine thn_n ?_
      refine cw_seq ?_
      refine cw_gen ?_
      intro Q133 hQ133
      refine cw_block ?_
      refine cw_gen ?_
      intro Q134 hQ134
      refine cw_seq ?_
      refine cw_gen ?_
      intro Q135 hQ135
      refine cw_seq ?_
      refine cw_gen ?_
      intro Q136 hQ136
      refine cw_reg ?_
      refine el_pv (v := .int .i64 x121) (pv_move he126) (by decide) ?_
      refine el_pv (v := u0) (pv_move he122) (by decide) ?_
      refine el_pv (v := .int .i64 (a0.length : Int)) (pv_len rfl ha0) (by decide) ?_
      refine el_pv (v := .bool (decide (x121 < (a0.length : Int)))) (pv_lss rfl rfl) (by decide) ?_
      refine el_nil ?_
      refine hQ136 _ _ _ ?_
      refine thn_n ?_
      refine cw_cond_t rfl hb132 ?_
      refine cw_reg ?_
      refine el_pv (v := .int .i64 x120) (pv_move he125) (by decide) ?_
      refine el_pv (v := u0) (pv_move he122) (by decide) ?_
      refine el_pv (v := .int .i64 x121) (pv_move he126) (by decide) ?_
      replace hF := ob hF
      obtain ⟨x137, hx137, hF⟩ := hF
      refine el_index (wA := w0) rfl ha0 rfl (by decide) rfl hx137 (by decide) ?_
      intro b138 of139 c140 hr141 hm142
      obtain rfl := hr141
      refine el_pv (v := .int .i64 x137) (pv_loadc rfl ((cells_up hS.below hm142) 0 _ rfl)) (by decide) ?_
      replace hF := ob hF
      obtain ⟨x143, hx143, hF⟩ := hF
      refine el_pv (v := .int .i64 x143) (pv_add rfl rfl hx143) (by decide) ?_
      refine el_pv (v := .int .i64 x143) (pv_assign rfl) (by decide) ?_
      refine el_nil ?_
      refine hQ135 _ _ _ ?_
      refine thn_n ?_
      refine cw_seq ?_
      refine cw_gen ?_
      intro Q144 hQ144
      refine cw_reg ?_
      refine el_pv (v := .pointer (some ⟨b108, 0 + 0, none⟩)) (pv_fieldAddr he124) (by decide) ?_
      refine el_pv (v := v119) (pv_loadc rfl ((hS.boxAt 1 rfl) 0 _ rfl)) (by decide) ?_
      refine el_pv (v := .int .i64 x143) (pv_move rfl) (by decide) ?_
      replace hF := ob hF
      obtain ⟨x145, hx145, hF⟩ := hF
      refine el_pv (v := .int .i64 x145) (pv_rem rfl rfl hx145) (by decide) ?_
      refine el_buildSlice1 [.int .i64 x145] rfl (by rfl) (by decide) rfl (by decide) hS (by decide) ?_
      intro w146 b148 hS hx147
      replace hF := ob hF
      obtain ⟨x152, hx152, hF⟩ := hF
      have hrow153 := hS.boxRow 0 rfl
      replace hS : Sat w0 w146 [Own (sliceR intR 3) [v119] x118, Box b148 3 [.int .i64 x145], Box b108 76 [v119], Box b103 76 [(.slice none 0 0)]] := hS.top 1 rfl
      replace hS := hS.int x145
      replace hS := hS.one
      refine el_append rfl (by decide) rfl (by decide) hS rfl rfl rfl (by simp) hrow153 hx152 (by decide) ?_
      intro w150 v151 hS
      refine el_pv (v := .pointer (some ⟨b108, 0 + 0, none⟩)) (pv_fieldAddr he124) (by decide) ?_
      refine el_storev (hS.top 2 rfl) rfl [v151] (cells_of rfl (oc (hS.rdAt (R := (sliceR intR 3)) 0 rfl))) rfl (of_decide_eq_true rfl) (all_cons (oc (hS.rdAt (R := (sliceR intR 3)) 0 rfl)) rfl) ?_
      intro w155 hS
      replace hS : Sat w0 w155 [Box b108 76 [v151], Own (sliceR intR 3) [v151] x152, Box b148 3 [.int .i64 x145], Box b103 76 [(.slice none 0 0)]] := hS
      refine el_nil ?_
      refine hQ144 _ _ _ ?_
      refine thn_n ?_
      replace hS : Sat w0 w155 [Box b108 76 [v151], Own (sliceR intR 3) [v151] x152, Box b103 76 [(.slice none 0 0)]] := hS.rems 4 [2] rfl
      refine cw_reg ?_
      refine el_pv (v := .int .i64 x143) (pv_move rfl) (by decide) ?_
      replace hF := ob hF
      obtain ⟨x156, hx156, hF⟩ := hF
      refine el_pv (v := .int .i64 x156) (pv_quo rfl rfl hx156) (by decide) ?_
      refine el_pv (v := .int .i64 x156) (pv_assign rfl) (by decide) ?_
      refine el_nil ?_
      refine hQ134 _ _ _ ?_
      refine inb_n ?_
      refine hQ133 _ _ _ ?_
      refine thn_n ?_
      refine cw_reg ?_
      refine el_pv (v := .int .i64 x121) (pv_move he126) (by decide) ?_
      replace hF := ob hF
      obtain ⟨x157, hx157, hF⟩ := hF
      refine el_pv (v := .int .i64 x157) (pv_add rfl rfl hx157) (by decide) ?_
      refine el_pv (v := .int .i64 x157) (pv_assign rfl) (by decide) ?_
      refine el_nil ?_
      refine hQ129 _ _ _ ?_
      refine thn_n ?_
      replace hS : Sat w0 w155 [Own (sliceR intR 3) [v151] x152, Box b108 76 [v151], Box b103 76 [(.slice none 0 0)]] := hS.tops 3 [1, 0, 2] rfl
      replace hS := hS.keep 3
      exact ⟨v151, x152, x156, x157, he122, he123, he124, rfl, rfl, hS, hF⟩
    · refine el_on rfl hb132 ?_
      refine el_pv (v := .int .i64 x120) (pv_move he125) (by decide) ?_
      refine el_on rfl hb132 ?_
      refine el_pv (v := .bool (decide (0 < x120))) (pv_gtr rfl rfl) (by decide) ?_
      refine el_pv (v := .bool (decide (0 < x120))) (pv_pick_f rfl hb132 rfl) (by decide) ?_
      refine el_nil ?_
      refine hQ131 _ _ _ ?_
      refine thn_n ?_
      replace hF := oif hF
      rcases hF with ⟨hb158, hF⟩ | ⟨hb158, hF⟩
      · refine cw_cond_t rfl hb158 ?_
        refine cw_skip ?_
        refine hQ130 _ _ _ ?_
        refine thn_n ?_
        refine cw_seq ?_
        refine cw_gen ?_
        intro Q159 hQ159
        refine cw_block ?_
        refine cw_gen ?_
        intro Q160 hQ160
        refine cw_seq ?_
        refine cw_gen ?_
        intro Q161 hQ161
        refine cw_seq ?_
        refine cw_gen ?_
        intro Q162 hQ162
        refine cw_reg ?_
        refine el_pv (v := .int .i64 x121) (pv_move he126) (by decide) ?_
        refine el_pv (v := u0) (pv_move he122) (by decide) ?_
        refine el_pv (v := .int .i64 (a0.length : Int)) (pv_len rfl ha0) (by decide) ?_
        refine el_pv (v := .bool (decide (x121 < (a0.length : Int)))) (pv_lss rfl rfl) (by decide) ?_
        refine el_nil ?_
        refine hQ162 _ _ _ ?_
        refine thn_n ?_
        refine cw_cond_f rfl hb132 ?_
        refine cw_skip ?_
        refine hQ161 _ _ _ ?_
        refine thn_n ?_
        refine cw_seq ?_
        refine cw_gen ?_
        intro Q163 hQ163
        refine cw_reg ?_
        refine el_pv (v := .pointer (some ⟨b108, 0 + 0, none⟩)) (pv_fieldAddr he124) (by decide) ?_
        refine el_pv (v := v119) (pv_loadc rfl ((hS.boxAt 1 rfl) 0 _ rfl)) (by decide) ?_
        refine el_pv (v := .int .i64 x120) (pv_move he125) (by decide) ?_
        replace hF := ob hF
        obtain ⟨x164, hx164, hF⟩ := hF
        refine el_pv (v := .int .i64 x164) (pv_rem rfl rfl hx164) (by decide) ?_
        refine el_buildSlice1 [.int .i64 x164] rfl (by rfl) (by decide) rfl (by decide) hS (by decide) ?_
        intro w165 b167 hS hx166
        replace hF := ob hF
        obtain ⟨x171, hx171, hF⟩ := hF
        have hrow172 := hS.boxRow 0 rfl
        replace hS : Sat w0 w165 [Own (sliceR intR 3) [v119] x118, Box b167 3 [.int .i64 x164], Box b108 76 [v119], Box b103 76 [(.slice none 0 0)]] := hS.top 1 rfl
        replace hS := hS.int x164
        replace hS := hS.one
        refine el_append rfl (by decide) rfl (by decide) hS rfl rfl rfl (by simp) hrow172 hx171 (by decide) ?_
        intro w169 v170 hS
        refine el_pv (v := .pointer (some ⟨b108, 0 + 0, none⟩)) (pv_fieldAddr he124) (by decide) ?_
        refine el_storev (hS.top 2 rfl) rfl [v170] (cells_of rfl (oc (hS.rdAt (R := (sliceR intR 3)) 0 rfl))) rfl (of_decide_eq_true rfl) (all_cons (oc (hS.rdAt (R := (sliceR intR 3)) 0 rfl)) rfl) ?_
        intro w174 hS
        replace hS : Sat w0 w174 [Box b108 76 [v170], Own (sliceR intR 3) [v170] x171, Box b167 3 [.int .i64 x164], Box b103 76 [(.slice none 0 0)]] := hS
        refine el_nil ?_
        refine hQ163 _ _ _ ?_
        refine thn_n ?_
        replace hS : Sat w0 w174 [Box b108 76 [v170], Own (sliceR intR 3) [v170] x171, Box b103 76 [(.slice none 0 0)]] := hS.rems 4 [2] rfl
        refine cw_reg ?_
        refine el_pv (v := .int .i64 x120) (pv_move he125) (by decide) ?_
        replace hF := ob hF
        obtain ⟨x175, hx175, hF⟩ := hF
        refine el_pv (v := .int .i64 x175) (pv_quo rfl rfl hx175) (by decide) ?_
        refine el_pv (v := .int .i64 x175) (pv_assign rfl) (by decide) ?_
        refine el_nil ?_
        refine hQ160 _ _ _ ?_
        refine inb_n ?_
        refine hQ159 _ _ _ ?_
        refine thn_n ?_
        refine cw_reg ?_
        refine el_pv (v := .int .i64 x121) (pv_move he126) (by decide) ?_
        replace hF := ob hF
        obtain ⟨x176, hx176, hF⟩ := hF
        refine el_pv (v := .int .i64 x176) (pv_add rfl rfl hx176) (by decide) ?_
        refine el_pv (v := .int .i64 x176) (pv_assign rfl) (by decide) ?_
        refine el_nil ?_
        refine hQ129 _ _ _ ?_
        refine thn_n ?_
        replace hS : Sat w0 w174 [Own (sliceR intR 3) [v170] x171, Box b108 76 [v170], Box b103 76 [(.slice none 0 0)]] := hS.tops 3 [1, 0, 2] rfl
        replace hS := hS.keep 3
        exact ⟨v170, x171, x175, x176, he122, he123, he124, rfl, rfl, hS, hF⟩
      · refine cw_cond_f rfl hb158 ?_
        refine cw_exit ?_
        refine hQ130 _ _ _ ?_
        refine thn_x ?_
        refine hQ129 _ _ _ ?_
        refine thn_x ?_
        replace hF := exB hF hK117
        refine hQ114 _ _ _ ?_
        refine inb_s ?_
        refine hQ112 _ _ _ ?_
        refine thn_n ?_
        refine cw_seq ?_
        refine cw_gen ?_
        intro Q177 hQ177
        refine cw_reg ?_
        refine el_pv (v := .pointer (some ⟨b108, 0 + 0, none⟩)) (pv_fieldAddr he124) (by decide) ?_
        refine el_pv (v := v119) (pv_loadc rfl ((hS.boxAt 1 rfl) 0 _ rfl)) (by decide) ?_
        refine el_pv (v := .int .i64 (x118.length : Int)) (pv_len rfl (hS.rdAt (R := (sliceR intR 3)) 0 rfl)) (by decide) ?_
        refine el_pv (v := .int .i64 (x118.length : Int)) (pv_assign rfl) (by decide) ?_
        refine el_nil ?_
        refine hQ177 _ _ _ ?_
        refine thn_n ?_
        refine cw_seq ?_
        refine cw_gen ?_
        intro Q178 hQ178
        refine cw_block ?_
        refine cw_gen ?_
        intro Q179 hQ179
        obtain ⟨s180, hL, hK181⟩ := ob hF
        refine cw_loopS (fun k e w => ∃ (x182 : Int), e 2 = .pointer (some ⟨b103, 0, none⟩) ∧ e 4 = .pointer (some ⟨b108, 0, none⟩) ∧ e 7 = .int .i64 x182 ∧ Sat w0 w [Own (sliceR intR 3) [v119] x118, Box b108 76 [v119], Box b103 76 [(.slice none 0 0)]] ∧ impl_carried_L2 N k [] x118 x182 = some s180) N ?_ ?_ ?_
        · exact ⟨(x118.length : Int), he123, he124, rfl, hS, hL⟩
        · rintro e w ⟨_, _, _, _, _, hz⟩; exact nomatch (show none = some _ from hz)
        · rintro k e187 w186 ⟨x182, he183, he184, he185, hS, hF⟩
          refine cw_gen ?_
          intro Q188 hQ188
          refine cw_seq ?_
          refine cw_gen ?_
          intro Q189 hQ189
          refine cw_seq ?_
          refine cw_gen ?_
          intro Q190 hQ190
          refine cw_reg ?_
          refine el_pv (v := .int .i64 x182) (pv_move he185) (by decide) ?_
          refine el_pv (v := .bool (decide (0 < x182))) (pv_gtr rfl rfl) (by decide) ?_
          refine el_pv (v := .bool (decide (0 < x182))) (pv_move rfl) (by decide) ?_
          replace hF := oif hF
          rcases hF with ⟨hb191, hF⟩ | ⟨hb191, hF⟩
          · refine el_on rfl hb191 ?_
            refine el_pv (v := .pointer (some ⟨b108, 0 + 0, none⟩)) (pv_fieldAddr he184) (by decide) ?_
            refine el_on rfl hb191 ?_
            refine el_pv (v := v119) (pv_loadc rfl ((hS.boxAt 1 rfl) 0 _ rfl)) (by decide) ?_
            refine el_on rfl hb191 ?_
            refine el_pv (v := .int .i64 x182) (pv_move he185) (by decide) ?_
            refine el_on rfl hb191 ?_
            replace hF := ob hF
            obtain ⟨x192, hx192, hF⟩ := hF
            refine el_pv (v := .int .i64 x192) (pv_sub rfl rfl hx192) (by decide) ?_
            refine el_on rfl hb191 ?_
            replace hF := ob hF
            obtain ⟨x193, hx193, hF⟩ := hF
            obtain ⟨g194, cap195, hv196⟩ := ownShape 0 hS rfl hx193
            refine el_pv (v := .pointer (some ⟨g194, x192.toNat * 1, none⟩)) (pv_indexF (v := v119) rfl hv196 rfl hx193) (by decide) ?_
            refine el_on rfl hb191 ?_
            refine el_pv (v := .int .i64 x193) (pv_loadc rfl (hS.ownCell 0 rfl hv196 hx193)) (by decide) ?_
            refine el_on rfl hb191 ?_
            refine el_pv (v := .bool (x193 == 0)) (pv_eql rfl rfl) (by decide) ?_
            refine el_pv (v := .bool (x193 == 0)) (pv_pick_t rfl hb191 rfl) (by decide) ?_
            refine el_nil ?_
            refine hQ190 _ _ _ ?_
            refine thn_n ?_
            replace hF := oif hF
            rcases hF with ⟨hb197, hF⟩ | ⟨hb197, hF⟩
            · refine cw_cond_t rfl hb197 ?_
              refine cw_skip ?_
              refine hQ189 _ _ _ ?_
              refine thn_n ?_
              refine cw_block ?_
              refine cw_gen ?_
              intro Q198 hQ198
              refine cw_reg ?_
              refine el_pv (v := .int .i64 x182) (pv_move he185) (by decide) ?_
              replace hF := ob hF
              obtain ⟨x199, hx199, hF⟩ := hF
              refine el_pv (v := .int .i64 x199) (pv_sub rfl rfl hx199) (by decide) ?_
              refine el_pv (v := .int .i64 x199) (pv_assign rfl) (by decide) ?_
              refine el_nil ?_
              refine hQ198 _ _ _ ?_
              refine inb_n ?_
              refine hQ188 _ _ _ ?_
              refine thn_n ?_
              replace hS := hS.keep 3
              exact ⟨x199, he183, he184, rfl, hS, hF⟩
            · refine cw_cond_f rfl hb197 ?_
              refine cw_exit ?_
              refine hQ189 _ _ _ ?_
              refine thn_x ?_
              refine hQ188 _ _ _ ?_
              refine thn_x ?_
              replace hF := exB hF hK181
              refine hQ179 _ _ _ ?_
              refine inb_s ?_
              refine hQ178 _ _ _ ?_
              refine thn_n ?_
              refine cw_seq ?_
              refine cw_gen ?_
              intro Q200 hQ200
              refine cw_reg ?_
              refine el_pv (v := .pointer (some ⟨b108, 0 + 0, none⟩)) (pv_fieldAddr he184) (by decide) ?_
              refine el_pv (v := v119) (pv_loadc rfl ((hS.boxAt 1 rfl) 0 _ rfl)) (by decide) ?_
              refine el_pv (v := .int .i64 x182) (pv_move he185) (by decide) ?_
              replace hF := ob hF
              obtain ⟨x201, hx201, hF⟩ := hF
              refine el_pv (v := (slcV 1 v119 (0 : Int) x182)) (pv_slcV (l := (0 : Int)) (h := x182) rfl (hS.rdAt (R := (sliceR intR 3)) 0 rfl) (.inr ⟨rfl, rfl⟩) (.inl (congrArg some rfl)) hx201) (by decide) ?_
              refine el_pv (v := .pointer (some ⟨b108, 0 + 0, none⟩)) (pv_fieldAddr he184) (by decide) ?_
              replace hS := hS.prefix (m := 1) rfl hx201
              replace hS : Sat w0 w186 [Own (sliceR intR 3) [(slcV 1 v119 (0 : Int) x182)] x201, Box b108 76 [v119], Box b103 76 [(.slice none 0 0)]] := hS
              refine el_storev (hS.top 1 rfl) rfl [(slcV 1 v119 (0 : Int) x182)] (cells_of rfl (oc (hS.rdAt (R := (sliceR intR 3)) 0 rfl))) rfl (of_decide_eq_true rfl) (all_cons (oc (hS.rdAt (R := (sliceR intR 3)) 0 rfl)) rfl) ?_
              intro w204 hS
              replace hS : Sat w0 w204 [Box b108 76 [(slcV 1 v119 (0 : Int) x182)], Own (sliceR intR 3) [(slcV 1 v119 (0 : Int) x182)] x201, Box b103 76 [(.slice none 0 0)]] := hS
              refine el_nil ?_
              refine hQ200 _ _ _ ?_
              refine thn_n ?_
              refine cw_seq ?_
              refine cw_gen ?_
              intro Q205 hQ205
              refine cw_seq ?_
              refine cw_gen ?_
              intro Q206 hQ206
              refine cw_reg ?_
              refine el_pv (v := .int .i64 x182) (pv_move he185) (by decide) ?_
              refine el_pv (v := .bool (decide (60 < x182))) (pv_gtr rfl rfl) (by decide) ?_
              refine el_nil ?_
              refine hQ206 _ _ _ ?_
              refine thn_n ?_
              replace hF := oif hF
              rcases hF with ⟨hb207, hF⟩ | ⟨hb207, hF⟩
              · refine cw_cond_t rfl hb207 ?_
                refine cw_seq ?_
                refine cw_gen ?_
                intro Q208 hQ208
                replace hS : Sat w0 w204 [Box b103 76 [(.slice none 0 0)]] := hS.rems 3 [0, 1] rfl
                refine cw_reg ?_
                refine el_pv (v := .agg #[(.slice none 0 0)]) (pv_build [] [(.slice none 0 0)] rfl rfl) (by decide) ?_
                refine el_storev (hS.top 0 rfl) he183 [(.slice none 0 0)] rfl rfl (of_decide_eq_true rfl) (all_cons rfl rfl) ?_
                intro w209 hS
                replace hS : Sat w0 w209 [Box b103 76 [(.slice none 0 0)]] := hS
                refine el_pv (v := .bool false) (pv_assign rfl) (by decide) ?_
                refine el_nil ?_
                refine hQ208 _ _ _ ?_
                refine thn_n ?_
                refine cw_ret ?_
                refine hQ205 _ _ _ ?_
                refine thn_r ?_
                replace hS := hS.nil intR 3
                refine finCT (cs := [(.slice none 0 0)]) rfl he183 rfl (boxc0 (hS.boxAt 1 rfl)) rfl ?_
                have hr := Option.some.inj hF
                exact ⟨(.slice none 0 0), congrArg (fun (r : (List Int) × Bool) => Ending.returned (.tuple #[.agg #[(.slice none 0 0)], .bool r.2])) hr, Eq.mp (congrArg (fun (r : (List Int) × Bool) => Sat w0 w209 [Own (sliceR intR 3) [(.slice none 0 0)] r.1]) hr) (hS.keep 1)⟩
              · refine cw_cond_f rfl hb207 ?_
                refine cw_skip ?_
                refine hQ205 _ _ _ ?_
                refine thn_n ?_
                refine cw_seq ?_
                refine cw_gen ?_
                intro Q211 hQ211
                refine cw_reg ?_
                refine el_pv (v := .agg #[(slcV 1 v119 (0 : Int) x182)]) (pv_loada (cs := [(slcV 1 v119 (0 : Int) x182)]) he184 rfl (boxc0 (hS.boxAt 0 rfl))) (by decide) ?_
                refine el_storev (hS.top 2 rfl) he183 [(slcV 1 v119 (0 : Int) x182)] rfl rfl (of_decide_eq_true rfl) (all_cons (oc (hS.rdAt (R := (sliceR intR 3)) 1 rfl)) rfl) ?_
                intro w212 hS
                replace hS : Sat w0 w212 [Box b103 76 [(slcV 1 v119 (0 : Int) x182)], Box b108 76 [(slcV 1 v119 (0 : Int) x182)], Own (sliceR intR 3) [(slcV 1 v119 (0 : Int) x182)] x201] := hS
                refine el_pv (v := .bool true) (pv_assign rfl) (by decide) ?_
                refine el_nil ?_
                refine hQ211 _ _ _ ?_
                refine thn_n ?_
                refine cw_ret ?_
                refine finCT (cs := [(slcV 1 v119 (0 : Int) x182)]) rfl he183 rfl (boxc0 (hS.boxAt 0 rfl)) rfl ?_
                replace hS : Sat w0 w212 [Own (sliceR intR 3) [(slcV 1 v119 (0 : Int) x182)] x201, Box b103 76 [(slcV 1 v119 (0 : Int) x182)], Box b108 76 [(slcV 1 v119 (0 : Int) x182)]] := hS.tops 3 [2] rfl
                have hr := Option.some.inj hF
                exact ⟨(slcV 1 v119 (0 : Int) x182), congrArg (fun (r : (List Int) × Bool) => Ending.returned (.tuple #[.agg #[(slcV 1 v119 (0 : Int) x182)], .bool r.2])) hr, Eq.mp (congrArg (fun (r : (List Int) × Bool) => Sat w0 w212 [Own (sliceR intR 3) [(slcV 1 v119 (0 : Int) x182)] r.1]) hr) (hS.keep 1)⟩
          · refine el_off rfl hb191 rfl (by decide) ?_
            refine el_off rfl hb191 rfl (by decide) ?_
            refine el_off rfl hb191 rfl (by decide) ?_
            refine el_off rfl hb191 rfl (by decide) ?_
            refine el_off rfl hb191 rfl (by decide) ?_
            refine el_off rfl hb191 rfl (by decide) ?_
            refine el_off rfl hb191 rfl (by decide) ?_
            refine el_pv (v := .bool false) (pv_pick_f rfl hb191 rfl) (by decide) ?_
            refine el_nil ?_
            refine hQ190 _ _ _ ?_
            refine thn_n ?_
            refine cw_cond_f rfl rfl ?_
            refine cw_exit ?_
            refine hQ189 _ _ _ ?_
            refine thn_x ?_
            refine hQ188 _ _ _ ?_
            refine thn_x ?_
            replace hF := exB hF hK181
            refine hQ179 _ _ _ ?_
            refine inb_s ?_
            refine hQ178 _ _ _ ?_
            refine thn_n ?_
            refine cw_seq ?_
            refine cw_gen ?_
            intro Q213 hQ213
            refine cw_reg ?_
            refine el_pv (v := .pointer (some ⟨b108, 0 + 0, none⟩)) (pv_fieldAddr he184) (by decide) ?_
            refine el_pv (v := v119) (pv_loadc rfl ((hS.boxAt 1 rfl) 0 _ rfl)) (by decide) ?_
            refine el_pv (v := .int .i64 x182) (pv_move he185) (by decide) ?_
            replace hF := ob hF
            obtain ⟨x214, hx214, hF⟩ := hF
            refine el_pv (v := (slcV 1 v119 (0 : Int) x182)) (pv_slcV (l := (0 : Int)) (h := x182) rfl (hS.rdAt (R := (sliceR intR 3)) 0 rfl) (.inr ⟨rfl, rfl⟩) (.inl (congrArg some rfl)) hx214) (by decide) ?_
            refine el_pv (v := .pointer (some ⟨b108, 0 + 0, none⟩)) (pv_fieldAddr he184) (by decide) ?_
            replace hS := hS.prefix (m := 1) rfl hx214
            replace hS : Sat w0 w186 [Own (sliceR intR 3) [(slcV 1 v119 (0 : Int) x182)] x214, Box b108 76 [v119], Box b103 76 [(.slice none 0 0)]] := hS
            refine el_storev (hS.top 1 rfl) rfl [(slcV 1 v119 (0 : Int) x182)] (cells_of rfl (oc (hS.rdAt (R := (sliceR intR 3)) 0 rfl))) rfl (of_decide_eq_true rfl) (all_cons (oc (hS.rdAt (R := (sliceR intR 3)) 0 rfl)) rfl) ?_
            intro w217 hS
            replace hS : Sat w0 w217 [Box b108 76 [(slcV 1 v119 (0 : Int) x182)], Own (sliceR intR 3) [(slcV 1 v119 (0 : Int) x182)] x214, Box b103 76 [(.slice none 0 0)]] := hS
            refine el_nil ?_
            refine hQ213 _ _ _ ?_
            refine thn_n ?_
            refine cw_seq ?_
            refine cw_gen ?_
            intro Q218 hQ218
            refine cw_seq ?_
            refine cw_gen ?_
            intro Q219 hQ219
            refine cw_reg ?_
            refine el_pv (v := .int .i64 x182) (pv_move he185) (by decide) ?_
            refine el_pv (v := .bool (decide (60 < x182))) (pv_gtr rfl rfl) (by decide) ?_
            refine el_nil ?_
            refine hQ219 _ _ _ ?_
            refine thn_n ?_
            replace hF := oif hF
            rcases hF with ⟨hb220, hF⟩ | ⟨hb220, hF⟩
            · refine cw_cond_t rfl hb220 ?_
              refine cw_seq ?_
              refine cw_gen ?_
              intro Q221 hQ221
              replace hS : Sat w0 w217 [Box b103 76 [(.slice none 0 0)]] := hS.rems 3 [0, 1] rfl
              refine cw_reg ?_
              refine el_pv (v := .agg #[(.slice none 0 0)]) (pv_build [] [(.slice none 0 0)] rfl rfl) (by decide) ?_
              refine el_storev (hS.top 0 rfl) he183 [(.slice none 0 0)] rfl rfl (of_decide_eq_true rfl) (all_cons rfl rfl) ?_
              intro w222 hS
              replace hS : Sat w0 w222 [Box b103 76 [(.slice none 0 0)]] := hS
              refine el_pv (v := .bool false) (pv_assign rfl) (by decide) ?_
              refine el_nil ?_
              refine hQ221 _ _ _ ?_
              refine thn_n ?_
              refine cw_ret ?_
              refine hQ218 _ _ _ ?_
              refine thn_r ?_
              replace hS := hS.nil intR 3
              refine finCT (cs := [(.slice none 0 0)]) rfl he183 rfl (boxc0 (hS.boxAt 1 rfl)) rfl ?_
              have hr := Option.some.inj hF
              exact ⟨(.slice none 0 0), congrArg (fun (r : (List Int) × Bool) => Ending.returned (.tuple #[.agg #[(.slice none 0 0)], .bool r.2])) hr, Eq.mp (congrArg (fun (r : (List Int) × Bool) => Sat w0 w222 [Own (sliceR intR 3) [(.slice none 0 0)] r.1]) hr) (hS.keep 1)⟩
            · refine cw_cond_f rfl hb220 ?_
              refine cw_skip ?_
              refine hQ218 _ _ _ ?_
              refine thn_n ?_
              refine cw_seq ?_
              refine cw_gen ?_
              intro Q224 hQ224
              refine cw_reg ?_
              refine el_pv (v := .agg #[(slcV 1 v119 (0 : Int) x182)]) (pv_loada (cs := [(slcV 1 v119 (0 : Int) x182)]) he184 rfl (boxc0 (hS.boxAt 0 rfl))) (by decide) ?_
              refine el_storev (hS.top 2 rfl) he183 [(slcV 1 v119 (0 : Int) x182)] rfl rfl (of_decide_eq_true rfl) (all_cons (oc (hS.rdAt (R := (sliceR intR 3)) 1 rfl)) rfl) ?_
              intro w225 hS
              replace hS : Sat w0 w225 [Box b103 76 [(slcV 1 v119 (0 : Int) x182)], Box b108 76 [(slcV 1 v119 (0 : Int) x182)], Own (sliceR intR 3) [(slcV 1 v119 (0 : Int) x182)] x214] := hS
              refine el_pv (v := .bool true) (pv_assign rfl) (by decide) ?_
              refine el_nil ?_
              refine hQ224 _ _ _ ?_
              refine thn_n ?_
              refine cw_ret ?_
              refine finCT (cs := [(slcV 1 v119 (0 : Int) x182)]) rfl he183 rfl (boxc0 (hS.boxAt 0 rfl)) rfl ?_
              replace hS : Sat w0 w225 [Own (sliceR intR 3) [(slcV 1 v119 (0 : Int) x182)] x214, Box b103 76 [(slcV 1 v119 (0 : Int) x182)], Box b108 76 [(slcV 1 v119 (0 : Int) x182)]] := hS.tops 3 [2] rfl
              have hr := Option.some.inj hF
              exact ⟨(slcV 1 v119 (0 : Int) x182), congrArg (fun (r : (List Int) × Bool) => Ending.returned (.tuple #[.agg #[(slcV 1 v119 (0 : Int) x182)], .bool r.2])) hr, Eq.mp (congrArg (fun (r : (List Int) × Bool) => Sat w0 w225 [Own (sliceR intR 3) [(slcV 1 v119 (0 : Int) x182)] r.1]) hr) (hS.keep 1)⟩
set_option maxHeartbeats 4000000 in
theorem impl_MulBigInt_ok {w0 : World} {u0 : Value} {a0 : List Int} {u1 : Value} {a1 : List Int} (ha0 : (sliceR intR 3).rd w0 [u0] a0) (ha1 : (sliceR intR 3).rd w0 [u1] a1) {N : Nat} {r : (List Int) × Bool} (hF : impl_MulBigInt N a0 a1 = some r) :
    Calls Try.prog 92 #[.agg #[u0], .agg #[u1]] w0 fun e w' => ∃ (q0 : Value), e = .returned (.tuple #[.agg #[q0], .bool r.2]) ∧ Sat w0 w' [Own (sliceR intR 3) [q0] r.1] := by
  unfold impl_MulBigInt at hF
  refine calls_E Try.func92 rfl rfl (of_decide_eq_true rfl) ?_
  have hS := Sat.start w0
  refine cw_seq ?_
  refine cw_gen ?_
  intro Q101 hQ101
  refine cw_reg ?_
  refine el_box [u0] rfl hS (by decide) ?_
  intro w102 b103 hS hx104
  refine el_box [u1] rfl hS (by decide) ?_
  intro w106 b107 hS hx108
  refine el_alloc hS (by decide) ?_
  intro w110 b111 hS hx112
  refine el_pv (v := .bool false) (pv_assign rfl) (by decide) ?_
  refine el_nil ?_
  refine hQ101 _ _ _ ?_
  refine thn_n ?_
  refine cw_seq ?_
  refine cw_gen ?_
  intro Q114 hQ114
  refine cw_seq ?_
  refine cw_gen ?_
  intro Q115 hQ115
  refine cw_reg ?_
  refine el_pv (v := .agg #[u0]) (pv_loada (cs := [u0]) rfl rfl (boxc0 (hS.boxAt 2 rfl))) (by decide) ?_
  replace hF := ob hF
  obtain ⟨r116, hr116, hF⟩ := hF
  refine el_call goes128 (impl_IsValidBigInt_ok (hS.up ha0) hr116) (congrArg List.toArray (mapc rfl rfl)) (by decide) ?_
  rintro _ w117 ⟨rfl, hx118⟩
  refine ⟨_, rfl, ?_⟩
  replace hS := hS.ext hx118
  refine el_pv (v := .bool (!r116)) (pv_not rfl) (by decide) ?_
  refine el_pv (v := .bool (!r116)) (pv_move rfl) (by decide) ?_
  replace hF := oif hF
  rcases hF with ⟨hb119, hF⟩ | ⟨hb119, hF⟩
  · refine el_on rfl (bnot_t hb119) ?_
    refine el_pv (v := .agg #[u1]) (pv_loada (cs := [u1]) rfl rfl (boxc0 (hS.boxAt 1 rfl))) (by decide) ?_
    refine el_on rfl (bnot_t hb119) ?_
    replace hF := ob hF
    obtain ⟨r120, hr120, hF⟩ := hF
    refine el_call goes128 (impl_IsValidBigInt_ok (hS.up ha1) hr120) (congrArg List.toArray (mapc rfl rfl)) (by decide) ?_
    rintro _ w121 ⟨rfl, hx122⟩
    refine ⟨_, rfl, ?_⟩
    replace hS := hS.ext hx122
    refine el_on rfl (bnot_t hb119) ?_
    refine el_pv (v := .bool (!r120)) (pv_not rfl) (by decide) ?_
    refine el_pv (v := .bool (!r120)) (pv_pick_f rfl (bnot_t hb119) rfl) (by decide) ?_
    refine el_nil ?_
    refine hQ115 _ _ _ ?_
    refine thn_n ?_
    replace hF := oif hF
    rcases hF with ⟨hb123, hF⟩ | ⟨hb123, hF⟩
    · refine cw_cond_f rfl (bnot_t hb123) ?_
      refine cw_skip ?_
      refine hQ114 _ _ _ ?_
      refine thn_n ?_
      refine cw_seq ?_
      refine cw_gen ?_
      intro Q124 hQ124
      refine cw_reg ?_
      refine el_pv (v := .pointer (some ⟨b103, 0 + 0, none⟩)) (pv_fieldAddr rfl) (by decide) ?_
      refine el_pv (v := u0) (pv_loadc rfl ((hS.boxAt 2 rfl) 0 _ rfl)) (by decide) ?_
      refine el_pv (v := .int .i64 (a0.length : Int)) (pv_len rfl ha0) (by decide) ?_
      refine el_pv (v := .pointer (some ⟨b107, 0 + 0, none⟩)) (pv_fieldAddr rfl) (by decide) ?_
      refine el_pv (v := u1) (pv_loadc rfl ((hS.boxAt 1 rfl) 0 _ rfl)) (by decide) ?_
      refine el_pv (v := .int .i64 (a1.length : Int)) (pv_len rfl ha1) (by decide) ?_
      replace hF := ob hF
      obtain ⟨x125, hx125, hF⟩ := hF
      refine el_pv (v := .int .i64 x125) (pv_add rfl rfl hx125) (by decide) ?_
      replace hF := ob hF
      obtain ⟨x129, hx129, hF⟩ := hF
      refine el_make (R := intR) (x0 := 0) rfl (by decide) rfl (fun _ => ⟨rfl, rfl⟩) rfl rfl hx129 hS (by decide) ?_
      intro w126 g127 k128 hS hx130 hlx129
      refine el_pv (v := (.slice (some ⟨g127, 0, none⟩) k128 k128)) (pv_assign rfl) (by decide) ?_
      refine el_nil ?_
      refine hQ124 _ _ _ ?_
      refine thn_n ?_
      refine cw_seq ?_
      refine cw_gen ?_
      intro Q132 hQ132
      refine cw_seq ?_
      refine cw_gen ?_
      intro Q133 hQ133
      refine cw_reg ?_
      refine el_pv (v := .pointer (some ⟨b103, 0 + 0, none⟩)) (pv_fieldAddr rfl) (by decide) ?_
      refine el_pv (v := u0) (pv_loadc rfl ((hS.boxAt 3 rfl) 0 _ rfl)) (by decide) ?_
      refine el_pv (v := .int .i64 (a0.length : Int)) (pv_len rfl ha0) (by decide) ?_
      refine el_pv (v := .int .i64 0) (pv_move rfl) (by decide) ?_
      refine el_nil ?_
      refine hQ133 _ _ _ ?_
      refine thn_n ?_
      refine cw_block ?_
      refine cw_gen ?_
      intro Q134 hQ134
      obtain ⟨s135, hL, hK136⟩ := ob hF
      replace hS : Sat w0 w126 [Own (sliceR intR 3) [(.slice (some ⟨g127, 0, none⟩) k128 k128)] x129, Box b111 76 [(.slice none 0 0)], Box b107 76 [u1]] := hS.rems 4 [3] rfl
      refine cw_loopS (fun k e w => ∃ (v138 : Value), ∃ (x137 : List Int), ∃ (x139 : Int), e 3 = .pointer (some ⟨b107, 0, none⟩) ∧ e 4 = .pointer (some ⟨b111, 0, none⟩) ∧ e 6 = v138 ∧ e 29 = u0 ∧ e 30 = .int .i64 (a0.length : Int) ∧ e 31 = .int .i64 x139 ∧ Sat w0 w [Own (sliceR intR 3) [v138] x137, Box b111 76 [(.slice none 0 0)], Box b107 76 [u1]] ∧ impl_MulBigInt_L1 N k a1 [] x137 a0 (a0.length : Int) x139 = some s135) N ?_ ?_ ?_
      · exact ⟨(.slice (some ⟨g127, 0, none⟩) k128 k128), x129, 0, rfl, rfl, rfl, rfl, rfl, rfl, hS, hL⟩
      · rintro e w ⟨_, _, _, _, _, _, _, _, _, _, hz⟩; exact nomatch (show none = some _ from hz)
      · rintro k e147 w146 ⟨v138, x137, x139, he140, he141, he142, he143, he144, he145, hS, hF⟩
        refine cw_gen ?_
        intro Q148 hQ148
        refine cw_seq ?_
        refine cw_gen ?_
        intro Q149 hQ149
        refine cw_reg ?_
        refine el_pv (v := .bool (decide (x139 < (a0.length : Int)))) (pv_lss he145 he144) (by decide) ?_
        refine el_nil ?_
        refine hQ149 _ _ _ ?_
        refine thn_n ?_
        refine cw_seq ?_
        refine cw_gen ?_
        intro Q150 hQ150
        replace hF := oif hF
        rcases hF with ⟨hb151, hF⟩ | ⟨hb151, hF⟩
        · refine cw_cond_t rfl hb151 ?_
          refine cw_skip ?_
          refine hQ150 _ _ _ ?_
          refine thn_n ?_
          refine cw_seq ?_
          refine cw_gen ?_
          intro Q152 hQ152
          refine cw_block ?_
          refine cw_gen ?_
          intro Q153 hQ153
          refine cw_seq ?_
          refine cw_gen ?_
          intro Q154 hQ154
          refine cw_reg ?_
          refine el_pv (v := .int .i64 x139) (pv_move he145) (by decide) ?_
          replace hF := ob hF
          obtain ⟨x155, hx155, hF⟩ := hF
          refine el_index (wA := w0) he143 ha0 rfl (by decide) he145 hx155 (by decide) ?_
          intro b156 of157 c158 hr159 hm160
          obtain rfl := hr159
          refine el_pv (v := .int .i64 x155) (pv_loadc rfl ((cells_up hS.below hm160) 0 _ rfl)) (by decide) ?_
          refine el_pv (v := .int .i64 x139) (pv_assign rfl) (by decide) ?_
          refine el_pv (v := .int .i64 x155) (pv_assign rfl) (by decide) ?_
          refine el_nil ?_
          refine hQ154 _ _ _ ?_
          refine thn_n ?_
          refine cw_seq ?_
          refine cw_gen ?_
          intro Q161 hQ161
          refine cw_reg ?_
          refine el_pv (v := .pointer (some ⟨b107, 0 + 0, none⟩)) (pv_fieldAddr he140) (by decide) ?_
          refine el_pv (v := u1) (pv_loadc rfl ((hS.boxAt 2 rfl) 0 _ rfl)) (by decide) ?_
          refine el_pv (v := .int .i64 (a1.length : Int)) (pv_len rfl ha1) (by decide) ?_
          refine el_pv (v := .int .i64 0) (pv_move rfl) (by decide) ?_
          refine el_nil ?_
          refine hQ161 _ _ _ ?_
          refine thn_n ?_
          refine cw_block ?_
          refine cw_gen ?_
          intro Q162 hQ162
          obtain ⟨s163, hL, hK164⟩ := ob hF
          refine cw_loopS (fun k e w => ∃ (v166 : Value), ∃ (x165 : List Int), ∃ (x167 : Int), e 3 = .pointer (some ⟨b107, 0, none⟩) ∧ e 4 = .pointer (some ⟨b111, 0, none⟩) ∧ e 6 = v166 ∧ e 7 = .int .i64 x139 ∧ e 8 = .int .i64 x155 ∧ e 29 = u0 ∧ e 30 = .int .i64 (a0.length : Int) ∧ e 31 = .int .i64 x139 ∧ e 37 = u1 ∧ e 38 = .int .i64 (a1.length : Int) ∧ e 39 = .int .i64 x167 ∧ Sat w0 w [Own (sliceR intR 3) [v166] x165, Box b111 76 [(.slice none 0 0)], Box b107 76 [u1]] ∧ impl_MulBigInt_L2 N k a1 [] x165 x139 x155 a0 (a0.length : Int) x139 a1 (a1.length : Int) x167 = some s163) N ?_ ?_ ?_
          · exact ⟨v138, x137, 0, he140, he141, he142, rfl, rfl, he143, he144, he145, rfl, rfl, rfl, hS, hL⟩
          · rintro e w ⟨_, _, _, _, _, _, _, _, _, _, _, _, _, _, _, hz⟩; exact nomatch (show none = some _ from hz)
          · rintro k e180 w179 ⟨v166, x165, x167, he168, he169, he170, he171, he172, he173, he174, he175, he176, he177, he178, hS, hF⟩
            refine cw_gen ?_
            intro Q181 hQ181
            refine cw_seq ?_
            refine cw_gen ?_
            intro Q182 hQ182
            refine cw_reg ?_
            refine el_pv (v := .bool (decide (x167 < (a1.length : Int)))) (pv_lss he178 he177) (by decide) ?_
            refine el_nil ?_
            refine hQ182 _ _ _ ?_
            refine thn_n ?_
            refine cw_seq ?_
            refine cw_gen ?_
            intro Q183 hQ183
            replace hF := oif hF
            rcases hF with ⟨hb184, hF⟩ | ⟨hb184, hF⟩
            · refine cw_cond_t rfl hb184 ?_
              refine cw_skip ?_
              refine hQ183 _ _ _ ?_
              refine thn_n ?_
              refine cw_seq ?_
              refine cw_gen ?_
              intro Q185 hQ185
              refine cw_block ?_
              refine cw_gen ?_
              intro Q186 hQ186
              refine cw_seq ?_
              refine cw_gen ?_
              intro Q187 hQ187
              refine cw_reg ?_
              refine el_pv (v := .int .i64 x167) (pv_move he178) (by decide) ?_
              replace hF := ob hF
              obtain ⟨x188, hx188, hF⟩ := hF
              refine el_index (wA := w0) he176 ha1 rfl (by decide) he178 hx188 (by decide) ?_
              intro b189 of190 c191 hr192 hm193
              obtain rfl := hr192
              refine el_pv (v := .int .i64 x188) (pv_loadc rfl ((cells_up hS.below hm193) 0 _ rfl)) (by decide) ?_
              refine el_pv (v := .int .i64 x167) (pv_assign rfl) (by decide) ?_
              refine el_pv (v := .int .i64 x188) (pv_assign rfl) (by decide) ?_
              refine el_nil ?_
              refine hQ187 _ _ _ ?_
              refine thn_n ?_
              refine cw_reg ?_
              refine el_pv (v := v166) (pv_move he170) (by decide) ?_
              refine el_pv (v := .int .i64 x139) (pv_move he171) (by decide) ?_
              refine el_pv (v := .int .i64 x167) (pv_move rfl) (by decide) ?_
              replace hF := ob hF
              obtain ⟨x194, hx194, hF⟩ := hF
              refine el_pv (v := .int .i64 x194) (pv_add rfl rfl hx194) (by decide) ?_
              replace hF := ob hF
              obtain ⟨x195, hx195, hF⟩ := hF
              obtain ⟨g196, cap197, hv198⟩ := ownShape 0 hS rfl hx195
              refine el_pv (v := .pointer (some ⟨g196, x194.toNat * 1, none⟩)) (pv_indexF (v := v166) rfl hv198 rfl hx195) (by decide) ?_
              refine el_pv (v := .int .i64 x195) (pv_loadc rfl (hS.ownCell 0 rfl hv198 hx195)) (by decide) ?_
              refine el_pv (v := .int .i64 x155) (pv_move he172) (by decide) ?_
              refine el_pv (v := .int .i64 x188) (pv_move rfl) (by decide) ?_
              replace hF := ob hF
              obtain ⟨x199, hx199, hF⟩ := hF
              refine el_pv (v := .int .i64 x199) (pv_mul rfl rfl hx199) (by decide) ?_
              replace hF := ob hF
              obtain ⟨x200, hx200, hF⟩ := hF
              refine el_pv (v := .int .i64 x200) (pv_add rfl rfl hx200) (by decide) ?_
              replace hF := ob hF
              obtain ⟨x201, hx201, hF⟩ := hF
              obtain ⟨g202, cap203, hv204⟩ := ownShape 0 hS rfl hx201
              refine el_pv (v := .pointer (some ⟨g202, x194.toNat * 1, none⟩)) (pv_indexF (v := v166) rfl hv204 rfl hx201) (by decide) ?_
              replace hF := ob hF
              obtain ⟨x206, hx206, hF⟩ := hF
              replace hS := hS.int x200
              refine el_storeO rfl hv204 hS hx206 rfl rfl ?_
              intro w205 hS
              refine el_nil ?_
              refine hQ186 _ _ _ ?_
              refine inb_n ?_
              refine hQ185 _ _ _ ?_
              refine thn_n ?_
              refine cw_reg ?_
              replace hF := ob hF
              obtain ⟨x207, hx207, hF⟩ := hF
              refine el_pv (v := .int .i64 x207) (pv_add he178 rfl hx207) (by decide) ?_
              refine el_pv (v := .int .i64 x207) (pv_move rfl) (by decide) ?_
              refine el_nil ?_
              refine hQ181 _ _ _ ?_
              refine thn_n ?_
              replace hS := hS.keep 3
              exact ⟨v166, x206, x207, he168, he169, he170, he171, he172, he173, he174, he175, he176, he177, rfl, hS, hF⟩
            · refine cw_cond_f rfl hb184 ?_
              refine cw_exit ?_
              refine hQ183 _ _ _ ?_
              refine thn_x ?_
              refine hQ181 _ _ _ ?_
              refine thn_x ?_
              replace hF := exB hF hK164
              refine hQ162 _ _ _ ?_
              refine inb_s ?_
              refine hQ153 _ _ _ ?_
              refine inb_n ?_
              refine hQ152 _ _ _ ?_
              refine thn_n ?_
              refine cw_reg ?_
              replace hF := ob hF
              obtain ⟨x208, hx208, hF⟩ := hF
              refine el_pv (v := .int .i64 x208) (pv_add he175 rfl hx208) (by decide) ?_
              refine el_pv (v := .int .i64 x208) (pv_move rfl) (by decide) ?_
              refine el_nil ?_
              refine hQ148 _ _ _ ?_
              refine thn_n ?_
              replace hS := hS.keep 3
              exact ⟨v166, x165, x208, he168, he169, he170, he173, he174, rfl, hS, hF⟩
        · refine cw_cond_f rfl hb151 ?_
          refine cw_exit ?_
          refine hQ150 _ _ _ ?_
          refine thn_x ?_
          refine hQ148 _ _ _ ?_
          refine thn_x ?_
          replace hF := exB hF hK136
          refine hQ134 _ _ _ ?_
          refine inb_s ?_
          refine hQ132 _ _ _ ?_
          refine thn_n ?_
          refine cw_seq ?_
          refine cw_gen ?_
          intro Q209 hQ209
          replace hS : Sat w0 w146 [Own (sliceR intR 3) [v138] x137, Box b111 76 [(.slice none 0 0)]] := hS.rems 3 [2] rfl
          refine cw_reg ?_
          refine el_pv (v := v138) (pv_move he142) (by decide) ?_
          replace hF := ob hF
          obtain ⟨r210, hr210, hF⟩ := hF
          refine el_call goes129 (impl_carried_ok (hS.rdAt (R := (sliceR intR 3)) 0 rfl) hr210) (congrArg List.toArray (mapc rfl rfl)) (by decide) ?_
          rintro _ w213 ⟨v211, rfl, hS'⟩
          refine ⟨_, rfl, ?_⟩
          have hx214 := hS'.below
          replace hS := hS.call1 hS'
          refine el_pv (v := .agg #[v211]) (pv_extract rfl rfl) (by decide) ?_
          refine el_pv (v := .bool r210.2) (pv_extract rfl rfl) (by decide) ?_
          refine el_storev (hS.top 2 rfl) he141 [v211] rfl rfl (of_decide_eq_true rfl) (all_cons (oc (hS.rdAt (R := (sliceR intR 3)) 0 rfl)) rfl) ?_
          intro w215 hS
          replace hS : Sat w0 w215 [Box b111 76 [v211], Own (sliceR intR 3) [v211] r210.1, Own (sliceR intR 3) [v138] x137] := hS
          refine el_pv (v := .bool r210.2) (pv_assign rfl) (by decide) ?_
          refine el_nil ?_
          refine hQ209 _ _ _ ?_
          refine thn_n ?_
          refine cw_ret ?_
          refine finCT (cs := [v211]) rfl he141 rfl (boxc0 (hS.boxAt 0 rfl)) rfl ?_
          replace hS : Sat w0 w215 [Own (sliceR intR 3) [v211] r210.1, Box b111 76 [v211], Own (sliceR intR 3) [v138] x137] := hS.tops 3 [1] rfl
          have hr := Option.some.inj hF
          exact ⟨v211, congrArg (fun (r : (List Int) × Bool) => Ending.returned (.tuple #[.agg #[v211], .bool r.2])) hr, Eq.mp (congrArg (fun (r : (List Int) × Bool) => Sat w0 w215 [Own (sliceR intR 3) [v211] r.1]) hr) (hS.keep 1)⟩
    · refine cw_cond_t rfl (bnot_f hb123) ?_
      refine cw_seq ?_
      refine cw_gen ?_
      intro Q216 hQ216
      replace hS : Sat w0 w121 [Box b111 76 [(.slice none 0 0)]] := hS.rems 3 [1, 2] rfl
      refine cw_reg ?_
      refine el_pv (v := .agg #[(.slice none 0 0)]) (pv_build [] [(.slice none 0 0)] rfl rfl) (by decide) ?_
      refine el_storev (hS.top 0 rfl) rfl [(.slice none 0 0)] rfl rfl (of_decide_eq_true rfl) (all_cons rfl rfl) ?_
      intro w217 hS
      replace hS : Sat w0 w217 [Box b111 76 [(.slice none 0 0)]] := hS
      refine el_pv (v := .bool false) (pv_assign rfl) (by decide) ?_
      refine el_nil ?_
      refine hQ216 _ _ _ ?_
      refine thn_n ?_
      refine cw_ret ?_
      refine hQ114 _ _ _ ?_
      refine thn_r ?_
      replace hS := hS.nil intR 3
      refine finCT (cs := [(.slice none 0 0)]) rfl rfl rfl (boxc0 (hS.boxAt 1 rfl)) rfl ?_
      have hr := Option.some.inj hF
      exact ⟨(.slice none 0 0), congrArg (fun (r : (List Int) × Bool) => Ending.returned (.tuple #[.agg #[(.slice none 0 0)], .bool r.2])) hr, Eq.mp (congrArg (fun (r : (List Int) × Bool) => Sat w0 w217 [Own (sliceR intR 3) [(.slice none 0 0)] r.1]) hr) (hS.keep 1)⟩
  · refine el_off rfl (bnot_f hb119) rfl (by decide) ?_
    refine el_off rfl (bnot_f hb119) rfl (by decide) ?_
    refine el_off rfl (bnot_f hb119) rfl (by decide) ?_
    refine el_pv (v := .bool true) (pv_pick_t rfl (bnot_f hb119) rfl) (by decide) ?_
    refine el_nil ?_
    refine hQ115 _ _ _ ?_
    refine thn_n ?_
    refine cw_cond_t rfl rfl ?_
    refine cw_seq ?_
    refine cw_gen ?_
    intro Q219 hQ219
    replace hS : Sat w0 w117 [Box b111 76 [(.slice none 0 0)]] := hS.rems 3 [1, 2] rfl
    refine cw_reg ?_
    refine el_pv (v := .agg #[(.slice none 0 0)]) (pv_build [] [(.slice none 0 0)] rfl rfl) (by decide) ?_
    refine el_storev (hS.top 0 rfl) rfl [(.slice none 0 0)] rfl rfl (of_decide_eq_true rfl) (all_cons rfl rfl) ?_
    intro w220 hS
    replace hS : Sat w0 w220 [Box b111 76 [(.slice none 0 0)]] := hS
    refine el_pv (v := .bool false) (pv_assign rfl) (by decide) ?_
    refine el_nil ?_
    refine hQ219 _ _ _ ?_
    refine thn_n ?_
    refine cw_ret ?_
    refine hQ114 _ _ _ ?_
    refine thn_r ?_
    replace hS := hS.nil intR 3
    refine finCT (cs := [(.slice none 0 0)]) rfl rfl rfl (boxc0 (hS.boxAt 1 rfl)) rfl ?_
    have hr := Option.some.inj hF
    exact ⟨(.slice none 0 0), congrArg (fun (r : (List Int) × Bool) => Ending.returned (.tuple #[.agg #[(.slice none 0 0)], .bool r.2])) hr, Eq.mp (congrArg (fun (r : (List Int) × Bool) => Sat w0 w220 [Own (sliceR intR 3) [(.slice none 0 0)] r.1]) hr) (hS.keep 1)⟩
end Go.Proofs.Ytkpeabpdiffjhaa
