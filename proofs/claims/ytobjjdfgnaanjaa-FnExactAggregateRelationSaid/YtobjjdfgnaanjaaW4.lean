/- The walks through functions of the program: each hands back what it comes to. No condition but that it comes to something. -/
import Derived.Test.YtobjjdfgnaanjaaW3
import Derived.Test.YtobjjdfgnaanjaaW4D
namespace Go.Proofs.Ytobjjdfgnaanjaa
open Go.RowKit
set_option maxRecDepth 100000
theorem spec_IsValidFactorization_ok {w0 : World} {u0 : Value} {a0 : List Int} {u1 : Value} {a1 : List (List Int × List Int)} (ha0 : (sliceR intR 3).rd w0 [u0] a0) (ha1 : (sliceR (pairR (sliceR intR 3) (sliceR intR 3)) 67).rd w0 [u1] a1) {N : Nat} {r : Bool} (hF : spec_IsValidFactorization N a0 a1 = some r) :
    Calls Try.prog 23 #[.agg #[u0, u1]] w0 fun e w' => e = .returned (.bool r) ∧ Ext w0 w' := by
  unfold spec_IsValidFactorization at hF
  refine calls_E Try.func23 rfl rfl (of_decide_eq_true rfl) ?_
  have hS := Sat.start w0
  refine cw_seq ?_
  refine cw_reg ?_
  refine el_box [u0, u1] rfl hS (by decide) ?_
  intro w101 b102 hS hx103
  refine el_pv (pv_assign rfl) (by decide) ?_
  refine el_nil ?_
  refine thn_n ?_
  refine cw_seq ?_
  refine cw_seq ?_
  refine cw_regq (by kernel_rfl) (by kernel_rfl) ?_
  refine ql_pv (pv_fieldAddr rfl) (by decide) ?_
  refine ql_pv (pv_loadc rfl ((hS.boxAt 0 rfl) 0 _ rfl)) (by decide) ?_
  obtain ⟨r105, hr105, hF⟩ := ob hF
  refine ql_call (.bool r105) goes59 (fun w' hw' => spec_IsPermutation_ok (rd_up (hS.up ha0) hw') hr105) (congrArg List.toArray (mapc rfl rfl)) (by decide) ?_
  refine ql_pv (pv_not rfl) (by decide) ?_
  refine ql_pv (pv_move rfl) (by decide) ?_
  rcases oif hF with ⟨hb106, hF⟩ | ⟨hb106, hF⟩
  · refine ql_on rfl (bnot_t hb106) ?_
    refine ql_pv (pv_fieldAddr rfl) (by decide) ?_
    refine ql_on rfl (bnot_t hb106) ?_
    refine ql_pv (pv_loadc rfl ((hS.boxAt 0 rfl) 1 _ rfl)) (by decide) ?_
    refine ql_on rfl (bnot_t hb106) ?_
    refine ql_pv (pv_len rfl ha1) (by decide) ?_
    refine ql_on rfl (bnot_t hb106) ?_
    refine ql_pv (pv_lss rfl rfl) (by decide) ?_
    refine ql_pv (pv_pick_f rfl (bnot_t hb106) rfl) (by decide) ?_
    refine ql_pv (pv_move rfl) (by decide) ?_
    rcases oif hF with ⟨hb107, hF⟩ | ⟨hb107, hF⟩
    · refine ql_off rfl hb107 rfl (by decide) ?_
      refine ql_off rfl hb107 rfl (by decide) ?_
      refine ql_off rfl hb107 rfl (by decide) ?_
      refine ql_off rfl hb107 rfl (by decide) ?_
      refine ql_pv (pv_pick_t rfl hb107 rfl) (by decide) ?_
      refine ql_pv (pv_move rfl) (by decide) ?_
      refine ql_off rfl rfl rfl (by decide) ?_
      refine ql_off rfl rfl rfl (by decide) ?_
      refine ql_off rfl rfl rfl (by decide) ?_
      refine ql_off rfl rfl rfl (by decide) ?_
      refine ql_off rfl rfl rfl (by decide) ?_
      refine ql_off rfl rfl rfl (by decide) ?_
      refine ql_off rfl rfl rfl (by decide) ?_
      refine ql_off rfl rfl rfl (by decide) ?_
      refine ql_off rfl rfl rfl (by decide) ?_
      refine ql_off rfl rfl rfl (by decide) ?_
      refine ql_off rfl rfl rfl (by decide) ?_
      refine ql_off rfl rfl rfl (by decide) ?_
      refine ql_off rfl rfl rfl (by decide) ?_
      refine ql_off rfl rfl rfl (by decide) ?_
      refine ql_pv (pv_pick_t rfl rfl rfl) (by decide) ?_
      refine ql_nil ?_
      intro w108 hx109
      have hS := hS.ext hx109
      refine thn_n ?_
      refine cw_cond_t rfl rfl ?_
      refine cw_seq ?_
      refine cw_reg ?_
      refine el_pv (pv_assign rfl) (by decide) ?_
      refine el_nil ?_
      refine thn_n ?_
      refine cw_ret ?_
      refine thn_r ?_
      obtain rfl := Option.some.inj hF
      refine fin1 rfl rfl ?_
      exact ⟨rfl, hS.below⟩
    · refine ql_on rfl hb107 ?_
      refine ql_pv (pv_fieldAddr rfl) (by decide) ?_
      refine ql_on rfl hb107 ?_
      refine ql_pv (pv_loadc rfl ((hS.boxAt 0 rfl) 1 _ rfl)) (by decide) ?_
      refine ql_on rfl hb107 ?_
      refine ql_pv (pv_len rfl ha1) (by decide) ?_
      refine ql_on rfl hb107 ?_
      refine ql_pv (pv_gtr rfl rfl) (by decide) ?_
      refine ql_pv (pv_pick_f rfl hb107 rfl) (by decide) ?_
      refine ql_pv (pv_move rfl) (by decide) ?_
      rcases oif hF with ⟨hb110, hF⟩ | ⟨hb110, hF⟩
      · refine ql_off rfl hb110 rfl (by decide) ?_
        refine ql_off rfl hb110 rfl (by decide) ?_
        refine ql_off rfl hb110 rfl (by decide) ?_
        refine ql_off rfl hb110 rfl (by decide) ?_
        refine ql_off rfl hb110 rfl (by decide) ?_
        refine ql_off rfl hb110 rfl (by decide) ?_
        refine ql_off rfl hb110 rfl (by decide) ?_
        refine ql_off rfl hb110 rfl (by decide) ?_
        refine ql_off rfl hb110 rfl (by decide) ?_
        refine ql_off rfl hb110 rfl (by decide) ?_
        refine ql_off rfl hb110 rfl (by decide) ?_
        refine ql_off rfl hb110 rfl (by decide) ?_
        refine ql_off rfl hb110 rfl (by decide) ?_
        refine ql_off rfl hb110 rfl (by decide) ?_
        refine ql_pv (pv_pick_t rfl hb110 rfl) (by decide) ?_
        refine ql_nil ?_
        intro w111 hx112
        have hS := hS.ext hx112
        refine thn_n ?_
        refine cw_cond_t rfl rfl ?_
        refine cw_seq ?_
        refine cw_reg ?_
        refine el_pv (pv_assign rfl) (by decide) ?_
        refine el_nil ?_
        refine thn_n ?_
        refine cw_ret ?_
        refine thn_r ?_
        obtain rfl := Option.some.inj hF
        refine fin1 rfl rfl ?_
        exact ⟨rfl, hS.below⟩
      · refine ql_on rfl hb110 ?_
        refine ql_pv (pv_fieldAddr rfl) (by decide) ?_
        refine ql_on rfl hb110 ?_
        refine ql_pv (pv_loadc rfl ((hS.boxAt 0 rfl) 1 _ rfl)) (by decide) ?_
        refine ql_on rfl hb110 ?_
        obtain ⟨x113, hx113, hF⟩ := ob hF
        refine ql_index (wA := w0) rfl ha1 rfl (by decide) rfl hx113 (by decide) ?_
        intro b114 of115 c116 hr117 hm118
        obtain ⟨_, _, rfl, hr119, hr120⟩ := hr117
        obtain ⟨v121, rfl⟩ := slice_one hr119
        obtain ⟨v122, rfl⟩ := slice_one hr120
        refine ql_on rfl hb110 ?_
        refine ql_pv (pv_fieldAddr rfl) (by decide) ?_
        refine ql_on rfl hb110 ?_
        refine ql_pv (pv_loadc rfl ((cells_up hS.below hm118) 0 _ rfl)) (by decide) ?_
        refine ql_on rfl hb110 ?_
        refine ql_pv (pv_len rfl hr119) (by decide) ?_
        refine ql_on rfl hb110 ?_
        refine ql_pv (pv_fieldAddr rfl) (by decide) ?_
        refine ql_on rfl hb110 ?_
        refine ql_pv (pv_loadc rfl ((hS.boxAt 0 rfl) 1 _ rfl)) (by decide) ?_
        refine ql_on rfl hb110 ?_
        obtain ⟨x123, hx123, hF⟩ := ob hF
        refine ql_index (wA := w0) rfl ha1 rfl (by decide) rfl hx123 (by decide) ?_
        intro b124 of125 c126 hr127 hm128
        obtain ⟨_, _, rfl, hr129, hr130⟩ := hr127
        obtain ⟨v131, rfl⟩ := slice_one hr129
        obtain ⟨v132, rfl⟩ := slice_one hr130
        refine ql_on rfl hb110 ?_
        refine ql_pv (pv_fieldAddr rfl) (by decide) ?_
        refine ql_on rfl hb110 ?_
        refine ql_pv (pv_loadc rfl ((cells_up hS.below hm128) 1 _ rfl)) (by decide) ?_
        refine ql_on rfl hb110 ?_
        refine ql_pv (pv_len rfl hr130) (by decide) ?_
        refine ql_on rfl hb110 ?_
        obtain ⟨x133, hx133, hF⟩ := ob hF
        refine ql_pv (pv_add rfl rfl hx133) (by decide) ?_
        refine ql_on rfl hb110 ?_
        refine ql_pv (pv_gtr rfl rfl) (by decide) ?_
        refine ql_pv (pv_pick_f rfl hb110 rfl) (by decide) ?_
        refine ql_nil ?_
        intro w134 hx135
        have hS := hS.ext hx135
        refine thn_n ?_
        rcases oif hF with ⟨hb136, hF⟩ | ⟨hb136, hF⟩
        · refine cw_cond_t rfl hb136 ?_
          refine cw_seq ?_
          refine cw_reg ?_
          refine el_pv (pv_assign rfl) (by decide) ?_
          refine el_nil ?_
          refine thn_n ?_
          refine cw_ret ?_
          refine thn_r ?_
          obtain rfl := Option.some.inj hF
          refine fin1 rfl rfl ?_
          exact ⟨rfl, hS.below⟩
        · refine cw_cond_f rfl hb136 ?_
          refine cw_skip ?_
          refine thn_n ?_
          refine cw_seq ?_
          refine cw_reg ?_
          refine el_buildSlice1 [.int .i64 0] rfl (by rfl) (by decide) rfl (by decide) hS (by decide) ?_
          intro w137 b139 hS hx138
          have hS := hS.int 0
          have hS := hS.top 1 rfl
          have hS := hS.lit1
          refine el_pv (pv_assign rfl) (by decide) ?_
          refine el_nil ?_
          refine thn_n ?_
          refine cw_seq ?_
          refine cw_seq ?_
          refine cw_reg ?_
          refine el_pv (pv_assign rfl) (by decide) ?_
          refine el_nil ?_
          refine thn_n ?_
          refine cw_block ?_
          obtain ⟨s142, hL, hK143⟩ := ob hF
          refine cw_loopS (fun k e w => ∃ (v145 : Value), ∃ (x144 : List Int), ∃ (x146 : Int), e 1 = .pointer (some ⟨b102, 0, none⟩) ∧ e 3 = v145 ∧ e 4 = .int .i64 x146 ∧ Sat w0 w [Own (sliceR intR 3) [v145] x144, Box b102 30 [u0, u1]] ∧ spec_IsValidFactorization_L1 N k a0 a1 x144 x146 = some s142) N ?_ ?_ ?_
          · exact ⟨(.slice (some ⟨b139, 0, none⟩) 1 1), [0], 1, rfl, rfl, rfl, hS, hL⟩
          · rintro e w ⟨_, _, _, _, _, _, _, hz⟩; exact nomatch (show none = some _ from hz)
          · rintro k e151 w150 ⟨v145, x144, x146, he147, he148, he149, hS, hF⟩
            refine cw_seq ?_
            refine cw_seq ?_
            refine cw_reg ?_
            refine el_pv (pv_move he149) (by decide) ?_
            refine el_pv (pv_fieldAddr he147) (by decide) ?_
            refine el_pv (pv_loadc rfl ((hS.boxAt 1 rfl) 1 _ rfl)) (by decide) ?_
            refine el_pv (pv_len rfl ha1) (by decide) ?_
            refine el_pv (pv_lss rfl rfl) (by decide) ?_
            refine el_nil ?_
            refine thn_n ?_
            rcases oif hF with ⟨hb152, hF⟩ | ⟨hb152, hF⟩
            · refine cw_cond_t rfl hb152 ?_
              refine cw_skip ?_
              refine thn_n ?_
              refine cw_seq ?_
              refine cw_block ?_
              refine cw_seq ?_
              refine cw_reg ?_
              refine el_pv (pv_fieldAddr he147) (by decide) ?_
              refine el_pv (pv_loadc rfl ((hS.boxAt 1 rfl) 1 _ rfl)) (by decide) ?_
              refine el_pv (pv_move he149) (by decide) ?_
              obtain ⟨x153, hx153, hF⟩ := ob hF
              refine el_index (wA := w0) rfl ha1 rfl (by decide) rfl hx153 (by decide) ?_
              intro b154 of155 c156 hr157 hm158
              obtain ⟨_, _, rfl, hr159, hr160⟩ := hr157
              obtain ⟨v161, rfl⟩ := slice_one hr159
              obtain ⟨v162, rfl⟩ := slice_one hr160
              refine el_pv (pv_loada (cs := [v161, v162]) rfl rfl (cells_up hS.below hm158)) (by decide) ?_
              refine el_alloc hS (by decide) ?_
              intro w163 b164 hS hx165
              refine el_storev (hS.top 0 rfl) rfl [v161, v162] rfl rfl (of_decide_eq_true rfl) (all_cons (oc hr159) (all_cons (oc hr160) rfl)) ?_
              intro w167 hS
              replace hS : Sat w0 w167 (Box b164 67 [v161, v162] :: _) := hS
              refine el_nil ?_
              refine thn_n ?_
              refine cw_seq ?_
              refine cw_seq ?_
              refine cw_reg ?_
              refine el_pv (pv_fieldAddr rfl) (by decide) ?_
              refine el_pv (pv_loadc rfl ((hS.boxAt 0 rfl) 0 _ rfl)) (by decide) ?_
              refine el_pv (pv_len rfl hr159) (by decide) ?_
              refine el_pv (pv_fieldAddr rfl) (by decide) ?_
              refine el_pv (pv_loadc rfl ((hS.boxAt 0 rfl) 1 _ rfl)) (by decide) ?_
              refine el_pv (pv_len rfl hr160) (by decide) ?_
              refine el_pv (pv_neq rfl rfl) (by decide) ?_
              refine el_pv (pv_move rfl) (by decide) ?_
              rcases oif hF with ⟨hb168, hF⟩ | ⟨hb168, hF⟩
              · refine el_off rfl hb168 rfl (by decide) ?_
                refine el_off rfl hb168 rfl (by decide) ?_
                refine el_off rfl hb168 rfl (by decide) ?_
                refine el_off rfl hb168 rfl (by decide) ?_
                refine el_pv (pv_pick_t rfl hb168 rfl) (by decide) ?_
                refine el_pv (pv_move rfl) (by decide) ?_
                refine el_off rfl rfl rfl (by decide) ?_
                refine el_off rfl rfl rfl (by decide) ?_
                refine el_off rfl rfl rfl (by decide) ?_
                refine el_off rfl rfl rfl (by decide) ?_
                refine el_pv (pv_pick_t rfl rfl rfl) (by decide) ?_
                refine el_nil ?_
                refine thn_n ?_
                refine cw_cond_t rfl rfl ?_
                refine cw_seq ?_
                refine cw_reg ?_
                refine el_pv (pv_assign rfl) (by decide) ?_
                refine el_nil ?_
                refine thn_n ?_
                refine cw_ret ?_
                refine thn_r ?_
                refine inb_r ?_
                refine thn_r ?_
                refine thn_r ?_
                refine inb_r ?_
                refine thn_r ?_
                obtain rfl := Option.some.inj hF
                have hF := hK143
                obtain rfl := Option.some.inj hF
                refine fin1 rfl rfl ?_
                exact ⟨rfl, hS.below⟩
              · refine el_on rfl hb168 ?_
                refine el_pv (pv_fieldAddr rfl) (by decide) ?_
                refine el_on rfl hb168 ?_
                refine el_pv (pv_loadc rfl ((hS.boxAt 0 rfl) 0 _ rfl)) (by decide) ?_
                refine el_on rfl hb168 ?_
                obtain ⟨r169, hr169, hF⟩ := ob hF
                refine el_call goes60 (spec_IsStrictlyAscending_ok (hS.up hr159) hr169) (congrArg List.toArray (mapc rfl rfl)) (by decide) ?_
                rintro _ w170 ⟨rfl, hx171⟩
                refine ⟨_, rfl, ?_⟩
                have hS := hS.ext hx171
                refine el_on rfl hb168 ?_
                refine el_pv (pv_not rfl) (by decide) ?_
                refine el_pv (pv_pick_f rfl hb168 rfl) (by decide) ?_
                refine el_pv (pv_move rfl) (by decide) ?_
                rcases oif hF with ⟨hb172, hF⟩ | ⟨hb172, hF⟩
                · refine el_on rfl (bnot_t hb172) ?_
                  refine el_pv (pv_fieldAddr rfl) (by decide) ?_
                  refine el_on rfl (bnot_t hb172) ?_
                  refine el_pv (pv_loadc rfl ((hS.boxAt 0 rfl) 0 _ rfl)) (by decide) ?_
                  refine el_on rfl (bnot_t hb172) ?_
                  obtain ⟨r173, hr173, hF⟩ := ob hF
                  refine el_call goes61 (spec_AreValidValues_ok (hS.up hr159) hr173) (congrArg List.toArray (mapc rfl rfl)) (by decide) ?_
                  rintro _ w174 ⟨rfl, hx175⟩
                  refine ⟨_, rfl, ?_⟩
                  have hS := hS.ext hx175
                  refine el_on rfl (bnot_t hb172) ?_
                  refine el_pv (pv_not rfl) (by decide) ?_
                  refine el_pv (pv_pick_f rfl (bnot_t hb172) rfl) (by decide) ?_
                  refine el_nil ?_
                  refine thn_n ?_
                  rcases oif hF with ⟨hb176, hF⟩ | ⟨hb176, hF⟩
                  · refine cw_cond_f rfl (bnot_t hb176) ?_
                    refine cw_skip ?_
                    refine thn_n ?_
                    refine cw_seq ?_
                    refine cw_seq ?_
                    refine cw_reg ?_
                    refine el_pv (pv_fieldAddr rfl) (by decide) ?_
                    refine el_pv (pv_loadc rfl ((hS.boxAt 0 rfl) 0 _ rfl)) (by decide) ?_
                    refine el_pv (pv_len rfl hr159) (by decide) ?_
                    refine el_pv (pv_eql rfl rfl) (by decide) ?_
                    refine el_nil ?_
                    refine thn_n ?_
                    rcases oif hF with ⟨hb177, hF⟩ | ⟨hb177, hF⟩
                    · refine cw_cond_t rfl hb177 ?_
                      refine cw_seq ?_
                      refine cw_seq ?_
                      refine cw_reg ?_
                      refine el_pv (pv_move he149) (by decide) ?_
                      refine el_pv (pv_fieldAddr he147) (by decide) ?_
                      refine el_pv (pv_loadc rfl ((hS.boxAt 2 rfl) 1 _ rfl)) (by decide) ?_
                      refine el_pv (pv_len rfl ha1) (by decide) ?_
                      obtain ⟨x178, hx178, hF⟩ := ob hF
                      refine el_pv (pv_sub rfl rfl hx178) (by decide) ?_
                      refine el_pv (pv_neq rfl rfl) (by decide) ?_
                      refine el_nil ?_
                      refine thn_n ?_
                      rcases oif hF with ⟨hb179, hF⟩ | ⟨hb179, hF⟩
                      · refine cw_cond_t rfl hb179 ?_
                        refine cw_seq ?_
                        refine cw_reg ?_
                        refine el_pv (pv_assign rfl) (by decide) ?_
                        refine el_nil ?_
                        refine thn_n ?_
                        refine cw_ret ?_
                        refine thn_r ?_
                        refine thn_r ?_
                        refine inb_r ?_
                        refine thn_r ?_
                        refine thn_r ?_
                        refine inb_r ?_
                        refine thn_r ?_
                        obtain rfl := Option.some.inj hF
                        have hF := hK143
                        obtain rfl := Option.some.inj hF
                        refine fin1 rfl rfl ?_
                        exact ⟨rfl, hS.below⟩
                      · refine cw_cond_f rfl hb179 ?_
                        refine cw_skip ?_
                        refine thn_n ?_
                        refine cw_seq ?_
                        refine cw_reg ?_
                        refine el_pv (pv_move he148) (by decide) ?_
                        refine el_pv (pv_fieldAddr he147) (by decide) ?_
                        refine el_pv (pv_loadc rfl ((hS.boxAt 2 rfl) 0 _ rfl)) (by decide) ?_
                        refine el_pv (pv_len rfl ha0) (by decide) ?_
                        refine el_buildSlice1 [.int .i64 (a0.length : Int)] rfl (by rfl) (by decide) rfl (by decide) hS (by decide) ?_
                        intro w180 b182 hS hx181
                        obtain ⟨x186, hx186, hF⟩ := ob hF
                        have hrow187 := hS.boxRow 0 rfl
                        have hS := hS.top 2 rfl
                        have hS := hS.int (a0.length : Int)
                        have hS := hS.one
                        refine el_append rfl (by decide) rfl (by decide) hS rfl rfl rfl (by simp) hrow187 hx186 (by decide) ?_
                        intro w184 v185 hS
                        refine el_pv (pv_assign rfl) (by decide) ?_
                        refine el_nil ?_
                        refine thn_n ?_
                        refine cw_exit ?_
                        refine thn_x ?_
                        refine inb_s ?_
                        refine thn_n ?_
                        refine cw_reg ?_
                        refine el_pv (pv_move he149) (by decide) ?_
                        obtain ⟨x189, hx189, hF⟩ := ob hF
                        refine el_pv (pv_add rfl rfl hx189) (by decide) ?_
                        refine el_pv (pv_assign rfl) (by decide) ?_
                        refine el_nil ?_
                        refine thn_n ?_
                        have hS := hS.top 3 rfl
                        have hS := hS.top 1 rfl
                        have hS := hS.keep 2
                        exact ⟨v185, x186, x189, he147, rfl, rfl, hS, hF⟩
                    · refine cw_cond_f rfl hb177 ?_
                      refine cw_skip ?_
                      refine thn_n ?_
                      refine cw_seq ?_
                      refine cw_seq ?_
                      refine cw_reg ?_
                      refine el_pv (pv_assign rfl) (by decide) ?_
                      refine el_nil ?_
                      refine thn_n ?_
                      refine cw_block ?_
                      obtain ⟨s190, hL, hK191⟩ := ob hF
                      refine cw_loopS (fun k e w => ∃ (x192 : Int), e 1 = .pointer (some ⟨b102, 0, none⟩) ∧ e 3 = v145 ∧ e 4 = .int .i64 x146 ∧ e 5 = .pointer (some ⟨b164, 0, none⟩) ∧ e 6 = .int .i64 x192 ∧ Sat w0 w [Box b164 67 [v161, v162], Own (sliceR intR 3) [v145] x144, Box b102 30 [u0, u1]] ∧ spec_IsValidFactorization_L2 N k a0 a1 x144 x146 x153.1 x153.2 x192 = some s190) N ?_ ?_ ?_
                      · exact ⟨0, he147, he148, he149, rfl, rfl, hS, hL⟩
                      · rintro e w ⟨_, _, _, _, _, _, _, hz⟩; exact nomatch (show none = some _ from hz)
                      · rintro k e199 w198 ⟨x192, he193, he194, he195, he196, he197, hS, hF⟩
                        refine cw_seq ?_
                        refine cw_seq ?_
                        refine cw_reg ?_
                        refine el_pv (pv_move he197) (by decide) ?_
                        refine el_pv (pv_fieldAddr he196) (by decide) ?_
                        refine el_pv (pv_loadc rfl ((hS.boxAt 0 rfl) 1 _ rfl)) (by decide) ?_
                        refine el_pv (pv_len rfl hr160) (by decide) ?_
                        refine el_pv (pv_lss rfl rfl) (by decide) ?_
                        refine el_nil ?_
                        refine thn_n ?_
                        rcases oif hF with ⟨hb200, hF⟩ | ⟨hb200, hF⟩
                        · refine cw_cond_t rfl hb200 ?_
                          refine cw_skip ?_
                          refine thn_n ?_
                          refine cw_seq ?_
                          refine cw_block ?_
                          refine cw_seq ?_
                          refine cw_regq (by kernel_rfl) (by kernel_rfl) ?_
                          refine ql_pv (pv_fieldAddr he196) (by decide) ?_
                          refine ql_pv (pv_loadc rfl ((hS.boxAt 0 rfl) 1 _ rfl)) (by decide) ?_
                          refine ql_pv (pv_move he197) (by decide) ?_
                          obtain ⟨x201, hx201, hF⟩ := ob hF
                          refine ql_index (wA := w0) rfl hr160 rfl (by decide) rfl hx201 (by decide) ?_
                          intro b202 of203 c204 hr205 hm206
                          obtain rfl := hr205
                          refine ql_pv (pv_loadc rfl ((cells_up hS.below hm206) 0 _ rfl)) (by decide) ?_
                          refine ql_pv (pv_move he195) (by decide) ?_
                          obtain ⟨x207, hx207, hF⟩ := ob hF
                          refine ql_pv (pv_sub rfl rfl hx207) (by decide) ?_
                          obtain ⟨r208, hr208, hF⟩ := ob hF
                          refine ql_call (.bool r208) goes62 (fun w' hw' => spec_l1In_ok hr208) (congrArg List.toArray (mapc rfl (mapc rfl (mapc rfl rfl)))) (by decide) ?_
                          refine ql_pv (pv_not rfl) (by decide) ?_
                          refine ql_pv (pv_move rfl) (by decide) ?_
                          rcases oif hF with ⟨hb209, hF⟩ | ⟨hb209, hF⟩
                          · refine ql_on rfl (bnot_t hb209) ?_
                            refine ql_pv (pv_move he194) (by decide) ?_
                            refine ql_on rfl (bnot_t hb209) ?_
                            refine ql_pv (pv_fieldAddr he196) (by decide) ?_
                            refine ql_on rfl (bnot_t hb209) ?_
                            refine ql_pv (pv_loadc rfl ((hS.boxAt 0 rfl) 1 _ rfl)) (by decide) ?_
                            refine ql_on rfl (bnot_t hb209) ?_
                            refine ql_pv (pv_move he197) (by decide) ?_
                            refine ql_on rfl (bnot_t hb209) ?_
                            obtain ⟨x210, hx210, hF⟩ := ob hF
                            refine ql_index (wA := w0) rfl hr160 rfl (by decide) rfl hx210 (by decide) ?_
                            intro b211 of212 c213 hr214 hm215
                            obtain rfl := hr214
                            refine ql_on rfl (bnot_t hb209) ?_
                            refine ql_pv (pv_loadc rfl ((cells_up hS.below hm215) 0 _ rfl)) (by decide) ?_
                            refine ql_on rfl (bnot_t hb209) ?_
                            obtain ⟨x216, hx216, hF⟩ := ob hF
                            refine ql_index (wA := w198) rfl (hS.rdAt (R := (sliceR intR 3)) 1 rfl) rfl (by decide) rfl hx216 (by decide) ?_
                            intro b217 of218 c219 hr220 hm221
                            obtain rfl := hr220
                            refine ql_on rfl (bnot_t hb209) ?_
                            refine ql_pv (pv_loadc rfl (hm221 0 _ rfl)) (by decide) ?_
                            refine ql_on rfl (bnot_t hb209) ?_
                            refine ql_pv (pv_move he194) (by decide) ?_
                            refine ql_on rfl (bnot_t hb209) ?_
                            refine ql_pv (pv_fieldAddr he196) (by decide) ?_
                            refine ql_on rfl (bnot_t hb209) ?_
                            refine ql_pv (pv_loadc rfl ((hS.boxAt 0 rfl) 1 _ rfl)) (by decide) ?_
                            refine ql_on rfl (bnot_t hb209) ?_
                            obtain ⟨x222, hx222, hF⟩ := ob hF
                            refine ql_index (wA := w0) rfl hr160 rfl (by decide) rfl hx222 (by decide) ?_
                            intro b223 of224 c225 hr226 hm227
                            obtain rfl := hr226
                            refine ql_on rfl (bnot_t hb209) ?_
                            refine ql_pv (pv_loadc rfl ((cells_up hS.below hm227) 0 _ rfl)) (by decide) ?_
                            refine ql_on rfl (bnot_t hb209) ?_
                            obtain ⟨x228, hx228, hF⟩ := ob hF
                            refine ql_index (wA := w198) rfl (hS.rdAt (R := (sliceR intR 3)) 1 rfl) rfl (by decide) rfl hx228 (by decide) ?_
                            intro b229 of230 c231 hr232 hm233
                            obtain rfl := hr232
                            refine ql_on rfl (bnot_t hb209) ?_
                            refine ql_pv (pv_loadc rfl (hm233 0 _ rfl)) (by decide) ?_
                            refine ql_on rfl (bnot_t hb209) ?_
                            refine ql_pv (pv_neq rfl rfl) (by decide) ?_
                            refine ql_pv (pv_pick_f rfl (bnot_t hb209) rfl) (by decide) ?_
                            refine ql_nil ?_
                            intro w234 hx235
                            have hS := hS.ext hx235
                            have hm221 := cells_up hx235 hm221
                            have hm233 := cells_up hx235 hm233
                            refine thn_n ?_
                            rcases oif hF with ⟨hb236, hF⟩ | ⟨hb236, hF⟩
                            · refine cw_cond_t rfl hb236 ?_
                              refine cw_seq ?_
                              refine cw_reg ?_
                              refine el_pv (pv_assign rfl) (by decide) ?_
                              refine el_nil ?_
                              refine thn_n ?_
                              refine cw_ret ?_
                              refine inb_r ?_
                              refine thn_r ?_
                              refine thn_r ?_
                              refine inb_r ?_
                              refine thn_r ?_
                              refine inb_r ?_
                              refine thn_r ?_
                              refine thn_r ?_
                              refine inb_r ?_
                              refine thn_r ?_
                              obtain rfl := Option.some.inj hF
                              have hF := hK191
                              obtain rfl := Option.some.inj hF
                              have hF := hK143
                              obtain rfl := Option.some.inj hF
                              refine fin1 rfl rfl ?_
                              exact ⟨rfl, hS.below⟩
                            · refine cw_cond_f rfl hb236 ?_
                              refine cw_skip ?_
                              refine inb_n ?_
                              refine thn_n ?_
                              refine cw_reg ?_
                              refine el_pv (pv_move he197) (by decide) ?_
                              obtain ⟨x237, hx237, hF⟩ := ob hF
                              refine el_pv (pv_add rfl rfl hx237) (by decide) ?_
                              refine el_pv (pv_assign rfl) (by decide) ?_
                              refine el_nil ?_
                              refine thn_n ?_
                              have hS := hS.top 2 rfl
                              have hS := hS.top 2 rfl
                              have hS := hS.top 2 rfl
                              have hS := hS.keep 3
                              exact ⟨x237, he193, he194, he195, he196, rfl, hS, hF⟩
                          · refine ql_off rfl (bnot_f hb209) rfl (by decide) ?_
                            refine ql_off rfl (bnot_f hb209) rfl (by decide) ?_
                            refine ql_off rfl (bnot_f hb209) rfl (by decide) ?_
                            refine ql_off rfl (bnot_f hb209) rfl (by decide) ?_
                            refine ql_off rfl (bnot_f hb209) rfl (by decide) ?_
                            refine ql_off rfl (bnot_f hb209) rfl (by decide) ?_
                            refine ql_off rfl (bnot_f hb209) rfl (by decide) ?_
                            refine ql_off rfl (bnot_f hb209) rfl (by decide) ?_
                            refine ql_off rfl (bnot_f hb209) rfl (by decide) ?_
                            refine ql_off rfl (bnot_f hb209) rfl (by decide) ?_
                            refine ql_off rfl (bnot_f hb209) rfl (by decide) ?_
                            refine ql_off rfl (bnot_f hb209) rfl (by decide) ?_
                            refine ql_off rfl (bnot_f hb209) rfl (by decide) ?_
                            refine ql_off rfl (bnot_f hb209) rfl (by decide) ?_
                            refine ql_off rfl (bnot_f hb209) rfl (by decide) ?_
                            refine ql_off rfl (bnot_f hb209) rfl (by decide) ?_
                            refine ql_pv (pv_pick_t rfl (bnot_f hb209) rfl) (by decide) ?_
                            refine ql_nil ?_
                            intro w238 hx239
                            have hS := hS.ext hx239
                            refine thn_n ?_
                            refine cw_cond_t rfl rfl ?_
                            refine cw_seq ?_
                            refine cw_reg ?_
                            refine el_pv (pv_assign rfl) (by decide) ?_
                            refine el_nil ?_
                            refine thn_n ?_
                            refine cw_ret ?_
                            refine inb_r ?_
                            refine thn_r ?_
                            refine thn_r ?_
                            refine inb_r ?_
                            refine thn_r ?_
                            refine inb_r ?_
                            refine thn_r ?_
                            refine thn_r ?_
                            refine inb_r ?_
                            refine thn_r ?_
                            obtain rfl := Option.some.inj hF
                            have hF := hK191
                            obtain rfl := Option.some.inj hF
                            have hF := hK143
                            obtain rfl := Option.some.inj hF
                            refine fin1 rfl rfl ?_
                            exact ⟨rfl, hS.below⟩
                        · refine cw_cond_f rfl hb200 ?_
                          refine cw_exit ?_
                          refine thn_x ?_
                          refine thn_x ?_
                          obtain rfl := Option.some.inj hF
                          have hF := hK191
                          refine inb_s ?_
                          refine thn_n ?_
                          refine cw_seq ?_
                          refine cw_reg ?_
                          refine el_pv (pv_move he194) (by decide) ?_
                          refine el_pv (pv_move he194) (by decide) ?_
                          refine el_pv (pv_fieldAddr he196) (by decide) ?_
                          refine el_pv (pv_loadc rfl ((hS.boxAt 0 rfl) 1 _ rfl)) (by decide) ?_
                          obtain ⟨x240, hx240, hF⟩ := ob hF
                          refine el_index (wA := w0) rfl hr160 rfl (by decide) rfl hx240 (by decide) ?_
                          intro b241 of242 c243 hr244 hm245
                          obtain rfl := hr244
                          refine el_pv (pv_loadc rfl ((cells_up hS.below hm245) 0 _ rfl)) (by decide) ?_
                          obtain ⟨x246, hx246, hF⟩ := ob hF
                          refine el_index (wA := w198) rfl (hS.rdAt (R := (sliceR intR 3)) 1 rfl) rfl (by decide) rfl hx246 (by decide) ?_
                          intro b247 of248 c249 hr250 hm251
                          obtain rfl := hr250
                          refine el_pv (pv_loadc rfl (hm251 0 _ rfl)) (by decide) ?_
                          obtain ⟨x252, hx252, hF⟩ := ob hF
                          refine el_pv (pv_add rfl rfl hx252) (by decide) ?_
                          refine el_buildSlice1 [.int .i64 x252] rfl (by rfl) (by decide) rfl (by decide) hS (by decide) ?_
                          intro w253 b255 hS hx254
                          have hm251 := cells_up hx254 hm251
                          obtain ⟨x259, hx259, hF⟩ := ob hF
                          have hrow260 := hS.boxRow 0 rfl
                          have hS := hS.top 2 rfl
                          have hS := hS.int x252
                          have hS := hS.one
                          refine el_append rfl (by decide) rfl (by decide) hS rfl rfl rfl (by simp) hrow260 hx259 (by decide) ?_
                          intro w257 v258 hS
                          refine el_pv (pv_assign rfl) (by decide) ?_
                          refine el_nil ?_
                          refine thn_n ?_
                          refine cw_seq ?_
                          refine cw_reg ?_
                          refine el_pv (pv_assign rfl) (by decide) ?_
                          refine el_nil ?_
                          refine thn_n ?_
                          refine cw_block ?_
                          obtain ⟨s262, hL, hK263⟩ := ob hF
                          have hS := hS.rem 1 rfl
                          refine cw_loopS (fun k e w => ∃ (x264 : Int), e 1 = .pointer (some ⟨b102, 0, none⟩) ∧ e 3 = v258 ∧ e 4 = .int .i64 x146 ∧ e 5 = .pointer (some ⟨b164, 0, none⟩) ∧ e 7 = .int .i64 x264 ∧ Sat w0 w [Own (sliceR intR 3) [v258] x259, Box b164 67 [v161, v162], Box b102 30 [u0, u1]] ∧ spec_IsValidFactorization_L3 N k a0 a1 x259 x146 x153.1 x153.2 x264 = some s262) N ?_ ?_ ?_
                          · exact ⟨1, he193, rfl, he195, he196, rfl, hS, hL⟩
                          · rintro e w ⟨_, _, _, _, _, _, _, hz⟩; exact nomatch (show none = some _ from hz)
                          · rintro k e271 w270 ⟨x264, he265, he266, he267, he268, he269, hS, hF⟩
                            refine cw_seq ?_
                            refine cw_seq ?_
                            refine cw_reg ?_
                            refine el_pv (pv_move he269) (by decide) ?_
                            refine el_pv (pv_move he267) (by decide) ?_
                            refine el_pv (pv_lss rfl rfl) (by decide) ?_
                            refine el_nil ?_
                            refine thn_n ?_
                            rcases oif hF with ⟨hb272, hF⟩ | ⟨hb272, hF⟩
                            · refine cw_cond_t rfl hb272 ?_
                              refine cw_skip ?_
                              refine thn_n ?_
                              refine cw_seq ?_
                              refine cw_block ?_
                              refine cw_seq ?_
                              refine cw_regq (by kernel_rfl) (by kernel_rfl) ?_
                              refine ql_pv (pv_fieldAddr he265) (by decide) ?_
                              refine ql_pv (pv_loadc rfl ((hS.boxAt 2 rfl) 1 _ rfl)) (by decide) ?_
                              refine ql_pv (pv_move he269) (by decide) ?_
                              obtain ⟨x273, hx273, hF⟩ := ob hF
                              refine ql_index (wA := w0) rfl ha1 rfl (by decide) rfl hx273 (by decide) ?_
                              intro b274 of275 c276 hr277 hm278
                              obtain ⟨_, _, rfl, hr279, hr280⟩ := hr277
                              obtain ⟨v281, rfl⟩ := slice_one hr279
                              obtain ⟨v282, rfl⟩ := slice_one hr280
                              refine ql_pv (pv_fieldAddr rfl) (by decide) ?_
                              refine ql_pv (pv_loadc rfl ((cells_up hS.below hm278) 0 _ rfl)) (by decide) ?_
                              refine ql_pv (pv_fieldAddr he268) (by decide) ?_
                              refine ql_pv (pv_loadc rfl ((hS.boxAt 1 rfl) 0 _ rfl)) (by decide) ?_
                              obtain ⟨r283, hr283, hF⟩ := ob hF
                              refine ql_call (.int .i64 r283) goes46 (fun w' hw' => spec_CompareRows_ok (rd_up (hS.up hr279) hw') (rd_up (hS.up hr159) hw') hr283) (congrArg List.toArray (mapc rfl (mapc rfl rfl))) (by decide) ?_
                              refine ql_pv (pv_eql rfl rfl) (by decide) ?_
                              refine ql_pv (pv_move rfl) (by decide) ?_
                              rcases oif hF with ⟨hb284, hF⟩ | ⟨hb284, hF⟩
                              · refine ql_on rfl hb284 ?_
                                refine ql_pv (pv_fieldAddr he265) (by decide) ?_
                                refine ql_on rfl hb284 ?_
                                refine ql_pv (pv_loadc rfl ((hS.boxAt 2 rfl) 1 _ rfl)) (by decide) ?_
                                refine ql_on rfl hb284 ?_
                                refine ql_pv (pv_move he269) (by decide) ?_
                                refine ql_on rfl hb284 ?_
                                obtain ⟨x285, hx285, hF⟩ := ob hF
                                refine ql_index (wA := w0) rfl ha1 rfl (by decide) rfl hx285 (by decide) ?_
                                intro b286 of287 c288 hr289 hm290
                                obtain ⟨_, _, rfl, hr291, hr292⟩ := hr289
                                obtain ⟨v293, rfl⟩ := slice_one hr291
                                obtain ⟨v294, rfl⟩ := slice_one hr292
                                refine ql_on rfl hb284 ?_
                                refine ql_pv (pv_fieldAddr rfl) (by decide) ?_
                                refine ql_on rfl hb284 ?_
                                refine ql_pv (pv_loadc rfl ((cells_up hS.below hm290) 1 _ rfl)) (by decide) ?_
                                refine ql_on rfl hb284 ?_
                                refine ql_pv (pv_fieldAddr he268) (by decide) ?_
                                refine ql_on rfl hb284 ?_
                                refine ql_pv (pv_loadc rfl ((hS.boxAt 1 rfl) 1 _ rfl)) (by decide) ?_
                                refine ql_on rfl hb284 ?_
                                obtain ⟨r295, hr295, hF⟩ := ob hF
                                refine ql_call (.int .i64 r295) goes46 (fun w' hw' => spec_CompareRows_ok (rd_up (hS.up hr292) hw') (rd_up (hS.up hr160) hw') hr295) (congrArg List.toArray (mapc rfl (mapc rfl rfl))) (by decide) ?_
                                refine ql_on rfl hb284 ?_
                                refine ql_pv (pv_eql rfl rfl) (by decide) ?_
                                refine ql_pv (pv_pick_t rfl hb284 rfl) (by decide) ?_
                                refine ql_nil ?_
                                intro w296 hx297
                                have hS := hS.ext hx297
                                refine thn_n ?_
                                rcases oif hF with ⟨hb298, hF⟩ | ⟨hb298, hF⟩
                                · refine cw_cond_t rfl hb298 ?_
                                  refine cw_seq ?_
                                  refine cw_reg ?_
                                  refine el_pv (pv_assign rfl) (by decide) ?_
                                  refine el_nil ?_
                                  refine thn_n ?_
                                  refine cw_ret ?_
                                  refine inb_r ?_
                                  refine thn_r ?_
                                  refine thn_r ?_
                                  refine inb_r ?_
                                  refine inb_r ?_
                                  refine thn_r ?_
                                  refine thn_r ?_
                                  refine inb_r ?_
                                  refine thn_r ?_
                                  obtain rfl := Option.some.inj hF
                                  have hF := hK263
                                  obtain rfl := Option.some.inj hF
                                  have hF := hK143
                                  obtain rfl := Option.some.inj hF
                                  refine fin1 rfl rfl ?_
                                  exact ⟨rfl, hS.below⟩
                                · refine cw_cond_f rfl hb298 ?_
                                  refine cw_skip ?_
                                  refine inb_n ?_
                                  refine thn_n ?_
                                  refine cw_reg ?_
                                  refine el_pv (pv_move he269) (by decide) ?_
                                  obtain ⟨x299, hx299, hF⟩ := ob hF
                                  refine el_pv (pv_add rfl rfl hx299) (by decide) ?_
                                  refine el_pv (pv_assign rfl) (by decide) ?_
                                  refine el_nil ?_
                                  refine thn_n ?_
                                  have hS := hS.top 2 rfl
                                  have hS := hS.top 2 rfl
                                  have hS := hS.top 2 rfl
                                  have hS := hS.keep 3
                                  exact ⟨x299, he265, he266, he267, he268, rfl, hS, hF⟩
                              · refine ql_off rfl hb284 rfl (by decide) ?_
                                refine ql_off rfl hb284 rfl (by decide) ?_
                                refine ql_off rfl hb284 rfl (by decide) ?_
                                refine ql_off rfl hb284 rfl (by decide) ?_
                                refine ql_off rfl hb284 rfl (by decide) ?_
                                refine ql_off rfl hb284 rfl (by decide) ?_
                                refine ql_off rfl hb284 rfl (by decide) ?_
                                refine ql_off rfl hb284 rfl (by decide) ?_
                                refine ql_off rfl hb284 rfl (by decide) ?_
                                refine ql_off rfl hb284 rfl (by decide) ?_
                                refine ql_pv (pv_pick_f rfl hb284 rfl) (by decide) ?_
                                refine ql_nil ?_
                                intro w300 hx301
                                have hS := hS.ext hx301
                                refine thn_n ?_
                                refine cw_cond_f rfl rfl ?_
                                refine cw_skip ?_
                                refine inb_n ?_
                                refine thn_n ?_
                                refine cw_reg ?_
                                refine el_pv (pv_move he269) (by decide) ?_
                                obtain ⟨x302, hx302, hF⟩ := ob hF
                                refine el_pv (pv_add rfl rfl hx302) (by decide) ?_
                                refine el_pv (pv_assign rfl) (by decide) ?_
                                refine el_nil ?_
                                refine thn_n ?_
                                have hS := hS.top 2 rfl
                                have hS := hS.top 2 rfl
                                have hS := hS.top 2 rfl
                                have hS := hS.keep 3
                                exact ⟨x302, he265, he266, he267, he268, rfl, hS, hF⟩
                            · refine cw_cond_f rfl hb272 ?_
                              refine cw_exit ?_
                              refine thn_x ?_
                              refine thn_x ?_
                              obtain rfl := Option.some.inj hF
                              have hF := hK263
                              refine inb_s ?_
                              refine inb_n ?_
                              refine thn_n ?_
                              refine cw_reg ?_
                              refine el_pv (pv_move he267) (by decide) ?_
                              obtain ⟨x303, hx303, hF⟩ := ob hF
                              refine el_pv (pv_add rfl rfl hx303) (by decide) ?_
                              refine el_pv (pv_assign rfl) (by decide) ?_
                              refine el_nil ?_
                              refine thn_n ?_
                              have hS := hS.top 2 rfl
                              have hS := hS.top 1 rfl
                              have hS := hS.keep 2
                              exact ⟨v258, x259, x303, he265, he266, rfl, hS, hF⟩
                  · refine cw_cond_t rfl (bnot_f hb176) ?_
                    refine cw_seq ?_
                    refine cw_reg ?_
                    refine el_pv (pv_assign rfl) (by decide) ?_
                    refine el_nil ?_
                    refine thn_n ?_
                    refine cw_ret ?_
                    refine thn_r ?_
                    refine inb_r ?_
                    refine thn_r ?_
                    refine thn_r ?_
                    refine inb_r ?_
                    refine thn_r ?_
                    obtain rfl := Option.some.inj hF
                    have hF := hK143
                    obtain rfl := Option.some.inj hF
                    refine fin1 rfl rfl ?_
                    exact ⟨rfl, hS.below⟩
                · refine el_off rfl (bnot_f hb172) rfl (by decide) ?_
                  refine el_off rfl (bnot_f hb172) rfl (by decide) ?_
                  refine el_off rfl (bnot_f hb172) rfl (by decide) ?_
                  refine el_off rfl (bnot_f hb172) rfl (by decide) ?_
                  refine el_pv (pv_pick_t rfl (bnot_f hb172) rfl) (by decide) ?_
                  refine el_nil ?_
                  refine thn_n ?_
                  refine cw_cond_t rfl rfl ?_
                  refine cw_seq ?_
                  refine cw_reg ?_
                  refine el_pv (pv_assign rfl) (by decide) ?_
                  refine el_nil ?_
                  refine thn_n ?_
                  refine cw_ret ?_
                  refine thn_r ?_
                  refine inb_r ?_
                  refine thn_r ?_
                  refine thn_r ?_
                  refine inb_r ?_
                  refine thn_r ?_
                  obtain rfl := Option.some.inj hF
                  have hF := hK143
                  obtain rfl := Option.some.inj hF
                  refine fin1 rfl rfl ?_
                  exact ⟨rfl, hS.below⟩
            · refine cw_cond_f rfl hb152 ?_
              refine cw_exit ?_
              refine thn_x ?_
              refine thn_x ?_
              obtain rfl := Option.some.inj hF
              have hF := hK143
              refine inb_s ?_
              refine thn_n ?_
              refine cw_seq ?_
              refine cw_regq (by kernel_rfl) (by kernel_rfl) ?_
              refine ql_pv (pv_move he148) (by decide) ?_
              refine ql_pv (pv_move he148) (by decide) ?_
              refine ql_pv (pv_len rfl (hS.rdAt (R := (sliceR intR 3)) 0 rfl)) (by decide) ?_
              obtain ⟨x304, hx304, hF⟩ := ob hF
              refine ql_pv (pv_sub rfl rfl hx304) (by decide) ?_
              obtain ⟨x305, hx305, hF⟩ := ob hF
              refine ql_index (wA := w150) rfl (hS.rdAt (R := (sliceR intR 3)) 0 rfl) rfl (by decide) rfl hx305 (by decide) ?_
              intro b306 of307 c308 hr309 hm310
              obtain rfl := hr309
              refine ql_pv (pv_loadc rfl (hm310 0 _ rfl)) (by decide) ?_
              refine ql_pv (pv_fieldAddr he147) (by decide) ?_
              refine ql_pv (pv_loadc rfl ((hS.boxAt 1 rfl) 0 _ rfl)) (by decide) ?_
              refine ql_pv (pv_len rfl ha0) (by decide) ?_
              refine ql_pv (pv_eql rfl rfl) (by decide) ?_
              refine ql_pv (pv_assign rfl) (by decide) ?_
              refine ql_nil ?_
              intro w311 hx312
              have hS := hS.ext hx312
              have hm310 := cells_up hx312 hm310
              refine thn_n ?_
              refine cw_ret ?_
              obtain rfl := Option.some.inj hF
              refine fin1 rfl rfl ?_
              exact ⟨rfl, hS.below⟩
  · refine ql_off rfl (bnot_f hb106) rfl (by decide) ?_
    refine ql_off rfl (bnot_f hb106) rfl (by decide) ?_
    refine ql_off rfl (bnot_f hb106) rfl (by decide) ?_
    refine ql_off rfl (bnot_f hb106) rfl (by decide) ?_
    refine ql_pv (pv_pick_t rfl (bnot_f hb106) rfl) (by decide) ?_
    refine ql_pv (pv_move rfl) (by decide) ?_
    refine ql_off rfl rfl rfl (by decide) ?_
    refine ql_off rfl rfl rfl (by decide) ?_
    refine ql_off rfl rfl rfl (by decide) ?_
    refine ql_off rfl rfl rfl (by decide) ?_
    refine ql_pv (pv_pick_t rfl rfl rfl) (by decide) ?_
    refine ql_pv (pv_move rfl) (by decide) ?_
    refine ql_off rfl rfl rfl (by decide) ?_
    refine ql_off rfl rfl rfl (by decide) ?_
    refine ql_off rfl rfl rfl (by decide) ?_
    refine ql_off rfl rfl rfl (by decide) ?_
    refine ql_off rfl rfl rfl (by decide) ?_
    refine ql_off rfl rfl rfl (by decide) ?_
    refine ql_off rfl rfl rfl (by decide) ?_
    refine ql_off rfl rfl rfl (by decide) ?_
    refine ql_off rfl rfl rfl (by decide) ?_
    refine ql_off rfl rfl rfl (by decide) ?_
    refine ql_off rfl rfl rfl (by decide) ?_
    refine ql_off rfl rfl rfl (by decide) ?_
    refine ql_off rfl rfl rfl (by decide) ?_
    refine ql_off rfl rfl rfl (by decide) ?_
    refine ql_pv (pv_pick_t rfl rfl rfl) (by decide) ?_
    refine ql_nil ?_
    intro w313 hx314
    have hS := hS.ext hx314
    refine thn_n ?_
    refine cw_cond_t rfl rfl ?_
    refine cw_seq ?_
    refine cw_reg ?_
    refine el_pv (pv_assign rfl) (by decide) ?_
    refine el_nil ?_
    refine thn_n ?_
    refine cw_ret ?_
    refine thn_r ?_
    obtain rfl := Option.some.inj hF
    refine fin1 rfl rfl ?_
    exact ⟨rfl, hS.below⟩
theorem impl_within_ok {w0 : World} {a0 : Int} {a1 : Int} {a2 : Int}  {N : Nat} {r : Bool} (hF : impl_within N a0 a1 a2 = some r) :
    Calls Try.prog 64 #[.int .i64 a0, .int .i64 a1, .int .i64 a2] w0 fun e w' => e = .returned (.bool r) ∧ Ext w0 w' := by
  unfold impl_within at hF
  refine calls_E Try.func64 rfl rfl (of_decide_eq_true rfl) ?_
  have hS := Sat.start w0
  refine cw_seq ?_
  refine cw_reg ?_
  refine el_pv (pv_assign rfl) (by decide) ?_
  refine el_nil ?_
  refine thn_n ?_
  refine cw_seq ?_
  refine cw_reg ?_
  refine el_pv (pv_move rfl) (by decide) ?_
  refine el_pv (pv_move rfl) (by decide) ?_
  refine el_pv (pv_geq rfl rfl) (by decide) ?_
  refine el_pv (pv_move rfl) (by decide) ?_
  rcases oif hF with ⟨hb101, hF⟩ | ⟨hb101, hF⟩
  · refine el_on rfl hb101 ?_
    refine el_pv (pv_move rfl) (by decide) ?_
    refine el_on rfl hb101 ?_
    refine el_pv (pv_move rfl) (by decide) ?_
    refine el_on rfl hb101 ?_
    refine el_pv (pv_leq rfl rfl) (by decide) ?_
    refine el_pv (pv_pick_t rfl hb101 rfl) (by decide) ?_
    refine el_pv (pv_assign rfl) (by decide) ?_
    refine el_nil ?_
    refine thn_n ?_
    refine cw_ret ?_
    obtain rfl := Option.some.inj hF
    refine fin1 rfl rfl ?_
    exact ⟨rfl, hS.below⟩
  · refine el_off rfl hb101 rfl (by decide) ?_
    refine el_off rfl hb101 rfl (by decide) ?_
    refine el_off rfl hb101 rfl (by decide) ?_
    refine el_pv (pv_pick_f rfl hb101 rfl) (by decide) ?_
    refine el_pv (pv_assign rfl) (by decide) ?_
    refine el_nil ?_
    refine thn_n ?_
    refine cw_ret ?_
    obtain rfl := Option.some.inj hF
    refine fin1 rfl rfl ?_
    exact ⟨rfl, hS.below⟩
theorem impl_indexOf_ok {w0 : World} {u0 : Value} {a0 : List Int} {a1 : Int} (ha0 : (sliceR intR 3).rd w0 [u0] a0) {N : Nat} {r : Int} (hF : impl_indexOf N a0 a1 = some r) :
    Calls Try.prog 99 #[u0, .int .i64 a1] w0 fun e w' => e = .returned (.int .i64 r) ∧ Ext w0 w' := by
  unfold impl_indexOf at hF
  refine calls_E Try.func99 rfl rfl (of_decide_eq_true rfl) ?_
  have hS := Sat.start w0
  refine cw_seq ?_
  refine cw_reg ?_
  refine el_pv (pv_assign rfl) (by decide) ?_
  refine el_nil ?_
  refine thn_n ?_
  refine cw_seq ?_
  refine cw_seq ?_
  refine cw_reg ?_
  refine el_pv (pv_move rfl) (by decide) ?_
  refine el_pv (pv_len rfl ha0) (by decide) ?_
  refine el_pv (pv_move rfl) (by decide) ?_
  refine el_nil ?_
  refine thn_n ?_
  refine cw_block ?_
  obtain ⟨s101, hL, hK102⟩ := ob hF
  refine cw_loopS (fun k e w => ∃ (x103 : Int), e 1 = .int .i64 a1 ∧ e 7 = u0 ∧ e 8 = .int .i64 (a0.length : Int) ∧ e 9 = .int .i64 x103 ∧ Sat w0 w [] ∧ impl_indexOf_L1 N k a1 a0 (a0.length : Int) x103 = some s101) N ?_ ?_ ?_
  · exact ⟨0, rfl, rfl, rfl, rfl, hS, hL⟩
  · rintro e w ⟨_, _, _, _, _, _, hz⟩; exact nomatch (show none = some _ from hz)
  · rintro k e109 w108 ⟨x103, he104, he105, he106, he107, hS, hF⟩
    refine cw_seq ?_
    refine cw_reg ?_
    refine el_pv (pv_lss he107 he106) (by decide) ?_
    refine el_nil ?_
    refine thn_n ?_
    refine cw_seq ?_
    rcases oif hF with ⟨hb110, hF⟩ | ⟨hb110, hF⟩
    · refine cw_cond_t rfl hb110 ?_
      refine cw_skip ?_
      refine thn_n ?_
      refine cw_seq ?_
      refine cw_block ?_
      refine cw_seq ?_
      refine cw_reg ?_
      refine el_pv (pv_move he107) (by decide) ?_
      obtain ⟨x111, hx111, hF⟩ := ob hF
      refine el_index (wA := w0) he105 ha0 rfl (by decide) he107 hx111 (by decide) ?_
      intro b112 of113 c114 hr115 hm116
      obtain rfl := hr115
      refine el_pv (pv_loadc rfl ((cells_up hS.below hm116) 0 _ rfl)) (by decide) ?_
      refine el_pv (pv_assign rfl) (by decide) ?_
      refine el_pv (pv_assign rfl) (by decide) ?_
      refine el_nil ?_
      refine thn_n ?_
      refine cw_seq ?_
      refine cw_reg ?_
      refine el_pv (pv_move rfl) (by decide) ?_
      refine el_pv (pv_move he104) (by decide) ?_
      refine el_pv (pv_eql rfl rfl) (by decide) ?_
      refine el_nil ?_
      refine thn_n ?_
      rcases oif hF with ⟨hb117, hF⟩ | ⟨hb117, hF⟩
      · refine cw_cond_t rfl hb117 ?_
        refine cw_seq ?_
        refine cw_reg ?_
        refine el_pv (pv_move rfl) (by decide) ?_
        refine el_pv (pv_assign rfl) (by decide) ?_
        refine el_nil ?_
        refine thn_n ?_
        refine cw_ret ?_
        refine inb_r ?_
        refine thn_r ?_
        refine thn_r ?_
        refine inb_r ?_
        refine thn_r ?_
        obtain rfl := Option.some.inj hF
        have hF := hK102
        obtain rfl := Option.some.inj hF
        refine fin1 rfl rfl ?_
        exact ⟨rfl, hS.below⟩
      · refine cw_cond_f rfl hb117 ?_
        refine cw_skip ?_
        refine inb_n ?_
        refine thn_n ?_
        refine cw_reg ?_
        obtain ⟨x118, hx118, hF⟩ := ob hF
        refine el_pv (pv_add he107 rfl hx118) (by decide) ?_
        refine el_pv (pv_move rfl) (by decide) ?_
        refine el_nil ?_
        refine thn_n ?_
        have hS := hS.keep 0
        exact ⟨x118, he104, he105, he106, rfl, hS, hF⟩
    · refine cw_cond_f rfl hb110 ?_
      refine cw_exit ?_
      refine thn_x ?_
      refine thn_x ?_
      obtain rfl := Option.some.inj hF
      have hF := hK102
      refine inb_s ?_
      refine thn_n ?_
      refine cw_seq ?_
      refine cw_reg ?_
      refine el_pv (pv_assign rfl) (by decide) ?_
      refine el_nil ?_
      refine thn_n ?_
      refine cw_ret ?_
      obtain rfl := Option.some.inj hF
      refine fin1 rfl rfl ?_
      exact ⟨rfl, hS.below⟩
theorem impl_hasInt_ok {w0 : World} {u0 : Value} {a0 : List Int} {a1 : Int} (ha0 : (sliceR intR 3).rd w0 [u0] a0) {N : Nat} {r : Bool} (hF : impl_hasInt N a0 a1 = some r) :
    Calls Try.prog 96 #[u0, .int .i64 a1] w0 fun e w' => e = .returned (.bool r) ∧ Ext w0 w' := by
  unfold impl_hasInt at hF
  refine calls_E Try.func96 rfl rfl (of_decide_eq_true rfl) ?_
  have hS := Sat.start w0
  refine cw_seq ?_
  refine cw_reg ?_
  refine el_pv (pv_assign rfl) (by decide) ?_
  refine el_nil ?_
  refine thn_n ?_
  refine cw_seq ?_
  refine cw_reg ?_
  refine el_pv (pv_move rfl) (by decide) ?_
  refine el_pv (pv_move rfl) (by decide) ?_
  obtain ⟨r101, hr101, hF⟩ := ob hF
  refine el_call goes99 (impl_indexOf_ok (hS.up ha0) hr101) (congrArg List.toArray (mapc rfl (mapc rfl rfl))) (by decide) ?_
  rintro _ w102 ⟨rfl, hx103⟩
  refine ⟨_, rfl, ?_⟩
  have hS := hS.ext hx103
  refine el_pv (pv_geq rfl rfl) (by decide) ?_
  refine el_pv (pv_assign rfl) (by decide) ?_
  refine el_nil ?_
  refine thn_n ?_
  refine cw_ret ?_
  obtain rfl := Option.some.inj hF
  refine fin1 rfl rfl ?_
  exact ⟨rfl, hS.below⟩
theorem impl_isSetOf_ok {w0 : World} {u0 : Value} {a0 : List Int} {a1 : Int} (ha0 : (sliceR intR 3).rd w0 [u0] a0) {N : Nat} {r : Bool} (hF : impl_isSetOf N a0 a1 = some r) :
    Calls Try.prog 87 #[u0, .int .i64 a1] w0 fun e w' => e = .returned (.bool r) ∧ Ext w0 w' := by
  unfold impl_isSetOf at hF
  refine calls_E Try.func87 rfl rfl (of_decide_eq_true rfl) ?_
  have hS := Sat.start w0
  refine cw_seq ?_
  refine cw_reg ?_
  refine el_pv (pv_assign rfl) (by decide) ?_
  refine el_nil ?_
  refine thn_n ?_
  refine cw_seq ?_
  refine cw_seq ?_
  refine cw_reg ?_
  refine el_pv (pv_move rfl) (by decide) ?_
  refine el_pv (pv_len rfl ha0) (by decide) ?_
  refine el_pv (pv_move rfl) (by decide) ?_
  refine el_nil ?_
  refine thn_n ?_
  refine cw_block ?_
  obtain ⟨s101, hL, hK102⟩ := ob hF
  refine cw_loopS (fun k e w => ∃ (x103 : Int), e 0 = u0 ∧ e 1 = .int .i64 a1 ∧ e 7 = u0 ∧ e 8 = .int .i64 (a0.length : Int) ∧ e 9 = .int .i64 x103 ∧ Sat w0 w [] ∧ impl_isSetOf_L1 N k a0 a1 a0 (a0.length : Int) x103 = some s101) N ?_ ?_ ?_
  · exact ⟨0, rfl, rfl, rfl, rfl, rfl, hS, hL⟩
  · rintro e w ⟨_, _, _, _, _, _, _, hz⟩; exact nomatch (show none = some _ from hz)
  · rintro k e110 w109 ⟨x103, he104, he105, he106, he107, he108, hS, hF⟩
    refine cw_seq ?_
    refine cw_reg ?_
    refine el_pv (pv_lss he108 he107) (by decide) ?_
    refine el_nil ?_
    refine thn_n ?_
    refine cw_seq ?_
    rcases oif hF with ⟨hb111, hF⟩ | ⟨hb111, hF⟩
    · refine cw_cond_t rfl hb111 ?_
      refine cw_skip ?_
      refine thn_n ?_
      refine cw_seq ?_
      refine cw_block ?_
      refine cw_seq ?_
      refine cw_reg ?_
      refine el_pv (pv_move he108) (by decide) ?_
      obtain ⟨x112, hx112, hF⟩ := ob hF
      refine el_index (wA := w0) he106 ha0 rfl (by decide) he108 hx112 (by decide) ?_
      intro b113 of114 c115 hr116 hm117
      obtain rfl := hr116
      refine el_pv (pv_loadc rfl ((cells_up hS.below hm117) 0 _ rfl)) (by decide) ?_
      refine el_pv (pv_assign rfl) (by decide) ?_
      refine el_pv (pv_assign rfl) (by decide) ?_
      refine el_nil ?_
      refine thn_n ?_
      refine cw_seq ?_
      refine cw_reg ?_
      refine el_pv (pv_move rfl) (by decide) ?_
      refine el_pv (pv_move he105) (by decide) ?_
      obtain ⟨x118, hx118, hF⟩ := ob hF
      refine el_pv (pv_sub rfl rfl hx118) (by decide) ?_
      obtain ⟨r119, hr119, hF⟩ := ob hF
      refine el_call goes64 (impl_within_ok hr119) (congrArg List.toArray (mapc rfl (mapc rfl (mapc rfl rfl)))) (by decide) ?_
      rintro _ w120 ⟨rfl, hx121⟩
      refine ⟨_, rfl, ?_⟩
      have hS := hS.ext hx121
      refine el_pv (pv_not rfl) (by decide) ?_
      refine el_pv (pv_move rfl) (by decide) ?_
      rcases oif hF with ⟨hb122, hF⟩ | ⟨hb122, hF⟩
      · refine el_on rfl (bnot_t hb122) ?_
        refine el_pv (pv_move he104) (by decide) ?_
        refine el_on rfl (bnot_t hb122) ?_
        refine el_pv (pv_move rfl) (by decide) ?_
        refine el_on rfl (bnot_t hb122) ?_
        obtain ⟨x123, hx123, hF⟩ := ob hF
        refine el_slice (wA := w0) rfl rfl ha0 (.inr ⟨rfl, rfl⟩) (.inl (congrArg some rfl)) hx123 (by decide) ?_
        intro v124 hr125
        refine el_on rfl (bnot_t hb122) ?_
        refine el_pv (pv_move rfl) (by decide) ?_
        refine el_on rfl (bnot_t hb122) ?_
        obtain ⟨r126, hr126, hF⟩ := ob hF
        refine el_call goes96 (impl_hasInt_ok (hS.up hr125) hr126) (congrArg List.toArray (mapc rfl (mapc rfl rfl))) (by decide) ?_
        rintro _ w127 ⟨rfl, hx128⟩
        refine ⟨_, rfl, ?_⟩
        have hS := hS.ext hx128
        refine el_pv (pv_pick_f rfl (bnot_t hb122) rfl) (by decide) ?_
        refine el_nil ?_
        refine thn_n ?_
        rcases oif hF with ⟨hb129, hF⟩ | ⟨hb129, hF⟩
        · refine cw_cond_t rfl hb129 ?_
          refine cw_seq ?_
          refine cw_reg ?_
          refine el_pv (pv_assign rfl) (by decide) ?_
          refine el_nil ?_
          refine thn_n ?_
          refine cw_ret ?_
          refine inb_r ?_
          refine thn_r ?_
          refine thn_r ?_
          refine inb_r ?_
          refine thn_r ?_
          obtain rfl := Option.some.inj hF
          have hF := hK102
          obtain rfl := Option.some.inj hF
          refine fin1 rfl rfl ?_
          exact ⟨rfl, hS.below⟩
        · refine cw_cond_f rfl hb129 ?_
          refine cw_skip ?_
          refine inb_n ?_
          refine thn_n ?_
          refine cw_reg ?_
          obtain ⟨x130, hx130, hF⟩ := ob hF
          refine el_pv (pv_add he108 rfl hx130) (by decide) ?_
          refine el_pv (pv_move rfl) (by decide) ?_
          refine el_nil ?_
          refine thn_n ?_
          have hS := hS.keep 0
          exact ⟨x130, he104, he105, he106, he107, rfl, hS, hF⟩
      · refine el_off rfl (bnot_f hb122) rfl (by decide) ?_
        refine el_off rfl (bnot_f hb122) rfl (by decide) ?_
        refine el_off rfl (bnot_f hb122) rfl (by decide) ?_
        refine el_off rfl (bnot_f hb122) rfl (by decide) ?_
        refine el_off rfl (bnot_f hb122) rfl (by decide) ?_
        refine el_pv (pv_pick_t rfl (bnot_f hb122) rfl) (by decide) ?_
        refine el_nil ?_
        refine thn_n ?_
        refine cw_cond_t rfl rfl ?_
        refine cw_seq ?_
        refine cw_reg ?_
        refine el_pv (pv_assign rfl) (by decide) ?_
        refine el_nil ?_
        refine thn_n ?_
        refine cw_ret ?_
        refine inb_r ?_
        refine thn_r ?_
        refine thn_r ?_
        refine inb_r ?_
        refine thn_r ?_
        obtain rfl := Option.some.inj hF
        have hF := hK102
        obtain rfl := Option.some.inj hF
        refine fin1 rfl rfl ?_
        exact ⟨rfl, hS.below⟩
    · refine cw_cond_f rfl hb111 ?_
      refine cw_exit ?_
      refine thn_x ?_
      refine thn_x ?_
      obtain rfl := Option.some.inj hF
      have hF := hK102
      refine inb_s ?_
      refine thn_n ?_
      refine cw_seq ?_
      refine cw_reg ?_
      refine el_pv (pv_assign rfl) (by decide) ?_
      refine el_nil ?_
      refine thn_n ?_
      refine cw_ret ?_
      obtain rfl := Option.some.inj hF
      refine fin1 rfl rfl ?_
      exact ⟨rfl, hS.below⟩
theorem impl_IsPermutation_ok {w0 : World} {u0 : Value} {a0 : List Int} (ha0 : (sliceR intR 3).rd w0 [u0] a0) {N : Nat} {r : Bool} (hF : impl_IsPermutation N a0 = some r) :
    Calls Try.prog 63 #[u0] w0 fun e w' => e = .returned (.bool r) ∧ Ext w0 w' := by
  unfold impl_IsPermutation at hF
  refine calls_E Try.func63 rfl rfl (of_decide_eq_true rfl) ?_
  have hS := Sat.start w0
  refine cw_seq ?_
  refine cw_reg ?_
  refine el_pv (pv_assign rfl) (by decide) ?_
  refine el_nil ?_
  refine thn_n ?_
  refine cw_seq ?_
  refine cw_reg ?_
  refine el_pv (pv_move rfl) (by decide) ?_
  refine el_pv (pv_len rfl ha0) (by decide) ?_
  refine el_pv (pv_leq rfl rfl) (by decide) ?_
  refine el_pv (pv_move rfl) (by decide) ?_
  rcases oif hF with ⟨hb101, hF⟩ | ⟨hb101, hF⟩
  · refine el_on rfl hb101 ?_
    refine el_pv (pv_move rfl) (by decide) ?_
    refine el_on rfl hb101 ?_
    refine el_pv (pv_move rfl) (by decide) ?_
    refine el_on rfl hb101 ?_
    refine el_pv (pv_len rfl ha0) (by decide) ?_
    refine el_on rfl hb101 ?_
    obtain ⟨r102, hr102, hF⟩ := ob hF
    refine el_call goes87 (impl_isSetOf_ok (hS.up ha0) hr102) (congrArg List.toArray (mapc rfl (mapc rfl rfl))) (by decide) ?_
    rintro _ w103 ⟨rfl, hx104⟩
    refine ⟨_, rfl, ?_⟩
    have hS := hS.ext hx104
    refine el_pv (pv_pick_t rfl hb101 rfl) (by decide) ?_
    refine el_pv (pv_assign rfl) (by decide) ?_
    refine el_nil ?_
    refine thn_n ?_
    refine cw_ret ?_
    obtain rfl := Option.some.inj hF
    refine fin1 rfl rfl ?_
    exact ⟨rfl, hS.below⟩
  · refine el_off rfl hb101 rfl (by decide) ?_
    refine el_off rfl hb101 rfl (by decide) ?_
    refine el_off rfl hb101 rfl (by decide) ?_
    refine el_off rfl hb101 rfl (by decide) ?_
    refine el_pv (pv_pick_f rfl hb101 rfl) (by decide) ?_
    refine el_pv (pv_assign rfl) (by decide) ?_
    refine el_nil ?_
    refine thn_n ?_
    refine cw_ret ?_
    obtain rfl := Option.some.inj hF
    refine fin1 rfl rfl ?_
    exact ⟨rfl, hS.below⟩
theorem impl_AreValidValues_ok {w0 : World} {u0 : Value} {a0 : List Int} (ha0 : (sliceR intR 3).rd w0 [u0] a0) {N : Nat} {r : Bool} (hF : impl_AreValidValues N a0 = some r) :
    Calls Try.prog 88 #[u0] w0 fun e w' => e = .returned (.bool r) ∧ Ext w0 w' := by
  unfold impl_AreValidValues at hF
  refine calls_E Try.func88 rfl rfl (of_decide_eq_true rfl) ?_
  have hS := Sat.start w0
  refine cw_seq ?_
  refine cw_reg ?_
  refine el_pv (pv_assign rfl) (by decide) ?_
  refine el_nil ?_
  refine thn_n ?_
  refine cw_seq ?_
  refine cw_seq ?_
  refine cw_reg ?_
  refine el_pv (pv_move rfl) (by decide) ?_
  refine el_pv (pv_len rfl ha0) (by decide) ?_
  refine el_pv (pv_move rfl) (by decide) ?_
  refine el_nil ?_
  refine thn_n ?_
  refine cw_block ?_
  obtain ⟨s101, hL, hK102⟩ := ob hF
  refine cw_loopS (fun k e w => ∃ (x103 : Int), e 5 = u0 ∧ e 6 = .int .i64 (a0.length : Int) ∧ e 7 = .int .i64 x103 ∧ Sat w0 w [] ∧ impl_AreValidValues_L1 N k a0 (a0.length : Int) x103 = some s101) N ?_ ?_ ?_
  · exact ⟨0, rfl, rfl, rfl, hS, hL⟩
  · rintro e w ⟨_, _, _, _, _, hz⟩; exact nomatch (show none = some _ from hz)
  · rintro k e108 w107 ⟨x103, he104, he105, he106, hS, hF⟩
    refine cw_seq ?_
    refine cw_reg ?_
    refine el_pv (pv_lss he106 he105) (by decide) ?_
    refine el_nil ?_
    refine thn_n ?_
    refine cw_seq ?_
    rcases oif hF with ⟨hb109, hF⟩ | ⟨hb109, hF⟩
    · refine cw_cond_t rfl hb109 ?_
      refine cw_skip ?_
      refine thn_n ?_
      refine cw_seq ?_
      refine cw_block ?_
      refine cw_seq ?_
      refine cw_reg ?_
      obtain ⟨x110, hx110, hF⟩ := ob hF
      refine el_index (wA := w0) he104 ha0 rfl (by decide) he106 hx110 (by decide) ?_
      intro b111 of112 c113 hr114 hm115
      obtain rfl := hr114
      refine el_pv (pv_loadc rfl ((cells_up hS.below hm115) 0 _ rfl)) (by decide) ?_
      refine el_pv (pv_assign rfl) (by decide) ?_
      refine el_nil ?_
      refine thn_n ?_
      refine cw_seq ?_
      refine cw_reg ?_
      refine el_pv (pv_move rfl) (by decide) ?_
      obtain ⟨r116, hr116, hF⟩ := ob hF
      refine el_call goes64 (impl_within_ok hr116) (congrArg List.toArray (mapc rfl (mapc rfl (mapc rfl rfl)))) (by decide) ?_
      rintro _ w117 ⟨rfl, hx118⟩
      refine ⟨_, rfl, ?_⟩
      have hS := hS.ext hx118
      refine el_pv (pv_not rfl) (by decide) ?_
      refine el_nil ?_
      refine thn_n ?_
      rcases oif hF with ⟨hb119, hF⟩ | ⟨hb119, hF⟩
      · refine cw_cond_f rfl (bnot_t hb119) ?_
        refine cw_skip ?_
        refine inb_n ?_
        refine thn_n ?_
        refine cw_reg ?_
        obtain ⟨x120, hx120, hF⟩ := ob hF
        refine el_pv (pv_add he106 rfl hx120) (by decide) ?_
        refine el_pv (pv_move rfl) (by decide) ?_
        refine el_nil ?_
        refine thn_n ?_
        have hS := hS.keep 0
        exact ⟨x120, he104, he105, rfl, hS, hF⟩
      · refine cw_cond_t rfl (bnot_f hb119) ?_
        refine cw_seq ?_
        refine cw_reg ?_
        refine el_pv (pv_assign rfl) (by decide) ?_
        refine el_nil ?_
        refine thn_n ?_
        refine cw_ret ?_
        refine inb_r ?_
        refine thn_r ?_
        refine thn_r ?_
        refine inb_r ?_
        refine thn_r ?_
        obtain rfl := Option.some.inj hF
        have hF := hK102
        obtain rfl := Option.some.inj hF
        refine fin1 rfl rfl ?_
        exact ⟨rfl, hS.below⟩
    · refine cw_cond_f rfl hb109 ?_
      refine cw_exit ?_
      refine thn_x ?_
      refine thn_x ?_
      obtain rfl := Option.some.inj hF
      have hF := hK102
      refine inb_s ?_
      refine thn_n ?_
      refine cw_seq ?_
      refine cw_reg ?_
      refine el_pv (pv_assign rfl) (by decide) ?_
      refine el_nil ?_
      refine thn_n ?_
      refine cw_ret ?_
      obtain rfl := Option.some.inj hF
      refine fin1 rfl rfl ?_
      exact ⟨rfl, hS.below⟩
theorem impl_IsStrictlyAscending_ok {w0 : World} {u0 : Value} {a0 : List Int} (ha0 : (sliceR intR 3).rd w0 [u0] a0) {N : Nat} {r : Bool} (hF : impl_IsStrictlyAscending N a0 = some r) :
    Calls Try.prog 89 #[u0] w0 fun e w' => e = .returned (.bool r) ∧ Ext w0 w' := by
  unfold impl_IsStrictlyAscending at hF
  refine calls_E Try.func89 rfl rfl (of_decide_eq_true rfl) ?_
  have hS := Sat.start w0
  refine cw_seq ?_
  refine cw_reg ?_
  refine el_pv (pv_assign rfl) (by decide) ?_
  refine el_nil ?_
  refine thn_n ?_
  refine cw_seq ?_
  refine cw_seq ?_
  refine cw_reg ?_
  refine el_pv (pv_assign rfl) (by decide) ?_
  refine el_nil ?_
  refine thn_n ?_
  refine cw_block ?_
  obtain ⟨s101, hL, hK102⟩ := ob hF
  refine cw_loopS (fun k e w => ∃ (x103 : Int), e 0 = u0 ∧ e 3 = .int .i64 x103 ∧ Sat w0 w [] ∧ impl_IsStrictlyAscending_L1 N k a0 x103 = some s101) N ?_ ?_ ?_
  · exact ⟨1, rfl, rfl, hS, hL⟩
  · rintro e w ⟨_, _, _, _, hz⟩; exact nomatch (show none = some _ from hz)
  · rintro k e107 w106 ⟨x103, he104, he105, hS, hF⟩
    refine cw_seq ?_
    refine cw_seq ?_
    refine cw_reg ?_
    refine el_pv (pv_move he105) (by decide) ?_
    refine el_pv (pv_move he104) (by decide) ?_
    refine el_pv (pv_len rfl ha0) (by decide) ?_
    refine el_pv (pv_lss rfl rfl) (by decide) ?_
    refine el_nil ?_
    refine thn_n ?_
    rcases oif hF with ⟨hb108, hF⟩ | ⟨hb108, hF⟩
    · refine cw_cond_t rfl hb108 ?_
      refine cw_skip ?_
      refine thn_n ?_
      refine cw_seq ?_
      refine cw_block ?_
      refine cw_seq ?_
      refine cw_regq (by kernel_rfl) (by kernel_rfl) ?_
      refine ql_pv (pv_move he104) (by decide) ?_
      refine ql_pv (pv_move he105) (by decide) ?_
      obtain ⟨x109, hx109, hF⟩ := ob hF
      refine ql_pv (pv_sub rfl rfl hx109) (by decide) ?_
      obtain ⟨x110, hx110, hF⟩ := ob hF
      refine ql_index (wA := w0) rfl ha0 rfl (by decide) rfl hx110 (by decide) ?_
      intro b111 of112 c113 hr114 hm115
      obtain rfl := hr114
      refine ql_pv (pv_loadc rfl ((cells_up hS.below hm115) 0 _ rfl)) (by decide) ?_
      refine ql_pv (pv_move he104) (by decide) ?_
      refine ql_pv (pv_move he105) (by decide) ?_
      obtain ⟨x116, hx116, hF⟩ := ob hF
      refine ql_index (wA := w0) rfl ha0 rfl (by decide) rfl hx116 (by decide) ?_
      intro b117 of118 c119 hr120 hm121
      obtain rfl := hr120
      refine ql_pv (pv_loadc rfl ((cells_up hS.below hm121) 0 _ rfl)) (by decide) ?_
      refine ql_pv (pv_geq rfl rfl) (by decide) ?_
      refine ql_nil ?_
      intro w122 hx123
      have hS := hS.ext hx123
      refine thn_n ?_
      rcases oif hF with ⟨hb124, hF⟩ | ⟨hb124, hF⟩
      · refine cw_cond_t rfl hb124 ?_
        refine cw_seq ?_
        refine cw_reg ?_
        refine el_pv (pv_assign rfl) (by decide) ?_
        refine el_nil ?_
        refine thn_n ?_
        refine cw_ret ?_
        refine inb_r ?_
        refine thn_r ?_
        refine thn_r ?_
        refine inb_r ?_
        refine thn_r ?_
        obtain rfl := Option.some.inj hF
        have hF := hK102
        obtain rfl := Option.some.inj hF
        refine fin1 rfl rfl ?_
        exact ⟨rfl, hS.below⟩
      · refine cw_cond_f rfl hb124 ?_
        refine cw_skip ?_
        refine inb_n ?_
        refine thn_n ?_
        refine cw_reg ?_
        refine el_pv (pv_move he105) (by decide) ?_
        obtain ⟨x125, hx125, hF⟩ := ob hF
        refine el_pv (pv_add rfl rfl hx125) (by decide) ?_
        refine el_pv (pv_assign rfl) (by decide) ?_
        refine el_nil ?_
        refine thn_n ?_
        have hS := hS.keep 0
        exact ⟨x125, he104, rfl, hS, hF⟩
    · refine cw_cond_f rfl hb108 ?_
      refine cw_exit ?_
      refine thn_x ?_
      refine thn_x ?_
      obtain rfl := Option.some.inj hF
      have hF := hK102
      refine inb_s ?_
      refine thn_n ?_
      refine cw_seq ?_
      refine cw_reg ?_
      refine el_pv (pv_assign rfl) (by decide) ?_
      refine el_nil ?_
      refine thn_n ?_
      refine cw_ret ?_
      obtain rfl := Option.some.inj hF
      refine fin1 rfl rfl ?_
      exact ⟨rfl, hS.below⟩
theorem impl_nodeOk_ok {w0 : World} {u0 : Value} {a0 : List Int} {u1 : Value} {a1 : List (List Int × List Int)} {u2 : Value} {a2 : List Int} {a3 : Int} (ha0 : (sliceR intR 3).rd w0 [u0] a0) (ha1 : (sliceR (pairR (sliceR intR 3) (sliceR intR 3)) 67).rd w0 [u1] a1) (ha2 : (sliceR intR 3).rd w0 [u2] a2) {N : Nat} {r : Int × Bool} (hF : impl_nodeOk N a0 a1 a2 a3 = some r) :
    Calls Try.prog 65 #[.agg #[u0, u1], u2, .int .i64 a3] w0 fun e w' => e = .returned (.tuple #[.int .i64 r.1, .bool r.2]) ∧ Ext w0 w' := by
  unfold impl_nodeOk at hF
  refine calls_E Try.func65 rfl rfl (of_decide_eq_true rfl) ?_
  have hS := Sat.start w0
  refine cw_seq ?_
  refine cw_reg ?_
  refine el_box [u0, u1] rfl hS (by decide) ?_
  intro w101 b102 hS hx103
  refine el_pv (pv_assign rfl) (by decide) ?_
  refine el_pv (pv_assign rfl) (by decide) ?_
  refine el_nil ?_
  refine thn_n ?_
  refine cw_seq ?_
  refine cw_reg ?_
  refine el_pv (pv_fieldAddr rfl) (by decide) ?_
  refine el_pv (pv_loadc rfl ((hS.boxAt 0 rfl) 1 _ rfl)) (by decide) ?_
  refine el_pv (pv_move rfl) (by decide) ?_
  obtain ⟨x105, hx105, hF⟩ := ob hF
  refine el_index (wA := w0) rfl ha1 rfl (by decide) rfl hx105 (by decide) ?_
  intro b106 of107 c108 hr109 hm110
  obtain ⟨_, _, rfl, hr111, hr112⟩ := hr109
  obtain ⟨v113, rfl⟩ := slice_one hr111
  obtain ⟨v114, rfl⟩ := slice_one hr112
  refine el_pv (pv_loada (cs := [v113, v114]) rfl rfl (cells_up hS.below hm110)) (by decide) ?_
  refine el_alloc hS (by decide) ?_
  intro w115 b116 hS hx117
  refine el_storev (hS.top 0 rfl) rfl [v113, v114] rfl rfl (of_decide_eq_true rfl) (all_cons (oc hr111) (all_cons (oc hr112) rfl)) ?_
  intro w119 hS
  replace hS : Sat w0 w119 (Box b116 67 [v113, v114] :: _) := hS
  refine el_nil ?_
  refine thn_n ?_
  refine cw_seq ?_
  refine cw_seq ?_
  refine cw_reg ?_
  refine el_pv (pv_fieldAddr rfl) (by decide) ?_
  refine el_pv (pv_loadc rfl ((hS.boxAt 0 rfl) 0 _ rfl)) (by decide) ?_
  refine el_pv (pv_len rfl hr111) (by decide) ?_
  refine el_pv (pv_fieldAddr rfl) (by decide) ?_
  refine el_pv (pv_loadc rfl ((hS.boxAt 0 rfl) 1 _ rfl)) (by decide) ?_
  refine el_pv (pv_len rfl hr112) (by decide) ?_
  refine el_pv (pv_neq rfl rfl) (by decide) ?_
  refine el_pv (pv_move rfl) (by decide) ?_
  rcases oif hF with ⟨hb120, hF⟩ | ⟨hb120, hF⟩
  · refine el_off rfl hb120 rfl (by decide) ?_
    refine el_off rfl hb120 rfl (by decide) ?_
    refine el_off rfl hb120 rfl (by decide) ?_
    refine el_off rfl hb120 rfl (by decide) ?_
    refine el_pv (pv_pick_t rfl hb120 rfl) (by decide) ?_
    refine el_pv (pv_move rfl) (by decide) ?_
    refine el_off rfl rfl rfl (by decide) ?_
    refine el_off rfl rfl rfl (by decide) ?_
    refine el_off rfl rfl rfl (by decide) ?_
    refine el_off rfl rfl rfl (by decide) ?_
    refine el_pv (pv_pick_t rfl rfl rfl) (by decide) ?_
    refine el_nil ?_
    refine thn_n ?_
    refine cw_cond_t rfl rfl ?_
    refine cw_seq ?_
    refine cw_reg ?_
    refine el_pv (pv_assign rfl) (by decide) ?_
    refine el_pv (pv_assign rfl) (by decide) ?_
    refine el_nil ?_
    refine thn_n ?_
    refine cw_ret ?_
    refine thn_r ?_
    obtain rfl := Option.some.inj hF
    refine fin2 rfl rfl rfl ?_
    exact ⟨rfl, hS.below⟩
  · refine el_on rfl hb120 ?_
    refine el_pv (pv_fieldAddr rfl) (by decide) ?_
    refine el_on rfl hb120 ?_
    refine el_pv (pv_loadc rfl ((hS.boxAt 0 rfl) 0 _ rfl)) (by decide) ?_
    refine el_on rfl hb120 ?_
    obtain ⟨r121, hr121, hF⟩ := ob hF
    refine el_call goes88 (impl_AreValidValues_ok (hS.up hr111) hr121) (congrArg List.toArray (mapc rfl rfl)) (by decide) ?_
    rintro _ w122 ⟨rfl, hx123⟩
    refine ⟨_, rfl, ?_⟩
    have hS := hS.ext hx123
    refine el_on rfl hb120 ?_
    refine el_pv (pv_not rfl) (by decide) ?_
    refine el_pv (pv_pick_f rfl hb120 rfl) (by decide) ?_
    refine el_pv (pv_move rfl) (by decide) ?_
    rcases oif hF with ⟨hb124, hF⟩ | ⟨hb124, hF⟩
    · refine el_on rfl (bnot_t hb124) ?_
      refine el_pv (pv_fieldAddr rfl) (by decide) ?_
      refine el_on rfl (bnot_t hb124) ?_
      refine el_pv (pv_loadc rfl ((hS.boxAt 0 rfl) 0 _ rfl)) (by decide) ?_
      refine el_on rfl (bnot_t hb124) ?_
      obtain ⟨r125, hr125, hF⟩ := ob hF
      refine el_call goes89 (impl_IsStrictlyAscending_ok (hS.up hr111) hr125) (congrArg List.toArray (mapc rfl rfl)) (by decide) ?_
      rintro _ w126 ⟨rfl, hx127⟩
      refine ⟨_, rfl, ?_⟩
      have hS := hS.ext hx127
      refine el_on rfl (bnot_t hb124) ?_
      refine el_pv (pv_not rfl) (by decide) ?_
      refine el_pv (pv_pick_f rfl (bnot_t hb124) rfl) (by decide) ?_
      refine el_nil ?_
      refine thn_n ?_
      rcases oif hF with ⟨hb128, hF⟩ | ⟨hb128, hF⟩
      · refine cw_cond_f rfl (bnot_t hb128) ?_
        refine cw_skip ?_
        refine thn_n ?_
        refine cw_seq ?_
        refine cw_seq ?_
        refine cw_reg ?_
        refine el_pv (pv_fieldAddr rfl) (by decide) ?_
        refine el_pv (pv_loadc rfl ((hS.boxAt 0 rfl) 0 _ rfl)) (by decide) ?_
        refine el_pv (pv_len rfl hr111) (by decide) ?_
        refine el_pv (pv_eql rfl rfl) (by decide) ?_
        refine el_nil ?_
        refine thn_n ?_
        rcases oif hF with ⟨hb129, hF⟩ | ⟨hb129, hF⟩
        · refine cw_cond_t rfl hb129 ?_
          refine cw_seq ?_
          refine cw_regq (by kernel_rfl) (by kernel_rfl) ?_
          refine ql_pv (pv_fieldAddr rfl) (by decide) ?_
          refine ql_pv (pv_loadc rfl ((hS.boxAt 1 rfl) 0 _ rfl)) (by decide) ?_
          refine ql_pv (pv_len rfl ha0) (by decide) ?_
          refine ql_pv (pv_move rfl) (by decide) ?_
          refine ql_pv (pv_fieldAddr rfl) (by decide) ?_
          refine ql_pv (pv_loadc rfl ((hS.boxAt 1 rfl) 1 _ rfl)) (by decide) ?_
          refine ql_pv (pv_len rfl ha1) (by decide) ?_
          obtain ⟨x130, hx130, hF⟩ := ob hF
          refine ql_pv (pv_sub rfl rfl hx130) (by decide) ?_
          refine ql_pv (pv_eql rfl rfl) (by decide) ?_
          refine ql_pv (pv_assign rfl) (by decide) ?_
          refine ql_pv (pv_assign rfl) (by decide) ?_
          refine ql_nil ?_
          intro w131 hx132
          have hS := hS.ext hx132
          refine thn_n ?_
          refine cw_ret ?_
          refine thn_r ?_
          obtain rfl := Option.some.inj hF
          refine fin2 rfl rfl rfl ?_
          exact ⟨rfl, hS.below⟩
        · refine cw_cond_f rfl hb129 ?_
          refine cw_skip ?_
          refine thn_n ?_
          refine cw_seq ?_
          refine cw_seq ?_
          refine cw_reg ?_
          refine el_pv (pv_fieldAddr rfl) (by decide) ?_
          refine el_pv (pv_loadc rfl ((hS.boxAt 0 rfl) 1 _ rfl)) (by decide) ?_
          refine el_pv (pv_len rfl hr112) (by decide) ?_
          refine el_pv (pv_move rfl) (by decide) ?_
          refine el_nil ?_
          refine thn_n ?_
          refine cw_block ?_
          obtain ⟨s133, hL, hK134⟩ := ob hF
          refine cw_loopS (fun k e w => ∃ (x135 : Int), e 1 = u2 ∧ e 2 = .int .i64 a3 ∧ e 3 = .pointer (some ⟨b102, 0, none⟩) ∧ e 8 = .pointer (some ⟨b116, 0, none⟩) ∧ e 51 = v114 ∧ e 52 = .int .i64 (x105.2.length : Int) ∧ e 53 = .int .i64 x135 ∧ Sat w0 w [Box b116 67 [v113, v114], Box b102 30 [u0, u1]] ∧ impl_nodeOk_L1 N k a2 a3 a0 a1 x105.1 x105.2 x105.2 (x105.2.length : Int) x135 = some s133) N ?_ ?_ ?_
          · exact ⟨0, rfl, rfl, rfl, rfl, rfl, rfl, rfl, hS, hL⟩
          · rintro e w ⟨_, _, _, _, _, _, _, _, _, hz⟩; exact nomatch (show none = some _ from hz)
          · rintro k e144 w143 ⟨x135, he136, he137, he138, he139, he140, he141, he142, hS, hF⟩
            refine cw_seq ?_
            refine cw_reg ?_
            refine el_pv (pv_lss he142 he141) (by decide) ?_
            refine el_nil ?_
            refine thn_n ?_
            refine cw_seq ?_
            rcases oif hF with ⟨hb145, hF⟩ | ⟨hb145, hF⟩
            · refine cw_cond_t rfl hb145 ?_
              refine cw_skip ?_
              refine thn_n ?_
              refine cw_seq ?_
              refine cw_block ?_
              refine cw_seq ?_
              refine cw_reg ?_
              obtain ⟨x146, hx146, hF⟩ := ob hF
              refine el_index (wA := w0) he140 hr112 rfl (by decide) he142 hx146 (by decide) ?_
              intro b147 of148 c149 hr150 hm151
              obtain rfl := hr150
              refine el_pv (pv_loadc rfl ((cells_up hS.below hm151) 0 _ rfl)) (by decide) ?_
              refine el_pv (pv_assign rfl) (by decide) ?_
              refine el_nil ?_
              refine thn_n ?_
              refine cw_seq ?_
              refine cw_regq (by kernel_rfl) (by kernel_rfl) ?_
              refine ql_pv (pv_move rfl) (by decide) ?_
              refine ql_pv (pv_move he137) (by decide) ?_
              obtain ⟨x152, hx152, hF⟩ := ob hF
              refine ql_pv (pv_sub rfl rfl hx152) (by decide) ?_
              obtain ⟨r153, hr153, hF⟩ := ob hF
              refine ql_call (.bool r153) goes64 (fun w' hw' => impl_within_ok hr153) (congrArg List.toArray (mapc rfl (mapc rfl (mapc rfl rfl)))) (by decide) ?_
              refine ql_pv (pv_not rfl) (by decide) ?_
              refine ql_pv (pv_move rfl) (by decide) ?_
              rcases oif hF with ⟨hb154, hF⟩ | ⟨hb154, hF⟩
              · refine ql_on rfl (bnot_t hb154) ?_
                refine ql_pv (pv_move he136) (by decide) ?_
                refine ql_on rfl (bnot_t hb154) ?_
                refine ql_pv (pv_move rfl) (by decide) ?_
                refine ql_on rfl (bnot_t hb154) ?_
                obtain ⟨x155, hx155, hF⟩ := ob hF
                refine ql_index (wA := w0) rfl ha2 rfl (by decide) rfl hx155 (by decide) ?_
                intro b156 of157 c158 hr159 hm160
                obtain rfl := hr159
                refine ql_on rfl (bnot_t hb154) ?_
                refine ql_pv (pv_loadc rfl ((cells_up hS.below hm160) 0 _ rfl)) (by decide) ?_
                refine ql_on rfl (bnot_t hb154) ?_
                refine ql_pv (pv_move he136) (by decide) ?_
                refine ql_on rfl (bnot_t hb154) ?_
                refine ql_pv (pv_fieldAddr he139) (by decide) ?_
                refine ql_on rfl (bnot_t hb154) ?_
                refine ql_pv (pv_loadc rfl ((hS.boxAt 0 rfl) 1 _ rfl)) (by decide) ?_
                refine ql_on rfl (bnot_t hb154) ?_
                obtain ⟨x161, hx161, hF⟩ := ob hF
                refine ql_index (wA := w0) rfl hr112 rfl (by decide) rfl hx161 (by decide) ?_
                intro b162 of163 c164 hr165 hm166
                obtain rfl := hr165
                refine ql_on rfl (bnot_t hb154) ?_
                refine ql_pv (pv_loadc rfl ((cells_up hS.below hm166) 0 _ rfl)) (by decide) ?_
                refine ql_on rfl (bnot_t hb154) ?_
                obtain ⟨x167, hx167, hF⟩ := ob hF
                refine ql_index (wA := w0) rfl ha2 rfl (by decide) rfl hx167 (by decide) ?_
                intro b168 of169 c170 hr171 hm172
                obtain rfl := hr171
                refine ql_on rfl (bnot_t hb154) ?_
                refine ql_pv (pv_loadc rfl ((cells_up hS.below hm172) 0 _ rfl)) (by decide) ?_
                refine ql_on rfl (bnot_t hb154) ?_
                refine ql_pv (pv_neq rfl rfl) (by decide) ?_
                refine ql_pv (pv_pick_f rfl (bnot_t hb154) rfl) (by decide) ?_
                refine ql_nil ?_
                intro w173 hx174
                have hS := hS.ext hx174
                refine thn_n ?_
                rcases oif hF with ⟨hb175, hF⟩ | ⟨hb175, hF⟩
                · refine cw_cond_t rfl hb175 ?_
                  refine cw_seq ?_
                  refine cw_reg ?_
                  refine el_pv (pv_assign rfl) (by decide) ?_
                  refine el_pv (pv_assign rfl) (by decide) ?_
                  refine el_nil ?_
                  refine thn_n ?_
                  refine cw_ret ?_
                  refine inb_r ?_
                  refine thn_r ?_
                  refine thn_r ?_
                  refine inb_r ?_
                  refine thn_r ?_
                  obtain rfl := Option.some.inj hF
                  have hF := hK134
                  obtain rfl := Option.some.inj hF
                  refine fin2 rfl rfl rfl ?_
                  exact ⟨rfl, hS.below⟩
                · refine cw_cond_f rfl hb175 ?_
                  refine cw_skip ?_
                  refine inb_n ?_
                  refine thn_n ?_
                  refine cw_reg ?_
                  obtain ⟨x176, hx176, hF⟩ := ob hF
                  refine el_pv (pv_add he142 rfl hx176) (by decide) ?_
                  refine el_pv (pv_move rfl) (by decide) ?_
                  refine el_nil ?_
                  refine thn_n ?_
                  have hS := hS.top 1 rfl
                  have hS := hS.top 1 rfl
                  have hS := hS.keep 2
                  exact ⟨x176, he136, he137, he138, he139, he140, he141, rfl, hS, hF⟩
              · refine ql_off rfl (bnot_f hb154) rfl (by decide) ?_
                refine ql_off rfl (bnot_f hb154) rfl (by decide) ?_
                refine ql_off rfl (bnot_f hb154) rfl (by decide) ?_
                refine ql_off rfl (bnot_f hb154) rfl (by decide) ?_
                refine ql_off rfl (bnot_f hb154) rfl (by decide) ?_
                refine ql_off rfl (bnot_f hb154) rfl (by decide) ?_
                refine ql_off rfl (bnot_f hb154) rfl (by decide) ?_
                refine ql_off rfl (bnot_f hb154) rfl (by decide) ?_
                refine ql_off rfl (bnot_f hb154) rfl (by decide) ?_
                refine ql_off rfl (bnot_f hb154) rfl (by decide) ?_
                refine ql_off rfl (bnot_f hb154) rfl (by decide) ?_
                refine ql_off rfl (bnot_f hb154) rfl (by decide) ?_
                refine ql_pv (pv_pick_t rfl (bnot_f hb154) rfl) (by decide) ?_
                refine ql_nil ?_
                intro w177 hx178
                have hS := hS.ext hx178
                refine thn_n ?_
                refine cw_cond_t rfl rfl ?_
                refine cw_seq ?_
                refine cw_reg ?_
                refine el_pv (pv_assign rfl) (by decide) ?_
                refine el_pv (pv_assign rfl) (by decide) ?_
                refine el_nil ?_
                refine thn_n ?_
                refine cw_ret ?_
                refine inb_r ?_
                refine thn_r ?_
                refine thn_r ?_
                refine inb_r ?_
                refine thn_r ?_
                obtain rfl := Option.some.inj hF
                have hF := hK134
                obtain rfl := Option.some.inj hF
                refine fin2 rfl rfl rfl ?_
                exact ⟨rfl, hS.below⟩
            · refine cw_cond_f rfl hb145 ?_
              refine cw_exit ?_
              refine thn_x ?_
              refine thn_x ?_
              obtain rfl := Option.some.inj hF
              have hF := hK134
              refine inb_s ?_
              refine thn_n ?_
              refine cw_seq ?_
              refine cw_seq ?_
              refine cw_reg ?_
              refine el_pv (pv_fieldAddr he138) (by decide) ?_
              refine el_pv (pv_loadc rfl ((hS.boxAt 1 rfl) 1 _ rfl)) (by decide) ?_
              refine el_pv (pv_move he137) (by decide) ?_
              obtain ⟨x179, hx179, hF⟩ := ob hF
              refine el_slice (wA := w0) rfl rfl ha1 (.inl (congrArg some rfl)) (.inl (congrArg some rfl)) hx179 (by decide) ?_
              intro v180 hr181
              refine el_pv (pv_len rfl hr181) (by decide) ?_
              refine el_pv (pv_move rfl) (by decide) ?_
              refine el_nil ?_
              refine thn_n ?_
              refine cw_block ?_
              obtain ⟨s182, hL, hK183⟩ := ob hF
              have hS := hS.rem 1 rfl
              refine cw_loopS (fun k e w => ∃ (x184 : Int), e 1 = u2 ∧ e 8 = .pointer (some ⟨b116, 0, none⟩) ∧ e 80 = v180 ∧ e 81 = .int .i64 (x179.length : Int) ∧ e 82 = .int .i64 x184 ∧ Sat w0 w [Box b116 67 [v113, v114]] ∧ impl_nodeOk_L2 N k a2 x105.1 x105.2 x179 (x179.length : Int) x184 = some s182) N ?_ ?_ ?_
              · exact ⟨0, he136, he139, rfl, rfl, rfl, hS, hL⟩
              · rintro e w ⟨_, _, _, _, _, _, _, hz⟩; exact nomatch (show none = some _ from hz)
              · rintro k e191 w190 ⟨x184, he185, he186, he187, he188, he189, hS, hF⟩
                refine cw_seq ?_
                refine cw_reg ?_
                refine el_pv (pv_lss he189 he188) (by decide) ?_
                refine el_nil ?_
                refine thn_n ?_
                refine cw_seq ?_
                rcases oif hF with ⟨hb192, hF⟩ | ⟨hb192, hF⟩
                · refine cw_cond_t rfl hb192 ?_
                  refine cw_skip ?_
                  refine thn_n ?_
                  refine cw_seq ?_
                  refine cw_block ?_
                  refine cw_seq ?_
                  refine cw_reg ?_
                  obtain ⟨x193, hx193, hF⟩ := ob hF
                  refine el_index (wA := w0) he187 hr181 rfl (by decide) he189 hx193 (by decide) ?_
                  intro b194 of195 c196 hr197 hm198
                  obtain ⟨_, _, rfl, hr199, hr200⟩ := hr197
                  obtain ⟨v201, rfl⟩ := slice_one hr199
                  obtain ⟨v202, rfl⟩ := slice_one hr200
                  refine el_pv (pv_loada (cs := [v201, v202]) rfl rfl (cells_up hS.below hm198)) (by decide) ?_
                  refine el_alloc hS (by decide) ?_
                  intro w203 b204 hS hx205
                  refine el_storev (hS.top 0 rfl) rfl [v201, v202] rfl rfl (of_decide_eq_true rfl) (all_cons (oc hr199) (all_cons (oc hr200) rfl)) ?_
                  intro w207 hS
                  replace hS : Sat w0 w207 (Box b204 67 [v201, v202] :: _) := hS
                  refine el_nil ?_
                  refine thn_n ?_
                  refine cw_seq ?_
                  refine cw_reg ?_
                  refine el_pv (pv_loada (cs := [v201, v202]) rfl rfl (boxc0 (hS.boxAt 0 rfl))) (by decide) ?_
                  refine el_pv (pv_loada (cs := [v113, v114]) he186 rfl (boxc0 (hS.boxAt 1 rfl))) (by decide) ?_
                  obtain ⟨r208, hr208, hF⟩ := ob hF
                  refine el_call goes50 (impl_sameNode_ok (hS.up hr199) (hS.up hr200) (hS.up hr111) (hS.up hr112) hr208) (congrArg List.toArray (mapc rfl (mapc rfl rfl))) (by decide) ?_
                  rintro _ w209 ⟨rfl, hx210⟩
                  refine ⟨_, rfl, ?_⟩
                  have hS := hS.ext hx210
                  refine el_nil ?_
                  refine thn_n ?_
                  rcases oif hF with ⟨hb211, hF⟩ | ⟨hb211, hF⟩
                  · refine cw_cond_t rfl hb211 ?_
                    refine cw_seq ?_
                    refine cw_reg ?_
                    refine el_pv (pv_assign rfl) (by decide) ?_
                    refine el_pv (pv_assign rfl) (by decide) ?_
                    refine el_nil ?_
                    refine thn_n ?_
                    refine cw_ret ?_
                    refine inb_r ?_
                    refine thn_r ?_
                    refine thn_r ?_
                    refine inb_r ?_
                    refine thn_r ?_
                    obtain rfl := Option.some.inj hF
                    have hF := hK183
                    obtain rfl := Option.some.inj hF
                    refine fin2 rfl rfl rfl ?_
                    exact ⟨rfl, hS.below⟩
                  · refine cw_cond_f rfl hb211 ?_
                    refine cw_skip ?_
                    refine inb_n ?_
                    refine thn_n ?_
                    refine cw_reg ?_
                    obtain ⟨x212, hx212, hF⟩ := ob hF
                    refine el_pv (pv_add he189 rfl hx212) (by decide) ?_
                    refine el_pv (pv_move rfl) (by decide) ?_
                    refine el_nil ?_
                    refine thn_n ?_
                    have hS := hS.top 1 rfl
                    have hS := hS.keep 1
                    exact ⟨x212, he185, he186, he187, he188, rfl, hS, hF⟩
                · refine cw_cond_f rfl hb192 ?_
                  refine cw_exit ?_
                  refine thn_x ?_
                  refine thn_x ?_
                  obtain rfl := Option.some.inj hF
                  have hF := hK183
                  refine inb_s ?_
                  refine thn_n ?_
                  refine cw_seq ?_
                  refine cw_reg ?_
                  refine el_pv (pv_move he185) (by decide) ?_
                  refine el_pv (pv_fieldAddr he186) (by decide) ?_
                  refine el_pv (pv_loadc rfl ((hS.boxAt 0 rfl) 1 _ rfl)) (by decide) ?_
                  obtain ⟨x213, hx213, hF⟩ := ob hF
                  refine el_index (wA := w0) rfl hr112 rfl (by decide) rfl hx213 (by decide) ?_
                  intro b214 of215 c216 hr217 hm218
                  obtain rfl := hr217
                  refine el_pv (pv_loadc rfl ((cells_up hS.below hm218) 0 _ rfl)) (by decide) ?_
                  obtain ⟨x219, hx219, hF⟩ := ob hF
                  refine el_index (wA := w0) rfl ha2 rfl (by decide) rfl hx219 (by decide) ?_
                  intro b220 of221 c222 hr223 hm224
                  obtain rfl := hr223
                  refine el_pv (pv_loadc rfl ((cells_up hS.below hm224) 0 _ rfl)) (by decide) ?_
                  obtain ⟨x225, hx225, hF⟩ := ob hF
                  refine el_pv (pv_add rfl rfl hx225) (by decide) ?_
                  refine el_pv (pv_assign rfl) (by decide) ?_
                  refine el_pv (pv_assign rfl) (by decide) ?_
                  refine el_nil ?_
                  refine thn_n ?_
                  refine cw_ret ?_
                  obtain rfl := Option.some.inj hF
                  refine fin2 rfl rfl rfl ?_
                  exact ⟨rfl, hS.below⟩
      · refine cw_cond_t rfl (bnot_f hb128) ?_
        refine cw_seq ?_
        refine cw_reg ?_
        refine el_pv (pv_assign rfl) (by decide) ?_
        refine el_pv (pv_assign rfl) (by decide) ?_
        refine el_nil ?_
        refine thn_n ?_
        refine cw_ret ?_
        refine thn_r ?_
        obtain rfl := Option.some.inj hF
        refine fin2 rfl rfl rfl ?_
        exact ⟨rfl, hS.below⟩
    · refine el_off rfl (bnot_f hb124) rfl (by decide) ?_
      refine el_off rfl (bnot_f hb124) rfl (by decide) ?_
      refine el_off rfl (bnot_f hb124) rfl (by decide) ?_
      refine el_off rfl (bnot_f hb124) rfl (by decide) ?_
      refine el_pv (pv_pick_t rfl (bnot_f hb124) rfl) (by decide) ?_
      refine el_nil ?_
      refine thn_n ?_
      refine cw_cond_t rfl rfl ?_
      refine cw_seq ?_
      refine cw_reg ?_
      refine el_pv (pv_assign rfl) (by decide) ?_
      refine el_pv (pv_assign rfl) (by decide) ?_
      refine el_nil ?_
      refine thn_n ?_
      refine cw_ret ?_
      refine thn_r ?_
      obtain rfl := Option.some.inj hF
      refine fin2 rfl rfl rfl ?_
      exact ⟨rfl, hS.below⟩
theorem impl_IsValidFactorization_ok {w0 : World} {u0 : Value} {a0 : List Int} {u1 : Value} {a1 : List (List Int × List Int)} (ha0 : (sliceR intR 3).rd w0 [u0] a0) (ha1 : (sliceR (pairR (sliceR intR 3) (sliceR intR 3)) 67).rd w0 [u1] a1) {N : Nat} {r : Bool} (hF : impl_IsValidFactorization N a0 a1 = some r) :
    Calls Try.prog 24 #[.agg #[u0, u1]] w0 fun e w' => e = .returned (.bool r) ∧ Ext w0 w' := by
  unfold impl_IsValidFactorization at hF
  refine calls_E Try.func24 rfl rfl (of_decide_eq_true rfl) ?_
  have hS := Sat.start w0
  refine cw_seq ?_
  refine cw_reg ?_
  refine el_box [u0, u1] rfl hS (by decide) ?_
  intro w101 b102 hS hx103
  refine el_pv (pv_assign rfl) (by decide) ?_
  refine el_nil ?_
  refine thn_n ?_
  refine cw_seq ?_
  refine cw_reg ?_
  refine el_pv (pv_loada (cs := [u0, u1]) rfl rfl (boxc0 (hS.boxAt 0 rfl))) (by decide) ?_
  refine el_alloc hS (by decide) ?_
  intro w105 b106 hS hx107
  refine el_storev (hS.top 0 rfl) rfl [u0, u1] rfl rfl (of_decide_eq_true rfl) (all_cons (oc ha0) (all_cons (oc ha1) rfl)) ?_
  intro w109 hS
  replace hS : Sat w0 w109 (Box b106 30 [u0, u1] :: _) := hS
  refine el_nil ?_
  refine thn_n ?_
  refine cw_seq ?_
  refine cw_seq ?_
  refine cw_reg ?_
  refine el_pv (pv_fieldAddr rfl) (by decide) ?_
  refine el_pv (pv_loadc rfl ((hS.boxAt 0 rfl) 0 _ rfl)) (by decide) ?_
  obtain ⟨r110, hr110, hF⟩ := ob hF
  refine el_call goes63 (impl_IsPermutation_ok (hS.up ha0) hr110) (congrArg List.toArray (mapc rfl rfl)) (by decide) ?_
  rintro _ w111 ⟨rfl, hx112⟩
  refine ⟨_, rfl, ?_⟩
  have hS := hS.ext hx112
  refine el_pv (pv_not rfl) (by decide) ?_
  refine el_pv (pv_move rfl) (by decide) ?_
  rcases oif hF with ⟨hb113, hF⟩ | ⟨hb113, hF⟩
  · refine el_on rfl (bnot_t hb113) ?_
    refine el_pv (pv_fieldAddr rfl) (by decide) ?_
    refine el_on rfl (bnot_t hb113) ?_
    refine el_pv (pv_loadc rfl ((hS.boxAt 0 rfl) 1 _ rfl)) (by decide) ?_
    refine el_on rfl (bnot_t hb113) ?_
    refine el_pv (pv_len rfl ha1) (by decide) ?_
    refine el_on rfl (bnot_t hb113) ?_
    obtain ⟨r114, hr114, hF⟩ := ob hF
    refine el_call goes64 (impl_within_ok hr114) (congrArg List.toArray (mapc rfl (mapc rfl (mapc rfl rfl)))) (by decide) ?_
    rintro _ w115 ⟨rfl, hx116⟩
    refine ⟨_, rfl, ?_⟩
    have hS := hS.ext hx116
    refine el_on rfl (bnot_t hb113) ?_
    refine el_pv (pv_not rfl) (by decide) ?_
    refine el_pv (pv_pick_f rfl (bnot_t hb113) rfl) (by decide) ?_
    refine el_pv (pv_move rfl) (by decide) ?_
    rcases oif hF with ⟨hb117, hF⟩ | ⟨hb117, hF⟩
    · refine el_on rfl (bnot_t hb117) ?_
      refine el_pv (pv_fieldAddr rfl) (by decide) ?_
      refine el_on rfl (bnot_t hb117) ?_
      refine el_pv (pv_loadc rfl ((hS.boxAt 0 rfl) 1 _ rfl)) (by decide) ?_
      refine el_on rfl (bnot_t hb117) ?_
      obtain ⟨x118, hx118, hF⟩ := ob hF
      refine el_index (wA := w0) rfl ha1 rfl (by decide) rfl hx118 (by decide) ?_
      intro b119 of120 c121 hr122 hm123
      obtain ⟨_, _, rfl, hr124, hr125⟩ := hr122
      obtain ⟨v126, rfl⟩ := slice_one hr124
      obtain ⟨v127, rfl⟩ := slice_one hr125
      refine el_on rfl (bnot_t hb117) ?_
      refine el_pv (pv_fieldAddr rfl) (by decide) ?_
      refine el_on rfl (bnot_t hb117) ?_
      refine el_pv (pv_loadc rfl ((cells_up hS.below hm123) 0 _ rfl)) (by decide) ?_
      refine el_on rfl (bnot_t hb117) ?_
      refine el_pv (pv_len rfl hr124) (by decide) ?_
      refine el_on rfl (bnot_t hb117) ?_
      refine el_pv (pv_gtr rfl rfl) (by decide) ?_
      refine el_pv (pv_pick_f rfl (bnot_t hb117) rfl) (by decide) ?_
      refine el_pv (pv_move rfl) (by decide) ?_
      rcases oif hF with ⟨hb128, hF⟩ | ⟨hb128, hF⟩
      · refine el_off rfl hb128 rfl (by decide) ?_
        refine el_off rfl hb128 rfl (by decide) ?_
        refine el_off rfl hb128 rfl (by decide) ?_
        refine el_off rfl hb128 rfl (by decide) ?_
        refine el_off rfl hb128 rfl (by decide) ?_
        refine el_off rfl hb128 rfl (by decide) ?_
        refine el_off rfl hb128 rfl (by decide) ?_
        refine el_pv (pv_pick_t rfl hb128 rfl) (by decide) ?_
        refine el_nil ?_
        refine thn_n ?_
        refine cw_cond_t rfl rfl ?_
        refine cw_seq ?_
        refine cw_reg ?_
        refine el_pv (pv_assign rfl) (by decide) ?_
        refine el_nil ?_
        refine thn_n ?_
        refine cw_ret ?_
        refine thn_r ?_
        obtain rfl := Option.some.inj hF
        refine fin1 rfl rfl ?_
        exact ⟨rfl, hS.below⟩
      · refine el_on rfl hb128 ?_
        refine el_pv (pv_fieldAddr rfl) (by decide) ?_
        refine el_on rfl hb128 ?_
        refine el_pv (pv_loadc rfl ((hS.boxAt 0 rfl) 1 _ rfl)) (by decide) ?_
        refine el_on rfl hb128 ?_
        obtain ⟨x129, hx129, hF⟩ := ob hF
        refine el_index (wA := w0) rfl ha1 rfl (by decide) rfl hx129 (by decide) ?_
        intro b130 of131 c132 hr133 hm134
        obtain ⟨_, _, rfl, hr135, hr136⟩ := hr133
        obtain ⟨v137, rfl⟩ := slice_one hr135
        obtain ⟨v138, rfl⟩ := slice_one hr136
        refine el_on rfl hb128 ?_
        refine el_pv (pv_fieldAddr rfl) (by decide) ?_
        refine el_on rfl hb128 ?_
        refine el_pv (pv_loadc rfl ((cells_up hS.below hm134) 1 _ rfl)) (by decide) ?_
        refine el_on rfl hb128 ?_
        refine el_pv (pv_len rfl hr136) (by decide) ?_
        refine el_on rfl hb128 ?_
        refine el_pv (pv_gtr rfl rfl) (by decide) ?_
        refine el_pv (pv_pick_f rfl hb128 rfl) (by decide) ?_
        refine el_nil ?_
        refine thn_n ?_
        rcases oif hF with ⟨hb139, hF⟩ | ⟨hb139, hF⟩
        · refine cw_cond_t rfl hb139 ?_
          refine cw_seq ?_
          refine cw_reg ?_
          refine el_pv (pv_assign rfl) (by decide) ?_
          refine el_nil ?_
          refine thn_n ?_
          refine cw_ret ?_
          refine thn_r ?_
          obtain rfl := Option.some.inj hF
          refine fin1 rfl rfl ?_
          exact ⟨rfl, hS.below⟩
        · refine cw_cond_f rfl hb139 ?_
          refine cw_skip ?_
          refine thn_n ?_
          refine cw_seq ?_
          refine cw_reg ?_
          refine el_pv (pv_fieldAddr rfl) (by decide) ?_
          refine el_pv (pv_loadc rfl ((hS.boxAt 0 rfl) 1 _ rfl)) (by decide) ?_
          refine el_pv (pv_len rfl ha1) (by decide) ?_
          obtain ⟨x143, hx143, hF⟩ := ob hF
          refine el_make (R := intR) (x0 := 0) rfl (by decide) rfl (fun _ => ⟨rfl, rfl⟩) rfl rfl hx143 hS (by decide) ?_
          intro w140 g141 k142 hS hx144 hlx143
          refine el_pv (pv_assign rfl) (by decide) ?_
          refine el_nil ?_
          refine thn_n ?_
          refine cw_seq ?_
          refine cw_seq ?_
          refine cw_reg ?_
          refine el_pv (pv_assign rfl) (by decide) ?_
          refine el_nil ?_
          refine thn_n ?_
          refine cw_block ?_
          obtain ⟨s146, hL, hK147⟩ := ob hF
          have hS := hS.rem 2 rfl
          refine cw_loopS (fun k e w => ∃ (v149 : Value), ∃ (x148 : List Int), ∃ (x150 : Int), e 3 = .pointer (some ⟨b106, 0, none⟩) ∧ e 4 = v149 ∧ e 5 = .int .i64 x150 ∧ Sat w0 w [Own (sliceR intR 3) [v149] x148, Box b106 30 [u0, u1]] ∧ impl_IsValidFactorization_L1 N k a0 a1 x148 x150 = some s146) N ?_ ?_ ?_
          · exact ⟨(.slice (some ⟨g141, 0, none⟩) k142 k142), x143, 1, rfl, rfl, rfl, hS, hL⟩
          · rintro e w ⟨_, _, _, _, _, _, _, hz⟩; exact nomatch (show none = some _ from hz)
          · rintro k e155 w154 ⟨v149, x148, x150, he151, he152, he153, hS, hF⟩
            refine cw_seq ?_
            refine cw_seq ?_
            refine cw_reg ?_
            refine el_pv (pv_move he153) (by decide) ?_
            refine el_pv (pv_fieldAddr he151) (by decide) ?_
            refine el_pv (pv_loadc rfl ((hS.boxAt 1 rfl) 1 _ rfl)) (by decide) ?_
            refine el_pv (pv_len rfl ha1) (by decide) ?_
            refine el_pv (pv_lss rfl rfl) (by decide) ?_
            refine el_nil ?_
            refine thn_n ?_
            rcases oif hF with ⟨hb156, hF⟩ | ⟨hb156, hF⟩
            · refine cw_cond_t rfl hb156 ?_
              refine cw_skip ?_
              refine thn_n ?_
              refine cw_seq ?_
              refine cw_block ?_
              refine cw_seq ?_
              refine cw_reg ?_
              refine el_pv (pv_loada (cs := [u0, u1]) he151 rfl (boxc0 (hS.boxAt 1 rfl))) (by decide) ?_
              refine el_pv (pv_move he152) (by decide) ?_
              refine el_pv (pv_move he153) (by decide) ?_
              obtain ⟨r157, hr157, hF⟩ := ob hF
              refine el_call goes65 (impl_nodeOk_ok (hS.up ha0) (hS.up ha1) (hS.rdAt (R := (sliceR intR 3)) 0 rfl) hr157) (congrArg List.toArray (mapc rfl (mapc rfl (mapc rfl rfl)))) (by decide) ?_
              rintro _ w158 ⟨rfl, hx159⟩
              refine ⟨_, rfl, ?_⟩
              have hS := hS.ext hx159
              refine el_pv (pv_move rfl) (by decide) ?_
              refine el_pv (pv_extract rfl rfl) (by decide) ?_
              refine el_pv (pv_extract rfl rfl) (by decide) ?_
              refine el_pv (pv_assign rfl) (by decide) ?_
              refine el_pv (pv_assign rfl) (by decide) ?_
              refine el_nil ?_
              refine thn_n ?_
              refine cw_seq ?_
              refine cw_seq ?_
              refine cw_reg ?_
              refine el_pv (pv_move rfl) (by decide) ?_
              refine el_pv (pv_not rfl) (by decide) ?_
              refine el_nil ?_
              refine thn_n ?_
              rcases oif hF with ⟨hb160, hF⟩ | ⟨hb160, hF⟩
              · refine cw_cond_f rfl (bnot_t hb160) ?_
                refine cw_skip ?_
                refine thn_n ?_
                refine cw_reg ?_
                refine el_pv (pv_move he152) (by decide) ?_
                refine el_pv (pv_move he153) (by decide) ?_
                refine el_pv (pv_move rfl) (by decide) ?_
                obtain ⟨x161, hx161, hF⟩ := ob hF
                refine el_indexO hS rfl rfl (by decide) rfl hx161 (by decide) ?_
                intro b162 of163 c164 hv167 hr165 hm166
                obtain rfl := hr165
                obtain ⟨x169, hx169, hF⟩ := ob hF
                have hS := hS.int r157.1
                refine el_storeO rfl hv167 hS hx169 rfl rfl ?_
                intro w168 hS
                refine el_nil ?_
                refine inb_n ?_
                refine thn_n ?_
                refine cw_reg ?_
                refine el_pv (pv_move he153) (by decide) ?_
                obtain ⟨x170, hx170, hF⟩ := ob hF
                refine el_pv (pv_add rfl rfl hx170) (by decide) ?_
                refine el_pv (pv_assign rfl) (by decide) ?_
                refine el_nil ?_
                refine thn_n ?_
                have hS := hS.top 1 rfl
                have hS := hS.top 1 rfl
                have hS := hS.keep 2
                exact ⟨v149, x169, x170, he151, he152, rfl, hS, hF⟩
              · refine cw_cond_t rfl (bnot_f hb160) ?_
                refine cw_seq ?_
                refine cw_reg ?_
                refine el_pv (pv_assign rfl) (by decide) ?_
                refine el_nil ?_
                refine thn_n ?_
                refine cw_ret ?_
                refine thn_r ?_
                refine inb_r ?_
                refine thn_r ?_
                refine thn_r ?_
                refine inb_r ?_
                refine thn_r ?_
                obtain rfl := Option.some.inj hF
                have hF := hK147
                obtain rfl := Option.some.inj hF
                refine fin1 rfl rfl ?_
                exact ⟨rfl, hS.below⟩
            · refine cw_cond_f rfl hb156 ?_
              refine cw_exit ?_
              refine thn_x ?_
              refine thn_x ?_
              obtain rfl := Option.some.inj hF
              have hF := hK147
              refine inb_s ?_
              refine thn_n ?_
              refine cw_seq ?_
              refine cw_regq (by kernel_rfl) (by kernel_rfl) ?_
              refine ql_pv (pv_move he152) (by decide) ?_
              refine ql_pv (pv_move he152) (by decide) ?_
              refine ql_pv (pv_len rfl (hS.rdAt (R := (sliceR intR 3)) 0 rfl)) (by decide) ?_
              obtain ⟨x171, hx171, hF⟩ := ob hF
              refine ql_pv (pv_sub rfl rfl hx171) (by decide) ?_
              obtain ⟨x172, hx172, hF⟩ := ob hF
              refine ql_index (wA := w154) rfl (hS.rdAt (R := (sliceR intR 3)) 0 rfl) rfl (by decide) rfl hx172 (by decide) ?_
              intro b173 of174 c175 hr176 hm177
              obtain rfl := hr176
              refine ql_pv (pv_loadc rfl (hm177 0 _ rfl)) (by decide) ?_
              refine ql_pv (pv_fieldAddr he151) (by decide) ?_
              refine ql_pv (pv_loadc rfl ((hS.boxAt 1 rfl) 0 _ rfl)) (by decide) ?_
              refine ql_pv (pv_len rfl ha0) (by decide) ?_
              refine ql_pv (pv_eql rfl rfl) (by decide) ?_
              refine ql_pv (pv_assign rfl) (by decide) ?_
              refine ql_nil ?_
              intro w178 hx179
              have hS := hS.ext hx179
              have hm177 := cells_up hx179 hm177
              refine thn_n ?_
              refine cw_ret ?_
              obtain rfl := Option.some.inj hF
              refine fin1 rfl rfl ?_
              exact ⟨rfl, hS.below⟩
    · refine el_off rfl (bnot_f hb117) rfl (by decide) ?_
      refine el_off rfl (bnot_f hb117) rfl (by decide) ?_
      refine el_off rfl (bnot_f hb117) rfl (by decide) ?_
      refine el_off rfl (bnot_f hb117) rfl (by decide) ?_
      refine el_off rfl (bnot_f hb117) rfl (by decide) ?_
      refine el_off rfl (bnot_f hb117) rfl (by decide) ?_
      refine el_off rfl (bnot_f hb117) rfl (by decide) ?_
      refine el_pv (pv_pick_t rfl (bnot_f hb117) rfl) (by decide) ?_
      refine el_pv (pv_move rfl) (by decide) ?_
      refine el_off rfl rfl rfl (by decide) ?_
      refine el_off rfl rfl rfl (by decide) ?_
      refine el_off rfl rfl rfl (by decide) ?_
      refine el_off rfl rfl rfl (by decide) ?_
      refine el_off rfl rfl rfl (by decide) ?_
      refine el_off rfl rfl rfl (by decide) ?_
      refine el_off rfl rfl rfl (by decide) ?_
      refine el_pv (pv_pick_t rfl rfl rfl) (by decide) ?_
      refine el_nil ?_
      refine thn_n ?_
      refine cw_cond_t rfl rfl ?_
      refine cw_seq ?_
      refine cw_reg ?_
      refine el_pv (pv_assign rfl) (by decide) ?_
      refine el_nil ?_
      refine thn_n ?_
      refine cw_ret ?_
      refine thn_r ?_
      obtain rfl := Option.some.inj hF
      refine fin1 rfl rfl ?_
      exact ⟨rfl, hS.below⟩
  · refine el_off rfl (bnot_f hb113) rfl (by decide) ?_
    refine el_off rfl (bnot_f hb113) rfl (by decide) ?_
    refine el_off rfl (bnot_f hb113) rfl (by decide) ?_
    refine el_off rfl (bnot_f hb113) rfl (by decide) ?_
    refine el_off rfl (bnot_f hb113) rfl (by decide) ?_
    refine el_pv (pv_pick_t rfl (bnot_f hb113) rfl) (by decide) ?_
    refine el_pv (pv_move rfl) (by decide) ?_
    refine el_off rfl rfl rfl (by decide) ?_
    refine el_off rfl rfl rfl (by decide) ?_
    refine el_off rfl rfl rfl (by decide) ?_
    refine el_off rfl rfl rfl (by decide) ?_
    refine el_off rfl rfl rfl (by decide) ?_
    refine el_off rfl rfl rfl (by decide) ?_
    refine el_off rfl rfl rfl (by decide) ?_
    refine el_pv (pv_pick_t rfl rfl rfl) (by decide) ?_
    refine el_pv (pv_move rfl) (by decide) ?_
    refine el_off rfl rfl rfl (by decide) ?_
    refine el_off rfl rfl rfl (by decide) ?_
    refine el_off rfl rfl rfl (by decide) ?_
    refine el_off rfl rfl rfl (by decide) ?_
    refine el_off rfl rfl rfl (by decide) ?_
    refine el_off rfl rfl rfl (by decide) ?_
    refine el_off rfl rfl rfl (by decide) ?_
    refine el_pv (pv_pick_t rfl rfl rfl) (by decide) ?_
    refine el_nil ?_
    refine thn_n ?_
    refine cw_cond_t rfl rfl ?_
    refine cw_seq ?_
    refine cw_reg ?_
    refine el_pv (pv_assign rfl) (by decide) ?_
    refine el_nil ?_
    refine thn_n ?_
    refine cw_ret ?_
    refine thn_r ?_
    obtain rfl := Option.some.inj hF
    refine fin1 rfl rfl ?_
    exact ⟨rfl, hS.below⟩
theorem laws_FnExactIsValidFactorization_ok {w0 : World} {u0 : Value} {a0 : List Int} {u1 : Value} {a1 : List (List Int × List Int)} (ha0 : (sliceR intR 3).rd w0 [u0] a0) (ha1 : (sliceR (pairR (sliceR intR 3) (sliceR intR 3)) 89).rd w0 [u1] a1) {N : Nat} {r : Bool} (hF : laws_FnExactIsValidFactorization N a0 a1 = some r) :
    Calls Try.prog 6 #[.agg #[u0, u1]] w0 fun e w' => e = .returned (.bool r) ∧ Ext w0 w' := by
  unfold laws_FnExactIsValidFactorization at hF
  refine calls_E Try.func6 rfl rfl (of_decide_eq_true rfl) ?_
  have hS := Sat.start w0
  refine cw_seq ?_
  refine cw_reg ?_
  refine el_box [u0, u1] rfl hS (by decide) ?_
  intro w101 b102 hS hx103
  refine el_pv (pv_assign rfl) (by decide) ?_
  refine el_nil ?_
  refine thn_n ?_
  refine cw_seq ?_
  refine cw_reg ?_
  refine el_pv (pv_assign rfl) (by decide) ?_
  refine el_nil ?_
  refine thn_n ?_
  refine cw_seq ?_
  refine cw_reg ?_
  refine el_pv (pv_loada (cs := [u0, u1]) rfl rfl (boxc0 (hS.boxAt 0 rfl))) (by decide) ?_
  refine el_pv (pv_move rfl) (by decide) ?_
  obtain ⟨r105, hr105, hF⟩ := ob hF
  refine el_call goes9 (laws_szFactorization_ok (hS.up ha0) (hS.up ha1) hr105) (congrArg List.toArray (mapc rfl (mapc rfl rfl))) (by decide) ?_
  rintro _ w106 ⟨rfl, hx107⟩
  refine ⟨_, rfl, ?_⟩
  have hS := hS.ext hx107
  refine el_pv (pv_assign rfl) (by decide) ?_
  refine el_nil ?_
  refine thn_n ?_
  refine cw_seq ?_
  refine cw_seq ?_
  refine cw_reg ?_
  refine el_pv (pv_move rfl) (by decide) ?_
  refine el_pv (pv_lss rfl rfl) (by decide) ?_
  refine el_nil ?_
  refine thn_n ?_
  rcases oif hF with ⟨hb108, hF⟩ | ⟨hb108, hF⟩
  · refine cw_cond_t rfl hb108 ?_
    refine cw_seq ?_
    refine cw_reg ?_
    refine el_pv (pv_assign rfl) (by decide) ?_
    refine el_nil ?_
    refine thn_n ?_
    refine cw_ret ?_
    refine thn_r ?_
    obtain rfl := Option.some.inj hF
    refine fin1 rfl rfl ?_
    exact ⟨rfl, hS.below⟩
  · refine cw_cond_f rfl hb108 ?_
    refine cw_skip ?_
    refine thn_n ?_
    refine cw_seq ?_
    refine cw_reg ?_
    refine el_pv (pv_loada (cs := [u0, u1]) rfl rfl (boxc0 (hS.boxAt 0 rfl))) (by decide) ?_
    obtain ⟨r109, hr109, hF⟩ := ob hF
    refine el_call goes11 (laws_toFactorization_ok (hS.up ha0) (hS.up ha1) hr109) (congrArg List.toArray (mapc rfl rfl)) (by decide) ?_
    rintro _ w114 ⟨v110, v112, rfl, hS'⟩
    refine ⟨_, rfl, ?_⟩
    have hx115 := hS'.below
    have hS := hS.call2 hS'
    obtain ⟨r116, hr116, hF⟩ := ob hF
    refine el_call goes23 (spec_IsValidFactorization_ok (hS.rdAt (R := (sliceR intR 3)) 0 rfl) (hS.rdAt (R := (sliceR (pairR (sliceR intR 3) (sliceR intR 3)) 67)) 1 rfl) hr116) (congrArg List.toArray (mapc rfl rfl)) (by decide) ?_
    rintro _ w117 ⟨rfl, hx118⟩
    refine ⟨_, rfl, ?_⟩
    have hS := hS.ext hx118
    refine el_pv (pv_assign rfl) (by decide) ?_
    refine el_nil ?_
    refine thn_n ?_
    refine cw_seq ?_
    refine cw_reg ?_
    refine el_pv (pv_loada (cs := [u0, u1]) rfl rfl (boxc0 (hS.boxAt 2 rfl))) (by decide) ?_
    obtain ⟨r119, hr119, hF⟩ := ob hF
    refine el_call goes11 (laws_toFactorization_ok (hS.up ha0) (hS.up ha1) hr119) (congrArg List.toArray (mapc rfl rfl)) (by decide) ?_
    rintro _ w124 ⟨v120, v122, rfl, hS'⟩
    refine ⟨_, rfl, ?_⟩
    have hx125 := hS'.below
    have hS := hS.call2 hS'
    refine el_alloc hS (by decide) ?_
    intro w126 b127 hS hx128
    refine el_storev (hS.top 0 rfl) rfl [v120, v122] rfl rfl (of_decide_eq_true rfl) (all_cons (oc (hS.rdAt (R := (sliceR intR 3)) 1 rfl)) (all_cons (oc (hS.rdAt (R := (sliceR (pairR (sliceR intR 3) (sliceR intR 3)) 67)) 2 rfl)) rfl)) ?_
    intro w130 hS
    replace hS : Sat w0 w130 (Box b127 30 [v120, v122] :: _) := hS
    refine el_nil ?_
    refine thn_n ?_
    refine cw_seq ?_
    refine cw_reg ?_
    refine el_pv (pv_loada (cs := [v120, v122]) rfl rfl (boxc0 (hS.boxAt 0 rfl))) (by decide) ?_
    obtain ⟨r131, hr131, hF⟩ := ob hF
    refine el_call goes24 (impl_IsValidFactorization_ok (hS.rdAt (R := (sliceR intR 3)) 1 rfl) (hS.rdAt (R := (sliceR (pairR (sliceR intR 3) (sliceR intR 3)) 67)) 2 rfl) hr131) (congrArg List.toArray (mapc rfl rfl)) (by decide) ?_
    rintro _ w132 ⟨rfl, hx133⟩
    refine ⟨_, rfl, ?_⟩
    have hS := hS.ext hx133
    refine el_pv (pv_assign rfl) (by decide) ?_
    refine el_nil ?_
    refine thn_n ?_
    refine cw_seq ?_
    refine cw_seq ?_
    refine cw_reg ?_
    refine el_pv (pv_move rfl) (by decide) ?_
    refine el_pv (pv_move rfl) (by decide) ?_
    refine el_pv (pv_neqB Try.underlying4 rfl rfl) (by decide) ?_
    refine el_nil ?_
    refine thn_n ?_
    rcases oif hF with ⟨hb134, hF⟩ | ⟨hb134, hF⟩
    · refine cw_cond_t rfl hb134 ?_
      refine cw_seq ?_
      refine cw_reg ?_
      refine el_pv (pv_assign rfl) (by decide) ?_
      refine el_nil ?_
      refine thn_n ?_
      refine cw_ret ?_
      refine thn_r ?_
      obtain rfl := Option.some.inj hF
      refine fin1 rfl rfl ?_
      exact ⟨rfl, hS.below⟩
    · refine cw_cond_f rfl hb134 ?_
      refine cw_skip ?_
      refine thn_n ?_
      refine cw_seq ?_
      refine cw_seq ?_
      obtain ⟨C, hCd⟩ : ∃ C : World → Prop, ∀ w, C w ↔ ∃ G, Sat w0 w ([Box b127 30 [v120, v122], Box b102 25 [u0, u1]] ++ G) := ⟨_, fun _ => Iff.rfl⟩
      refine cw_regb [0, 1, 2, 3, 4] C (by kernel_rfl) ?_
      intro w135 hx136
      have hS := hS.ext hx136
      have hS := hS.top 5 rfl
      have hS := hS.top 1 rfl
      have hC := (hCd _).2 ⟨_, hS⟩
      refine al_p (by kernel_rfl) 0 rfl rfl (by decide) hC (by kernel_rfl) (by kernel_rfl) (sv_on rfl (fun w' hw' => by obtain ⟨_, hS⟩ := (hCd _).1 hw'; exact (pv_loada (cs := [v120, v122]) rfl rfl (boxc0 (hS.boxAt 0 rfl))))) ?_
      refine al_p (by kernel_rfl) 1 rfl rfl (by decide) hC (by kernel_rfl) (by kernel_rfl) (sv_on rfl (fun w' hw' => by obtain ⟨_, hS⟩ := (hCd _).1 hw'; exact (pv_loada (cs := [u0, u1]) rfl rfl (boxc0 (hS.boxAt 1 rfl))))) ?_
      refine al_one 2 (by kernel_rfl) rfl ?_
      obtain ⟨r137, hr137, hF⟩ := ob hF
      refine el_call goes11 (laws_toFactorization_ok (hS.up ha0) (hS.up ha1) hr137) (congrArg List.toArray (mapc rfl rfl)) (by decide) ?_
      rintro _ w142 ⟨v138, v140, rfl, hS'⟩
      refine ⟨_, rfl, ?_⟩
      have hx143 := hS'.below
      have hS := hS.call2 hS'
      refine el_nil ?_
      have hS := hS.top 3 rfl
      have hS := hS.top 3 rfl
      have hC := (hCd _).2 ⟨_, hS⟩
      have hoc144 := oc (hS.rdAt (R := (sliceR intR 3)) 2 rfl)
      have hoc145 := oc (hS.rdAt (R := (sliceR (pairR (sliceR intR 3) (sliceR intR 3)) 67)) 3 rfl)
      have hoc146 := oc (hS.rdAt (R := (sliceR intR 3)) 4 rfl)
      have hoc147 := oc (hS.rdAt (R := (sliceR (pairR (sliceR intR 3) (sliceR intR 3)) 67)) 5 rfl)
      have hoc148 := oc (hS.rdAt (R := (sliceR intR 3)) 6 rfl)
      have hoc149 := oc (hS.rdAt (R := (sliceR (pairR (sliceR intR 3) (sliceR intR 3)) 67)) 7 rfl)
      refine ⟨fun _ => hC, ?_⟩
      refine al_one 3 (by kernel_rfl) rfl ?_
      obtain ⟨r150, hr150, hF⟩ := ob hF
      refine el_call goes13 (laws_eqFactorization_ok (hS.rdAt (R := (sliceR intR 3)) 4 rfl) (hS.rdAt (R := (sliceR (pairR (sliceR intR 3) (sliceR intR 3)) 67)) 5 rfl) (hS.rdAt (R := (sliceR intR 3)) 2 rfl) (hS.rdAt (R := (sliceR (pairR (sliceR intR 3) (sliceR intR 3)) 67)) 3 rfl) hr150) (congrArg List.toArray (mapc rfl (mapc rfl rfl))) (by decide) ?_
      rintro _ w151 ⟨rfl, hx152⟩
      refine ⟨_, rfl, ?_⟩
      have hS := hS.ext hx152
      refine el_nil ?_
      have hS := hS.top 1 rfl
      have hS := hS.top 1 rfl
      have hC := (hCd _).2 ⟨_, hS⟩
      refine ⟨fun _ => hC, ?_⟩
      refine al_p (by kernel_rfl) 4 rfl rfl (by decide) hC (by kernel_rfl) (by kernel_rfl) (sv_on rfl (fun w' hw' => by obtain ⟨_, hS⟩ := (hCd _).1 hw'; exact (pv_not rfl))) ?_
      refine al_nil (by kernel_rfl) ?_
      refine thn_n ?_
      rcases oif hF with ⟨hb153, hF⟩ | ⟨hb153, hF⟩
      · refine cw_cond_f rfl (bnot_t hb153) ?_
        refine cw_skip ?_
        refine thn_n ?_
        refine cw_seq ?_
        refine cw_reg ?_
        refine el_pv (pv_assign rfl) (by decide) ?_
        refine el_nil ?_
        refine thn_n ?_
        refine cw_ret ?_
        obtain rfl := Option.some.inj hF
        refine fin1 rfl rfl ?_
        exact ⟨rfl, hS.below⟩
      · refine cw_cond_t rfl (bnot_f hb153) ?_
        refine cw_seq ?_
        refine cw_reg ?_
        refine el_pv (pv_assign rfl) (by decide) ?_
        refine el_nil ?_
        refine thn_n ?_
        refine cw_ret ?_
        refine thn_r ?_
        obtain rfl := Option.some.inj hF
        refine fin1 rfl rfl ?_
        exact ⟨rfl, hS.below⟩
theorem spec_l25Clip_ok {w0 : World} {a0 : Int}  {N : Nat} {r : Int} (hF : spec_l25Clip N a0 = some r) :
    Calls Try.prog 78 #[.int .i64 a0] w0 fun e w' => e = .returned (.int .i64 r) ∧ Ext w0 w' := by
  unfold spec_l25Clip at hF
  refine calls_E Try.func78 rfl rfl (of_decide_eq_true rfl) ?_
  have hS := Sat.start w0
  refine cw_seq ?_
  refine cw_reg ?_
  refine el_pv (pv_assign rfl) (by decide) ?_
  refine el_nil ?_
  refine thn_n ?_
  refine cw_seq ?_
  refine cw_reg ?_
  refine el_pv (pv_move rfl) (by decide) ?_
  refine el_pv (pv_min rfl rfl) (by decide) ?_
  refine el_pv (pv_max rfl rfl) (by decide) ?_
  refine el_pv (pv_assign rfl) (by decide) ?_
  refine el_nil ?_
  refine thn_n ?_
  refine cw_ret ?_
  obtain rfl := Option.some.inj hF
  refine fin1 rfl rfl ?_
  exact ⟨rfl, hS.below⟩
end Go.Proofs.Ytobjjdfgnaanjaa
