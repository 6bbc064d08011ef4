/- The walks through functions of the program: each hands back what it comes to. No condition but that it comes to something. -/
import Derived.Test.YtnanddmadghnnaaW0
import Derived.Test.YtnanddmadghnnaaW1D
namespace Go.Proofs.Ytnanddmadghnnaa
open Go.RowKit
set_option maxRecDepth 100000
set_option maxHeartbeats 4000000 in
theorem impl_IntersectByLookup_ok {w0 : World} {u0 : Value} {a0 : List (List Int)} (ha0 : (sliceR (sliceR intR 3) 24).rd w0 [u0] a0) {N : Nat} {r : (List Int) × Int} (hF : impl_IntersectByLookup N a0 = some r) :
    Calls Try.prog 9 #[u0] w0 fun e w' => ∃ (q0 : Value), e = .returned (.tuple #[q0, .int .i64 r.2]) ∧ Sat w0 w' [Own (sliceR intR 3) [q0] r.1] := by
  unfold impl_IntersectByLookup at hF
  refine calls_E Try.func9 rfl rfl (of_decide_eq_true rfl) ?_
  have hS := Sat.start w0
  refine cw_seq ?_
  refine cw_gen ?_
  intro Q101 hQ101
  refine cw_reg ?_
  refine el_pv (v := (.slice none 0 0)) (pv_assign rfl) (by decide) ?_
  refine el_pv (v := .int .i64 0) (pv_assign rfl) (by decide) ?_
  refine el_nil ?_
  refine hQ101 _ _ _ ?_
  refine thn_n ?_
  refine cw_seq ?_
  refine cw_gen ?_
  intro Q102 hQ102
  refine cw_seq ?_
  refine cw_gen ?_
  intro Q103 hQ103
  refine cw_reg ?_
  refine el_pv (v := u0) (pv_move rfl) (by decide) ?_
  replace hF := ob hF
  obtain ⟨r104, hr104, hF⟩ := hF
  refine el_call goes32 (impl_ascendingLists_ok (hS.up ha0) hr104) (congrArg List.toArray (mapc rfl rfl)) (by decide) ?_
  rintro _ w105 ⟨rfl, hx106⟩
  refine ⟨_, rfl, ?_⟩
  replace hS := hS.ext hx106
  refine el_pv (v := .bool (!r104)) (pv_not rfl) (by decide) ?_
  refine el_nil ?_
  refine hQ103 _ _ _ ?_
  refine thn_n ?_
  replace hF := oif hF
  rcases hF with ⟨hb107, hF⟩ | ⟨hb107, hF⟩
  · refine cw_cond_f rfl (bnot_t hb107) ?_
    refine cw_skip ?_
    refine hQ102 _ _ _ ?_
    refine thn_n ?_
    refine cw_seq ?_
    refine cw_gen ?_
    intro Q108 hQ108
    refine cw_reg ?_
    refine el_pv (v := .int .i64 0) (pv_assign rfl) (by decide) ?_
    refine el_nil ?_
    refine hQ108 _ _ _ ?_
    refine thn_n ?_
    refine cw_seq ?_
    refine cw_gen ?_
    intro Q109 hQ109
    refine cw_seq ?_
    refine cw_gen ?_
    intro Q110 hQ110
    refine cw_reg ?_
    refine el_pv (v := u0) (pv_move rfl) (by decide) ?_
    refine el_pv (v := .int .i64 (a0.length : Int)) (pv_len rfl ha0) (by decide) ?_
    refine el_pv (v := .int .i64 0) (pv_move rfl) (by decide) ?_
    refine el_nil ?_
    refine hQ110 _ _ _ ?_
    refine thn_n ?_
    refine cw_block ?_
    refine cw_gen ?_
    intro Q111 hQ111
    obtain ⟨s112, hL, hK113⟩ := ob hF
    refine cw_loopS (fun k e w => ∃ (x114 : Int), ∃ (x115 : Int), e 0 = u0 ∧ e 4 = .int .i64 x114 ∧ e 17 = u0 ∧ e 18 = .int .i64 (a0.length : Int) ∧ e 19 = .int .i64 x115 ∧ Sat w0 w [] ∧ impl_IntersectByLookup_L1 N k a0 x114 a0 (a0.length : Int) x115 = some s112) N ?_ ?_ ?_
    · exact ⟨0, 0, rfl, rfl, rfl, rfl, rfl, hS, hL⟩
    · rintro e w ⟨_, _, _, _, _, _, _, _, hz⟩; exact nomatch (show none = some _ from hz)
    · rintro k e122 w121 ⟨x114, x115, he116, he117, he118, he119, he120, hS, hF⟩
      refine cw_gen ?_
      intro Q123 hQ123
      refine cw_seq ?_
      refine cw_gen ?_
      intro Q124 hQ124
      refine cw_reg ?_
      refine el_pv (v := .bool (decide (x115 < (a0.length : Int)))) (pv_lss he120 he119) (by decide) ?_
      refine el_nil ?_
      refine hQ124 _ _ _ ?_
      refine thn_n ?_
      refine cw_seq ?_
      refine cw_gen ?_
      intro Q125 hQ125
      replace hF := oif hF
      rcases hF with ⟨hb126, hF⟩ | ⟨hb126, hF⟩
      · refine cw_cond_t rfl hb126 ?_
        refine cw_skip ?_
        refine hQ125 _ _ _ ?_
        refine thn_n ?_
        refine cw_seq ?_
        refine cw_gen ?_
        intro Q127 hQ127
        refine cw_block ?_
        refine cw_gen ?_
        intro Q128 hQ128
        refine cw_seq ?_
        refine cw_gen ?_
        intro Q129 hQ129
        refine cw_reg ?_
        refine el_pv (v := .int .i64 x115) (pv_move he120) (by decide) ?_
        replace hF := ob hF
        obtain ⟨x130, hx130, hF⟩ := hF
        refine el_index (wA := w0) he118 ha0 rfl (by decide) he120 hx130 (by decide) ?_
        intro b131 of132 c133 hr134 hm135
        obtain ⟨v136, rfl⟩ := slice_one hr134
        refine el_pv (v := v136) (pv_loadc rfl ((cells_up hS.below hm135) 0 _ rfl)) (by decide) ?_
        refine el_pv (v := .int .i64 x115) (pv_assign rfl) (by decide) ?_
        refine el_pv (v := v136) (pv_assign rfl) (by decide) ?_
        refine el_nil ?_
        refine hQ129 _ _ _ ?_
        refine thn_n ?_
        refine cw_seq ?_
        refine cw_gen ?_
        intro Q137 hQ137
        refine cw_reg ?_
        refine el_pv (v := v136) (pv_move rfl) (by decide) ?_
        refine el_pv (v := .int .i64 (x130.length : Int)) (pv_len rfl hr134) (by decide) ?_
        refine el_pv (v := u0) (pv_move he116) (by decide) ?_
        refine el_pv (v := .int .i64 x114) (pv_move he117) (by decide) ?_
        replace hF := ob hF
        obtain ⟨x138, hx138, hF⟩ := hF
        refine el_index (wA := w0) rfl ha0 rfl (by decide) rfl hx138 (by decide) ?_
        intro b139 of140 c141 hr142 hm143
        obtain ⟨v144, rfl⟩ := slice_one hr142
        refine el_pv (v := v144) (pv_loadc rfl ((cells_up hS.below hm143) 0 _ rfl)) (by decide) ?_
        refine el_pv (v := .int .i64 (x138.length : Int)) (pv_len rfl hr142) (by decide) ?_
        refine el_pv (v := .bool (decide ((x130.length : Int) < (x138.length : Int)))) (pv_lss rfl rfl) (by decide) ?_
        refine el_nil ?_
        refine hQ137 _ _ _ ?_
        refine thn_n ?_
        replace hF := oif hF
        rcases hF with ⟨hb145, hF⟩ | ⟨hb145, hF⟩
        · refine cw_cond_t rfl hb145 ?_
          refine cw_reg ?_
          refine el_pv (v := .int .i64 x115) (pv_move rfl) (by decide) ?_
          refine el_pv (v := .int .i64 x115) (pv_assign rfl) (by decide) ?_
          refine el_nil ?_
          refine hQ128 _ _ _ ?_
          refine inb_n ?_
          refine hQ127 _ _ _ ?_
          refine thn_n ?_
          refine cw_reg ?_
          replace hF := ob hF
          obtain ⟨x146, hx146, hF⟩ := hF
          refine el_pv (v := .int .i64 x146) (pv_add he120 rfl hx146) (by decide) ?_
          refine el_pv (v := .int .i64 x146) (pv_move rfl) (by decide) ?_
          refine el_nil ?_
          refine hQ123 _ _ _ ?_
          refine thn_n ?_
          replace hS := hS.keep 0
          exact ⟨x115, x146, he116, rfl, he118, he119, rfl, hS, hF⟩
        · refine cw_cond_f rfl hb145 ?_
          refine cw_skip ?_
          refine hQ128 _ _ _ ?_
          refine inb_n ?_
          refine hQ127 _ _ _ ?_
          refine thn_n ?_
          refine cw_reg ?_
          replace hF := ob hF
          obtain ⟨x147, hx147, hF⟩ := hF
          refine el_pv (v := .int .i64 x147) (pv_add he120 rfl hx147) (by decide) ?_
          refine el_pv (v := .int .i64 x147) (pv_move rfl) (by decide) ?_
          refine el_nil ?_
          refine hQ123 _ _ _ ?_
          refine thn_n ?_
          replace hS := hS.keep 0
          exact ⟨x114, x147, he116, he117, he118, he119, rfl, hS, hF⟩
      · refine cw_cond_f rfl hb126 ?_
        refine cw_exit ?_
        refine hQ125 _ _ _ ?_
        refine thn_x ?_
        refine hQ123 _ _ _ ?_
        refine thn_x ?_
        replace hF := exB hF hK113
        refine hQ111 _ _ _ ?_
        refine inb_s ?_
        refine hQ109 _ _ _ ?_
        refine thn_n ?_
        refine cw_seq ?_
        refine cw_gen ?_
        intro Q148 hQ148
        refine cw_reg ?_
        refine el_pv (v := (.slice none 0 0)) (pv_assign rfl) (by decide) ?_
        refine el_nil ?_
        refine hQ148 _ _ _ ?_
        refine thn_n ?_
        refine cw_seq ?_
        refine cw_gen ?_
        intro Q149 hQ149
        refine cw_reg ?_
        refine el_pv (v := .int .i64 0) (pv_assign rfl) (by decide) ?_
        refine el_nil ?_
        refine hQ149 _ _ _ ?_
        refine thn_n ?_
        refine cw_seq ?_
        refine cw_gen ?_
        intro Q150 hQ150
        refine cw_seq ?_
        refine cw_gen ?_
        intro Q151 hQ151
        refine cw_reg ?_
        refine el_pv (v := u0) (pv_move he116) (by decide) ?_
        refine el_pv (v := .int .i64 x114) (pv_move he117) (by decide) ?_
        replace hF := ob hF
        obtain ⟨x152, hx152, hF⟩ := hF
        refine el_index (wA := w0) rfl ha0 rfl (by decide) rfl hx152 (by decide) ?_
        intro b153 of154 c155 hr156 hm157
        obtain ⟨v158, rfl⟩ := slice_one hr156
        refine el_pv (v := v158) (pv_loadc rfl ((cells_up hS.below hm157) 0 _ rfl)) (by decide) ?_
        refine el_pv (v := .int .i64 (x152.length : Int)) (pv_len rfl hr156) (by decide) ?_
        refine el_pv (v := .int .i64 0) (pv_move rfl) (by decide) ?_
        refine el_nil ?_
        refine hQ151 _ _ _ ?_
        refine thn_n ?_
        refine cw_block ?_
        refine cw_gen ?_
        intro Q159 hQ159
        replace hS := hS.nil intR 3
        obtain ⟨s161, hL, hK162⟩ := ob hF
        refine cw_loopS (fun k e w => ∃ (v164 : Value), ∃ (x163 : List Int), ∃ (x165 : Int), ∃ (x166 : Int), e 0 = u0 ∧ e 4 = .int .i64 x114 ∧ e 7 = v164 ∧ e 8 = .int .i64 x165 ∧ e 37 = v158 ∧ e 38 = .int .i64 (x152.length : Int) ∧ e 39 = .int .i64 x166 ∧ Sat w0 w [Own (sliceR intR 3) [v164] x163] ∧ impl_IntersectByLookup_L2 N k a0 x114 x163 x165 x152 (x152.length : Int) x166 = some s161) N ?_ ?_ ?_
        · exact ⟨(.slice none 0 0), [], 0, 0, he116, he117, rfl, rfl, rfl, rfl, rfl, hS, hL⟩
        · rintro e w ⟨_, _, _, _, _, _, _, _, _, _, _, _, hz⟩; exact nomatch (show none = some _ from hz)
        · rintro k e175 w174 ⟨v164, x163, x165, x166, he167, he168, he169, he170, he171, he172, he173, hS, hF⟩
          refine cw_gen ?_
          intro Q176 hQ176
          refine cw_seq ?_
          refine cw_gen ?_
          intro Q177 hQ177
          refine cw_reg ?_
          refine el_pv (v := .bool (decide (x166 < (x152.length : Int)))) (pv_lss he173 he172) (by decide) ?_
          refine el_nil ?_
          refine hQ177 _ _ _ ?_
          refine thn_n ?_
          refine cw_seq ?_
          refine cw_gen ?_
          intro Q178 hQ178
          replace hF := oif hF
          rcases hF with ⟨hb179, hF⟩ | ⟨hb179, hF⟩
          · refine cw_cond_t rfl hb179 ?_
            refine cw_skip ?_
            refine hQ178 _ _ _ ?_
            refine thn_n ?_
            refine cw_seq ?_
            refine cw_gen ?_
            intro Q180 hQ180
            refine cw_block ?_
            refine cw_gen ?_
            intro Q181 hQ181
            refine cw_seq ?_
            refine cw_gen ?_
            intro Q182 hQ182
            refine cw_reg ?_
            replace hF := ob hF
            obtain ⟨x183, hx183, hF⟩ := hF
            refine el_index (wA := w0) he171 hr156 rfl (by decide) he173 hx183 (by decide) ?_
            intro b184 of185 c186 hr187 hm188
            obtain rfl := hr187
            refine el_pv (v := .int .i64 x183) (pv_loadc rfl ((cells_up hS.below hm188) 0 _ rfl)) (by decide) ?_
            refine el_pv (v := .int .i64 x183) (pv_assign rfl) (by decide) ?_
            refine el_nil ?_
            refine hQ182 _ _ _ ?_
            refine thn_n ?_
            refine cw_seq ?_
            refine cw_gen ?_
            intro Q189 hQ189
            refine cw_reg ?_
            refine el_pv (v := .bool true) (pv_assign rfl) (by decide) ?_
            refine el_nil ?_
            refine hQ189 _ _ _ ?_
            refine thn_n ?_
            refine cw_seq ?_
            refine cw_gen ?_
            intro Q190 hQ190
            refine cw_seq ?_
            refine cw_gen ?_
            intro Q191 hQ191
            refine cw_reg ?_
            refine el_pv (v := u0) (pv_move he167) (by decide) ?_
            refine el_pv (v := .int .i64 (a0.length : Int)) (pv_len rfl ha0) (by decide) ?_
            refine el_pv (v := .int .i64 0) (pv_move rfl) (by decide) ?_
            refine el_nil ?_
            refine hQ191 _ _ _ ?_
            refine thn_n ?_
            refine cw_block ?_
            refine cw_gen ?_
            intro Q192 hQ192
            obtain ⟨s193, hL, hK194⟩ := ob hF
            refine cw_loopS (fun k e w => ∃ (x195 : Int), ∃ (x196 : Bool), ∃ (x197 : Int), e 0 = u0 ∧ e 4 = .int .i64 x114 ∧ e 7 = v164 ∧ e 8 = .int .i64 x195 ∧ e 10 = .int .i64 x183 ∧ e 11 = .bool x196 ∧ e 37 = v158 ∧ e 38 = .int .i64 (x152.length : Int) ∧ e 39 = .int .i64 x166 ∧ e 43 = u0 ∧ e 44 = .int .i64 (a0.length : Int) ∧ e 45 = .int .i64 x197 ∧ Sat w0 w [Own (sliceR intR 3) [v164] x163] ∧ impl_IntersectByLookup_L3 N k a0 x114 x163 x195 x183 x196 x152 (x152.length : Int) x166 a0 (a0.length : Int) x197 = some s193) N ?_ ?_ ?_
            · exact ⟨x165, true, 0, he167, he168, he169, he170, rfl, rfl, he171, he172, he173, rfl, rfl, rfl, hS, hL⟩
            · rintro e w ⟨_, _, _, _, _, _, _, _, _, _, _, _, _, _, _, _, hz⟩; exact nomatch (show none = some _ from hz)
            · rintro k e211 w210 ⟨x195, x196, x197, he198, he199, he200, he201, he202, he203, he204, he205, he206, he207, he208, he209, hS, hF⟩
              refine cw_gen ?_
              intro Q212 hQ212
              refine cw_seq ?_
              refine cw_gen ?_
              intro Q213 hQ213
              refine cw_reg ?_
              refine el_pv (v := .bool (decide (x197 < (a0.length : Int)))) (pv_lss he209 he208) (by decide) ?_
              refine el_nil ?_
              refine hQ213 _ _ _ ?_
              refine thn_n ?_
              refine cw_seq ?_
              refine cw_gen ?_
              intro Q214 hQ214
              replace hF := oif hF
              rcases hF with ⟨hb215, hF⟩ | ⟨hb215, hF⟩
              · refine cw_cond_t rfl hb215 ?_
                refine cw_skip ?_
                refine hQ214 _ _ _ ?_
                refine thn_n ?_
                refine cw_seq ?_
                refine cw_gen ?_
                intro Q216 hQ216
                refine cw_block ?_
                refine cw_gen ?_
                intro Q217 hQ217
                refine cw_seq ?_
                refine cw_gen ?_
                intro Q218 hQ218
                refine cw_reg ?_
                refine el_pv (v := .int .i64 x197) (pv_move he209) (by decide) ?_
                replace hF := ob hF
                obtain ⟨x219, hx219, hF⟩ := hF
                refine el_index (wA := w0) he207 ha0 rfl (by decide) he209 hx219 (by decide) ?_
                intro b220 of221 c222 hr223 hm224
                obtain ⟨v225, rfl⟩ := slice_one hr223
                refine el_pv (v := v225) (pv_loadc rfl ((cells_up hS.below hm224) 0 _ rfl)) (by decide) ?_
                refine el_pv (v := .int .i64 x197) (pv_assign rfl) (by decide) ?_
                refine el_pv (v := v225) (pv_assign rfl) (by decide) ?_
                refine el_nil ?_
                refine hQ218 _ _ _ ?_
                refine thn_n ?_
                refine cw_seq ?_
                refine cw_gen ?_
                intro Q226 hQ226
                refine cw_reg ?_
                refine el_pv (v := .int .i64 x197) (pv_move rfl) (by decide) ?_
                refine el_pv (v := .int .i64 x114) (pv_move he199) (by decide) ?_
                refine el_pv (v := .bool (x197 != x114)) (pv_neq rfl rfl) (by decide) ?_
                refine el_pv (v := .bool (x197 != x114)) (pv_move rfl) (by decide) ?_
                replace hF := oif hF
                rcases hF with ⟨hb227, hF⟩ | ⟨hb227, hF⟩
                · refine el_on rfl hb227 ?_
                  refine el_pv (v := .bool x196) (pv_move he203) (by decide) ?_
                  refine el_pv (v := .bool x196) (pv_pick_t rfl hb227 rfl) (by decide) ?_
                  refine el_nil ?_
                  refine hQ226 _ _ _ ?_
                  refine thn_n ?_
                  replace hF := oif hF
                  rcases hF with ⟨hb228, hF⟩ | ⟨hb228, hF⟩
                  · refine cw_cond_t rfl hb228 ?_
                    refine cw_seq ?_
                    refine cw_gen ?_
                    intro Q229 hQ229
                    refine cw_reg ?_
                    refine el_pv (v := .int .i64 x195) (pv_move he201) (by decide) ?_
                    replace hF := ob hF
                    obtain ⟨x230, hx230, hF⟩ := hF
                    refine el_pv (v := .int .i64 x230) (pv_add rfl rfl hx230) (by decide) ?_
                    refine el_pv (v := .int .i64 x230) (pv_assign rfl) (by decide) ?_
                    refine el_nil ?_
                    refine hQ229 _ _ _ ?_
                    refine thn_n ?_
                    refine cw_reg ?_
                    refine el_pv (v := v225) (pv_move rfl) (by decide) ?_
                    refine el_pv (v := .int .i64 x183) (pv_move he202) (by decide) ?_
                    replace hF := ob hF
                    obtain ⟨r231, hr231, hF⟩ := hF
                    refine el_call goes33 (impl_hasInt_ok (hS.up hr223) hr231) (congrArg List.toArray (mapc rfl (mapc rfl rfl))) (by decide) ?_
                    rintro _ w232 ⟨rfl, hx233⟩
                    refine ⟨_, rfl, ?_⟩
                    replace hS := hS.ext hx233
                    refine el_pv (v := .bool r231) (pv_assign rfl) (by decide) ?_
                    refine el_nil ?_
                    refine hQ217 _ _ _ ?_
                    refine inb_n ?_
                    refine hQ216 _ _ _ ?_
                    refine thn_n ?_
                    refine cw_reg ?_
                    replace hF := ob hF
                    obtain ⟨x234, hx234, hF⟩ := hF
                    refine el_pv (v := .int .i64 x234) (pv_add he209 rfl hx234) (by decide) ?_
                    refine el_pv (v := .int .i64 x234) (pv_move rfl) (by decide) ?_
                    refine el_nil ?_
                    refine hQ212 _ _ _ ?_
                    refine thn_n ?_
                    replace hS := hS.keep 1
                    exact ⟨x230, r231, x234, he198, he199, he200, rfl, he202, rfl, he204, he205, he206, he207, he208, rfl, hS, hF⟩
                  · refine cw_cond_f rfl hb228 ?_
                    refine cw_skip ?_
                    refine hQ217 _ _ _ ?_
                    refine inb_n ?_
                    refine hQ216 _ _ _ ?_
                    refine thn_n ?_
                    refine cw_reg ?_
                    replace hF := ob hF
                    obtain ⟨x235, hx235, hF⟩ := hF
                    refine el_pv (v := .int .i64 x235) (pv_add he209 rfl hx235) (by decide) ?_
                    refine el_pv (v := .int .i64 x235) (pv_move rfl) (by decide) ?_
                    refine el_nil ?_
                    refine hQ212 _ _ _ ?_
                    refine thn_n ?_
                    replace hS := hS.keep 1
                    exact ⟨x195, x196, x235, he198, he199, he200, he201, he202, he203, he204, he205, he206, he207, he208, rfl, hS, hF⟩
                · refine el_off rfl hb227 rfl (by decide) ?_
                  refine el_pv (v := .bool false) (pv_pick_f rfl hb227 rfl) (by decide) ?_
                  refine el_nil ?_
                  refine hQ226 _ _ _ ?_
                  refine thn_n ?_
                  refine cw_cond_f rfl rfl ?_
                  refine cw_skip ?_
                  refine hQ217 _ _ _ ?_
                  refine inb_n ?_
                  refine hQ216 _ _ _ ?_
                  refine thn_n ?_
                  refine cw_reg ?_
                  replace hF := ob hF
                  obtain ⟨x236, hx236, hF⟩ := hF
                  refine el_pv (v := .int .i64 x236) (pv_add he209 rfl hx236) (by decide) ?_
                  refine el_pv (v := .int .i64 x236) (pv_move rfl) (by decide) ?_
                  refine el_nil ?_
                  refine hQ212 _ _ _ ?_
                  refine thn_n ?_
                  replace hS := hS.keep 1
                  exact ⟨x195, x196, x236, he198, he199, he200, he201, he202, he203, he204, he205, he206, he207, he208, rfl, hS, hF⟩
              · refine cw_cond_f rfl hb215 ?_
                refine cw_exit ?_
                refine hQ214 _ _ _ ?_
                refine thn_x ?_
                refine hQ212 _ _ _ ?_
                refine thn_x ?_
                replace hF := exB hF hK194
                refine hQ192 _ _ _ ?_
                refine inb_s ?_
                refine hQ190 _ _ _ ?_
                refine thn_n ?_
                refine cw_seq ?_
                refine cw_gen ?_
                intro Q237 hQ237
                refine cw_reg ?_
                refine el_pv (v := .bool x196) (pv_move he203) (by decide) ?_
                refine el_nil ?_
                refine hQ237 _ _ _ ?_
                refine thn_n ?_
                replace hF := oif hF
                rcases hF with ⟨hb238, hF⟩ | ⟨hb238, hF⟩
                · refine cw_cond_t rfl hb238 ?_
                  refine cw_reg ?_
                  refine el_pv (v := v164) (pv_move he200) (by decide) ?_
                  refine el_pv (v := .int .i64 x183) (pv_move he202) (by decide) ?_
                  refine el_buildSlice1 [.int .i64 x183] rfl (by rfl) (by decide) rfl (by decide) hS (by decide) ?_
                  intro w239 b241 hS hx240
                  replace hF := ob hF
                  obtain ⟨x245, hx245, hF⟩ := hF
                  have hrow246 := hS.boxRow 0 rfl
                  replace hS : Sat w0 w239 [Own (sliceR intR 3) [v164] x163, Box b241 3 [.int .i64 x183]] := hS.top 1 rfl
                  replace hS := hS.int x183
                  replace hS := hS.one
                  refine el_append rfl (by decide) rfl (by decide) hS rfl rfl rfl (by simp) hrow246 hx245 (by decide) ?_
                  intro w243 v244 hS
                  refine el_pv (v := v244) (pv_assign rfl) (by decide) ?_
                  refine el_nil ?_
                  refine hQ181 _ _ _ ?_
                  refine inb_n ?_
                  refine hQ180 _ _ _ ?_
                  refine thn_n ?_
                  replace hS : Sat w0 w243 [Own (sliceR intR 3) [v244] x245] := hS.rems 2 [1] rfl
                  refine cw_reg ?_
                  replace hF := ob hF
                  obtain ⟨x248, hx248, hF⟩ := hF
                  refine el_pv (v := .int .i64 x248) (pv_add he206 rfl hx248) (by decide) ?_
                  refine el_pv (v := .int .i64 x248) (pv_move rfl) (by decide) ?_
                  refine el_nil ?_
                  refine hQ176 _ _ _ ?_
                  refine thn_n ?_
                  replace hS := hS.keep 1
                  exact ⟨v244, x245, x195, x248, he198, he199, rfl, he201, he204, he205, rfl, hS, hF⟩
                · refine cw_cond_f rfl hb238 ?_
                  refine cw_skip ?_
                  refine hQ181 _ _ _ ?_
                  refine inb_n ?_
                  refine hQ180 _ _ _ ?_
                  refine thn_n ?_
                  refine cw_reg ?_
                  replace hF := ob hF
                  obtain ⟨x249, hx249, hF⟩ := hF
                  refine el_pv (v := .int .i64 x249) (pv_add he206 rfl hx249) (by decide) ?_
                  refine el_pv (v := .int .i64 x249) (pv_move rfl) (by decide) ?_
                  refine el_nil ?_
                  refine hQ176 _ _ _ ?_
                  refine thn_n ?_
                  replace hS := hS.keep 1
                  exact ⟨v164, x163, x195, x249, he198, he199, he200, he201, he204, he205, rfl, hS, hF⟩
          · refine cw_cond_f rfl hb179 ?_
            refine cw_exit ?_
            refine hQ178 _ _ _ ?_
            refine thn_x ?_
            refine hQ176 _ _ _ ?_
            refine thn_x ?_
            replace hF := exB hF hK162
            refine hQ159 _ _ _ ?_
            refine inb_s ?_
            refine hQ150 _ _ _ ?_
            refine thn_n ?_
            refine cw_seq ?_
            refine cw_gen ?_
            intro Q250 hQ250
            refine cw_reg ?_
            refine el_pv (v := v164) (pv_move he169) (by decide) ?_
            refine el_pv (v := .int .i64 x165) (pv_move he170) (by decide) ?_
            refine el_pv (v := v164) (pv_assign rfl) (by decide) ?_
            refine el_pv (v := .int .i64 x165) (pv_assign rfl) (by decide) ?_
            refine el_nil ?_
            refine hQ250 _ _ _ ?_
            refine thn_n ?_
            refine cw_ret ?_
            refine fin2 rfl rfl rfl ?_
            have hr := Option.some.inj hF
            exact ⟨v164, congrArg (fun (r : (List Int) × Int) => Ending.returned (.tuple #[v164, .int .i64 r.2])) hr, Eq.mp (congrArg (fun (r : (List Int) × Int) => Sat w0 w174 [Own (sliceR intR 3) [v164] r.1]) hr) (hS.keep 1)⟩
  · refine cw_cond_t rfl (bnot_f hb107) ?_
    refine cw_seq ?_
    refine cw_gen ?_
    intro Q251 hQ251
    refine cw_reg ?_
    refine el_pv (v := (.slice none 0 0)) (pv_assign rfl) (by decide) ?_
    refine el_pv (v := .int .i64 0) (pv_assign rfl) (by decide) ?_
    refine el_nil ?_
    refine hQ251 _ _ _ ?_
    refine thn_n ?_
    refine cw_ret ?_
    refine hQ102 _ _ _ ?_
    refine thn_r ?_
    replace hS := hS.nil intR 3
    refine fin2 rfl rfl rfl ?_
    have hr := Option.some.inj hF
    exact ⟨(.slice none 0 0), congrArg (fun (r : (List Int) × Int) => Ending.returned (.tuple #[(.slice none 0 0), .int .i64 r.2])) hr, Eq.mp (congrArg (fun (r : (List Int) × Int) => Sat w0 w105 [Own (sliceR intR 3) [(.slice none 0 0)] r.1]) hr) (hS.keep 1)⟩
set_option maxHeartbeats 4000000 in
theorem laws_eqIntS_ok {w0 : World} {u0 : Value} {a0 : List Int} {u1 : Value} {a1 : List Int} (ha0 : (sliceR intR 3).rd w0 [u0] a0) (ha1 : (sliceR intR 3).rd w0 [u1] a1) {N : Nat} {r : Bool} (hF : laws_eqIntS N a0 a1 = some r) :
    Calls Try.prog 10 #[u0, u1] w0 fun e w' => e = .returned (.bool r) ∧ Ext w0 w' := by
  unfold laws_eqIntS at hF
  refine calls_E Try.func10 rfl rfl (of_decide_eq_true rfl) ?_
  have hS := Sat.start w0
  refine cw_seq ?_
  refine cw_gen ?_
  intro Q101 hQ101
  refine cw_reg ?_
  refine el_pv (v := .bool false) (pv_assign rfl) (by decide) ?_
  refine el_nil ?_
  refine hQ101 _ _ _ ?_
  refine thn_n ?_
  refine cw_seq ?_
  refine cw_gen ?_
  intro Q102 hQ102
  refine cw_seq ?_
  refine cw_gen ?_
  intro Q103 hQ103
  refine cw_reg ?_
  refine el_pv (v := u0) (pv_move rfl) (by decide) ?_
  refine el_pv (v := .int .i64 (a0.length : Int)) (pv_len rfl ha0) (by decide) ?_
  refine el_pv (v := u1) (pv_move rfl) (by decide) ?_
  refine el_pv (v := .int .i64 (a1.length : Int)) (pv_len rfl ha1) (by decide) ?_
  refine el_pv (v := .bool ((a0.length : Int) != (a1.length : Int))) (pv_neq rfl rfl) (by decide) ?_
  refine el_nil ?_
  refine hQ103 _ _ _ ?_
  refine thn_n ?_
  replace hF := oif hF
  rcases hF with ⟨hb104, hF⟩ | ⟨hb104, hF⟩
  · refine cw_cond_t rfl hb104 ?_
    refine cw_seq ?_
    refine cw_gen ?_
    intro Q105 hQ105
    refine cw_reg ?_
    refine el_pv (v := .bool false) (pv_assign rfl) (by decide) ?_
    refine el_nil ?_
    refine hQ105 _ _ _ ?_
    refine thn_n ?_
    refine cw_ret ?_
    refine hQ102 _ _ _ ?_
    refine thn_r ?_
    refine fin1 rfl rfl ?_
    have hr := Option.some.inj hF
    exact ⟨congrArg (fun (r : Bool) => Ending.returned (.bool r)) hr, hS.below⟩
  · refine cw_cond_f rfl hb104 ?_
    refine cw_skip ?_
    refine hQ102 _ _ _ ?_
    refine thn_n ?_
    refine cw_seq ?_
    refine cw_gen ?_
    intro Q106 hQ106
    refine cw_seq ?_
    refine cw_gen ?_
    intro Q107 hQ107
    refine cw_reg ?_
    refine el_pv (v := .int .i64 0) (pv_assign rfl) (by decide) ?_
    refine el_nil ?_
    refine hQ107 _ _ _ ?_
    refine thn_n ?_
    refine cw_block ?_
    refine cw_gen ?_
    intro Q108 hQ108
    obtain ⟨s109, hL, hK110⟩ := ob hF
    refine cw_loopS (fun k e w => ∃ (x111 : Int), e 0 = u0 ∧ e 1 = u1 ∧ e 5 = .int .i64 x111 ∧ Sat w0 w [] ∧ laws_eqIntS_L1 N k a0 a1 x111 = some s109) N ?_ ?_ ?_
    · exact ⟨0, rfl, rfl, rfl, hS, hL⟩
    · rintro e w ⟨_, _, _, _, _, hz⟩; exact nomatch (show none = some _ from hz)
    · rintro k e116 w115 ⟨x111, he112, he113, he114, hS, hF⟩
      refine cw_gen ?_
      intro Q117 hQ117
      refine cw_seq ?_
      refine cw_gen ?_
      intro Q118 hQ118
      refine cw_seq ?_
      refine cw_gen ?_
      intro Q119 hQ119
      refine cw_reg ?_
      refine el_pv (v := .int .i64 x111) (pv_move he114) (by decide) ?_
      refine el_pv (v := u0) (pv_move he112) (by decide) ?_
      refine el_pv (v := .int .i64 (a0.length : Int)) (pv_len rfl ha0) (by decide) ?_
      refine el_pv (v := .bool (decide (x111 < (a0.length : Int)))) (pv_lss rfl rfl) (by decide) ?_
      refine el_nil ?_
      refine hQ119 _ _ _ ?_
      refine thn_n ?_
      replace hF := oif hF
      rcases hF with ⟨hb120, hF⟩ | ⟨hb120, hF⟩
      · refine cw_cond_t rfl hb120 ?_
        refine cw_skip ?_
        refine hQ118 _ _ _ ?_
        refine thn_n ?_
        refine cw_seq ?_
        refine cw_gen ?_
        intro Q121 hQ121
        refine cw_block ?_
        refine cw_gen ?_
        intro Q122 hQ122
        refine cw_seq ?_
        refine cw_gen ?_
        intro Q123 hQ123
        refine cw_regq (by kernel_rfl) (by kernel_rfl) ?_
        refine ql_pv (v := u0) (pv_move he112) (by decide) ?_
        refine ql_pv (v := .int .i64 x111) (pv_move he114) (by decide) ?_
        replace hF := ob hF
        obtain ⟨x124, hx124, hF⟩ := hF
        refine ql_index (wA := w0) rfl ha0 rfl (by decide) rfl hx124 (by decide) ?_
        intro b125 of126 c127 hr128 hm129
        obtain rfl := hr128
        refine ql_pv (v := .int .i64 x124) (pv_loadc rfl ((cells_up hS.below hm129) 0 _ rfl)) (by decide) ?_
        refine ql_pv (v := u1) (pv_move he113) (by decide) ?_
        refine ql_pv (v := .int .i64 x111) (pv_move he114) (by decide) ?_
        replace hF := ob hF
        obtain ⟨x130, hx130, hF⟩ := hF
        refine ql_index (wA := w0) rfl ha1 rfl (by decide) rfl hx130 (by decide) ?_
        intro b131 of132 c133 hr134 hm135
        obtain rfl := hr134
        refine ql_pv (v := .int .i64 x130) (pv_loadc rfl ((cells_up hS.below hm135) 0 _ rfl)) (by decide) ?_
        refine ql_pv (v := .bool (x124 != x130)) (pv_neq rfl rfl) (by decide) ?_
        refine ql_nil ?_
        intro w136 hx137
        replace hS := hS.ext hx137
        refine hQ123 _ _ _ ?_
        refine thn_n ?_
        replace hF := oif hF
        rcases hF with ⟨hb138, hF⟩ | ⟨hb138, hF⟩
        · refine cw_cond_t rfl hb138 ?_
          refine cw_seq ?_
          refine cw_gen ?_
          intro Q139 hQ139
          refine cw_reg ?_
          refine el_pv (v := .bool false) (pv_assign rfl) (by decide) ?_
          refine el_nil ?_
          refine hQ139 _ _ _ ?_
          refine thn_n ?_
          refine cw_ret ?_
          refine hQ122 _ _ _ ?_
          refine inb_r ?_
          refine hQ121 _ _ _ ?_
          refine thn_r ?_
          refine hQ117 _ _ _ ?_
          refine thn_r ?_
          refine hQ108 _ _ _ ?_
          refine inb_r ?_
          refine hQ106 _ _ _ ?_
          refine thn_r ?_
          replace hF := exL hF hK110
          refine fin1 rfl rfl ?_
          have hr := Option.some.inj hF
          exact ⟨congrArg (fun (r : Bool) => Ending.returned (.bool r)) hr, hS.below⟩
        · refine cw_cond_f rfl hb138 ?_
          refine cw_skip ?_
          refine hQ122 _ _ _ ?_
          refine inb_n ?_
          refine hQ121 _ _ _ ?_
          refine thn_n ?_
          refine cw_reg ?_
          refine el_pv (v := .int .i64 x111) (pv_move he114) (by decide) ?_
          replace hF := ob hF
          obtain ⟨x140, hx140, hF⟩ := hF
          refine el_pv (v := .int .i64 x140) (pv_add rfl rfl hx140) (by decide) ?_
          refine el_pv (v := .int .i64 x140) (pv_assign rfl) (by decide) ?_
          refine el_nil ?_
          refine hQ117 _ _ _ ?_
          refine thn_n ?_
          replace hS := hS.keep 0
          exact ⟨x140, he112, he113, rfl, hS, hF⟩
      · refine cw_cond_f rfl hb120 ?_
        refine cw_exit ?_
        refine hQ118 _ _ _ ?_
        refine thn_x ?_
        refine hQ117 _ _ _ ?_
        refine thn_x ?_
        replace hF := exA hF hK110
        refine hQ108 _ _ _ ?_
        refine inb_s ?_
        refine hQ106 _ _ _ ?_
        refine thn_n ?_
        refine cw_seq ?_
        refine cw_gen ?_
        intro Q141 hQ141
        refine cw_reg ?_
        refine el_pv (v := .bool true) (pv_assign rfl) (by decide) ?_
        refine el_nil ?_
        refine hQ141 _ _ _ ?_
        refine thn_n ?_
        refine cw_ret ?_
        refine fin1 rfl rfl ?_
        have hr := Option.some.inj hF
        exact ⟨congrArg (fun (r : Bool) => Ending.returned (.bool r)) hr, hS.below⟩
set_option maxHeartbeats 4000000 in
theorem laws_eqIntSS_ok {w0 : World} {u0 : Value} {a0 : List (List Int)} {u1 : Value} {a1 : List (List Int)} (ha0 : (sliceR (sliceR intR 3) 24).rd w0 [u0] a0) (ha1 : (sliceR (sliceR intR 3) 24).rd w0 [u1] a1) {N : Nat} {r : Bool} (hF : laws_eqIntSS N a0 a1 = some r) :
    Calls Try.prog 11 #[u0, u1] w0 fun e w' => e = .returned (.bool r) ∧ Ext w0 w' := by
  unfold laws_eqIntSS at hF
  refine calls_E Try.func11 rfl rfl (of_decide_eq_true rfl) ?_
  have hS := Sat.start w0
  refine cw_seq ?_
  refine cw_gen ?_
  intro Q101 hQ101
  refine cw_reg ?_
  refine el_pv (v := .bool false) (pv_assign rfl) (by decide) ?_
  refine el_nil ?_
  refine hQ101 _ _ _ ?_
  refine thn_n ?_
  refine cw_seq ?_
  refine cw_gen ?_
  intro Q102 hQ102
  refine cw_seq ?_
  refine cw_gen ?_
  intro Q103 hQ103
  refine cw_reg ?_
  refine el_pv (v := u0) (pv_move rfl) (by decide) ?_
  refine el_pv (v := .int .i64 (a0.length : Int)) (pv_len rfl ha0) (by decide) ?_
  refine el_pv (v := u1) (pv_move rfl) (by decide) ?_
  refine el_pv (v := .int .i64 (a1.length : Int)) (pv_len rfl ha1) (by decide) ?_
  refine el_pv (v := .bool ((a0.length : Int) != (a1.length : Int))) (pv_neq rfl rfl) (by decide) ?_
  refine el_nil ?_
  refine hQ103 _ _ _ ?_
  refine thn_n ?_
  replace hF := oif hF
  rcases hF with ⟨hb104, hF⟩ | ⟨hb104, hF⟩
  · refine cw_cond_t rfl hb104 ?_
    refine cw_seq ?_
    refine cw_gen ?_
    intro Q105 hQ105
    refine cw_reg ?_
    refine el_pv (v := .bool false) (pv_assign rfl) (by decide) ?_
    refine el_nil ?_
    refine hQ105 _ _ _ ?_
    refine thn_n ?_
    refine cw_ret ?_
    refine hQ102 _ _ _ ?_
    refine thn_r ?_
    refine fin1 rfl rfl ?_
    have hr := Option.some.inj hF
    exact ⟨congrArg (fun (r : Bool) => Ending.returned (.bool r)) hr, hS.below⟩
  · refine cw_cond_f rfl hb104 ?_
    refine cw_skip ?_
    refine hQ102 _ _ _ ?_
    refine thn_n ?_
    refine cw_seq ?_
    refine cw_gen ?_
    intro Q106 hQ106
    refine cw_seq ?_
    refine cw_gen ?_
    intro Q107 hQ107
    refine cw_reg ?_
    refine el_pv (v := .int .i64 0) (pv_assign rfl) (by decide) ?_
    refine el_nil ?_
    refine hQ107 _ _ _ ?_
    refine thn_n ?_
    refine cw_block ?_
    refine cw_gen ?_
    intro Q108 hQ108
    obtain ⟨s109, hL, hK110⟩ := ob hF
    refine cw_loopS (fun k e w => ∃ (x111 : Int), e 0 = u0 ∧ e 1 = u1 ∧ e 5 = .int .i64 x111 ∧ Sat w0 w [] ∧ laws_eqIntSS_L1 N k a0 a1 x111 = some s109) N ?_ ?_ ?_
    · exact ⟨0, rfl, rfl, rfl, hS, hL⟩
    · rintro e w ⟨_, _, _, _, _, hz⟩; exact nomatch (show none = some _ from hz)
    · rintro k e116 w115 ⟨x111, he112, he113, he114, hS, hF⟩
      refine cw_gen ?_
      intro Q117 hQ117
      refine cw_seq ?_
      refine cw_gen ?_
      intro Q118 hQ118
      refine cw_seq ?_
      refine cw_gen ?_
      intro Q119 hQ119
      refine cw_reg ?_
      refine el_pv (v := .int .i64 x111) (pv_move he114) (by decide) ?_
      refine el_pv (v := u0) (pv_move he112) (by decide) ?_
      refine el_pv (v := .int .i64 (a0.length : Int)) (pv_len rfl ha0) (by decide) ?_
      refine el_pv (v := .bool (decide (x111 < (a0.length : Int)))) (pv_lss rfl rfl) (by decide) ?_
      refine el_nil ?_
      refine hQ119 _ _ _ ?_
      refine thn_n ?_
      replace hF := oif hF
      rcases hF with ⟨hb120, hF⟩ | ⟨hb120, hF⟩
      · refine cw_cond_t rfl hb120 ?_
        refine cw_skip ?_
        refine hQ118 _ _ _ ?_
        refine thn_n ?_
        refine cw_seq ?_
        refine cw_gen ?_
        intro Q121 hQ121
        refine cw_block ?_
        refine cw_gen ?_
        intro Q122 hQ122
        refine cw_seq ?_
        refine cw_gen ?_
        intro Q123 hQ123
        refine cw_regq (by kernel_rfl) (by kernel_rfl) ?_
        refine ql_pv (v := u0) (pv_move he112) (by decide) ?_
        refine ql_pv (v := .int .i64 x111) (pv_move he114) (by decide) ?_
        replace hF := ob hF
        obtain ⟨x124, hx124, hF⟩ := hF
        refine ql_index (wA := w0) rfl ha0 rfl (by decide) rfl hx124 (by decide) ?_
        intro b125 of126 c127 hr128 hm129
        obtain ⟨v130, rfl⟩ := slice_one hr128
        refine ql_pv (v := v130) (pv_loadc rfl ((cells_up hS.below hm129) 0 _ rfl)) (by decide) ?_
        refine ql_pv (v := u1) (pv_move he113) (by decide) ?_
        refine ql_pv (v := .int .i64 x111) (pv_move he114) (by decide) ?_
        replace hF := ob hF
        obtain ⟨x131, hx131, hF⟩ := hF
        refine ql_index (wA := w0) rfl ha1 rfl (by decide) rfl hx131 (by decide) ?_
        intro b132 of133 c134 hr135 hm136
        obtain ⟨v137, rfl⟩ := slice_one hr135
        refine ql_pv (v := v137) (pv_loadc rfl ((cells_up hS.below hm136) 0 _ rfl)) (by decide) ?_
        replace hF := ob hF
        obtain ⟨r138, hr138, hF⟩ := hF
        refine ql_call (.bool r138) goes10 (fun w' hw' => laws_eqIntS_ok (rd_up (hS.up hr128) hw') (rd_up (hS.up hr135) hw') hr138) (congrArg List.toArray (mapc rfl (mapc rfl rfl))) (by decide) ?_
        refine ql_pv (v := .bool (!r138)) (pv_not rfl) (by decide) ?_
        refine ql_nil ?_
        intro w139 hx140
        replace hS := hS.ext hx140
        refine hQ123 _ _ _ ?_
        refine thn_n ?_
        replace hF := oif hF
        rcases hF with ⟨hb141, hF⟩ | ⟨hb141, hF⟩
        · refine cw_cond_f rfl (bnot_t hb141) ?_
          refine cw_skip ?_
          refine hQ122 _ _ _ ?_
          refine inb_n ?_
          refine hQ121 _ _ _ ?_
          refine thn_n ?_
          refine cw_reg ?_
          refine el_pv (v := .int .i64 x111) (pv_move he114) (by decide) ?_
          replace hF := ob hF
          obtain ⟨x142, hx142, hF⟩ := hF
          refine el_pv (v := .int .i64 x142) (pv_add rfl rfl hx142) (by decide) ?_
          refine el_pv (v := .int .i64 x142) (pv_assign rfl) (by decide) ?_
          refine el_nil ?_
          refine hQ117 _ _ _ ?_
          refine thn_n ?_
          replace hS := hS.keep 0
          exact ⟨x142, he112, he113, rfl, hS, hF⟩
        · refine cw_cond_t rfl (bnot_f hb141) ?_
          refine cw_seq ?_
          refine cw_gen ?_
          intro Q143 hQ143
          refine cw_reg ?_
          refine el_pv (v := .bool false) (pv_assign rfl) (by decide) ?_
          refine el_nil ?_
          refine hQ143 _ _ _ ?_
          refine thn_n ?_
          refine cw_ret ?_
          refine hQ122 _ _ _ ?_
          refine inb_r ?_
          refine hQ121 _ _ _ ?_
          refine thn_r ?_
          refine hQ117 _ _ _ ?_
          refine thn_r ?_
          refine hQ108 _ _ _ ?_
          refine inb_r ?_
          refine hQ106 _ _ _ ?_
          refine thn_r ?_
          replace hF := exL hF hK110
          refine fin1 rfl rfl ?_
          have hr := Option.some.inj hF
          exact ⟨congrArg (fun (r : Bool) => Ending.returned (.bool r)) hr, hS.below⟩
      · refine cw_cond_f rfl hb120 ?_
        refine cw_exit ?_
        refine hQ118 _ _ _ ?_
        refine thn_x ?_
        refine hQ117 _ _ _ ?_
        refine thn_x ?_
        replace hF := exA hF hK110
        refine hQ108 _ _ _ ?_
        refine inb_s ?_
        refine hQ106 _ _ _ ?_
        refine thn_n ?_
        refine cw_seq ?_
        refine cw_gen ?_
        intro Q144 hQ144
        refine cw_reg ?_
        refine el_pv (v := .bool true) (pv_assign rfl) (by decide) ?_
        refine el_nil ?_
        refine hQ144 _ _ _ ?_
        refine thn_n ?_
        refine cw_ret ?_
        refine fin1 rfl rfl ?_
        have hr := Option.some.inj hF
        exact ⟨congrArg (fun (r : Bool) => Ending.returned (.bool r)) hr, hS.below⟩
set_option maxHeartbeats 4000000 in
theorem laws_markIntS_ok {w0 : World} {w00 : World} {G0 : List Asn} {u0 : Value} {a0 : List Int} {a1 : Int} (hS : Sat w00 w0 (Own (sliceR intR 3) [u0] a0 :: G0)) {N : Nat} {r : Int × (List Int)} (hF : laws_markIntS N a0 a1 = some r) :
    Calls Try.prog 13 #[u0, .int .i64 a1] w0 fun e w' => e = .returned (.int .i64 r.1) ∧ Sat w00 w' (Own (sliceR intR 3) [u0] r.2 :: G0) := by
  unfold laws_markIntS at hF
  refine calls_E Try.func13 rfl rfl (of_decide_eq_true rfl) ?_
  refine cw_seq ?_
  refine cw_gen ?_
  intro Q101 hQ101
  refine cw_reg ?_
  refine el_pv (v := .int .i64 0) (pv_assign rfl) (by decide) ?_
  refine el_nil ?_
  refine hQ101 _ _ _ ?_
  refine thn_n ?_
  refine cw_seq ?_
  refine cw_gen ?_
  intro Q102 hQ102
  refine cw_seq ?_
  refine cw_gen ?_
  intro Q103 hQ103
  refine cw_reg ?_
  refine el_pv (v := .int .i64 0) (pv_assign rfl) (by decide) ?_
  refine el_nil ?_
  refine hQ103 _ _ _ ?_
  refine thn_n ?_
  refine cw_block ?_
  refine cw_gen ?_
  intro Q104 hQ104
  obtain ⟨s105, hL, hK106⟩ := ob hF
  refine cw_loopS (fun k e w => ∃ (x107 : List Int), ∃ (x108 : Int), ∃ (x109 : Int), e 0 = u0 ∧ e 1 = .int .i64 x108 ∧ e 5 = .int .i64 x109 ∧ Sat w00 w (Own (sliceR intR 3) [u0] x107 :: G0) ∧ laws_markIntS_L1 N k x107 x108 x109 = some s105) N ?_ ?_ ?_
  · exact ⟨a0, a1, 0, rfl, rfl, rfl, hS, hL⟩
  · rintro e w ⟨_, _, _, _, _, _, _, hz⟩; exact nomatch (show none = some _ from hz)
  · rintro k e114 w113 ⟨x107, x108, x109, he110, he111, he112, hS, hF⟩
    refine cw_gen ?_
    intro Q115 hQ115
    refine cw_seq ?_
    refine cw_gen ?_
    intro Q116 hQ116
    refine cw_seq ?_
    refine cw_gen ?_
    intro Q117 hQ117
    refine cw_reg ?_
    refine el_pv (v := .int .i64 x109) (pv_move he112) (by decide) ?_
    refine el_pv (v := u0) (pv_move he110) (by decide) ?_
    refine el_pv (v := .int .i64 (x107.length : Int)) (pv_len rfl (hS.rdAt (R := (sliceR intR 3)) 0 rfl)) (by decide) ?_
    refine el_pv (v := .bool (decide (x109 < (x107.length : Int)))) (pv_lss rfl rfl) (by decide) ?_
    refine el_nil ?_
    refine hQ117 _ _ _ ?_
    refine thn_n ?_
    replace hF := oif hF
    rcases hF with ⟨hb118, hF⟩ | ⟨hb118, hF⟩
    · refine cw_cond_t rfl hb118 ?_
      refine cw_skip ?_
      refine hQ116 _ _ _ ?_
      refine thn_n ?_
      refine cw_seq ?_
      refine cw_gen ?_
      intro Q119 hQ119
      refine cw_block ?_
      refine cw_gen ?_
      intro Q120 hQ120
      refine cw_seq ?_
      refine cw_gen ?_
      intro Q121 hQ121
      refine cw_reg ?_
      refine el_pv (v := u0) (pv_move he110) (by decide) ?_
      refine el_pv (v := .int .i64 x109) (pv_move he112) (by decide) ?_
      refine el_pv (v := .int .i64 x108) (pv_move he111) (by decide) ?_
      replace hF := ob hF
      obtain ⟨x122, hx122, hF⟩ := hF
      obtain ⟨g123, cap124, hv125⟩ := ownShape 0 hS rfl hx122
      refine el_pv (v := .pointer (some ⟨g123, x109.toNat * 1, none⟩)) (pv_indexF (v := u0) rfl hv125 rfl hx122) (by decide) ?_
      replace hF := ob hF
      obtain ⟨x127, hx127, hF⟩ := hF
      replace hS := hS.int x108
      refine el_storeO rfl hv125 hS hx127 rfl rfl ?_
      intro w126 hS
      refine el_nil ?_
      refine hQ121 _ _ _ ?_
      refine thn_n ?_
      refine cw_reg ?_
      refine el_pv (v := .int .i64 x108) (pv_move he111) (by decide) ?_
      replace hF := ob hF
      obtain ⟨x128, hx128, hF⟩ := hF
      refine el_pv (v := .int .i64 x128) (pv_add rfl rfl hx128) (by decide) ?_
      refine el_pv (v := .int .i64 x128) (pv_assign rfl) (by decide) ?_
      refine el_nil ?_
      refine hQ120 _ _ _ ?_
      refine inb_n ?_
      refine hQ119 _ _ _ ?_
      refine thn_n ?_
      refine cw_reg ?_
      refine el_pv (v := .int .i64 x109) (pv_move he112) (by decide) ?_
      replace hF := ob hF
      obtain ⟨x129, hx129, hF⟩ := hF
      refine el_pv (v := .int .i64 x129) (pv_add rfl rfl hx129) (by decide) ?_
      refine el_pv (v := .int .i64 x129) (pv_assign rfl) (by decide) ?_
      refine el_nil ?_
      refine hQ115 _ _ _ ?_
      refine thn_n ?_
      exact ⟨x127, x128, x129, he110, rfl, rfl, hS, hF⟩
    · refine cw_cond_f rfl hb118 ?_
      refine cw_exit ?_
      refine hQ116 _ _ _ ?_
      refine thn_x ?_
      refine hQ115 _ _ _ ?_
      refine thn_x ?_
      replace hF := exB hF hK106
      refine hQ104 _ _ _ ?_
      refine inb_s ?_
      refine hQ102 _ _ _ ?_
      refine thn_n ?_
      refine cw_seq ?_
      refine cw_gen ?_
      intro Q130 hQ130
      refine cw_reg ?_
      refine el_pv (v := .int .i64 x108) (pv_move he111) (by decide) ?_
      refine el_pv (v := .int .i64 x108) (pv_assign rfl) (by decide) ?_
      refine el_nil ?_
      refine hQ130 _ _ _ ?_
      refine thn_n ?_
      refine cw_ret ?_
      refine fin1 rfl rfl ?_
      have hr := Option.some.inj hF
      exact ⟨congrArg (fun (r : Int × (List Int)) => Ending.returned (.int .i64 r.1)) hr, Eq.mp (congrArg (fun (r : Int × (List Int)) => Sat w00 w113 (Own (sliceR intR 3) [u0] r.2 :: G0)) hr) hS⟩
set_option maxHeartbeats 4000000 in
theorem laws_markIntSS_ok {w0 : World} {w00 : World} {G0 : List Asn} {u0 : Value} {a0 : List (List Int)} {a1 : Int} (hS : Sat w00 w0 (Own (sliceR (sliceR intR 3) 24) [u0] a0 :: G0)) {N : Nat} {r : Int × (List (List Int))} (hF : laws_markIntSS N a0 a1 = some r) :
    Calls Try.prog 12 #[u0, .int .i64 a1] w0 fun e w' => e = .returned (.int .i64 r.1) ∧ Sat w00 w' (Own (sliceR (sliceR intR 3) 24) [u0] r.2 :: G0) := by
  unfold laws_markIntSS at hF
  refine calls_E Try.func12 rfl rfl (of_decide_eq_true rfl) ?_
  refine cw_seq ?_
  refine cw_gen ?_
  intro Q101 hQ101
  refine cw_reg ?_
  refine el_pv (v := .int .i64 0) (pv_assign rfl) (by decide) ?_
  refine el_nil ?_
  refine hQ101 _ _ _ ?_
  refine thn_n ?_
  refine cw_seq ?_
  refine cw_gen ?_
  intro Q102 hQ102
  refine cw_seq ?_
  refine cw_gen ?_
  intro Q103 hQ103
  refine cw_reg ?_
  refine el_pv (v := .int .i64 0) (pv_assign rfl) (by decide) ?_
  refine el_nil ?_
  refine hQ103 _ _ _ ?_
  refine thn_n ?_
  refine cw_block ?_
  refine cw_gen ?_
  intro Q104 hQ104
  obtain ⟨s105, hL, hK106⟩ := ob hF
  refine cw_loopS (fun k e w => ∃ (x107 : List (List Int)), ∃ (x108 : Int), ∃ (x109 : Int), e 0 = u0 ∧ e 1 = .int .i64 x108 ∧ e 5 = .int .i64 x109 ∧ Sat w00 w (Own (sliceR (sliceR intR 3) 24) [u0] x107 :: G0) ∧ laws_markIntSS_L1 N k x107 x108 x109 = some s105) N ?_ ?_ ?_
  · exact ⟨a0, a1, 0, rfl, rfl, rfl, hS, hL⟩
  · rintro e w ⟨_, _, _, _, _, _, _, hz⟩; exact nomatch (show none = some _ from hz)
  · rintro k e114 w113 ⟨x107, x108, x109, he110, he111, he112, hS, hF⟩
    refine cw_gen ?_
    intro Q115 hQ115
    refine cw_seq ?_
    refine cw_gen ?_
    intro Q116 hQ116
    refine cw_seq ?_
    refine cw_gen ?_
    intro Q117 hQ117
    refine cw_reg ?_
    refine el_pv (v := .int .i64 x109) (pv_move he112) (by decide) ?_
    refine el_pv (v := u0) (pv_move he110) (by decide) ?_
    refine el_pv (v := .int .i64 (x107.length : Int)) (pv_len rfl (hS.rdAt (R := (sliceR (sliceR intR 3) 24)) 0 rfl)) (by decide) ?_
    refine el_pv (v := .bool (decide (x109 < (x107.length : Int)))) (pv_lss rfl rfl) (by decide) ?_
    refine el_nil ?_
    refine hQ117 _ _ _ ?_
    refine thn_n ?_
    replace hF := oif hF
    rcases hF with ⟨hb118, hF⟩ | ⟨hb118, hF⟩
    · refine cw_cond_t rfl hb118 ?_
      refine cw_skip ?_
      refine hQ116 _ _ _ ?_
      refine thn_n ?_
      refine cw_seq ?_
      refine cw_gen ?_
      intro Q119 hQ119
      refine cw_block ?_
      refine cw_gen ?_
      intro Q120 hQ120
      refine cw_reg ?_
      refine el_pv (v := u0) (pv_move he110) (by decide) ?_
      refine el_pv (v := .int .i64 x109) (pv_move he112) (by decide) ?_
      replace hF := ob hF
      obtain ⟨x121, hx121, hF⟩ := hF
      refine el_indexO hS rfl rfl (by decide) rfl hx121 (by decide) ?_
      intro b122 of123 c124 hv127 hr125 hm126
      obtain ⟨v128, rfl⟩ := slice_one hr125
      refine el_pv (v := v128) (pv_loadc rfl (hm126 0 _ rfl)) (by decide) ?_
      refine el_pv (v := .int .i64 x108) (pv_move he111) (by decide) ?_
      replace hS := hS.takeOut hv127 hx121 (m := 1) rfl rfl hm126
      replace hS : Sat w00 w113 (Own (sliceR intR 3) [v128] x121 :: _ :: G0) := hS
      replace hF := ob hF
      obtain ⟨r130, hr130, hF⟩ := hF
      refine el_call goes13 (laws_markIntS_ok hS hr130) (congrArg List.toArray (mapc rfl (mapc rfl rfl))) (by decide) ?_
      rintro _ w131 ⟨rfl, hS⟩
      refine ⟨_, rfl, ?_⟩
      replace hS : Sat w00 w131 (Own (sliceR intR 3) [v128] r130.2 :: _ :: G0) := hS
      replace hF := ob hF
      obtain ⟨x132, hx132, hF⟩ := hF
      replace hS := hS.putBack hx132
      replace hS : Sat w00 w131 (Own (sliceR (sliceR intR 3) 24) [u0] x132 :: G0) := hS
      refine el_pv (v := .int .i64 r130.1) (pv_assign rfl) (by decide) ?_
      refine el_nil ?_
      refine hQ120 _ _ _ ?_
      refine inb_n ?_
      refine hQ119 _ _ _ ?_
      refine thn_n ?_
      refine cw_reg ?_
      refine el_pv (v := .int .i64 x109) (pv_move he112) (by decide) ?_
      replace hF := ob hF
      obtain ⟨x133, hx133, hF⟩ := hF
      refine el_pv (v := .int .i64 x133) (pv_add rfl rfl hx133) (by decide) ?_
      refine el_pv (v := .int .i64 x133) (pv_assign rfl) (by decide) ?_
      refine el_nil ?_
      refine hQ115 _ _ _ ?_
      refine thn_n ?_
      exact ⟨x132, r130.1, x133, he110, rfl, rfl, hS, hF⟩
    · refine cw_cond_f rfl hb118 ?_
      refine cw_exit ?_
      refine hQ116 _ _ _ ?_
      refine thn_x ?_
      refine hQ115 _ _ _ ?_
      refine thn_x ?_
      replace hF := exB hF hK106
      refine hQ104 _ _ _ ?_
      refine inb_s ?_
      refine hQ102 _ _ _ ?_
      refine thn_n ?_
      refine cw_seq ?_
      refine cw_gen ?_
      intro Q134 hQ134
      refine cw_reg ?_
      refine el_pv (v := .int .i64 x108) (pv_move he111) (by decide) ?_
      refine el_pv (v := .int .i64 x108) (pv_assign rfl) (by decide) ?_
      refine el_nil ?_
      refine hQ134 _ _ _ ?_
      refine thn_n ?_
      refine cw_ret ?_
      refine fin1 rfl rfl ?_
      have hr := Option.some.inj hF
      exact ⟨congrArg (fun (r : Int × (List (List Int))) => Ending.returned (.int .i64 r.1)) hr, Eq.mp (congrArg (fun (r : Int × (List (List Int))) => Sat w00 w113 (Own (sliceR (sliceR intR 3) 24) [u0] r.2 :: G0)) hr) hS⟩
set_option maxHeartbeats 4000000 in
theorem laws_heldIntS_ok {w0 : World} {u0 : Value} {a0 : List Int} {a1 : Int} (ha0 : (sliceR intR 3).rd w0 [u0] a0) {N : Nat} {r : Int} (hF : laws_heldIntS N a0 a1 = some r) :
    Calls Try.prog 14 #[u0, .int .i64 a1] w0 fun e w' => e = .returned (.int .i64 r) ∧ Ext w0 w' := by
  unfold laws_heldIntS at hF
  refine calls_E Try.func14 rfl rfl (of_decide_eq_true rfl) ?_
  have hS := Sat.start w0
  refine cw_seq ?_
  refine cw_gen ?_
  intro Q101 hQ101
  refine cw_reg ?_
  refine el_pv (v := .int .i64 0) (pv_assign rfl) (by decide) ?_
  refine el_nil ?_
  refine hQ101 _ _ _ ?_
  refine thn_n ?_
  refine cw_seq ?_
  refine cw_gen ?_
  intro Q102 hQ102
  refine cw_seq ?_
  refine cw_gen ?_
  intro Q103 hQ103
  refine cw_reg ?_
  refine el_pv (v := .int .i64 0) (pv_assign rfl) (by decide) ?_
  refine el_nil ?_
  refine hQ103 _ _ _ ?_
  refine thn_n ?_
  refine cw_block ?_
  refine cw_gen ?_
  intro Q104 hQ104
  obtain ⟨s105, hL, hK106⟩ := ob hF
  refine cw_loopS (fun k e w => ∃ (x107 : Int), ∃ (x108 : Int), e 0 = u0 ∧ e 1 = .int .i64 x107 ∧ e 5 = .int .i64 x108 ∧ Sat w0 w [] ∧ laws_heldIntS_L1 N k a0 x107 x108 = some s105) N ?_ ?_ ?_
  · exact ⟨a1, 0, rfl, rfl, rfl, hS, hL⟩
  · rintro e w ⟨_, _, _, _, _, _, hz⟩; exact nomatch (show none = some _ from hz)
  · rintro k e113 w112 ⟨x107, x108, he109, he110, he111, hS, hF⟩
    refine cw_gen ?_
    intro Q114 hQ114
    refine cw_seq ?_
    refine cw_gen ?_
    intro Q115 hQ115
    refine cw_seq ?_
    refine cw_gen ?_
    intro Q116 hQ116
    refine cw_reg ?_
    refine el_pv (v := .int .i64 x108) (pv_move he111) (by decide) ?_
    refine el_pv (v := u0) (pv_move he109) (by decide) ?_
    refine el_pv (v := .int .i64 (a0.length : Int)) (pv_len rfl ha0) (by decide) ?_
    refine el_pv (v := .bool (decide (x108 < (a0.length : Int)))) (pv_lss rfl rfl) (by decide) ?_
    refine el_nil ?_
    refine hQ116 _ _ _ ?_
    refine thn_n ?_
    replace hF := oif hF
    rcases hF with ⟨hb117, hF⟩ | ⟨hb117, hF⟩
    · refine cw_cond_t rfl hb117 ?_
      refine cw_skip ?_
      refine hQ115 _ _ _ ?_
      refine thn_n ?_
      refine cw_seq ?_
      refine cw_gen ?_
      intro Q118 hQ118
      refine cw_block ?_
      refine cw_gen ?_
      intro Q119 hQ119
      refine cw_seq ?_
      refine cw_gen ?_
      intro Q120 hQ120
      refine cw_seq ?_
      refine cw_gen ?_
      intro Q121 hQ121
      refine cw_reg ?_
      refine el_pv (v := u0) (pv_move he109) (by decide) ?_
      refine el_pv (v := .int .i64 x108) (pv_move he111) (by decide) ?_
      replace hF := ob hF
      obtain ⟨x122, hx122, hF⟩ := hF
      refine el_index (wA := w0) rfl ha0 rfl (by decide) rfl hx122 (by decide) ?_
      intro b123 of124 c125 hr126 hm127
      obtain rfl := hr126
      refine el_pv (v := .int .i64 x122) (pv_loadc rfl ((cells_up hS.below hm127) 0 _ rfl)) (by decide) ?_
      refine el_pv (v := .int .i64 x107) (pv_move he110) (by decide) ?_
      refine el_pv (v := .bool (x122 != x107)) (pv_neq rfl rfl) (by decide) ?_
      refine el_nil ?_
      refine hQ121 _ _ _ ?_
      refine thn_n ?_
      replace hF := oif hF
      rcases hF with ⟨hb128, hF⟩ | ⟨hb128, hF⟩
      · refine cw_cond_t rfl hb128 ?_
        refine cw_seq ?_
        refine cw_gen ?_
        intro Q129 hQ129
        refine cw_reg ?_
        refine el_pv (v := .int .i64 (-1)) (pv_assign rfl) (by decide) ?_
        refine el_nil ?_
        refine hQ129 _ _ _ ?_
        refine thn_n ?_
        refine cw_ret ?_
        refine hQ120 _ _ _ ?_
        refine thn_r ?_
        refine hQ119 _ _ _ ?_
        refine inb_r ?_
        refine hQ118 _ _ _ ?_
        refine thn_r ?_
        refine hQ114 _ _ _ ?_
        refine thn_r ?_
        refine hQ104 _ _ _ ?_
        refine inb_r ?_
        refine hQ102 _ _ _ ?_
        refine thn_r ?_
        replace hF := exL hF hK106
        refine fin1 rfl rfl ?_
        have hr := Option.some.inj hF
        exact ⟨congrArg (fun (r : Int) => Ending.returned (.int .i64 r)) hr, hS.below⟩
      · refine cw_cond_f rfl hb128 ?_
        refine cw_skip ?_
        refine hQ120 _ _ _ ?_
        refine thn_n ?_
        refine cw_reg ?_
        refine el_pv (v := .int .i64 x107) (pv_move he110) (by decide) ?_
        replace hF := ob hF
        obtain ⟨x130, hx130, hF⟩ := hF
        refine el_pv (v := .int .i64 x130) (pv_add rfl rfl hx130) (by decide) ?_
        refine el_pv (v := .int .i64 x130) (pv_assign rfl) (by decide) ?_
        refine el_nil ?_
        refine hQ119 _ _ _ ?_
        refine inb_n ?_
        refine hQ118 _ _ _ ?_
        refine thn_n ?_
        refine cw_reg ?_
        refine el_pv (v := .int .i64 x108) (pv_move he111) (by decide) ?_
        replace hF := ob hF
        obtain ⟨x131, hx131, hF⟩ := hF
        refine el_pv (v := .int .i64 x131) (pv_add rfl rfl hx131) (by decide) ?_
        refine el_pv (v := .int .i64 x131) (pv_assign rfl) (by decide) ?_
        refine el_nil ?_
        refine hQ114 _ _ _ ?_
        refine thn_n ?_
        replace hS := hS.keep 0
        exact ⟨x130, x131, he109, rfl, rfl, hS, hF⟩
    · refine cw_cond_f rfl hb117 ?_
      refine cw_exit ?_
      refine hQ115 _ _ _ ?_
      refine thn_x ?_
      refine hQ114 _ _ _ ?_
      refine thn_x ?_
      replace hF := exA hF hK106
      refine hQ104 _ _ _ ?_
      refine inb_s ?_
      refine hQ102 _ _ _ ?_
      refine thn_n ?_
      refine cw_seq ?_
      refine cw_gen ?_
      intro Q132 hQ132
      refine cw_reg ?_
      refine el_pv (v := .int .i64 x107) (pv_move he110) (by decide) ?_
      refine el_pv (v := .int .i64 x107) (pv_assign rfl) (by decide) ?_
      refine el_nil ?_
      refine hQ132 _ _ _ ?_
      refine thn_n ?_
      refine cw_ret ?_
      refine fin1 rfl rfl ?_
      have hr := Option.some.inj hF
      exact ⟨congrArg (fun (r : Int) => Ending.returned (.int .i64 r)) hr, hS.below⟩
set_option maxHeartbeats 4000000 in
theorem laws_FnExactIntersectByLookup_ok {w0 : World} {u0 : Value} {a0 : List (List Int)} (ha0 : (sliceR (sliceR intR 3) 24).rd w0 [u0] a0) {N : Nat} {r : Bool} (hF : laws_FnExactIntersectByLookup N a0 = some r) :
    Calls Try.prog 3 #[u0] w0 fun e w' => e = .returned (.bool r) ∧ Ext w0 w' := by
  unfold laws_FnExactIntersectByLookup at hF
  refine calls_E Try.func3 rfl rfl (of_decide_eq_true rfl) ?_
  have hS := Sat.start w0
  refine cw_seq ?_
  refine cw_gen ?_
  intro Q101 hQ101
  refine cw_reg ?_
  refine el_pv (v := .bool false) (pv_assign rfl) (by decide) ?_
  refine el_nil ?_
  refine hQ101 _ _ _ ?_
  refine thn_n ?_
  refine cw_seq ?_
  refine cw_gen ?_
  intro Q102 hQ102
  refine cw_reg ?_
  refine el_pv (v := .int .i64 1048576) (pv_assign rfl) (by decide) ?_
  refine el_nil ?_
  refine hQ102 _ _ _ ?_
  refine thn_n ?_
  refine cw_seq ?_
  refine cw_gen ?_
  intro Q103 hQ103
  refine cw_reg ?_
  refine el_pv (v := u0) (pv_move rfl) (by decide) ?_
  refine el_pv (v := .int .i64 1048576) (pv_move rfl) (by decide) ?_
  replace hF := ob hF
  obtain ⟨r104, hr104, hF⟩ := hF
  refine el_call goes6 (laws_szIntSS_ok (hS.up ha0) hr104) (congrArg List.toArray (mapc rfl (mapc rfl rfl))) (by decide) ?_
  rintro _ w105 ⟨rfl, hx106⟩
  refine ⟨_, rfl, ?_⟩
  replace hS := hS.ext hx106
  refine el_pv (v := .int .i64 r104) (pv_assign rfl) (by decide) ?_
  refine el_nil ?_
  refine hQ103 _ _ _ ?_
  refine thn_n ?_
  refine cw_seq ?_
  refine cw_gen ?_
  intro Q107 hQ107
  refine cw_seq ?_
  refine cw_gen ?_
  intro Q108 hQ108
  refine cw_reg ?_
  refine el_pv (v := .int .i64 r104) (pv_move rfl) (by decide) ?_
  refine el_pv (v := .bool (decide (r104 < 0))) (pv_lss rfl rfl) (by decide) ?_
  refine el_nil ?_
  refine hQ108 _ _ _ ?_
  refine thn_n ?_
  replace hF := oif hF
  rcases hF with ⟨hb109, hF⟩ | ⟨hb109, hF⟩
  · refine cw_cond_t rfl hb109 ?_
    refine cw_seq ?_
    refine cw_gen ?_
    intro Q110 hQ110
    refine cw_reg ?_
    refine el_pv (v := .bool true) (pv_assign rfl) (by decide) ?_
    refine el_nil ?_
    refine hQ110 _ _ _ ?_
    refine thn_n ?_
    refine cw_ret ?_
    refine hQ107 _ _ _ ?_
    refine thn_r ?_
    refine fin1 rfl rfl ?_
    have hr := Option.some.inj hF
    exact ⟨congrArg (fun (r : Bool) => Ending.returned (.bool r)) hr, hS.below⟩
  · refine cw_cond_f rfl hb109 ?_
    refine cw_skip ?_
    refine hQ107 _ _ _ ?_
    refine thn_n ?_
    refine cw_seq ?_
    refine cw_gen ?_
    intro Q111 hQ111
    refine cw_reg ?_
    refine el_pv (v := u0) (pv_move rfl) (by decide) ?_
    replace hF := ob hF
    obtain ⟨r112, hr112, hF⟩ := hF
    refine el_call goes8 (laws_toIntSS_ok (hS.up ha0) hr112) (congrArg List.toArray (mapc rfl rfl)) (by decide) ?_
    rintro _ w115 ⟨v113, rfl, hS'⟩
    refine ⟨_, rfl, ?_⟩
    have hx116 := hS'.below
    replace hS := hS.call1 hS'
    replace hF := ob hF
    obtain ⟨r117, hr117, hF⟩ := hF
    refine el_call goes7 (spec_IntersectByLookup_ok (hS.rdAt (R := (sliceR (sliceR intR 3) 24)) 0 rfl) hr117) (congrArg List.toArray (mapc rfl rfl)) (by decide) ?_
    rintro _ w120 ⟨v118, rfl, hS'⟩
    refine ⟨_, rfl, ?_⟩
    have hx121 := hS'.below
    replace hS := hS.call1 hS'
    refine el_pv (v := .tuple #[v118, .int .i64 r117.2]) (pv_move rfl) (by decide) ?_
    refine el_pv (v := v118) (pv_extract rfl rfl) (by decide) ?_
    refine el_pv (v := .int .i64 r117.2) (pv_extract rfl rfl) (by decide) ?_
    refine el_pv (v := v118) (pv_assign rfl) (by decide) ?_
    refine el_pv (v := .int .i64 r117.2) (pv_assign rfl) (by decide) ?_
    refine el_nil ?_
    refine hQ111 _ _ _ ?_
    refine thn_n ?_
    refine cw_seq ?_
    refine cw_gen ?_
    intro Q122 hQ122
    replace hS : Sat w0 w120 [Own (sliceR intR 3) [v118] r117.1] := hS.rems 2 [1] rfl
    refine cw_reg ?_
    refine el_pv (v := u0) (pv_move rfl) (by decide) ?_
    replace hF := ob hF
    obtain ⟨r123, hr123, hF⟩ := hF
    refine el_call goes8 (laws_toIntSS_ok (hS.up ha0) hr123) (congrArg List.toArray (mapc rfl rfl)) (by decide) ?_
    rintro _ w126 ⟨v124, rfl, hS'⟩
    refine ⟨_, rfl, ?_⟩
    have hx127 := hS'.below
    replace hS := hS.call1 hS'
    refine el_pv (v := v124) (pv_assign rfl) (by decide) ?_
    refine el_nil ?_
    refine hQ122 _ _ _ ?_
    refine thn_n ?_
    refine cw_seq ?_
    refine cw_gen ?_
    intro Q128 hQ128
    refine cw_reg ?_
    refine el_pv (v := v124) (pv_move rfl) (by decide) ?_
    replace hF := ob hF
    obtain ⟨r129, hr129, hF⟩ := hF
    refine el_call goes9 (impl_IntersectByLookup_ok (hS.rdAt (R := (sliceR (sliceR intR 3) 24)) 0 rfl) hr129) (congrArg List.toArray (mapc rfl rfl)) (by decide) ?_
    rintro _ w132 ⟨v130, rfl, hS'⟩
    refine ⟨_, rfl, ?_⟩
    have hx133 := hS'.below
    replace hS := hS.call1 hS'
    refine el_pv (v := .tuple #[v130, .int .i64 r129.2]) (pv_move rfl) (by decide) ?_
    refine el_pv (v := v130) (pv_extract rfl rfl) (by decide) ?_
    refine el_pv (v := .int .i64 r129.2) (pv_extract rfl rfl) (by decide) ?_
    refine el_pv (v := v130) (pv_assign rfl) (by decide) ?_
    refine el_pv (v := .int .i64 r129.2) (pv_assign rfl) (by decide) ?_
    refine el_nil ?_
    refine hQ128 _ _ _ ?_
    refine thn_n ?_
    refine cw_seq ?_
    refine cw_gen ?_
    intro Q134 hQ134
    refine cw_seq ?_
    refine cw_gen ?_
    intro Q135 hQ135
    refine cw_reg ?_
    refine el_pv (v := v130) (pv_move rfl) (by decide) ?_
    refine el_pv (v := v118) (pv_move rfl) (by decide) ?_
    replace hF := ob hF
    obtain ⟨r136, hr136, hF⟩ := hF
    refine el_call goes10 (laws_eqIntS_ok (hS.rdAt (R := (sliceR intR 3)) 0 rfl) (hS.rdAt (R := (sliceR intR 3)) 2 rfl) hr136) (congrArg List.toArray (mapc rfl (mapc rfl rfl))) (by decide) ?_
    rintro _ w137 ⟨rfl, hx138⟩
    refine ⟨_, rfl, ?_⟩
    replace hS := hS.ext hx138
    refine el_pv (v := .bool (!r136)) (pv_not rfl) (by decide) ?_
    refine el_pv (v := .bool (!r136)) (pv_move rfl) (by decide) ?_
    replace hF := oif hF
    rcases hF with ⟨hb139, hF⟩ | ⟨hb139, hF⟩
    · refine el_on rfl (bnot_t hb139) ?_
      refine el_pv (v := .int .i64 r129.2) (pv_move rfl) (by decide) ?_
      refine el_on rfl (bnot_t hb139) ?_
      refine el_pv (v := .int .i64 r117.2) (pv_move rfl) (by decide) ?_
      refine el_on rfl (bnot_t hb139) ?_
      refine el_pv (v := .bool (r129.2 != r117.2)) (pv_neq rfl rfl) (by decide) ?_
      refine el_pv (v := .bool (r129.2 != r117.2)) (pv_pick_f rfl (bnot_t hb139) rfl) (by decide) ?_
      refine el_nil ?_
      refine hQ135 _ _ _ ?_
      refine thn_n ?_
      replace hF := oif hF
      rcases hF with ⟨hb140, hF⟩ | ⟨hb140, hF⟩
      · refine cw_cond_t rfl hb140 ?_
        refine cw_seq ?_
        refine cw_gen ?_
        intro Q141 hQ141
        replace hS : Sat w0 w137 [] := hS.rems 3 [0, 1, 2] rfl
        refine cw_reg ?_
        refine el_pv (v := .bool false) (pv_assign rfl) (by decide) ?_
        refine el_nil ?_
        refine hQ141 _ _ _ ?_
        refine thn_n ?_
        refine cw_ret ?_
        refine hQ134 _ _ _ ?_
        refine thn_r ?_
        refine fin1 rfl rfl ?_
        have hr := Option.some.inj hF
        exact ⟨congrArg (fun (r : Bool) => Ending.returned (.bool r)) hr, hS.below⟩
      · refine cw_cond_f rfl hb140 ?_
        refine cw_skip ?_
        refine hQ134 _ _ _ ?_
        refine thn_n ?_
        refine cw_seq ?_
        refine cw_gen ?_
        intro Q142 hQ142
        refine cw_seq ?_
        refine cw_gen ?_
        intro Q143 hQ143
        refine cw_reg ?_
        refine el_pv (v := v124) (pv_move rfl) (by decide) ?_
        refine el_pv (v := u0) (pv_move rfl) (by decide) ?_
        replace hF := ob hF
        obtain ⟨r144, hr144, hF⟩ := hF
        refine el_call goes8 (laws_toIntSS_ok (hS.up ha0) hr144) (congrArg List.toArray (mapc rfl rfl)) (by decide) ?_
        rintro _ w147 ⟨v145, rfl, hS'⟩
        refine ⟨_, rfl, ?_⟩
        have hx148 := hS'.below
        replace hS := hS.call1 hS'
        replace hF := ob hF
        obtain ⟨r149, hr149, hF⟩ := hF
        refine el_call goes11 (laws_eqIntSS_ok (hS.rdAt (R := (sliceR (sliceR intR 3) 24)) 2 rfl) (hS.rdAt (R := (sliceR (sliceR intR 3) 24)) 0 rfl) hr149) (congrArg List.toArray (mapc rfl (mapc rfl rfl))) (by decide) ?_
        rintro _ w150 ⟨rfl, hx151⟩
        refine ⟨_, rfl, ?_⟩
        replace hS := hS.ext hx151
        refine el_pv (v := .bool (!r149)) (pv_not rfl) (by decide) ?_
        refine el_nil ?_
        refine hQ143 _ _ _ ?_
        refine thn_n ?_
        replace hF := oif hF
        rcases hF with ⟨hb152, hF⟩ | ⟨hb152, hF⟩
        · refine cw_cond_f rfl (bnot_t hb152) ?_
          refine cw_skip ?_
          refine hQ142 _ _ _ ?_
          refine thn_n ?_
          refine cw_seq ?_
          refine cw_gen ?_
          intro Q153 hQ153
          replace hS : Sat w0 w150 [Own (sliceR intR 3) [v130] r129.1, Own (sliceR (sliceR intR 3) 24) [v124] r123, Own (sliceR intR 3) [v118] r117.1] := hS.rems 4 [0] rfl
          refine cw_reg ?_
          refine el_pv (v := .int .i64 1) (pv_assign rfl) (by decide) ?_
          refine el_nil ?_
          refine hQ153 _ _ _ ?_
          refine thn_n ?_
          refine cw_seq ?_
          refine cw_gen ?_
          intro Q154 hQ154
          refine cw_reg ?_
          refine el_pv (v := v124) (pv_move rfl) (by decide) ?_
          refine el_pv (v := .int .i64 1) (pv_move rfl) (by decide) ?_
          replace hS : Sat w0 w150 [Own (sliceR (sliceR intR 3) 24) [v124] r123, Own (sliceR intR 3) [v130] r129.1, Own (sliceR intR 3) [v118] r117.1] := hS.tops 3 [1] rfl
          replace hF := ob hF
          obtain ⟨r155, hr155, hF⟩ := hF
          refine el_call goes12 (laws_markIntSS_ok hS hr155) (congrArg List.toArray (mapc rfl (mapc rfl rfl))) (by decide) ?_
          rintro _ w156 ⟨rfl, hS⟩
          refine ⟨_, rfl, ?_⟩
          replace hS : Sat w0 w156 [Own (sliceR (sliceR intR 3) 24) [v124] r155.2, Own (sliceR intR 3) [v130] r129.1, Own (sliceR intR 3) [v118] r117.1] := hS
          refine el_pv (v := .int .i64 r155.1) (pv_assign rfl) (by decide) ?_
          refine el_nil ?_
          refine hQ154 _ _ _ ?_
          refine thn_n ?_
          refine cw_seq ?_
          refine cw_gen ?_
          intro Q157 hQ157
          refine cw_seq ?_
          refine cw_gen ?_
          intro Q158 hQ158
          replace hS : Sat w0 w156 [Own (sliceR intR 3) [v130] r129.1, Own (sliceR intR 3) [v118] r117.1] := hS.rems 3 [0] rfl
          refine cw_reg ?_
          refine el_pv (v := .int .i64 r155.1) (pv_move rfl) (by decide) ?_
          refine el_pv (v := .bool (decide (r155.1 < 0))) (pv_lss rfl rfl) (by decide) ?_
          refine el_pv (v := .bool (decide (r155.1 < 0))) (pv_move rfl) (by decide) ?_
          replace hF := oif hF
          rcases hF with ⟨hb159, hF⟩ | ⟨hb159, hF⟩
          · refine el_off rfl hb159 rfl (by decide) ?_
            refine el_off rfl hb159 rfl (by decide) ?_
            refine el_off rfl hb159 rfl (by decide) ?_
            refine el_off rfl hb159 rfl (by decide) ?_
            refine el_pv (v := .bool true) (pv_pick_t rfl hb159 rfl) (by decide) ?_
            refine el_pv (v := .bool true) (pv_move rfl) (by decide) ?_
            refine el_off rfl rfl rfl (by decide) ?_
            refine el_off rfl rfl rfl (by decide) ?_
            refine el_off rfl rfl rfl (by decide) ?_
            refine el_pv (v := .bool true) (pv_pick_t rfl rfl rfl) (by decide) ?_
            refine el_nil ?_
            refine hQ158 _ _ _ ?_
            refine thn_n ?_
            refine cw_cond_t rfl rfl ?_
            refine cw_seq ?_
            refine cw_gen ?_
            intro Q160 hQ160
            replace hS : Sat w0 w156 [] := hS.rems 2 [0, 1] rfl
            refine cw_reg ?_
            refine el_pv (v := .bool false) (pv_assign rfl) (by decide) ?_
            refine el_nil ?_
            refine hQ160 _ _ _ ?_
            refine thn_n ?_
            refine cw_ret ?_
            refine hQ157 _ _ _ ?_
            refine thn_r ?_
            refine fin1 rfl rfl ?_
            have hr := Option.some.inj hF
            exact ⟨congrArg (fun (r : Bool) => Ending.returned (.bool r)) hr, hS.below⟩
          · refine el_on rfl hb159 ?_
            refine el_pv (v := v130) (pv_move rfl) (by decide) ?_
            refine el_on rfl hb159 ?_
            refine el_pv (v := v118) (pv_move rfl) (by decide) ?_
            refine el_on rfl hb159 ?_
            replace hF := ob hF
            obtain ⟨r161, hr161, hF⟩ := hF
            refine el_call goes10 (laws_eqIntS_ok (hS.rdAt (R := (sliceR intR 3)) 0 rfl) (hS.rdAt (R := (sliceR intR 3)) 1 rfl) hr161) (congrArg List.toArray (mapc rfl (mapc rfl rfl))) (by decide) ?_
            rintro _ w162 ⟨rfl, hx163⟩
            refine ⟨_, rfl, ?_⟩
            replace hS := hS.ext hx163
            refine el_on rfl hb159 ?_
            refine el_pv (v := .bool (!r161)) (pv_not rfl) (by decide) ?_
            refine el_pv (v := .bool (!r161)) (pv_pick_f rfl hb159 rfl) (by decide) ?_
            refine el_pv (v := .bool (!r161)) (pv_move rfl) (by decide) ?_
            replace hF := oif hF
            rcases hF with ⟨hb164, hF⟩ | ⟨hb164, hF⟩
            · refine el_on rfl (bnot_t hb164) ?_
              refine el_pv (v := .int .i64 r129.2) (pv_move rfl) (by decide) ?_
              refine el_on rfl (bnot_t hb164) ?_
              refine el_pv (v := .int .i64 r117.2) (pv_move rfl) (by decide) ?_
              refine el_on rfl (bnot_t hb164) ?_
              refine el_pv (v := .bool (r129.2 != r117.2)) (pv_neq rfl rfl) (by decide) ?_
              refine el_pv (v := .bool (r129.2 != r117.2)) (pv_pick_f rfl (bnot_t hb164) rfl) (by decide) ?_
              refine el_nil ?_
              refine hQ158 _ _ _ ?_
              refine thn_n ?_
              refine cw_cond_f rfl hb140 ?_
              refine cw_skip ?_
              refine hQ157 _ _ _ ?_
              refine thn_n ?_
              refine cw_seq ?_
              refine cw_gen ?_
              intro Q165 hQ165
              refine cw_reg ?_
              refine el_pv (v := .int .i64 1) (pv_assign rfl) (by decide) ?_
              refine el_nil ?_
              refine hQ165 _ _ _ ?_
              refine thn_n ?_
              refine cw_seq ?_
              refine cw_gen ?_
              intro Q166 hQ166
              refine cw_reg ?_
              refine el_pv (v := v130) (pv_move rfl) (by decide) ?_
              refine el_pv (v := .int .i64 1) (pv_move rfl) (by decide) ?_
              replace hF := ob hF
              obtain ⟨r167, hr167, hF⟩ := hF
              refine el_call goes13 (laws_markIntS_ok hS hr167) (congrArg List.toArray (mapc rfl (mapc rfl rfl))) (by decide) ?_
              rintro _ w168 ⟨rfl, hS⟩
              refine ⟨_, rfl, ?_⟩
              replace hS : Sat w0 w168 [Own (sliceR intR 3) [v130] r167.2, Own (sliceR intR 3) [v118] r117.1] := hS
              refine el_pv (v := .int .i64 r167.1) (pv_assign rfl) (by decide) ?_
              refine el_nil ?_
              refine hQ166 _ _ _ ?_
              refine thn_n ?_
              refine cw_seq ?_
              refine cw_gen ?_
              intro Q169 hQ169
              refine cw_reg ?_
              refine el_pv (v := .int .i64 1) (pv_assign rfl) (by decide) ?_
              refine el_nil ?_
              refine hQ169 _ _ _ ?_
              refine thn_n ?_
              refine cw_seq ?_
              refine cw_gen ?_
              intro Q170 hQ170
              refine cw_reg ?_
              refine el_pv (v := v130) (pv_move rfl) (by decide) ?_
              refine el_pv (v := .int .i64 1) (pv_move rfl) (by decide) ?_
              replace hF := ob hF
              obtain ⟨r171, hr171, hF⟩ := hF
              refine el_call goes14 (laws_heldIntS_ok (hS.rdAt (R := (sliceR intR 3)) 0 rfl) hr171) (congrArg List.toArray (mapc rfl (mapc rfl rfl))) (by decide) ?_
              rintro _ w172 ⟨rfl, hx173⟩
              refine ⟨_, rfl, ?_⟩
              replace hS := hS.ext hx173
              refine el_pv (v := .int .i64 r171) (pv_assign rfl) (by decide) ?_
              refine el_nil ?_
              refine hQ170 _ _ _ ?_
              refine thn_n ?_
              refine cw_seq ?_
              refine cw_gen ?_
              intro Q174 hQ174
              refine cw_seq ?_
              refine cw_gen ?_
              intro Q175 hQ175
              refine cw_reg ?_
              refine el_pv (v := .int .i64 r171) (pv_move rfl) (by decide) ?_
              refine el_pv (v := .bool (decide (r171 < 0))) (pv_lss rfl rfl) (by decide) ?_
              refine el_nil ?_
              refine hQ175 _ _ _ ?_
              refine thn_n ?_
              replace hF := oif hF
              rcases hF with ⟨hb176, hF⟩ | ⟨hb176, hF⟩
              · refine cw_cond_t rfl hb176 ?_
                refine cw_seq ?_
                refine cw_gen ?_
                intro Q177 hQ177
                replace hS : Sat w0 w172 [] := hS.rems 2 [0, 1] rfl
                refine cw_reg ?_
                refine el_pv (v := .bool false) (pv_assign rfl) (by decide) ?_
                refine el_nil ?_
                refine hQ177 _ _ _ ?_
                refine thn_n ?_
                refine cw_ret ?_
                refine hQ174 _ _ _ ?_
                refine thn_r ?_
                refine fin1 rfl rfl ?_
                have hr := Option.some.inj hF
                exact ⟨congrArg (fun (r : Bool) => Ending.returned (.bool r)) hr, hS.below⟩
              · refine cw_cond_f rfl hb176 ?_
                refine cw_skip ?_
                refine hQ174 _ _ _ ?_
                refine thn_n ?_
                refine cw_seq ?_
                refine cw_gen ?_
                intro Q178 hQ178
                refine cw_seq ?_
                refine cw_gen ?_
                intro Q179 hQ179
                refine cw_reg ?_
                refine el_pv (v := .int .i64 r171) (pv_move rfl) (by decide) ?_
                refine el_pv (v := .int .i64 r167.1) (pv_move rfl) (by decide) ?_
                refine el_pv (v := .bool (r171 != r167.1)) (pv_neq rfl rfl) (by decide) ?_
                refine el_nil ?_
                refine hQ179 _ _ _ ?_
                refine thn_n ?_
                replace hF := oif hF
                rcases hF with ⟨hb180, hF⟩ | ⟨hb180, hF⟩
                · refine cw_cond_t rfl hb180 ?_
                  refine cw_seq ?_
                  refine cw_gen ?_
                  intro Q181 hQ181
                  replace hS : Sat w0 w172 [] := hS.rems 2 [0, 1] rfl
                  refine cw_reg ?_
                  refine el_pv (v := .bool false) (pv_assign rfl) (by decide) ?_
                  refine el_nil ?_
                  refine hQ181 _ _ _ ?_
                  refine thn_n ?_
                  refine cw_ret ?_
                  refine hQ178 _ _ _ ?_
                  refine thn_r ?_
                  refine fin1 rfl rfl ?_
                  have hr := Option.some.inj hF
                  exact ⟨congrArg (fun (r : Bool) => Ending.returned (.bool r)) hr, hS.below⟩
                · refine cw_cond_f rfl hb180 ?_
                  refine cw_skip ?_
                  refine hQ178 _ _ _ ?_
                  refine thn_n ?_
                  refine cw_seq ?_
                  refine cw_gen ?_
                  intro Q182 hQ182
                  refine cw_reg ?_
                  refine el_pv (v := u0) (pv_move rfl) (by decide) ?_
                  replace hF := ob hF
                  obtain ⟨r183, hr183, hF⟩ := hF
                  refine el_call goes8 (laws_toIntSS_ok (hS.up ha0) hr183) (congrArg List.toArray (mapc rfl rfl)) (by decide) ?_
                  rintro _ w186 ⟨v184, rfl, hS'⟩
                  refine ⟨_, rfl, ?_⟩
                  have hx187 := hS'.below
                  replace hS := hS.call1 hS'
                  replace hF := ob hF
                  obtain ⟨r188, hr188, hF⟩ := hF
                  refine el_call goes9 (impl_IntersectByLookup_ok (hS.rdAt (R := (sliceR (sliceR intR 3) 24)) 0 rfl) hr188) (congrArg List.toArray (mapc rfl rfl)) (by decide) ?_
                  rintro _ w191 ⟨v189, rfl, hS'⟩
                  refine ⟨_, rfl, ?_⟩
                  have hx192 := hS'.below
                  replace hS := hS.call1 hS'
                  refine el_pv (v := .tuple #[v189, .int .i64 r188.2]) (pv_move rfl) (by decide) ?_
                  refine el_pv (v := v189) (pv_extract rfl rfl) (by decide) ?_
                  refine el_pv (v := .int .i64 r188.2) (pv_extract rfl rfl) (by decide) ?_
                  refine el_pv (v := v189) (pv_assign rfl) (by decide) ?_
                  refine el_pv (v := .int .i64 r188.2) (pv_assign rfl) (by decide) ?_
                  refine el_nil ?_
                  refine hQ182 _ _ _ ?_
                  refine thn_n ?_
                  refine cw_seq ?_
                  refine cw_gen ?_
                  intro Q193 hQ193
                  refine cw_seq ?_
                  refine cw_gen ?_
                  intro Q194 hQ194
                  replace hS : Sat w0 w191 [Own (sliceR intR 3) [v189] r188.1, Own (sliceR intR 3) [v130] r167.2, Own (sliceR intR 3) [v118] r117.1] := hS.rems 4 [1] rfl
                  refine cw_reg ?_
                  refine el_pv (v := v189) (pv_move rfl) (by decide) ?_
                  refine el_pv (v := v118) (pv_move rfl) (by decide) ?_
                  replace hF := ob hF
                  obtain ⟨r195, hr195, hF⟩ := hF
                  refine el_call goes10 (laws_eqIntS_ok (hS.rdAt (R := (sliceR intR 3)) 0 rfl) (hS.rdAt (R := (sliceR intR 3)) 2 rfl) hr195) (congrArg List.toArray (mapc rfl (mapc rfl rfl))) (by decide) ?_
                  rintro _ w196 ⟨rfl, hx197⟩
                  refine ⟨_, rfl, ?_⟩
                  replace hS := hS.ext hx197
                  refine el_pv (v := .bool (!r195)) (pv_not rfl) (by decide) ?_
                  refine el_pv (v := .bool (!r195)) (pv_move rfl) (by decide) ?_
                  replace hF := oif hF
                  rcases hF with ⟨hb198, hF⟩ | ⟨hb198, hF⟩
                  · refine el_on rfl (bnot_t hb198) ?_
                    refine el_pv (v := .int .i64 r188.2) (pv_move rfl) (by decide) ?_
                    refine el_on rfl (bnot_t hb198) ?_
                    refine el_pv (v := .int .i64 r117.2) (pv_move rfl) (by decide) ?_
                    refine el_on rfl (bnot_t hb198) ?_
                    refine el_pv (v := .bool (r188.2 != r117.2)) (pv_neq rfl rfl) (by decide) ?_
                    refine el_pv (v := .bool (r188.2 != r117.2)) (pv_pick_f rfl (bnot_t hb198) rfl) (by decide) ?_
                    refine el_nil ?_
                    refine hQ194 _ _ _ ?_
                    refine thn_n ?_
                    replace hF := oif hF
                    rcases hF with ⟨hb199, hF⟩ | ⟨hb199, hF⟩
                    · refine cw_cond_t rfl hb199 ?_
                      refine cw_seq ?_
                      refine cw_gen ?_
                      intro Q200 hQ200
                      replace hS : Sat w0 w196 [] := hS.rems 3 [0, 1, 2] rfl
                      refine cw_reg ?_
                      refine el_pv (v := .bool false) (pv_assign rfl) (by decide) ?_
                      refine el_nil ?_
                      refine hQ200 _ _ _ ?_
                      refine thn_n ?_
                      refine cw_ret ?_
                      refine hQ193 _ _ _ ?_
                      refine thn_r ?_
                      refine fin1 rfl rfl ?_
                      have hr := Option.some.inj hF
                      exact ⟨congrArg (fun (r : Bool) => Ending.returned (.bool r)) hr, hS.below⟩
                    · refine cw_cond_f rfl hb199 ?_
                      refine cw_skip ?_
                      refine hQ193 _ _ _ ?_
                      refine thn_n ?_
                      refine cw_seq ?_
                      refine cw_gen ?_
                      intro Q201 hQ201
                      replace hS : Sat w0 w196 [Own (sliceR intR 3) [v130] r167.2] := hS.rems 3 [0, 2] rfl
                      refine cw_reg ?_
                      refine el_pv (v := .int .i64 1) (pv_assign rfl) (by decide) ?_
                      refine el_nil ?_
                      refine hQ201 _ _ _ ?_
                      refine thn_n ?_
                      refine cw_seq ?_
                      refine cw_gen ?_
                      intro Q202 hQ202
                      refine cw_reg ?_
                      refine el_pv (v := v130) (pv_move rfl) (by decide) ?_
                      refine el_pv (v := .int .i64 1) (pv_move rfl) (by decide) ?_
                      replace hF := ob hF
                      obtain ⟨r203, hr203, hF⟩ := hF
                      refine el_call goes14 (laws_heldIntS_ok (hS.rdAt (R := (sliceR intR 3)) 0 rfl) hr203) (congrArg List.toArray (mapc rfl (mapc rfl rfl))) (by decide) ?_
                      rintro _ w204 ⟨rfl, hx205⟩
                      refine ⟨_, rfl, ?_⟩
                      replace hS := hS.ext hx205
                      refine el_pv (v := .int .i64 r203) (pv_assign rfl) (by decide) ?_
                      refine el_nil ?_
                      refine hQ202 _ _ _ ?_
                      refine thn_n ?_
                      refine cw_seq ?_
                      refine cw_gen ?_
                      intro Q206 hQ206
                      refine cw_seq ?_
                      refine cw_gen ?_
                      intro Q207 hQ207
                      replace hS : Sat w0 w204 [] := hS.rems 1 [0] rfl
                      refine cw_reg ?_
                      refine el_pv (v := .int .i64 r203) (pv_move rfl) (by decide) ?_
                      refine el_pv (v := .bool (decide (r203 < 0))) (pv_lss rfl rfl) (by decide) ?_
                      refine el_nil ?_
                      refine hQ207 _ _ _ ?_
                      refine thn_n ?_
                      replace hF := oif hF
                      rcases hF with ⟨hb208, hF⟩ | ⟨hb208, hF⟩
                      · refine cw_cond_t rfl hb208 ?_
                        refine cw_seq ?_
                        refine cw_gen ?_
                        intro Q209 hQ209
                        refine cw_reg ?_
                        refine el_pv (v := .bool false) (pv_assign rfl) (by decide) ?_
                        refine el_nil ?_
                        refine hQ209 _ _ _ ?_
                        refine thn_n ?_
                        refine cw_ret ?_
                        refine hQ206 _ _ _ ?_
                        refine thn_r ?_
                        refine fin1 rfl rfl ?_
                        have hr := Option.some.inj hF
                        exact ⟨congrArg (fun (r : Bool) => Ending.returned (.bool r)) hr, hS.below⟩
                      · refine cw_cond_f rfl hb208 ?_
                        refine cw_skip ?_
                        refine hQ206 _ _ _ ?_
                        refine thn_n ?_
                        refine cw_seq ?_
                        refine cw_gen ?_
                        intro Q210 hQ210
                        refine cw_seq ?_
                        refine cw_gen ?_
                        intro Q211 hQ211
                        refine cw_reg ?_
                        refine el_pv (v := .int .i64 r203) (pv_move rfl) (by decide) ?_
                        refine el_pv (v := .int .i64 r167.1) (pv_move rfl) (by decide) ?_
                        refine el_pv (v := .bool (r203 != r167.1)) (pv_neq rfl rfl) (by decide) ?_
                        refine el_nil ?_
                        refine hQ211 _ _ _ ?_
                        refine thn_n ?_
                        replace hF := oif hF
                        rcases hF with ⟨hb212, hF⟩ | ⟨hb212, hF⟩
                        · refine cw_cond_t rfl hb212 ?_
                          refine cw_seq ?_
                          refine cw_gen ?_
                          intro Q213 hQ213
                          refine cw_reg ?_
                          refine el_pv (v := .bool false) (pv_assign rfl) (by decide) ?_
                          refine el_nil ?_
                          refine hQ213 _ _ _ ?_
                          refine thn_n ?_
                          refine cw_ret ?_
                          refine hQ210 _ _ _ ?_
                          refine thn_r ?_
                          refine fin1 rfl rfl ?_
                          have hr := Option.some.inj hF
                          exact ⟨congrArg (fun (r : Bool) => Ending.returned (.bool r)) hr, hS.below⟩
                        · refine cw_cond_f rfl hb212 ?_
                          refine cw_skip ?_
                          refine hQ210 _ _ _ ?_
                          refine thn_n ?_
                          refine cw_seq ?_
                          refine cw_gen ?_
                          intro Q214 hQ214
                          refine cw_reg ?_
                          refine el_pv (v := .bool true) (pv_assign rfl) (by decide) ?_
                          refine el_nil ?_
                          refine hQ214 _ _ _ ?_
                          refine thn_n ?_
                          refine cw_ret ?_
                          refine fin1 rfl rfl ?_
                          have hr := Option.some.inj hF
                          exact ⟨congrArg (fun (r : Bool) => Ending.returned (.bool r)) hr, hS.below⟩
                  · refine el_off rfl (bnot_f hb198) rfl (by decide) ?_
                    refine el_off rfl (bnot_f hb198) rfl (by decide) ?_
                    refine el_off rfl (bnot_f hb198) rfl (by decide) ?_
                    refine el_pv (v := .bool true) (pv_pick_t rfl (bnot_f hb198) rfl) (by decide) ?_
                    refine el_nil ?_
                    refine hQ194 _ _ _ ?_
                    refine thn_n ?_
                    refine cw_cond_t rfl rfl ?_
                    refine cw_seq ?_
                    refine cw_gen ?_
                    intro Q215 hQ215
                    replace hS : Sat w0 w196 [] := hS.rems 3 [0, 1, 2] rfl
                    refine cw_reg ?_
                    refine el_pv (v := .bool false) (pv_assign rfl) (by decide) ?_
                    refine el_nil ?_
                    refine hQ215 _ _ _ ?_
                    refine thn_n ?_
                    refine cw_ret ?_
                    refine hQ193 _ _ _ ?_
                    refine thn_r ?_
                    refine fin1 rfl rfl ?_
                    have hr := Option.some.inj hF
                    exact ⟨congrArg (fun (r : Bool) => Ending.returned (.bool r)) hr, hS.below⟩
            · refine el_off rfl (bnot_f hb164) rfl (by decide) ?_
              refine el_off rfl (bnot_f hb164) rfl (by decide) ?_
              refine el_off rfl (bnot_f hb164) rfl (by decide) ?_
              refine el_pv (v := .bool true) (pv_pick_t rfl (bnot_f hb164) rfl) (by decide) ?_
              refine el_nil ?_
              refine hQ158 _ _ _ ?_
              refine thn_n ?_
              refine cw_cond_t rfl rfl ?_
              refine cw_seq ?_
              refine cw_gen ?_
              intro Q216 hQ216
              replace hS : Sat w0 w162 [] := hS.rems 2 [0, 1] rfl
              refine cw_reg ?_
              refine el_pv (v := .bool false) (pv_assign rfl) (by decide) ?_
              refine el_nil ?_
              refine hQ216 _ _ _ ?_
              refine thn_n ?_
              refine cw_ret ?_
              refine hQ157 _ _ _ ?_
              refine thn_r ?_
              refine fin1 rfl rfl ?_
              have hr := Option.some.inj hF
              exact ⟨congrArg (fun (r : Bool) => Ending.returned (.bool r)) hr, hS.below⟩
        · refine cw_cond_t rfl (bnot_f hb152) ?_
          refine cw_seq ?_
          refine cw_gen ?_
          intro Q217 hQ217
          replace hS : Sat w0 w150 [] := hS.rems 4 [0, 1, 2, 3] rfl
          refine cw_reg ?_
          refine el_pv (v := .bool false) (pv_assign rfl) (by decide) ?_
          refine el_nil ?_
          refine hQ217 _ _ _ ?_
          refine thn_n ?_
          refine cw_ret ?_
          refine hQ142 _ _ _ ?_
          refine thn_r ?_
          refine fin1 rfl rfl ?_
          have hr := Option.some.inj hF
          exact ⟨congrArg (fun (r : Bool) => Ending.returned (.bool r)) hr, hS.below⟩
    · refine el_off rfl (bnot_f hb139) rfl (by decide) ?_
      refine el_off rfl (bnot_f hb139) rfl (by decide) ?_
      refine el_off rfl (bnot_f hb139) rfl (by decide) ?_
      refine el_pv (v := .bool true) (pv_pick_t rfl (bnot_f hb139) rfl) (by decide) ?_
      refine el_nil ?_
      refine hQ135 _ _ _ ?_
      refine thn_n ?_
      refine cw_cond_t rfl rfl ?_
      refine cw_seq ?_
      refine cw_gen ?_
      intro Q218 hQ218
      replace hS : Sat w0 w137 [] := hS.rems 3 [0, 1, 2] rfl
      refine cw_reg ?_
      refine el_pv (v := .bool false) (pv_assign rfl) (by decide) ?_
      refine el_nil ?_
      refine hQ218 _ _ _ ?_
      refine thn_n ?_
      refine cw_ret ?_
      refine hQ134 _ _ _ ?_
      refine thn_r ?_
      refine fin1 rfl rfl ?_
      have hr := Option.some.inj hF
      exact ⟨congrArg (fun (r : Bool) => Ending.returned (.bool r)) hr, hS.below⟩
set_option maxHeartbeats 4000000 in
theorem laws_szRelation_ok {w0 : World} {a0 : Int} {u1 : Value} {a1 : List (List Int)} {a2 : Int} (ha1 : (sliceR (sliceR intR 3) 24).rd w0 [u1] a1) {N : Nat} {r : Int} (hF : laws_szRelation N a0 a1 a2 = some r) :
    Calls Try.prog 35 #[.agg #[.int .i64 a0, u1], .int .i64 a2] w0 fun e w' => e = .returned (.int .i64 r) ∧ Ext w0 w' := by
  unfold laws_szRelation at hF
  refine calls_E Try.func35 rfl rfl (of_decide_eq_true rfl) ?_
  have hS := Sat.start w0
  refine cw_seq ?_
  refine cw_gen ?_
  intro Q101 hQ101
  refine cw_reg ?_
  refine el_box [.int .i64 a0, u1] rfl hS (by decide) ?_
  intro w102 b103 hS hx104
  refine el_pv (v := .int .i64 0) (pv_assign rfl) (by decide) ?_
  refine el_nil ?_
  refine hQ101 _ _ _ ?_
  refine thn_n ?_
  refine cw_seq ?_
  refine cw_gen ?_
  intro Q106 hQ106
  refine cw_reg ?_
  refine el_pv (v := .pointer (some ⟨b103, 0 + 1, none⟩)) (pv_fieldAddr rfl) (by decide) ?_
  refine el_pv (v := u1) (pv_loadc rfl ((hS.boxAt 0 rfl) 1 _ rfl)) (by decide) ?_
  refine el_pv (v := .int .i64 a2) (pv_move rfl) (by decide) ?_
  replace hF := ob hF
  obtain ⟨r107, hr107, hF⟩ := hF
  refine el_call goes6 (laws_szIntSS_ok (hS.up ha1) hr107) (congrArg List.toArray (mapc rfl (mapc rfl rfl))) (by decide) ?_
  rintro _ w108 ⟨rfl, hx109⟩
  refine ⟨_, rfl, ?_⟩
  replace hS := hS.ext hx109
  refine el_pv (v := .int .i64 r107) (pv_assign rfl) (by decide) ?_
  refine el_nil ?_
  refine hQ106 _ _ _ ?_
  refine thn_n ?_
  refine cw_seq ?_
  refine cw_gen ?_
  intro Q110 hQ110
  refine cw_seq ?_
  refine cw_gen ?_
  intro Q111 hQ111
  replace hS : Sat w0 w108 [] := hS.rems 1 [0] rfl
  refine cw_reg ?_
  refine el_pv (v := .int .i64 r107) (pv_move rfl) (by decide) ?_
  refine el_pv (v := .bool (decide (r107 < 0))) (pv_lss rfl rfl) (by decide) ?_
  refine el_nil ?_
  refine hQ111 _ _ _ ?_
  refine thn_n ?_
  replace hF := oif hF
  rcases hF with ⟨hb112, hF⟩ | ⟨hb112, hF⟩
  · refine cw_cond_t rfl hb112 ?_
    refine cw_seq ?_
    refine cw_gen ?_
    intro Q113 hQ113
    refine cw_reg ?_
    refine el_pv (v := .int .i64 (-1)) (pv_assign rfl) (by decide) ?_
    refine el_nil ?_
    refine hQ113 _ _ _ ?_
    refine thn_n ?_
    refine cw_ret ?_
    refine hQ110 _ _ _ ?_
    refine thn_r ?_
    refine fin1 rfl rfl ?_
    have hr := Option.some.inj hF
    exact ⟨congrArg (fun (r : Int) => Ending.returned (.int .i64 r)) hr, hS.below⟩
  · refine cw_cond_f rfl hb112 ?_
    refine cw_skip ?_
    refine hQ110 _ _ _ ?_
    refine thn_n ?_
    refine cw_seq ?_
    refine cw_gen ?_
    intro Q114 hQ114
    refine cw_reg ?_
    refine el_pv (v := .int .i64 r107) (pv_move rfl) (by decide) ?_
    refine el_pv (v := .int .i64 r107) (pv_assign rfl) (by decide) ?_
    refine el_nil ?_
    refine hQ114 _ _ _ ?_
    refine thn_n ?_
    refine cw_ret ?_
    refine fin1 rfl rfl ?_
    have hr := Option.some.inj hF
    exact ⟨congrArg (fun (r : Int) => Ending.returned (.int .i64 r)) hr, hS.below⟩
set_option maxHeartbeats 4000000 in
theorem laws_szTable_ok {w0 : World} {a0 : ByteArray} {a1 : Int} {u2 : Value} {a2 : List (List Int)} {a3 : Int} (_ : a0.size ≤ 9223372036854775807) (ha2 : (sliceR (sliceR intR 3) 24).rd w0 [u2] a2) {N : Nat} {r : Int} (hF : laws_szTable N a0 a1 a2 a3 = some r) :
    Calls Try.prog 54 #[.agg #[.string a0, .int .i64 a1, u2], .int .i64 a3] w0 fun e w' => e = .returned (.int .i64 r) ∧ Ext w0 w' := by
  unfold laws_szTable at hF
  refine calls_E Try.func54 rfl rfl (of_decide_eq_true rfl) ?_
  have hS := Sat.start w0
  refine cw_seq ?_
  refine cw_gen ?_
  intro Q101 hQ101
  refine cw_reg ?_
  refine el_box [.string a0, .int .i64 a1, u2] rfl hS (by decide) ?_
  intro w102 b103 hS hx104
  refine el_pv (v := .int .i64 0) (pv_assign rfl) (by decide) ?_
  refine el_nil ?_
  refine hQ101 _ _ _ ?_
  refine thn_n ?_
  refine cw_seq ?_
  refine cw_gen ?_
  intro Q106 hQ106
  refine cw_reg ?_
  refine el_pv (v := .int .i64 a3) (pv_move rfl) (by decide) ?_
  refine el_pv (v := .pointer (some ⟨b103, 0 + 0, none⟩)) (pv_fieldAddr rfl) (by decide) ?_
  refine el_pv (v := .string a0) (pv_loadc rfl ((hS.boxAt 0 rfl) 0 _ rfl)) (by decide) ?_
  refine el_pv (v := .int .i64 (a0.size : Int)) (pv_lenS Try.underlying9 rfl) (by decide) ?_
  replace hF := ob hF
  obtain ⟨x107, hx107, hF⟩ := hF
  refine el_pv (v := .int .i64 x107) (pv_sub rfl rfl hx107) (by decide) ?_
  refine el_pv (v := .int .i64 x107) (pv_assign rfl) (by decide) ?_
  refine el_nil ?_
  refine hQ106 _ _ _ ?_
  refine thn_n ?_
  refine cw_seq ?_
  refine cw_gen ?_
  intro Q108 hQ108
  refine cw_seq ?_
  refine cw_gen ?_
  intro Q109 hQ109
  refine cw_reg ?_
  refine el_pv (v := .int .i64 x107) (pv_move rfl) (by decide) ?_
  refine el_pv (v := .bool (decide (x107 < 0))) (pv_lss rfl rfl) (by decide) ?_
  refine el_nil ?_
  refine hQ109 _ _ _ ?_
  refine thn_n ?_
  replace hF := oif hF
  rcases hF with ⟨hb110, hF⟩ | ⟨hb110, hF⟩
  · refine cw_cond_t rfl hb110 ?_
    refine cw_seq ?_
    refine cw_gen ?_
    intro Q111 hQ111
    replace hS : Sat w0 w102 [] := hS.rems 1 [0] rfl
    refine cw_reg ?_
    refine el_pv (v := .int .i64 (-1)) (pv_assign rfl) (by decide) ?_
    refine el_nil ?_
    refine hQ111 _ _ _ ?_
    refine thn_n ?_
    refine cw_ret ?_
    refine hQ108 _ _ _ ?_
    refine thn_r ?_
    refine fin1 rfl rfl ?_
    have hr := Option.some.inj hF
    exact ⟨congrArg (fun (r : Int) => Ending.returned (.int .i64 r)) hr, hS.below⟩
  · refine cw_cond_f rfl hb110 ?_
    refine cw_skip ?_
    refine hQ108 _ _ _ ?_
    refine thn_n ?_
    refine cw_seq ?_
    refine cw_gen ?_
    intro Q112 hQ112
    refine cw_reg ?_
    refine el_pv (v := .pointer (some ⟨b103, 0 + 1, none⟩)) (pv_fieldAddr rfl) (by decide) ?_
    refine el_pv (v := .agg #[.int .i64 a1, u2]) (pv_loada (cs := [.int .i64 a1, u2]) rfl rfl (boxc (hS.boxAt 0 rfl) 1 2)) (by decide) ?_
    refine el_pv (v := .int .i64 x107) (pv_move rfl) (by decide) ?_
    replace hF := ob hF
    obtain ⟨r113, hr113, hF⟩ := hF
    refine el_call goes35 (laws_szRelation_ok (hS.up ha2) hr113) (congrArg List.toArray (mapc rfl (mapc rfl rfl))) (by decide) ?_
    rintro _ w114 ⟨rfl, hx115⟩
    refine ⟨_, rfl, ?_⟩
    replace hS := hS.ext hx115
    refine el_pv (v := .int .i64 r113) (pv_assign rfl) (by decide) ?_
    refine el_nil ?_
    refine hQ112 _ _ _ ?_
    refine thn_n ?_
    refine cw_seq ?_
    refine cw_gen ?_
    intro Q116 hQ116
    refine cw_seq ?_
    refine cw_gen ?_
    intro Q117 hQ117
    replace hS : Sat w0 w114 [] := hS.rems 1 [0] rfl
    refine cw_reg ?_
    refine el_pv (v := .int .i64 r113) (pv_move rfl) (by decide) ?_
    refine el_pv (v := .bool (decide (r113 < 0))) (pv_lss rfl rfl) (by decide) ?_
    refine el_nil ?_
    refine hQ117 _ _ _ ?_
    refine thn_n ?_
    replace hF := oif hF
    rcases hF with ⟨hb118, hF⟩ | ⟨hb118, hF⟩
    · refine cw_cond_t rfl hb118 ?_
      refine cw_seq ?_
      refine cw_gen ?_
      intro Q119 hQ119
      refine cw_reg ?_
      refine el_pv (v := .int .i64 (-1)) (pv_assign rfl) (by decide) ?_
      refine el_nil ?_
      refine hQ119 _ _ _ ?_
      refine thn_n ?_
      refine cw_ret ?_
      refine hQ116 _ _ _ ?_
      refine thn_r ?_
      refine fin1 rfl rfl ?_
      have hr := Option.some.inj hF
      exact ⟨congrArg (fun (r : Int) => Ending.returned (.int .i64 r)) hr, hS.below⟩
    · refine cw_cond_f rfl hb118 ?_
      refine cw_skip ?_
      refine hQ116 _ _ _ ?_
      refine thn_n ?_
      refine cw_seq ?_
      refine cw_gen ?_
      intro Q120 hQ120
      refine cw_reg ?_
      refine el_pv (v := .int .i64 r113) (pv_move rfl) (by decide) ?_
      refine el_pv (v := .int .i64 r113) (pv_assign rfl) (by decide) ?_
      refine el_nil ?_
      refine hQ120 _ _ _ ?_
      refine thn_n ?_
      refine cw_ret ?_
      refine fin1 rfl rfl ?_
      have hr := Option.some.inj hF
      exact ⟨congrArg (fun (r : Int) => Ending.returned (.int .i64 r)) hr, hS.below⟩
set_option maxHeartbeats 4000000 in
theorem laws_szTableS_ok {w0 : World} {u0 : Value} {a0 : List (ByteArray × (Int × List (List Int)))} {a1 : Int} (ha0 : (sliceR (pairR strR (pairR intR (sliceR (sliceR intR 3) 24))) 76).rd w0 [u0] a0) {N : Nat} {r : Int} (hF : laws_szTableS N a0 a1 = some r) :
    Calls Try.prog 34 #[u0, .int .i64 a1] w0 fun e w' => e = .returned (.int .i64 r) ∧ Ext w0 w' := by
  unfold laws_szTableS at hF
  refine calls_E Try.func34 rfl rfl (of_decide_eq_true rfl) ?_
  have hS := Sat.start w0
  refine cw_seq ?_
  refine cw_gen ?_
  intro Q101 hQ101
  refine cw_reg ?_
  refine el_pv (v := .int .i64 0) (pv_assign rfl) (by decide) ?_
  refine el_nil ?_
  refine hQ101 _ _ _ ?_
  refine thn_n ?_
  refine cw_seq ?_
  refine cw_gen ?_
  intro Q102 hQ102
  refine cw_reg ?_
  refine el_pv (v := .int .i64 a1) (pv_move rfl) (by decide) ?_
  refine el_pv (v := u0) (pv_move rfl) (by decide) ?_
  refine el_pv (v := .int .i64 (a0.length : Int)) (pv_len rfl ha0) (by decide) ?_
  replace hF := ob hF
  obtain ⟨x103, hx103, hF⟩ := hF
  refine el_pv (v := .int .i64 x103) (pv_sub rfl rfl hx103) (by decide) ?_
  refine el_pv (v := .int .i64 x103) (pv_assign rfl) (by decide) ?_
  refine el_nil ?_
  refine hQ102 _ _ _ ?_
  refine thn_n ?_
  refine cw_seq ?_
  refine cw_gen ?_
  intro Q104 hQ104
  refine cw_seq ?_
  refine cw_gen ?_
  intro Q105 hQ105
  refine cw_reg ?_
  refine el_pv (v := .int .i64 x103) (pv_move rfl) (by decide) ?_
  refine el_pv (v := .bool (decide (x103 < 0))) (pv_lss rfl rfl) (by decide) ?_
  refine el_nil ?_
  refine hQ105 _ _ _ ?_
  refine thn_n ?_
  replace hF := oif hF
  rcases hF with ⟨hb106, hF⟩ | ⟨hb106, hF⟩
  · refine cw_cond_t rfl hb106 ?_
    refine cw_seq ?_
    refine cw_gen ?_
    intro Q107 hQ107
    refine cw_reg ?_
    refine el_pv (v := .int .i64 (-1)) (pv_assign rfl) (by decide) ?_
    refine el_nil ?_
    refine hQ107 _ _ _ ?_
    refine thn_n ?_
    refine cw_ret ?_
    refine hQ104 _ _ _ ?_
    refine thn_r ?_
    refine fin1 rfl rfl ?_
    have hr := Option.some.inj hF
    exact ⟨congrArg (fun (r : Int) => Ending.returned (.int .i64 r)) hr, hS.below⟩
  · refine cw_cond_f rfl hb106 ?_
    refine cw_skip ?_
    refine hQ104 _ _ _ ?_
    refine thn_n ?_
    refine cw_seq ?_
    refine cw_gen ?_
    intro Q108 hQ108
    refine cw_seq ?_
    refine cw_gen ?_
    intro Q109 hQ109
    refine cw_reg ?_
    refine el_pv (v := .int .i64 0) (pv_assign rfl) (by decide) ?_
    refine el_nil ?_
    refine hQ109 _ _ _ ?_
    refine thn_n ?_
    refine cw_block ?_
    refine cw_gen ?_
    intro Q110 hQ110
    obtain ⟨s111, hL, hK112⟩ := ob hF
    refine cw_loopS (fun k e w => ∃ (x113 : Int), ∃ (x114 : Int), e 0 = u0 ∧ e 1 = .int .i64 x113 ∧ e 5 = .int .i64 x114 ∧ Sat w0 w [] ∧ laws_szTableS_L1 N k a0 x113 x114 = some s111) N ?_ ?_ ?_
    · exact ⟨x103, 0, rfl, rfl, rfl, hS, hL⟩
    · rintro e w ⟨_, _, _, _, _, _, hz⟩; exact nomatch (show none = some _ from hz)
    · rintro k e119 w118 ⟨x113, x114, he115, he116, he117, hS, hF⟩
      refine cw_gen ?_
      intro Q120 hQ120
      refine cw_seq ?_
      refine cw_gen ?_
      intro Q121 hQ121
      refine cw_seq ?_
      refine cw_gen ?_
      intro Q122 hQ122
      refine cw_reg ?_
      refine el_pv (v := .int .i64 x114) (pv_move he117) (by decide) ?_
      refine el_pv (v := u0) (pv_move he115) (by decide) ?_
      refine el_pv (v := .int .i64 (a0.length : Int)) (pv_len rfl ha0) (by decide) ?_
      refine el_pv (v := .bool (decide (x114 < (a0.length : Int)))) (pv_lss rfl rfl) (by decide) ?_
      refine el_nil ?_
      refine hQ122 _ _ _ ?_
      refine thn_n ?_
      replace hF := oif hF
      rcases hF with ⟨hb123, hF⟩ | ⟨hb123, hF⟩
      · refine cw_cond_t rfl hb123 ?_
        refine cw_skip ?_
        refine hQ121 _ _ _ ?_
        refine thn_n ?_
        refine cw_seq ?_
        refine cw_gen ?_
        intro Q124 hQ124
        refine cw_block ?_
        refine cw_gen ?_
        intro Q125 hQ125
        refine cw_seq ?_
        refine cw_gen ?_
        intro Q126 hQ126
        refine cw_reg ?_
        refine el_pv (v := u0) (pv_move he115) (by decide) ?_
        refine el_pv (v := .int .i64 x114) (pv_move he117) (by decide) ?_
        replace hF := ob hF
        obtain ⟨x127, hx127, hF⟩ := hF
        refine el_index (wA := w0) rfl ha0 rfl (by decide) rfl hx127 (by decide) ?_
        intro b128 of129 c130 hr131 hm132
        obtain ⟨_, _, rfl, hr133, hr134⟩ := hr131
        obtain ⟨rfl, hz135⟩ := hr133
        obtain ⟨_, _, rfl, hr136, hr137⟩ := hr134
        obtain rfl := hr136
        obtain ⟨v138, rfl⟩ := slice_one hr137
        refine el_pv (v := .agg #[.string x127.1, .int .i64 x127.2.1, v138]) (pv_loada (cs := [.string x127.1, .int .i64 x127.2.1, v138]) rfl rfl (cells_up hS.below hm132)) (by decide) ?_
        refine el_pv (v := .int .i64 x113) (pv_move he116) (by decide) ?_
        replace hF := ob hF
        obtain ⟨r139, hr139, hF⟩ := hF
        refine el_call goes54 (laws_szTable_ok hz135 (hS.up hr137) hr139) (congrArg List.toArray (mapc rfl (mapc rfl rfl))) (by decide) ?_
        rintro _ w140 ⟨rfl, hx141⟩
        refine ⟨_, rfl, ?_⟩
        replace hS := hS.ext hx141
        refine el_pv (v := .int .i64 r139) (pv_assign rfl) (by decide) ?_
        refine el_nil ?_
        refine hQ126 _ _ _ ?_
        refine thn_n ?_
        refine cw_seq ?_
        refine cw_gen ?_
        intro Q142 hQ142
        refine cw_reg ?_
        refine el_pv (v := .int .i64 r139) (pv_move rfl) (by decide) ?_
        refine el_pv (v := .bool (decide (r139 < 0))) (pv_lss rfl rfl) (by decide) ?_
        refine el_nil ?_
        refine hQ142 _ _ _ ?_
        refine thn_n ?_
        replace hF := oif hF
        rcases hF with ⟨hb143, hF⟩ | ⟨hb143, hF⟩
        · refine cw_cond_t rfl hb143 ?_
          refine cw_seq ?_
          refine cw_gen ?_
          intro Q144 hQ144
          refine cw_reg ?_
          refine el_pv (v := .int .i64 (-1)) (pv_assign rfl) (by decide) ?_
          refine el_nil ?_
          refine hQ144 _ _ _ ?_
          refine thn_n ?_
          refine cw_ret ?_
          refine hQ125 _ _ _ ?_
          refine inb_r ?_
          refine hQ124 _ _ _ ?_
          refine thn_r ?_
          refine hQ120 _ _ _ ?_
          refine thn_r ?_
          refine hQ110 _ _ _ ?_
          refine inb_r ?_
          refine hQ108 _ _ _ ?_
          refine thn_r ?_
          replace hF := exL hF hK112
          refine fin1 rfl rfl ?_
          have hr := Option.some.inj hF
          exact ⟨congrArg (fun (r : Int) => Ending.returned (.int .i64 r)) hr, hS.below⟩
        · refine cw_cond_f rfl hb143 ?_
          refine cw_skip ?_
          refine hQ125 _ _ _ ?_
          refine inb_n ?_
          refine hQ124 _ _ _ ?_
          refine thn_n ?_
          refine cw_reg ?_
          refine el_pv (v := .int .i64 x114) (pv_move he117) (by decide) ?_
          replace hF := ob hF
          obtain ⟨x145, hx145, hF⟩ := hF
          refine el_pv (v := .int .i64 x145) (pv_add rfl rfl hx145) (by decide) ?_
          refine el_pv (v := .int .i64 x145) (pv_assign rfl) (by decide) ?_
          refine el_nil ?_
          refine hQ120 _ _ _ ?_
          refine thn_n ?_
          replace hS := hS.keep 0
          exact ⟨r139, x145, he115, rfl, rfl, hS, hF⟩
      · refine cw_cond_f rfl hb123 ?_
        refine cw_exit ?_
        refine hQ121 _ _ _ ?_
        refine thn_x ?_
        refine hQ120 _ _ _ ?_
        refine thn_x ?_
        replace hF := exA hF hK112
        refine hQ110 _ _ _ ?_
        refine inb_s ?_
        refine hQ108 _ _ _ ?_
        refine thn_n ?_
        refine cw_seq ?_
        refine cw_gen ?_
        intro Q146 hQ146
        refine cw_reg ?_
        refine el_pv (v := .int .i64 x113) (pv_move he116) (by decide) ?_
        refine el_pv (v := .int .i64 x113) (pv_assign rfl) (by decide) ?_
        refine el_nil ?_
        refine hQ146 _ _ _ ?_
        refine thn_n ?_
        refine cw_ret ?_
        refine fin1 rfl rfl ?_
        have hr := Option.some.inj hF
        exact ⟨congrArg (fun (r : Int) => Ending.returned (.int .i64 r)) hr, hS.below⟩
set_option maxHeartbeats 4000000 in
theorem laws_szDatabase_ok {w0 : World} {u0 : Value} {a0 : List (ByteArray × (Int × List (List Int)))} {a1 : Int} (ha0 : (sliceR (pairR strR (pairR intR (sliceR (sliceR intR 3) 24))) 76).rd w0 [u0] a0) {N : Nat} {r : Int} (hF : laws_szDatabase N a0 a1 = some r) :
    Calls Try.prog 15 #[.agg #[u0], .int .i64 a1] w0 fun e w' => e = .returned (.int .i64 r) ∧ Ext w0 w' := by
  unfold laws_szDatabase at hF
  refine calls_E Try.func15 rfl rfl (of_decide_eq_true rfl) ?_
  have hS := Sat.start w0
  refine cw_seq ?_
  refine cw_gen ?_
  intro Q101 hQ101
  refine cw_reg ?_
  refine el_box [u0] rfl hS (by decide) ?_
  intro w102 b103 hS hx104
  refine el_pv (v := .int .i64 0) (pv_assign rfl) (by decide) ?_
  refine el_nil ?_
  refine hQ101 _ _ _ ?_
  refine thn_n ?_
  refine cw_seq ?_
  refine cw_gen ?_
  intro Q106 hQ106
  refine cw_reg ?_
  refine el_pv (v := .pointer (some ⟨b103, 0 + 0, none⟩)) (pv_fieldAddr rfl) (by decide) ?_
  refine el_pv (v := u0) (pv_loadc rfl ((hS.boxAt 0 rfl) 0 _ rfl)) (by decide) ?_
  refine el_pv (v := .int .i64 a1) (pv_move rfl) (by decide) ?_
  replace hF := ob hF
  obtain ⟨r107, hr107, hF⟩ := hF
  refine el_call goes34 (laws_szTableS_ok (hS.up ha0) hr107) (congrArg List.toArray (mapc rfl (mapc rfl rfl))) (by decide) ?_
  rintro _ w108 ⟨rfl, hx109⟩
  refine ⟨_, rfl, ?_⟩
  replace hS := hS.ext hx109
  refine el_pv (v := .int .i64 r107) (pv_assign rfl) (by decide) ?_
  refine el_nil ?_
  refine hQ106 _ _ _ ?_
  refine thn_n ?_
  refine cw_seq ?_
  refine cw_gen ?_
  intro Q110 hQ110
  refine cw_seq ?_
  refine cw_gen ?_
  intro Q111 hQ111
  replace hS : Sat w0 w108 [] := hS.rems 1 [0] rfl
  refine cw_reg ?_
  refine el_pv (v := .int .i64 r107) (pv_move rfl) (by decide) ?_
  refine el_pv (v := .bool (decide (r107 < 0))) (pv_lss rfl rfl) (by decide) ?_
  refine el_nil ?_
  refine hQ111 _ _ _ ?_
  refine thn_n ?_
  replace hF := oif hF
  rcases hF with ⟨hb112, hF⟩ | ⟨hb112, hF⟩
  · refine cw_cond_t rfl hb112 ?_
    refine cw_seq ?_
    refine cw_gen ?_
    intro Q113 hQ113
    refine cw_reg ?_
    refine el_pv (v := .int .i64 (-1)) (pv_assign rfl) (by decide) ?_
    refine el_nil ?_
    refine hQ113 _ _ _ ?_
    refine thn_n ?_
    refine cw_ret ?_
    refine hQ110 _ _ _ ?_
    refine thn_r ?_
    refine fin1 rfl rfl ?_
    have hr := Option.some.inj hF
    exact ⟨congrArg (fun (r : Int) => Ending.returned (.int .i64 r)) hr, hS.below⟩
  · refine cw_cond_f rfl hb112 ?_
    refine cw_skip ?_
    refine hQ110 _ _ _ ?_
    refine thn_n ?_
    refine cw_seq ?_
    refine cw_gen ?_
    intro Q114 hQ114
    refine cw_reg ?_
    refine el_pv (v := .int .i64 r107) (pv_move rfl) (by decide) ?_
    refine el_pv (v := .int .i64 r107) (pv_assign rfl) (by decide) ?_
    refine el_nil ?_
    refine hQ114 _ _ _ ?_
    refine thn_n ?_
    refine cw_ret ?_
    refine fin1 rfl rfl ?_
    have hr := Option.some.inj hF
    exact ⟨congrArg (fun (r : Int) => Ending.returned (.int .i64 r)) hr, hS.below⟩
set_option maxHeartbeats 4000000 in
theorem laws_szDelta_ok {w0 : World} {a0 : ByteArray} {a1 : Int} {u2 : Value} {a2 : List (List Int)} {a3 : Int} {u4 : Value} {a4 : List (List Int)} {a5 : Int} (_ : a0.size ≤ 9223372036854775807) (ha2 : (sliceR (sliceR intR 3) 24).rd w0 [u2] a2) (ha4 : (sliceR (sliceR intR 3) 24).rd w0 [u4] a4) {N : Nat} {r : Int} (hF : laws_szDelta N a0 a1 a2 a3 a4 a5 = some r) :
    Calls Try.prog 16 #[.agg #[.string a0, .int .i64 a1, u2, .int .i64 a3, u4], .int .i64 a5] w0 fun e w' => e = .returned (.int .i64 r) ∧ Ext w0 w' := by
  unfold laws_szDelta at hF
  refine calls_E Try.func16 rfl rfl (of_decide_eq_true rfl) ?_
  have hS := Sat.start w0
  refine cw_seq ?_
  refine cw_gen ?_
  intro Q101 hQ101
  refine cw_reg ?_
  refine el_box [.string a0, .int .i64 a1, u2, .int .i64 a3, u4] rfl hS (by decide) ?_
  intro w102 b103 hS hx104
  refine el_pv (v := .int .i64 0) (pv_assign rfl) (by decide) ?_
  refine el_nil ?_
  refine hQ101 _ _ _ ?_
  refine thn_n ?_
  refine cw_seq ?_
  refine cw_gen ?_
  intro Q106 hQ106
  refine cw_reg ?_
  refine el_pv (v := .int .i64 a5) (pv_move rfl) (by decide) ?_
  refine el_pv (v := .pointer (some ⟨b103, 0 + 0, none⟩)) (pv_fieldAddr rfl) (by decide) ?_
  refine el_pv (v := .string a0) (pv_loadc rfl ((hS.boxAt 0 rfl) 0 _ rfl)) (by decide) ?_
  refine el_pv (v := .int .i64 (a0.size : Int)) (pv_lenS Try.underlying9 rfl) (by decide) ?_
  replace hF := ob hF
  obtain ⟨x107, hx107, hF⟩ := hF
  refine el_pv (v := .int .i64 x107) (pv_sub rfl rfl hx107) (by decide) ?_
  refine el_pv (v := .int .i64 x107) (pv_assign rfl) (by decide) ?_
  refine el_nil ?_
  refine hQ106 _ _ _ ?_
  refine thn_n ?_
  refine cw_seq ?_
  refine cw_gen ?_
  intro Q108 hQ108
  refine cw_seq ?_
  refine cw_gen ?_
  intro Q109 hQ109
  refine cw_reg ?_
  refine el_pv (v := .int .i64 x107) (pv_move rfl) (by decide) ?_
  refine el_pv (v := .bool (decide (x107 < 0))) (pv_lss rfl rfl) (by decide) ?_
  refine el_nil ?_
  refine hQ109 _ _ _ ?_
  refine thn_n ?_
  replace hF := oif hF
  rcases hF with ⟨hb110, hF⟩ | ⟨hb110, hF⟩
  · refine cw_cond_t rfl hb110 ?_
    refine cw_seq ?_
    refine cw_gen ?_
    intro Q111 hQ111
    replace hS : Sat w0 w102 [] := hS.rems 1 [0] rfl
    refine cw_reg ?_
    refine el_pv (v := .int .i64 (-1)) (pv_assign rfl) (by decide) ?_
    refine el_nil ?_
    refine hQ111 _ _ _ ?_
    refine thn_n ?_
    refine cw_ret ?_
    refine hQ108 _ _ _ ?_
    refine thn_r ?_
    refine fin1 rfl rfl ?_
    have hr := Option.some.inj hF
    exact ⟨congrArg (fun (r : Int) => Ending.returned (.int .i64 r)) hr, hS.below⟩
  · refine cw_cond_f rfl hb110 ?_
    refine cw_skip ?_
    refine hQ108 _ _ _ ?_
    refine thn_n ?_
    refine cw_seq ?_
    refine cw_gen ?_
    intro Q112 hQ112
    refine cw_reg ?_
    refine el_pv (v := .pointer (some ⟨b103, 0 + 1, none⟩)) (pv_fieldAddr rfl) (by decide) ?_
    refine el_pv (v := .agg #[.int .i64 a1, u2]) (pv_loada (cs := [.int .i64 a1, u2]) rfl rfl (boxc (hS.boxAt 0 rfl) 1 2)) (by decide) ?_
    refine el_pv (v := .int .i64 x107) (pv_move rfl) (by decide) ?_
    replace hF := ob hF
    obtain ⟨r113, hr113, hF⟩ := hF
    refine el_call goes35 (laws_szRelation_ok (hS.up ha2) hr113) (congrArg List.toArray (mapc rfl (mapc rfl rfl))) (by decide) ?_
    rintro _ w114 ⟨rfl, hx115⟩
    refine ⟨_, rfl, ?_⟩
    replace hS := hS.ext hx115
    refine el_pv (v := .int .i64 r113) (pv_assign rfl) (by decide) ?_
    refine el_nil ?_
    refine hQ112 _ _ _ ?_
    refine thn_n ?_
    refine cw_seq ?_
    refine cw_gen ?_
    intro Q116 hQ116
    refine cw_seq ?_
    refine cw_gen ?_
    intro Q117 hQ117
    refine cw_reg ?_
    refine el_pv (v := .int .i64 r113) (pv_move rfl) (by decide) ?_
    refine el_pv (v := .bool (decide (r113 < 0))) (pv_lss rfl rfl) (by decide) ?_
    refine el_nil ?_
    refine hQ117 _ _ _ ?_
    refine thn_n ?_
    replace hF := oif hF
    rcases hF with ⟨hb118, hF⟩ | ⟨hb118, hF⟩
    · refine cw_cond_t rfl hb118 ?_
      refine cw_seq ?_
      refine cw_gen ?_
      intro Q119 hQ119
      replace hS : Sat w0 w114 [] := hS.rems 1 [0] rfl
      refine cw_reg ?_
      refine el_pv (v := .int .i64 (-1)) (pv_assign rfl) (by decide) ?_
      refine el_nil ?_
      refine hQ119 _ _ _ ?_
      refine thn_n ?_
      refine cw_ret ?_
      refine hQ116 _ _ _ ?_
      refine thn_r ?_
      refine fin1 rfl rfl ?_
      have hr := Option.some.inj hF
      exact ⟨congrArg (fun (r : Int) => Ending.returned (.int .i64 r)) hr, hS.below⟩
    · refine cw_cond_f rfl hb118 ?_
      refine cw_skip ?_
      refine hQ116 _ _ _ ?_
      refine thn_n ?_
      refine cw_seq ?_
      refine cw_gen ?_
      intro Q120 hQ120
      refine cw_reg ?_
      refine el_pv (v := .pointer (some ⟨b103, 0 + 3, none⟩)) (pv_fieldAddr rfl) (by decide) ?_
      refine el_pv (v := .agg #[.int .i64 a3, u4]) (pv_loada (cs := [.int .i64 a3, u4]) rfl rfl (boxc (hS.boxAt 0 rfl) 3 2)) (by decide) ?_
      refine el_pv (v := .int .i64 r113) (pv_move rfl) (by decide) ?_
      replace hF := ob hF
      obtain ⟨r121, hr121, hF⟩ := hF
      refine el_call goes35 (laws_szRelation_ok (hS.up ha4) hr121) (congrArg List.toArray (mapc rfl (mapc rfl rfl))) (by decide) ?_
      rintro _ w122 ⟨rfl, hx123⟩
      refine ⟨_, rfl, ?_⟩
      replace hS := hS.ext hx123
      refine el_pv (v := .int .i64 r121) (pv_assign rfl) (by decide) ?_
      refine el_nil ?_
      refine hQ120 _ _ _ ?_
      refine thn_n ?_
      refine cw_seq ?_
      refine cw_gen ?_
      intro Q124 hQ124
      refine cw_seq ?_
      refine cw_gen ?_
      intro Q125 hQ125
      replace hS : Sat w0 w122 [] := hS.rems 1 [0] rfl
      refine cw_reg ?_
      refine el_pv (v := .int .i64 r121) (pv_move rfl) (by decide) ?_
      refine el_pv (v := .bool (decide (r121 < 0))) (pv_lss rfl rfl) (by decide) ?_
      refine el_nil ?_
      refine hQ125 _ _ _ ?_
      refine thn_n ?_
      replace hF := oif hF
      rcases hF with ⟨hb126, hF⟩ | ⟨hb126, hF⟩
      · refine cw_cond_t rfl hb126 ?_
        refine cw_seq ?_
        refine cw_gen ?_
        intro Q127 hQ127
        refine cw_reg ?_
        refine el_pv (v := .int .i64 (-1)) (pv_assign rfl) (by decide) ?_
        refine el_nil ?_
        refine hQ127 _ _ _ ?_
        refine thn_n ?_
        refine cw_ret ?_
        refine hQ124 _ _ _ ?_
        refine thn_r ?_
        refine fin1 rfl rfl ?_
        have hr := Option.some.inj hF
        exact ⟨congrArg (fun (r : Int) => Ending.returned (.int .i64 r)) hr, hS.below⟩
      · refine cw_cond_f rfl hb126 ?_
        refine cw_skip ?_
        refine hQ124 _ _ _ ?_
        refine thn_n ?_
        refine cw_seq ?_
        refine cw_gen ?_
        intro Q128 hQ128
        refine cw_reg ?_
        refine el_pv (v := .int .i64 r121) (pv_move rfl) (by decide) ?_
        refine el_pv (v := .int .i64 r121) (pv_assign rfl) (by decide) ?_
        refine el_nil ?_
        refine hQ128 _ _ _ ?_
        refine thn_n ?_
        refine cw_ret ?_
        refine fin1 rfl rfl ?_
        have hr := Option.some.inj hF
        exact ⟨congrArg (fun (r : Int) => Ending.returned (.int .i64 r)) hr, hS.below⟩
end Go.Proofs.Ytnanddmadghnnaa
