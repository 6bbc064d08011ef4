/- The walks through functions of the program: each hands back what it comes to. No condition but that it comes to something. -/
import Derived.Test.YtnanddmadghnnaaW3
import Derived.Test.YtnanddmadghnnaaW4D
namespace Go.Proofs.Ytnanddmadghnnaa
open Go.RowKit
set_option maxRecDepth 100000
set_option maxHeartbeats 4000000 in
theorem impl_IsValidName_ok {w0 : World} {a0 : ByteArray} (ha0 : a0.size ≤ 9223372036854775807) {N : Nat} {r : Bool} (hF : impl_IsValidName N a0 = some r) :
    Calls Try.prog 74 #[.string a0] w0 fun e w' => e = .returned (.bool r) ∧ Ext w0 w' := by
  unfold impl_IsValidName at hF
  refine calls_E Try.func74 rfl rfl (of_decide_eq_true rfl) ?_
  have hS := Sat.start w0
  refine cw_seq ?_
  refine cw_gen ?_
  intro Q101 hQ101
  refine cw_reg ?_
  refine el_pv (v := .bool false) (pv_assign rfl) (by decide) ?_
  refine el_nil ?_
  refine hQ101 _ _ _ ?_
  refine thn_n ?_
  refine cw_seq ?_
  refine cw_gen ?_
  intro Q102 hQ102
  refine cw_reg ?_
  refine el_pv (v := .string a0) (pv_move rfl) (by decide) ?_
  replace hF := ob hF
  obtain ⟨r103, hr103, hF⟩ := hF
  refine el_call goes79 (impl_isLetters_ok ha0 hr103) (congrArg List.toArray (mapc rfl (mapc rfl rfl))) (by decide) ?_
  rintro _ w104 ⟨rfl, hx105⟩
  refine ⟨_, rfl, ?_⟩
  replace hS := hS.ext hx105
  refine el_pv (v := .bool r103) (pv_assign rfl) (by decide) ?_
  refine el_nil ?_
  refine hQ102 _ _ _ ?_
  refine thn_n ?_
  refine cw_ret ?_
  refine fin1 rfl rfl ?_
  have hr := Option.some.inj hF
  exact ⟨congrArg (fun (r : Bool) => Ending.returned (.bool r)) hr, hS.below⟩
set_option maxHeartbeats 4000000 in
theorem impl_IsValidDatabase_ok {w0 : World} {u0 : Value} {a0 : List (ByteArray × (Int × List (List Int)))} (ha0 : (sliceR (pairR strR (pairR intR (sliceR (sliceR intR 3) 24))) 80).rd w0 [u0] a0) {N : Nat} {r : Bool} (hF : impl_IsValidDatabase N a0 = some r) :
    Calls Try.prog 63 #[.agg #[u0]] w0 fun e w' => e = .returned (.bool r) ∧ Ext w0 w' := by
  unfold impl_IsValidDatabase at hF
  refine calls_E Try.func63 rfl rfl (of_decide_eq_true rfl) ?_
  have hS := Sat.start w0
  refine cw_seq ?_
  refine cw_gen ?_
  intro Q101 hQ101
  refine cw_reg ?_
  refine el_box [u0] rfl hS (by decide) ?_
  intro w102 b103 hS hx104
  refine el_pv (v := .bool false) (pv_assign rfl) (by decide) ?_
  refine el_nil ?_
  refine hQ101 _ _ _ ?_
  refine thn_n ?_
  refine cw_seq ?_
  refine cw_gen ?_
  intro Q106 hQ106
  refine cw_seq ?_
  refine cw_gen ?_
  intro Q107 hQ107
  refine cw_reg ?_
  refine el_pv (v := .pointer (some ⟨b103, 0 + 0, none⟩)) (pv_fieldAddr rfl) (by decide) ?_
  refine el_pv (v := u0) (pv_loadc rfl ((hS.boxAt 0 rfl) 0 _ rfl)) (by decide) ?_
  refine el_pv (v := .int .i64 (a0.length : Int)) (pv_len rfl ha0) (by decide) ?_
  refine el_pv (v := .bool (decide (6 < (a0.length : Int)))) (pv_gtr rfl rfl) (by decide) ?_
  refine el_nil ?_
  refine hQ107 _ _ _ ?_
  refine thn_n ?_
  replace hF := oif hF
  rcases hF with ⟨hb108, hF⟩ | ⟨hb108, hF⟩
  · refine cw_cond_t rfl hb108 ?_
    refine cw_seq ?_
    refine cw_gen ?_
    intro Q109 hQ109
    replace hS : Sat w0 w102 [] := hS.rems 1 [0] rfl
    refine cw_reg ?_
    refine el_pv (v := .bool false) (pv_assign rfl) (by decide) ?_
    refine el_nil ?_
    refine hQ109 _ _ _ ?_
    refine thn_n ?_
    refine cw_ret ?_
    refine hQ106 _ _ _ ?_
    refine thn_r ?_
    refine fin1 rfl rfl ?_
    have hr := Option.some.inj hF
    exact ⟨congrArg (fun (r : Bool) => Ending.returned (.bool r)) hr, hS.below⟩
  · refine cw_cond_f rfl hb108 ?_
    refine cw_skip ?_
    refine hQ106 _ _ _ ?_
    refine thn_n ?_
    refine cw_seq ?_
    refine cw_gen ?_
    intro Q110 hQ110
    refine cw_seq ?_
    refine cw_gen ?_
    intro Q111 hQ111
    refine cw_reg ?_
    refine el_pv (v := .pointer (some ⟨b103, 0 + 0, none⟩)) (pv_fieldAddr rfl) (by decide) ?_
    refine el_pv (v := u0) (pv_loadc rfl ((hS.boxAt 0 rfl) 0 _ rfl)) (by decide) ?_
    refine el_pv (v := .int .i64 (a0.length : Int)) (pv_len rfl ha0) (by decide) ?_
    refine el_pv (v := .int .i64 0) (pv_move rfl) (by decide) ?_
    refine el_nil ?_
    refine hQ111 _ _ _ ?_
    refine thn_n ?_
    refine cw_block ?_
    refine cw_gen ?_
    intro Q112 hQ112
    obtain ⟨s113, hL, hK114⟩ := ob hF
    refine cw_loopS (fun k e w => ∃ (x115 : Int), e 1 = .pointer (some ⟨b103, 0, none⟩) ∧ e 10 = u0 ∧ e 11 = .int .i64 (a0.length : Int) ∧ e 12 = .int .i64 x115 ∧ Sat w0 w [Box b103 44 [u0]] ∧ impl_IsValidDatabase_L1 N k a0 a0 (a0.length : Int) x115 = some s113) N ?_ ?_ ?_
    · exact ⟨0, rfl, rfl, rfl, rfl, hS, hL⟩
    · rintro e w ⟨_, _, _, _, _, _, hz⟩; exact nomatch (show none = some _ from hz)
    · rintro k e121 w120 ⟨x115, he116, he117, he118, he119, hS, hF⟩
      refine cw_gen ?_
      intro Q122 hQ122
      refine cw_seq ?_
      refine cw_gen ?_
      intro Q123 hQ123
      refine cw_reg ?_
      refine el_pv (v := .bool (decide (x115 < (a0.length : Int)))) (pv_lss he119 he118) (by decide) ?_
      refine el_nil ?_
      refine hQ123 _ _ _ ?_
      refine thn_n ?_
      refine cw_seq ?_
      refine cw_gen ?_
      intro Q124 hQ124
      replace hF := oif hF
      rcases hF with ⟨hb125, hF⟩ | ⟨hb125, hF⟩
      · refine cw_cond_t rfl hb125 ?_
        refine cw_skip ?_
        refine hQ124 _ _ _ ?_
        refine thn_n ?_
        refine cw_seq ?_
        refine cw_gen ?_
        intro Q126 hQ126
        refine cw_block ?_
        refine cw_gen ?_
        intro Q127 hQ127
        refine cw_seq ?_
        refine cw_gen ?_
        intro Q128 hQ128
        refine cw_reg ?_
        refine el_pv (v := .int .i64 x115) (pv_move he119) (by decide) ?_
        replace hF := ob hF
        obtain ⟨x129, hx129, hF⟩ := hF
        refine el_index (wA := w0) he117 ha0 rfl (by decide) he119 hx129 (by decide) ?_
        intro b130 of131 c132 hr133 hm134
        obtain ⟨_, _, rfl, hr135, hr136⟩ := hr133
        obtain ⟨rfl, hz137⟩ := hr135
        obtain ⟨_, _, rfl, hr138, hr139⟩ := hr136
        obtain rfl := hr138
        obtain ⟨v140, rfl⟩ := slice_one hr139
        refine el_pv (v := .agg #[.string x129.1, .int .i64 x129.2.1, v140]) (pv_loada (cs := [.string x129.1, .int .i64 x129.2.1, v140]) rfl rfl (cells_up hS.below hm134)) (by decide) ?_
        refine el_alloc hS (by decide) ?_
        intro w141 b142 hS hx143
        refine el_pv (v := .int .i64 x115) (pv_assign rfl) (by decide) ?_
        refine el_storev (hS.top 0 rfl) rfl [.string x129.1, .int .i64 x129.2.1, v140] rfl rfl (of_decide_eq_true rfl) (all_cons rfl (all_cons rfl (all_cons (oc hr139) rfl))) ?_
        intro w145 hS
        replace hS : Sat w0 w145 [Box b142 80 [.string x129.1, .int .i64 x129.2.1, v140], Box b103 44 [u0]] := hS
        refine el_nil ?_
        refine hQ128 _ _ _ ?_
        refine thn_n ?_
        refine cw_seq ?_
        refine cw_gen ?_
        intro Q146 hQ146
        refine cw_regq (by kernel_rfl) (by kernel_rfl) ?_
        refine ql_pv (v := .pointer (some ⟨b142, 0 + 0, none⟩)) (pv_fieldAddr rfl) (by decide) ?_
        refine ql_pv (v := .string x129.1) (pv_loadc rfl ((hS.boxAt 0 rfl) 0 _ rfl)) (by decide) ?_
        replace hF := ob hF
        obtain ⟨r147, hr147, hF⟩ := hF
        refine ql_call (.bool r147) goes74 (fun w' hw' => impl_IsValidName_ok hz137 hr147) (congrArg List.toArray (mapc rfl rfl)) (by decide) ?_
        refine ql_pv (v := .bool (!r147)) (pv_not rfl) (by decide) ?_
        refine ql_pv (v := .bool (!r147)) (pv_move rfl) (by decide) ?_
        replace hF := oif hF
        rcases hF with ⟨hb148, hF⟩ | ⟨hb148, hF⟩
        · refine ql_on rfl (bnot_t hb148) ?_
          refine ql_pv (v := .int .i64 x115) (pv_move rfl) (by decide) ?_
          refine ql_on rfl (bnot_t hb148) ?_
          refine ql_pv (v := .bool (decide (0 < x115))) (pv_gtr rfl rfl) (by decide) ?_
          refine ql_on rfl (bnot_t hb148) ?_
          refine ql_pv (v := .bool (decide (0 < x115))) (pv_move rfl) (by decide) ?_
          replace hF := oif hF
          rcases hF with ⟨hb149, hF⟩ | ⟨hb149, hF⟩
          · refine ql_on rfl hb149 ?_
            refine ql_pv (v := .pointer (some ⟨b103, 0 + 0, none⟩)) (pv_fieldAddr he116) (by decide) ?_
            refine ql_on rfl hb149 ?_
            refine ql_pv (v := u0) (pv_loadc rfl ((hS.boxAt 1 rfl) 0 _ rfl)) (by decide) ?_
            refine ql_on rfl hb149 ?_
            refine ql_pv (v := .int .i64 x115) (pv_move rfl) (by decide) ?_
            refine ql_on rfl hb149 ?_
            replace hF := ob hF
            obtain ⟨x150, hx150, hF⟩ := hF
            refine ql_pv (v := .int .i64 x150) (pv_sub rfl rfl hx150) (by decide) ?_
            refine ql_on rfl hb149 ?_
            replace hF := ob hF
            obtain ⟨x151, hx151, hF⟩ := hF
            refine ql_index (wA := w0) rfl ha0 rfl (by decide) rfl hx151 (by decide) ?_
            intro b152 of153 c154 hr155 hm156
            obtain ⟨_, _, rfl, hr157, hr158⟩ := hr155
            obtain ⟨rfl, hz159⟩ := hr157
            obtain ⟨_, _, rfl, hr160, hr161⟩ := hr158
            obtain rfl := hr160
            obtain ⟨v162, rfl⟩ := slice_one hr161
            refine ql_on rfl hb149 ?_
            refine ql_pv (v := .pointer (some ⟨b152, of153 + 0, none⟩)) (pv_fieldAddr rfl) (by decide) ?_
            refine ql_on rfl hb149 ?_
            refine ql_pv (v := .string x151.1) (pv_loadc rfl ((cells_up hS.below hm156) 0 _ rfl)) (by decide) ?_
            refine ql_on rfl hb149 ?_
            refine ql_pv (v := .pointer (some ⟨b142, 0 + 0, none⟩)) (pv_fieldAddr rfl) (by decide) ?_
            refine ql_on rfl hb149 ?_
            refine ql_pv (v := .string x129.1) (pv_loadc rfl ((hS.boxAt 0 rfl) 0 _ rfl)) (by decide) ?_
            refine ql_on rfl hb149 ?_
            refine ql_pv (v := .bool (!(ltS x151.1 x129.1))) (pv_geqS rfl rfl) (by decide) ?_
            refine ql_on rfl (bnot_t hb148) ?_
            refine ql_pv (v := .bool (!(ltS x151.1 x129.1))) (pv_pick_t rfl hb149 rfl) (by decide) ?_
            refine ql_pv (v := .bool (!(ltS x151.1 x129.1))) (pv_pick_f rfl (bnot_t hb148) rfl) (by decide) ?_
            refine ql_pv (v := .bool (!(ltS x151.1 x129.1))) (pv_move rfl) (by decide) ?_
            replace hF := oif hF
            rcases hF with ⟨hb163, hF⟩ | ⟨hb163, hF⟩
            · refine ql_on rfl (bnot_t hb163) ?_
              refine ql_pv (v := .pointer (some ⟨b142, 0 + 1, none⟩)) (pv_fieldAddr rfl) (by decide) ?_
              refine ql_on rfl (bnot_t hb163) ?_
              refine ql_pv (v := .agg #[.int .i64 x129.2.1, v140]) (pv_loada (cs := [.int .i64 x129.2.1, v140]) rfl rfl (boxc (hS.boxAt 0 rfl) 1 2)) (by decide) ?_
              refine ql_on rfl (bnot_t hb163) ?_
              replace hF := ob hF
              obtain ⟨r164, hr164, hF⟩ := hF
              refine ql_call (.bool r164) goes60 (fun w' hw' => impl_IsValidRelation_ok (rd_up (hS.up hr139) hw') hr164) (congrArg List.toArray (mapc rfl rfl)) (by decide) ?_
              refine ql_on rfl (bnot_t hb163) ?_
              refine ql_pv (v := .bool (!r164)) (pv_not rfl) (by decide) ?_
              refine ql_pv (v := .bool (!r164)) (pv_pick_f rfl (bnot_t hb163) rfl) (by decide) ?_
              refine ql_pv (v := .bool (!r164)) (pv_move rfl) (by decide) ?_
              replace hF := oif hF
              rcases hF with ⟨hb165, hF⟩ | ⟨hb165, hF⟩
              · refine ql_on rfl (bnot_t hb165) ?_
                refine ql_pv (v := .pointer (some ⟨b142, 0 + 1, none⟩)) (pv_fieldAddr rfl) (by decide) ?_
                refine ql_on rfl (bnot_t hb165) ?_
                refine ql_pv (v := .pointer (some ⟨b142, 0 + 1 + 0, none⟩)) (pv_fieldAddr rfl) (by decide) ?_
                refine ql_on rfl (bnot_t hb165) ?_
                refine ql_pv (v := .int .i64 x129.2.1) (pv_loadc rfl ((hS.boxAt 0 rfl) 1 _ rfl)) (by decide) ?_
                refine ql_on rfl (bnot_t hb165) ?_
                refine ql_pv (v := .bool (decide (x129.2.1 < 1))) (pv_lss rfl rfl) (by decide) ?_
                refine ql_pv (v := .bool (decide (x129.2.1 < 1))) (pv_pick_f rfl (bnot_t hb165) rfl) (by decide) ?_
                refine ql_pv (v := .bool (decide (x129.2.1 < 1))) (pv_move rfl) (by decide) ?_
                replace hF := oif hF
                rcases hF with ⟨hb166, hF⟩ | ⟨hb166, hF⟩
                · refine ql_off rfl hb166 rfl (by decide) ?_
                  refine ql_off rfl hb166 rfl (by decide) ?_
                  refine ql_off rfl hb166 rfl (by decide) ?_
                  refine ql_off rfl hb166 rfl (by decide) ?_
                  refine ql_off rfl hb166 rfl (by decide) ?_
                  refine ql_pv (v := .bool true) (pv_pick_t rfl hb166 rfl) (by decide) ?_
                  refine ql_nil ?_
                  intro w167 hx168
                  replace hS := hS.ext hx168
                  refine hQ146 _ _ _ ?_
                  refine thn_n ?_
                  refine cw_cond_t rfl rfl ?_
                  refine cw_seq ?_
                  refine cw_gen ?_
                  intro Q169 hQ169
                  replace hS : Sat w0 w167 [] := hS.rems 2 [0, 1] rfl
                  refine cw_reg ?_
                  refine el_pv (v := .bool false) (pv_assign rfl) (by decide) ?_
                  refine el_nil ?_
                  refine hQ169 _ _ _ ?_
                  refine thn_n ?_
                  refine cw_ret ?_
                  refine hQ127 _ _ _ ?_
                  refine inb_r ?_
                  refine hQ126 _ _ _ ?_
                  refine thn_r ?_
                  refine hQ122 _ _ _ ?_
                  refine thn_r ?_
                  refine hQ112 _ _ _ ?_
                  refine inb_r ?_
                  refine hQ110 _ _ _ ?_
                  refine thn_r ?_
                  replace hF := exL hF hK114
                  refine fin1 rfl rfl ?_
                  have hr := Option.some.inj hF
                  exact ⟨congrArg (fun (r : Bool) => Ending.returned (.bool r)) hr, hS.below⟩
                · refine ql_on rfl hb166 ?_
                  refine ql_pv (v := .pointer (some ⟨b142, 0 + 1, none⟩)) (pv_fieldAddr rfl) (by decide) ?_
                  refine ql_on rfl hb166 ?_
                  refine ql_pv (v := .pointer (some ⟨b142, 0 + 1 + 1, none⟩)) (pv_fieldAddr rfl) (by decide) ?_
                  refine ql_on rfl hb166 ?_
                  refine ql_pv (v := v140) (pv_loadc rfl ((hS.boxAt 0 rfl) 2 _ rfl)) (by decide) ?_
                  refine ql_on rfl hb166 ?_
                  refine ql_pv (v := .int .i64 (x129.2.2.length : Int)) (pv_len rfl hr139) (by decide) ?_
                  refine ql_on rfl hb166 ?_
                  refine ql_pv (v := .bool (decide (16 < (x129.2.2.length : Int)))) (pv_gtr rfl rfl) (by decide) ?_
                  refine ql_pv (v := .bool (decide (16 < (x129.2.2.length : Int)))) (pv_pick_f rfl hb166 rfl) (by decide) ?_
                  refine ql_nil ?_
                  intro w170 hx171
                  replace hS := hS.ext hx171
                  refine hQ146 _ _ _ ?_
                  refine thn_n ?_
                  replace hF := oif hF
                  rcases hF with ⟨hb172, hF⟩ | ⟨hb172, hF⟩
                  · refine cw_cond_t rfl hb172 ?_
                    refine cw_seq ?_
                    refine cw_gen ?_
                    intro Q173 hQ173
                    replace hS : Sat w0 w170 [] := hS.rems 2 [0, 1] rfl
                    refine cw_reg ?_
                    refine el_pv (v := .bool false) (pv_assign rfl) (by decide) ?_
                    refine el_nil ?_
                    refine hQ173 _ _ _ ?_
                    refine thn_n ?_
                    refine cw_ret ?_
                    refine hQ127 _ _ _ ?_
                    refine inb_r ?_
                    refine hQ126 _ _ _ ?_
                    refine thn_r ?_
                    refine hQ122 _ _ _ ?_
                    refine thn_r ?_
                    refine hQ112 _ _ _ ?_
                    refine inb_r ?_
                    refine hQ110 _ _ _ ?_
                    refine thn_r ?_
                    replace hF := exL hF hK114
                    refine fin1 rfl rfl ?_
                    have hr := Option.some.inj hF
                    exact ⟨congrArg (fun (r : Bool) => Ending.returned (.bool r)) hr, hS.below⟩
                  · refine cw_cond_f rfl hb172 ?_
                    refine cw_skip ?_
                    refine hQ127 _ _ _ ?_
                    refine inb_n ?_
                    refine hQ126 _ _ _ ?_
                    refine thn_n ?_
                    replace hS : Sat w0 w170 [Box b103 44 [u0]] := hS.rems 2 [0] rfl
                    refine cw_reg ?_
                    replace hF := ob hF
                    obtain ⟨x174, hx174, hF⟩ := hF
                    refine el_pv (v := .int .i64 x174) (pv_add he119 rfl hx174) (by decide) ?_
                    refine el_pv (v := .int .i64 x174) (pv_move rfl) (by decide) ?_
                    refine el_nil ?_
                    refine hQ122 _ _ _ ?_
                    refine thn_n ?_
                    replace hS := hS.keep 1
                    exact ⟨x174, he116, he117, he118, rfl, hS, hF⟩
              · refine ql_off rfl (bnot_f hb165) rfl (by decide) ?_
                refine ql_off rfl (bnot_f hb165) rfl (by decide) ?_
                refine ql_off rfl (bnot_f hb165) rfl (by decide) ?_
                refine ql_off rfl (bnot_f hb165) rfl (by decide) ?_
                refine ql_pv (v := .bool true) (pv_pick_t rfl (bnot_f hb165) rfl) (by decide) ?_
                refine ql_pv (v := .bool true) (pv_move rfl) (by decide) ?_
                refine ql_off rfl rfl rfl (by decide) ?_
                refine ql_off rfl rfl rfl (by decide) ?_
                refine ql_off rfl rfl rfl (by decide) ?_
                refine ql_off rfl rfl rfl (by decide) ?_
                refine ql_off rfl rfl rfl (by decide) ?_
                refine ql_pv (v := .bool true) (pv_pick_t rfl rfl rfl) (by decide) ?_
                refine ql_nil ?_
                intro w175 hx176
                replace hS := hS.ext hx176
                refine hQ146 _ _ _ ?_
                refine thn_n ?_
                refine cw_cond_t rfl rfl ?_
                refine cw_seq ?_
                refine cw_gen ?_
                intro Q177 hQ177
                replace hS : Sat w0 w175 [] := hS.rems 2 [0, 1] rfl
                refine cw_reg ?_
                refine el_pv (v := .bool false) (pv_assign rfl) (by decide) ?_
                refine el_nil ?_
                refine hQ177 _ _ _ ?_
                refine thn_n ?_
                refine cw_ret ?_
                refine hQ127 _ _ _ ?_
                refine inb_r ?_
                refine hQ126 _ _ _ ?_
                refine thn_r ?_
                refine hQ122 _ _ _ ?_
                refine thn_r ?_
                refine hQ112 _ _ _ ?_
                refine inb_r ?_
                refine hQ110 _ _ _ ?_
                refine thn_r ?_
                replace hF := exL hF hK114
                refine fin1 rfl rfl ?_
                have hr := Option.some.inj hF
                exact ⟨congrArg (fun (r : Bool) => Ending.returned (.bool r)) hr, hS.below⟩
            · refine ql_off rfl (bnot_f hb163) rfl (by decide) ?_
              refine ql_off rfl (bnot_f hb163) rfl (by decide) ?_
              refine ql_off rfl (bnot_f hb163) rfl (by decide) ?_
              refine ql_off rfl (bnot_f hb163) rfl (by decide) ?_
              refine ql_pv (v := .bool true) (pv_pick_t rfl (bnot_f hb163) rfl) (by decide) ?_
              refine ql_pv (v := .bool true) (pv_move rfl) (by decide) ?_
              refine ql_off rfl rfl rfl (by decide) ?_
              refine ql_off rfl rfl rfl (by decide) ?_
              refine ql_off rfl rfl rfl (by decide) ?_
              refine ql_off rfl rfl rfl (by decide) ?_
              refine ql_pv (v := .bool true) (pv_pick_t rfl rfl rfl) (by decide) ?_
              refine ql_pv (v := .bool true) (pv_move rfl) (by decide) ?_
              refine ql_off rfl rfl rfl (by decide) ?_
              refine ql_off rfl rfl rfl (by decide) ?_
              refine ql_off rfl rfl rfl (by decide) ?_
              refine ql_off rfl rfl rfl (by decide) ?_
              refine ql_off rfl rfl rfl (by decide) ?_
              refine ql_pv (v := .bool true) (pv_pick_t rfl rfl rfl) (by decide) ?_
              refine ql_nil ?_
              intro w178 hx179
              replace hS := hS.ext hx179
              refine hQ146 _ _ _ ?_
              refine thn_n ?_
              refine cw_cond_t rfl rfl ?_
              refine cw_seq ?_
              refine cw_gen ?_
              intro Q180 hQ180
              replace hS : Sat w0 w178 [] := hS.rems 2 [0, 1] rfl
              refine cw_reg ?_
              refine el_pv (v := .bool false) (pv_assign rfl) (by decide) ?_
              refine el_nil ?_
              refine hQ180 _ _ _ ?_
              refine thn_n ?_
              refine cw_ret ?_
              refine hQ127 _ _ _ ?_
              refine inb_r ?_
              refine hQ126 _ _ _ ?_
              refine thn_r ?_
              refine hQ122 _ _ _ ?_
              refine thn_r ?_
              refine hQ112 _ _ _ ?_
              refine inb_r ?_
              refine hQ110 _ _ _ ?_
              refine thn_r ?_
              replace hF := exL hF hK114
              refine fin1 rfl rfl ?_
              have hr := Option.some.inj hF
              exact ⟨congrArg (fun (r : Bool) => Ending.returned (.bool r)) hr, hS.below⟩
          · refine ql_off rfl hb149 rfl (by decide) ?_
            refine ql_off rfl hb149 rfl (by decide) ?_
            refine ql_off rfl hb149 rfl (by decide) ?_
            refine ql_off rfl hb149 rfl (by decide) ?_
            refine ql_off rfl hb149 rfl (by decide) ?_
            refine ql_off rfl hb149 rfl (by decide) ?_
            refine ql_off rfl hb149 rfl (by decide) ?_
            refine ql_off rfl hb149 rfl (by decide) ?_
            refine ql_off rfl hb149 rfl (by decide) ?_
            refine ql_off rfl hb149 rfl (by decide) ?_
            refine ql_on rfl (bnot_t hb148) ?_
            refine ql_pv (v := .bool false) (pv_pick_f rfl hb149 rfl) (by decide) ?_
            refine ql_pv (v := .bool false) (pv_pick_f rfl (bnot_t hb148) rfl) (by decide) ?_
            refine ql_pv (v := .bool false) (pv_move rfl) (by decide) ?_
            refine ql_on rfl rfl ?_
            refine ql_pv (v := .pointer (some ⟨b142, 0 + 1, none⟩)) (pv_fieldAddr rfl) (by decide) ?_
            refine ql_on rfl rfl ?_
            refine ql_pv (v := .agg #[.int .i64 x129.2.1, v140]) (pv_loada (cs := [.int .i64 x129.2.1, v140]) rfl rfl (boxc (hS.boxAt 0 rfl) 1 2)) (by decide) ?_
            refine ql_on rfl rfl ?_
            replace hF := ob hF
            obtain ⟨r181, hr181, hF⟩ := hF
            refine ql_call (.bool r181) goes60 (fun w' hw' => impl_IsValidRelation_ok (rd_up (hS.up hr139) hw') hr181) (congrArg List.toArray (mapc rfl rfl)) (by decide) ?_
            refine ql_on rfl rfl ?_
            refine ql_pv (v := .bool (!r181)) (pv_not rfl) (by decide) ?_
            refine ql_pv (v := .bool (!r181)) (pv_pick_f rfl rfl rfl) (by decide) ?_
            refine ql_pv (v := .bool (!r181)) (pv_move rfl) (by decide) ?_
            replace hF := oif hF
            rcases hF with ⟨hb182, hF⟩ | ⟨hb182, hF⟩
            · refine ql_on rfl (bnot_t hb182) ?_
              refine ql_pv (v := .pointer (some ⟨b142, 0 + 1, none⟩)) (pv_fieldAddr rfl) (by decide) ?_
              refine ql_on rfl (bnot_t hb182) ?_
              refine ql_pv (v := .pointer (some ⟨b142, 0 + 1 + 0, none⟩)) (pv_fieldAddr rfl) (by decide) ?_
              refine ql_on rfl (bnot_t hb182) ?_
              refine ql_pv (v := .int .i64 x129.2.1) (pv_loadc rfl ((hS.boxAt 0 rfl) 1 _ rfl)) (by decide) ?_
              refine ql_on rfl (bnot_t hb182) ?_
              refine ql_pv (v := .bool (decide (x129.2.1 < 1))) (pv_lss rfl rfl) (by decide) ?_
              refine ql_pv (v := .bool (decide (x129.2.1 < 1))) (pv_pick_f rfl (bnot_t hb182) rfl) (by decide) ?_
              refine ql_pv (v := .bool (decide (x129.2.1 < 1))) (pv_move rfl) (by decide) ?_
              replace hF := oif hF
              rcases hF with ⟨hb183, hF⟩ | ⟨hb183, hF⟩
              · refine ql_off rfl hb183 rfl (by decide) ?_
                refine ql_off rfl hb183 rfl (by decide) ?_
                refine ql_off rfl hb183 rfl (by decide) ?_
                refine ql_off rfl hb183 rfl (by decide) ?_
                refine ql_off rfl hb183 rfl (by decide) ?_
                refine ql_pv (v := .bool true) (pv_pick_t rfl hb183 rfl) (by decide) ?_
                refine ql_nil ?_
                intro w184 hx185
                replace hS := hS.ext hx185
                refine hQ146 _ _ _ ?_
                refine thn_n ?_
                refine cw_cond_t rfl rfl ?_
                refine cw_seq ?_
                refine cw_gen ?_
                intro Q186 hQ186
                replace hS : Sat w0 w184 [] := hS.rems 2 [0, 1] rfl
                refine cw_reg ?_
                refine el_pv (v := .bool false) (pv_assign rfl) (by decide) ?_
                refine el_nil ?_
                refine hQ186 _ _ _ ?_
                refine thn_n ?_
                refine cw_ret ?_
                refine hQ127 _ _ _ ?_
                refine inb_r ?_
                refine hQ126 _ _ _ ?_
                refine thn_r ?_
                refine hQ122 _ _ _ ?_
                refine thn_r ?_
                refine hQ112 _ _ _ ?_
                refine inb_r ?_
                refine hQ110 _ _ _ ?_
                refine thn_r ?_
                replace hF := exL hF hK114
                refine fin1 rfl rfl ?_
                have hr := Option.some.inj hF
                exact ⟨congrArg (fun (r : Bool) => Ending.returned (.bool r)) hr, hS.below⟩
              · refine ql_on rfl hb183 ?_
                refine ql_pv (v := .pointer (some ⟨b142, 0 + 1, none⟩)) (pv_fieldAddr rfl) (by decide) ?_
                refine ql_on rfl hb183 ?_
                refine ql_pv (v := .pointer (some ⟨b142, 0 + 1 + 1, none⟩)) (pv_fieldAddr rfl) (by decide) ?_
                refine ql_on rfl hb183 ?_
                refine ql_pv (v := v140) (pv_loadc rfl ((hS.boxAt 0 rfl) 2 _ rfl)) (by decide) ?_
                refine ql_on rfl hb183 ?_
                refine ql_pv (v := .int .i64 (x129.2.2.length : Int)) (pv_len rfl hr139) (by decide) ?_
                refine ql_on rfl hb183 ?_
                refine ql_pv (v := .bool (decide (16 < (x129.2.2.length : Int)))) (pv_gtr rfl rfl) (by decide) ?_
                refine ql_pv (v := .bool (decide (16 < (x129.2.2.length : Int)))) (pv_pick_f rfl hb183 rfl) (by decide) ?_
                refine ql_nil ?_
                intro w187 hx188
                replace hS := hS.ext hx188
                refine hQ146 _ _ _ ?_
                refine thn_n ?_
                replace hF := oif hF
                rcases hF with ⟨hb189, hF⟩ | ⟨hb189, hF⟩
                · refine cw_cond_t rfl hb189 ?_
                  refine cw_seq ?_
                  refine cw_gen ?_
                  intro Q190 hQ190
                  replace hS : Sat w0 w187 [] := hS.rems 2 [0, 1] rfl
                  refine cw_reg ?_
                  refine el_pv (v := .bool false) (pv_assign rfl) (by decide) ?_
                  refine el_nil ?_
                  refine hQ190 _ _ _ ?_
                  refine thn_n ?_
                  refine cw_ret ?_
                  refine hQ127 _ _ _ ?_
                  refine inb_r ?_
                  refine hQ126 _ _ _ ?_
                  refine thn_r ?_
                  refine hQ122 _ _ _ ?_
                  refine thn_r ?_
                  refine hQ112 _ _ _ ?_
                  refine inb_r ?_
                  refine hQ110 _ _ _ ?_
                  refine thn_r ?_
                  replace hF := exL hF hK114
                  refine fin1 rfl rfl ?_
                  have hr := Option.some.inj hF
                  exact ⟨congrArg (fun (r : Bool) => Ending.returned (.bool r)) hr, hS.below⟩
                · refine cw_cond_f rfl hb189 ?_
                  refine cw_skip ?_
                  refine hQ127 _ _ _ ?_
                  refine inb_n ?_
                  refine hQ126 _ _ _ ?_
                  refine thn_n ?_
                  replace hS : Sat w0 w187 [Box b103 44 [u0]] := hS.rems 2 [0] rfl
                  refine cw_reg ?_
                  replace hF := ob hF
                  obtain ⟨x191, hx191, hF⟩ := hF
                  refine el_pv (v := .int .i64 x191) (pv_add he119 rfl hx191) (by decide) ?_
                  refine el_pv (v := .int .i64 x191) (pv_move rfl) (by decide) ?_
                  refine el_nil ?_
                  refine hQ122 _ _ _ ?_
                  refine thn_n ?_
                  replace hS := hS.keep 1
                  exact ⟨x191, he116, he117, he118, rfl, hS, hF⟩
            · refine ql_off rfl (bnot_f hb182) rfl (by decide) ?_
              refine ql_off rfl (bnot_f hb182) rfl (by decide) ?_
              refine ql_off rfl (bnot_f hb182) rfl (by decide) ?_
              refine ql_off rfl (bnot_f hb182) rfl (by decide) ?_
              refine ql_pv (v := .bool true) (pv_pick_t rfl (bnot_f hb182) rfl) (by decide) ?_
              refine ql_pv (v := .bool true) (pv_move rfl) (by decide) ?_
              refine ql_off rfl rfl rfl (by decide) ?_
              refine ql_off rfl rfl rfl (by decide) ?_
              refine ql_off rfl rfl rfl (by decide) ?_
              refine ql_off rfl rfl rfl (by decide) ?_
              refine ql_off rfl rfl rfl (by decide) ?_
              refine ql_pv (v := .bool true) (pv_pick_t rfl rfl rfl) (by decide) ?_
              refine ql_nil ?_
              intro w192 hx193
              replace hS := hS.ext hx193
              refine hQ146 _ _ _ ?_
              refine thn_n ?_
              refine cw_cond_t rfl rfl ?_
              refine cw_seq ?_
              refine cw_gen ?_
              intro Q194 hQ194
              replace hS : Sat w0 w192 [] := hS.rems 2 [0, 1] rfl
              refine cw_reg ?_
              refine el_pv (v := .bool false) (pv_assign rfl) (by decide) ?_
              refine el_nil ?_
              refine hQ194 _ _ _ ?_
              refine thn_n ?_
              refine cw_ret ?_
              refine hQ127 _ _ _ ?_
              refine inb_r ?_
              refine hQ126 _ _ _ ?_
              refine thn_r ?_
              refine hQ122 _ _ _ ?_
              refine thn_r ?_
              refine hQ112 _ _ _ ?_
              refine inb_r ?_
              refine hQ110 _ _ _ ?_
              refine thn_r ?_
              replace hF := exL hF hK114
              refine fin1 rfl rfl ?_
              have hr := Option.some.inj hF
              exact ⟨congrArg (fun (r : Bool) => Ending.returned (.bool r)) hr, hS.below⟩
        · refine ql_off rfl (bnot_f hb148) rfl (by decide) ?_
          refine ql_off rfl (bnot_f hb148) rfl (by decide) ?_
          refine ql_off rfl (bnot_f hb148) rfl (by decide) ?_
          refine ql_offu rfl (by decide) ?_
          refine ql_offu rfl (by decide) ?_
          refine ql_offu rfl (by decide) ?_
          refine ql_offu rfl (by decide) ?_
          refine ql_offu rfl (by decide) ?_
          refine ql_offu rfl (by decide) ?_
          refine ql_offu rfl (by decide) ?_
          refine ql_offu rfl (by decide) ?_
          refine ql_offu rfl (by decide) ?_
          refine ql_offu rfl (by decide) ?_
          refine ql_off rfl (bnot_f hb148) rfl (by decide) ?_
          refine ql_pv (v := .bool true) (pv_pick_t rfl (bnot_f hb148) rfl) (by decide) ?_
          refine ql_pv (v := .bool true) (pv_move rfl) (by decide) ?_
          refine ql_off rfl rfl rfl (by decide) ?_
          refine ql_off rfl rfl rfl (by decide) ?_
          refine ql_off rfl rfl rfl (by decide) ?_
          refine ql_off rfl rfl rfl (by decide) ?_
          refine ql_pv (v := .bool true) (pv_pick_t rfl rfl rfl) (by decide) ?_
          refine ql_pv (v := .bool true) (pv_move rfl) (by decide) ?_
          refine ql_off rfl rfl rfl (by decide) ?_
          refine ql_off rfl rfl rfl (by decide) ?_
          refine ql_off rfl rfl rfl (by decide) ?_
          refine ql_off rfl rfl rfl (by decide) ?_
          refine ql_pv (v := .bool true) (pv_pick_t rfl rfl rfl) (by decide) ?_
          refine ql_pv (v := .bool true) (pv_move rfl) (by decide) ?_
          refine ql_off rfl rfl rfl (by decide) ?_
          refine ql_off rfl rfl rfl (by decide) ?_
          refine ql_off rfl rfl rfl (by decide) ?_
          refine ql_off rfl rfl rfl (by decide) ?_
          refine ql_off rfl rfl rfl (by decide) ?_
          refine ql_pv (v := .bool true) (pv_pick_t rfl rfl rfl) (by decide) ?_
          refine ql_nil ?_
          intro w195 hx196
          replace hS := hS.ext hx196
          refine hQ146 _ _ _ ?_
          refine thn_n ?_
          refine cw_cond_t rfl rfl ?_
          refine cw_seq ?_
          refine cw_gen ?_
          intro Q197 hQ197
          replace hS : Sat w0 w195 [] := hS.rems 2 [0, 1] rfl
          refine cw_reg ?_
          refine el_pv (v := .bool false) (pv_assign rfl) (by decide) ?_
          refine el_nil ?_
          refine hQ197 _ _ _ ?_
          refine thn_n ?_
          refine cw_ret ?_
          refine hQ127 _ _ _ ?_
          refine inb_r ?_
          refine hQ126 _ _ _ ?_
          refine thn_r ?_
          refine hQ122 _ _ _ ?_
          refine thn_r ?_
          refine hQ112 _ _ _ ?_
          refine inb_r ?_
          refine hQ110 _ _ _ ?_
          refine thn_r ?_
          replace hF := exL hF hK114
          refine fin1 rfl rfl ?_
          have hr := Option.some.inj hF
          exact ⟨congrArg (fun (r : Bool) => Ending.returned (.bool r)) hr, hS.below⟩
      · refine cw_cond_f rfl hb125 ?_
        refine cw_exit ?_
        refine hQ124 _ _ _ ?_
        refine thn_x ?_
        refine hQ122 _ _ _ ?_
        refine thn_x ?_
        replace hF := exA hF hK114
        refine hQ112 _ _ _ ?_
        refine inb_s ?_
        refine hQ110 _ _ _ ?_
        refine thn_n ?_
        refine cw_seq ?_
        refine cw_gen ?_
        intro Q198 hQ198
        replace hS : Sat w0 w120 [] := hS.rems 1 [0] rfl
        refine cw_reg ?_
        refine el_pv (v := .bool true) (pv_assign rfl) (by decide) ?_
        refine el_nil ?_
        refine hQ198 _ _ _ ?_
        refine thn_n ?_
        refine cw_ret ?_
        refine fin1 rfl rfl ?_
        have hr := Option.some.inj hF
        exact ⟨congrArg (fun (r : Bool) => Ending.returned (.bool r)) hr, hS.below⟩
set_option maxHeartbeats 4000000 in
theorem impl_copyInts_ok {w0 : World} {u0 : Value} {a0 : List Int} (ha0 : (sliceR intR 3).rd w0 [u0] a0) {N : Nat} {r : (List Int)} (hF : impl_copyInts N a0 = some r) :
    Calls Try.prog 65 #[u0] w0 fun e w' => ∃ (q0 : Value), e = .returned (q0) ∧ Sat w0 w' [Own (sliceR intR 3) [q0] r] := by
  unfold impl_copyInts at hF
  refine calls_E Try.func65 rfl rfl (of_decide_eq_true rfl) ?_
  have hS := Sat.start w0
  refine cw_seq ?_
  refine cw_gen ?_
  intro Q101 hQ101
  refine cw_reg ?_
  refine el_pv (v := (.slice none 0 0)) (pv_assign rfl) (by decide) ?_
  refine el_nil ?_
  refine hQ101 _ _ _ ?_
  refine thn_n ?_
  refine cw_seq ?_
  refine cw_gen ?_
  intro Q102 hQ102
  refine cw_reg ?_
  refine el_buildSlice0 intR hS (by decide) ?_
  intro w103 v105 hS hx104
  refine el_pv (v := u0) (pv_move rfl) (by decide) ?_
  replace hF := ob hF
  obtain ⟨x109, hx109, hF⟩ := hF
  obtain ⟨ao110, c111, hv112, hn113, hrow114⟩ := row_ints (hS.up ha0)
  replace hS := hS.ints (xs := a0)
  refine el_append rfl (by decide) rfl (by decide) hS rfl (rfl.trans hv112) rfl hn113 hrow114 hx109 (by decide) ?_
  intro w107 v108 hS
  refine el_pv (v := v108) (pv_assign rfl) (by decide) ?_
  refine el_nil ?_
  refine hQ102 _ _ _ ?_
  refine thn_n ?_
  refine cw_ret ?_
  refine fin1 rfl rfl ?_
  have hr := Option.some.inj hF
  exact ⟨v108, congrArg (fun (r : (List Int)) => Ending.returned (v108)) hr, Eq.mp (congrArg (fun (r : (List Int)) => Sat w0 w107 [Own (sliceR intR 3) [v108] r]) hr) (hS.keep 1)⟩
set_option maxHeartbeats 4000000 in
theorem impl_copyRows_ok {w0 : World} {u0 : Value} {a0 : List (List Int)} (ha0 : (sliceR (sliceR intR 3) 24).rd w0 [u0] a0) {N : Nat} {r : (List (List Int))} (hF : impl_copyRows N a0 = some r) :
    Calls Try.prog 75 #[u0] w0 fun e w' => ∃ (q0 : Value), e = .returned (q0) ∧ Sat w0 w' [Own (sliceR (sliceR intR 3) 24) [q0] r] := by
  unfold impl_copyRows at hF
  refine calls_E Try.func75 rfl rfl (of_decide_eq_true rfl) ?_
  have hS := Sat.start w0
  refine cw_seq ?_
  refine cw_gen ?_
  intro Q101 hQ101
  refine cw_reg ?_
  refine el_pv (v := (.slice none 0 0)) (pv_assign rfl) (by decide) ?_
  refine el_nil ?_
  refine hQ101 _ _ _ ?_
  refine thn_n ?_
  refine cw_seq ?_
  refine cw_gen ?_
  intro Q102 hQ102
  refine cw_reg ?_
  refine el_pv (v := (.slice none 0 0)) (pv_assign rfl) (by decide) ?_
  refine el_nil ?_
  refine hQ102 _ _ _ ?_
  refine thn_n ?_
  refine cw_seq ?_
  refine cw_gen ?_
  intro Q103 hQ103
  refine cw_seq ?_
  refine cw_gen ?_
  intro Q104 hQ104
  refine cw_reg ?_
  refine el_pv (v := u0) (pv_move rfl) (by decide) ?_
  refine el_pv (v := .int .i64 (a0.length : Int)) (pv_len rfl ha0) (by decide) ?_
  refine el_pv (v := .int .i64 0) (pv_move rfl) (by decide) ?_
  refine el_nil ?_
  refine hQ104 _ _ _ ?_
  refine thn_n ?_
  refine cw_block ?_
  refine cw_gen ?_
  intro Q105 hQ105
  replace hS := hS.nil (sliceR intR 3) 24
  obtain ⟨s107, hL, hK108⟩ := ob hF
  refine cw_loopS (fun k e w => ∃ (v110 : Value), ∃ (x109 : List (List Int)), ∃ (x111 : Int), e 3 = v110 ∧ e 6 = u0 ∧ e 7 = .int .i64 (a0.length : Int) ∧ e 8 = .int .i64 x111 ∧ Sat w0 w [Own (sliceR (sliceR intR 3) 24) [v110] x109] ∧ impl_copyRows_L1 N k x109 a0 (a0.length : Int) x111 = some s107) N ?_ ?_ ?_
  · exact ⟨(.slice none 0 0), [], 0, rfl, rfl, rfl, rfl, hS, hL⟩
  · rintro e w ⟨_, _, _, _, _, _, _, _, hz⟩; exact nomatch (show none = some _ from hz)
  · rintro k e117 w116 ⟨v110, x109, x111, he112, he113, he114, he115, hS, hF⟩
    refine cw_gen ?_
    intro Q118 hQ118
    refine cw_seq ?_
    refine cw_gen ?_
    intro Q119 hQ119
    refine cw_reg ?_
    refine el_pv (v := .bool (decide (x111 < (a0.length : Int)))) (pv_lss he115 he114) (by decide) ?_
    refine el_nil ?_
    refine hQ119 _ _ _ ?_
    refine thn_n ?_
    refine cw_seq ?_
    refine cw_gen ?_
    intro Q120 hQ120
    replace hF := oif hF
    rcases hF with ⟨hb121, hF⟩ | ⟨hb121, hF⟩
    · refine cw_cond_t rfl hb121 ?_
      refine cw_skip ?_
      refine hQ120 _ _ _ ?_
      refine thn_n ?_
      refine cw_seq ?_
      refine cw_gen ?_
      intro Q122 hQ122
      refine cw_block ?_
      refine cw_gen ?_
      intro Q123 hQ123
      refine cw_seq ?_
      refine cw_gen ?_
      intro Q124 hQ124
      refine cw_reg ?_
      replace hF := ob hF
      obtain ⟨x125, hx125, hF⟩ := hF
      refine el_index (wA := w0) he113 ha0 rfl (by decide) he115 hx125 (by decide) ?_
      intro b126 of127 c128 hr129 hm130
      obtain ⟨v131, rfl⟩ := slice_one hr129
      refine el_pv (v := v131) (pv_loadc rfl ((cells_up hS.below hm130) 0 _ rfl)) (by decide) ?_
      refine el_pv (v := v131) (pv_assign rfl) (by decide) ?_
      refine el_nil ?_
      refine hQ124 _ _ _ ?_
      refine thn_n ?_
      refine cw_reg ?_
      refine el_pv (v := v110) (pv_move he112) (by decide) ?_
      refine el_pv (v := v131) (pv_move rfl) (by decide) ?_
      replace hF := ob hF
      obtain ⟨r132, hr132, hF⟩ := hF
      refine el_call goes65 (impl_copyInts_ok (hS.up hr129) hr132) (congrArg List.toArray (mapc rfl rfl)) (by decide) ?_
      rintro _ w135 ⟨v133, rfl, hS'⟩
      refine ⟨_, rfl, ?_⟩
      have hx136 := hS'.below
      replace hS := hS.call1 hS'
      refine el_buildSlice1 [v133] (cells_of rfl (oc (hS.rdAt (R := (sliceR intR 3)) 0 rfl))) (by rfl) (by decide) rfl (by decide) hS (by decide) ?_
      intro w137 b139 hS hx138
      replace hF := ob hF
      obtain ⟨x143, hx143, hF⟩ := hF
      have hrow144 := hS.boxRow 0 rfl
      replace hS : Sat w0 w137 [Own (sliceR (sliceR intR 3) 24) [v110] x109, Box b139 24 [v133], Own (sliceR intR 3) [v133] r132] := hS.top 2 rfl
      replace hS : Sat w0 w137 [Own (sliceR intR 3) [v133] r132, Own (sliceR (sliceR intR 3) 24) [v110] x109, Box b139 24 [v133]] := hS.top 2 rfl
      replace hS := hS.one
      refine el_append rfl (by decide) rfl (by decide) hS rfl rfl rfl (by simp) hrow144 hx143 (by decide) ?_
      intro w141 v142 hS
      refine el_pv (v := v142) (pv_assign rfl) (by decide) ?_
      refine el_nil ?_
      refine hQ123 _ _ _ ?_
      refine inb_n ?_
      refine hQ122 _ _ _ ?_
      refine thn_n ?_
      replace hS : Sat w0 w141 [Own (sliceR (sliceR intR 3) 24) [v142] x143] := hS.rems 2 [1] rfl
      refine cw_reg ?_
      replace hF := ob hF
      obtain ⟨x146, hx146, hF⟩ := hF
      refine el_pv (v := .int .i64 x146) (pv_add he115 rfl hx146) (by decide) ?_
      refine el_pv (v := .int .i64 x146) (pv_move rfl) (by decide) ?_
      refine el_nil ?_
      refine hQ118 _ _ _ ?_
      refine thn_n ?_
      replace hS := hS.keep 1
      exact ⟨v142, x143, x146, rfl, he113, he114, rfl, hS, hF⟩
    · refine cw_cond_f rfl hb121 ?_
      refine cw_exit ?_
      refine hQ120 _ _ _ ?_
      refine thn_x ?_
      refine hQ118 _ _ _ ?_
      refine thn_x ?_
      replace hF := exB hF hK108
      refine hQ105 _ _ _ ?_
      refine inb_s ?_
      refine hQ103 _ _ _ ?_
      refine thn_n ?_
      refine cw_seq ?_
      refine cw_gen ?_
      intro Q147 hQ147
      refine cw_reg ?_
      refine el_pv (v := v110) (pv_move he112) (by decide) ?_
      refine el_pv (v := v110) (pv_assign rfl) (by decide) ?_
      refine el_nil ?_
      refine hQ147 _ _ _ ?_
      refine thn_n ?_
      refine cw_ret ?_
      refine fin1 rfl rfl ?_
      have hr := Option.some.inj hF
      exact ⟨v110, congrArg (fun (r : (List (List Int))) => Ending.returned (v110)) hr, Eq.mp (congrArg (fun (r : (List (List Int))) => Sat w0 w116 [Own (sliceR (sliceR intR 3) 24) [v110] r]) hr) (hS.keep 1)⟩
set_option maxHeartbeats 4000000 in
theorem impl_copyRelation_ok {w0 : World} {a0 : Int} {u1 : Value} {a1 : List (List Int)} (ha1 : (sliceR (sliceR intR 3) 24).rd w0 [u1] a1) {N : Nat} {r : Int × List (List Int)} (hF : impl_copyRelation N a0 a1 = some r) :
    Calls Try.prog 64 #[.agg #[.int .i64 a0, u1]] w0 fun e w' => ∃ (q0 : Value), e = .returned (.agg #[.int .i64 r.1, q0]) ∧ Sat w0 w' [Own (sliceR (sliceR intR 3) 24) [q0] r.2] := by
  unfold impl_copyRelation at hF
  refine calls_E Try.func64 rfl rfl (of_decide_eq_true rfl) ?_
  have hS := Sat.start w0
  refine cw_seq ?_
  refine cw_gen ?_
  intro Q101 hQ101
  refine cw_reg ?_
  refine el_box [.int .i64 a0, u1] rfl hS (by decide) ?_
  intro w102 b103 hS hx104
  refine el_alloc hS (by decide) ?_
  intro w106 b107 hS hx108
  refine el_nil ?_
  refine hQ101 _ _ _ ?_
  refine thn_n ?_
  refine cw_seq ?_
  refine cw_gen ?_
  intro Q110 hQ110
  obtain ⟨C, hCd⟩ : ∃ C : World → Prop, ∀ w, C w ↔ ∃ G, Sat w0 w ([Box b103 46 [.int .i64 a0, u1]] ++ G) := ⟨_, fun _ => Iff.rfl⟩
  refine cw_regb [0, 1, 2, 3, 4, 5, 6] C (by kernel_rfl) ?_
  intro w111 hx112
  replace hS := hS.ext hx112
  replace hS : Sat w0 w111 [Box b103 46 [.int .i64 a0, u1], Box b107 46 [.int .i64 0, (.slice none 0 0)]] := hS.tops 2 [1] rfl
  have hC := (hCd _).2 ⟨_, hS⟩
  refine al_p (v := .pointer (some ⟨b103, 0 + 0, none⟩)) (by kernel_rfl) 0 rfl rfl (by decide) hC (by kernel_rfl) (by kernel_rfl) (sv_on rfl (fun w' hw' => by obtain ⟨_, hS⟩ := (hCd _).1 hw'; exact (pv_fieldAddr rfl))) ?_
  refine al_p (v := .int .i64 a0) (by kernel_rfl) 1 rfl rfl (by decide) hC (by kernel_rfl) (by kernel_rfl) (sv_on rfl (fun w' hw' => by obtain ⟨_, hS⟩ := (hCd _).1 hw'; exact (pv_loadc rfl ((hS.boxAt 0 rfl) 0 _ rfl)))) ?_
  refine al_p (v := .pointer (some ⟨b103, 0 + 1, none⟩)) (by kernel_rfl) 2 rfl rfl (by decide) hC (by kernel_rfl) (by kernel_rfl) (sv_on rfl (fun w' hw' => by obtain ⟨_, hS⟩ := (hCd _).1 hw'; exact (pv_fieldAddr rfl))) ?_
  refine al_p (v := u1) (by kernel_rfl) 3 rfl rfl (by decide) hC (by kernel_rfl) (by kernel_rfl) (sv_on rfl (fun w' hw' => by obtain ⟨_, hS⟩ := (hCd _).1 hw'; exact (pv_loadc rfl ((hS.boxAt 0 rfl) 1 _ rfl)))) ?_
  refine al_one 4 (by kernel_rfl) rfl ?_
  replace hF := ob hF
  obtain ⟨r113, hr113, hF⟩ := hF
  refine el_call goes75 (impl_copyRows_ok (hS.up ha1) hr113) (congrArg List.toArray (mapc rfl rfl)) (by decide) ?_
  rintro _ w116 ⟨v114, rfl, hS'⟩
  refine ⟨_, rfl, ?_⟩
  have hx117 := hS'.below
  replace hS := hS.call1 hS'
  refine el_nil ?_
  replace hS : Sat w0 w116 [Box b103 46 [.int .i64 a0, u1], Own (sliceR (sliceR intR 3) 24) [v114] r113, Box b107 46 [.int .i64 0, (.slice none 0 0)]] := hS.tops 3 [1] rfl
  have hC := (hCd _).2 ⟨_, hS⟩
  have hoc114 := oc (hS.rdAt (R := (sliceR (sliceR intR 3) 24)) 1 rfl)
  refine ⟨fun _ => hC, ?_⟩
  refine al_p (v := .agg #[.int .i64 a0, v114]) (by kernel_rfl) 5 rfl rfl (by decide) hC (by kernel_rfl) (by kernel_rfl) (sv_on rfl (fun w' hw' => by obtain ⟨_, hS⟩ := (hCd _).1 hw'; exact (pv_build [(0, [.int .i64 a0]), (1, [v114])] [.int .i64 a0, v114] (partc rfl (partc (cells_of rfl hoc114) rfl)) rfl))) ?_
  refine al_one 6 (by kernel_rfl) rfl ?_
  refine el_storev (hS.top 2 rfl) rfl [.int .i64 a0, v114] rfl rfl (of_decide_eq_true rfl) (all_cons rfl (all_cons (oc (hS.rdAt (R := (sliceR (sliceR intR 3) 24)) 1 rfl)) rfl)) ?_
  intro w118 hS
  replace hS : Sat w0 w118 [Box b107 46 [.int .i64 a0, v114], Box b103 46 [.int .i64 a0, u1], Own (sliceR (sliceR intR 3) 24) [v114] r113] := hS
  refine el_nil ?_
  replace hS : Sat w0 w118 [Box b103 46 [.int .i64 a0, u1], Box b107 46 [.int .i64 a0, v114], Own (sliceR (sliceR intR 3) 24) [v114] r113] := hS.tops 3 [1] rfl
  have hC := (hCd _).2 ⟨_, hS⟩
  refine ⟨fun _ => hC, ?_⟩
  refine al_nil (by kernel_rfl) ?_
  refine hQ110 _ _ _ ?_
  refine thn_n ?_
  refine cw_ret ?_
  refine finC (cs := [.int .i64 a0, v114]) rfl rfl rfl (boxc0 (hS.boxAt 1 rfl))  ?_
  replace hS : Sat w0 w118 [Own (sliceR (sliceR intR 3) 24) [v114] r113, Box b103 46 [.int .i64 a0, u1], Box b107 46 [.int .i64 a0, v114]] := hS.tops 3 [2] rfl
  have hr := Option.some.inj hF
  exact ⟨v114, congrArg (fun (r : Int × List (List Int)) => Ending.returned (.agg #[.int .i64 r.1, v114])) hr, Eq.mp (congrArg (fun (r : Int × List (List Int)) => Sat w0 w118 [Own (sliceR (sliceR intR 3) 24) [v114] r.2]) hr) (hS.keep 1)⟩
set_option maxHeartbeats 4000000 in
theorem impl_LookupRelation_ok {w0 : World} {u0 : Value} {a0 : List (ByteArray × (Int × List (List Int)))} {a1 : ByteArray} (ha0 : (sliceR (pairR strR (pairR intR (sliceR (sliceR intR 3) 24))) 80).rd w0 [u0] a0) (_ : a1.size ≤ 9223372036854775807) {N : Nat} {r : (Int × List (List Int)) × Bool} (hF : impl_LookupRelation N a0 a1 = some r) :
    Calls Try.prog 46 #[.agg #[u0], .string a1] w0 fun e w' => ∃ (q0 : Value), e = .returned (.tuple #[.agg #[.int .i64 r.1.1, q0], .bool r.2]) ∧ Sat w0 w' [Own (sliceR (sliceR intR 3) 24) [q0] r.1.2] := by
  unfold impl_LookupRelation at hF
  refine calls_E Try.func46 rfl rfl (of_decide_eq_true rfl) ?_
  have hS := Sat.start w0
  refine cw_seq ?_
  refine cw_gen ?_
  intro Q101 hQ101
  refine cw_reg ?_
  refine el_box [u0] rfl hS (by decide) ?_
  intro w102 b103 hS hx104
  refine el_alloc hS (by decide) ?_
  intro w106 b107 hS hx108
  refine el_pv (v := .bool false) (pv_assign rfl) (by decide) ?_
  refine el_nil ?_
  refine hQ101 _ _ _ ?_
  refine thn_n ?_
  refine cw_seq ?_
  refine cw_gen ?_
  intro Q110 hQ110
  refine cw_seq ?_
  refine cw_gen ?_
  intro Q111 hQ111
  refine cw_reg ?_
  refine el_pv (v := .agg #[u0]) (pv_loada (cs := [u0]) rfl rfl (boxc0 (hS.boxAt 1 rfl))) (by decide) ?_
  replace hF := ob hF
  obtain ⟨r112, hr112, hF⟩ := hF
  refine el_call goes63 (impl_IsValidDatabase_ok (hS.up ha0) hr112) (congrArg List.toArray (mapc rfl rfl)) (by decide) ?_
  rintro _ w113 ⟨rfl, hx114⟩
  refine ⟨_, rfl, ?_⟩
  replace hS := hS.ext hx114
  refine el_nil ?_
  refine hQ111 _ _ _ ?_
  refine thn_n ?_
  replace hF := oif hF
  rcases hF with ⟨hb115, hF⟩ | ⟨hb115, hF⟩
  · refine cw_cond_t rfl hb115 ?_
    refine cw_seq ?_
    refine cw_gen ?_
    intro Q116 hQ116
    refine cw_reg ?_
    refine el_pv (v := .pointer (some ⟨b103, 0 + 0, none⟩)) (pv_fieldAddr rfl) (by decide) ?_
    refine el_pv (v := u0) (pv_loadc rfl ((hS.boxAt 1 rfl) 0 _ rfl)) (by decide) ?_
    refine el_pv (v := .int .i64 (a0.length : Int)) (pv_len rfl ha0) (by decide) ?_
    refine el_pv (v := .int .i64 0) (pv_move rfl) (by decide) ?_
    refine el_nil ?_
    refine hQ116 _ _ _ ?_
    refine thn_n ?_
    refine cw_block ?_
    refine cw_gen ?_
    intro Q117 hQ117
    obtain ⟨s118, hL, hK119⟩ := ob hF
    replace hS : Sat w0 w113 [Box b107 46 [.int .i64 0, (.slice none 0 0)]] := hS.rems 2 [1] rfl
    refine cw_loopS (fun k e w => ∃ (x120 : Int), e 1 = .string a1 ∧ e 4 = .pointer (some ⟨b107, 0, none⟩) ∧ e 11 = u0 ∧ e 12 = .int .i64 (a0.length : Int) ∧ e 13 = .int .i64 x120 ∧ Sat w0 w [Box b107 46 [.int .i64 0, (.slice none 0 0)]] ∧ impl_LookupRelation_L1 N k a1 0 [] a0 (a0.length : Int) x120 = some s118) N ?_ ?_ ?_
    · exact ⟨0, rfl, rfl, rfl, rfl, rfl, hS, hL⟩
    · rintro e w ⟨_, _, _, _, _, _, _, hz⟩; exact nomatch (show none = some _ from hz)
    · rintro k e127 w126 ⟨x120, he121, he122, he123, he124, he125, hS, hF⟩
      refine cw_gen ?_
      intro Q128 hQ128
      refine cw_seq ?_
      refine cw_gen ?_
      intro Q129 hQ129
      refine cw_reg ?_
      refine el_pv (v := .bool (decide (x120 < (a0.length : Int)))) (pv_lss he125 he124) (by decide) ?_
      refine el_nil ?_
      refine hQ129 _ _ _ ?_
      refine thn_n ?_
      refine cw_seq ?_
      refine cw_gen ?_
      intro Q130 hQ130
      replace hF := oif hF
      rcases hF with ⟨hb131, hF⟩ | ⟨hb131, hF⟩
      · refine cw_cond_t rfl hb131 ?_
        refine cw_skip ?_
        refine hQ130 _ _ _ ?_
        refine thn_n ?_
        refine cw_seq ?_
        refine cw_gen ?_
        intro Q132 hQ132
        refine cw_block ?_
        refine cw_gen ?_
        intro Q133 hQ133
        refine cw_seq ?_
        refine cw_gen ?_
        intro Q134 hQ134
        refine cw_reg ?_
        replace hF := ob hF
        obtain ⟨x135, hx135, hF⟩ := hF
        refine el_index (wA := w0) he123 ha0 rfl (by decide) he125 hx135 (by decide) ?_
        intro b136 of137 c138 hr139 hm140
        obtain ⟨_, _, rfl, hr141, hr142⟩ := hr139
        obtain ⟨rfl, hz143⟩ := hr141
        obtain ⟨_, _, rfl, hr144, hr145⟩ := hr142
        obtain rfl := hr144
        obtain ⟨v146, rfl⟩ := slice_one hr145
        refine el_pv (v := .agg #[.string x135.1, .int .i64 x135.2.1, v146]) (pv_loada (cs := [.string x135.1, .int .i64 x135.2.1, v146]) rfl rfl (cells_up hS.below hm140)) (by decide) ?_
        refine el_alloc hS (by decide) ?_
        intro w147 b148 hS hx149
        refine el_storev (hS.top 0 rfl) rfl [.string x135.1, .int .i64 x135.2.1, v146] rfl rfl (of_decide_eq_true rfl) (all_cons rfl (all_cons rfl (all_cons (oc hr145) rfl))) ?_
        intro w151 hS
        replace hS : Sat w0 w151 [Box b148 80 [.string x135.1, .int .i64 x135.2.1, v146], Box b107 46 [.int .i64 0, (.slice none 0 0)]] := hS
        refine el_nil ?_
        refine hQ134 _ _ _ ?_
        refine thn_n ?_
        refine cw_seq ?_
        refine cw_gen ?_
        intro Q152 hQ152
        refine cw_reg ?_
        refine el_pv (v := .pointer (some ⟨b148, 0 + 0, none⟩)) (pv_fieldAddr rfl) (by decide) ?_
        refine el_pv (v := .string x135.1) (pv_loadc rfl ((hS.boxAt 0 rfl) 0 _ rfl)) (by decide) ?_
        refine el_pv (v := .string a1) (pv_move he121) (by decide) ?_
        refine el_pv (v := .bool (eqS x135.1 a1)) (pv_eqlS rfl rfl) (by decide) ?_
        refine el_nil ?_
        refine hQ152 _ _ _ ?_
        refine thn_n ?_
        replace hF := oif hF
        rcases hF with ⟨hb153, hF⟩ | ⟨hb153, hF⟩
        · refine cw_cond_t rfl hb153 ?_
          refine cw_seq ?_
          refine cw_gen ?_
          intro Q154 hQ154
          refine cw_reg ?_
          refine el_pv (v := .pointer (some ⟨b148, 0 + 1, none⟩)) (pv_fieldAddr rfl) (by decide) ?_
          refine el_pv (v := .agg #[.int .i64 x135.2.1, v146]) (pv_loada (cs := [.int .i64 x135.2.1, v146]) rfl rfl (boxc (hS.boxAt 0 rfl) 1 2)) (by decide) ?_
          replace hF := ob hF
          obtain ⟨r155, hr155, hF⟩ := hF
          refine el_call goes64 (impl_copyRelation_ok (hS.up hr145) hr155) (congrArg List.toArray (mapc rfl rfl)) (by decide) ?_
          rintro _ w158 ⟨v156, rfl, hS'⟩
          refine ⟨_, rfl, ?_⟩
          have hx159 := hS'.below
          replace hS := hS.call1 hS'
          refine el_storev (hS.top 2 rfl) he122 [.int .i64 r155.1, v156] rfl rfl (of_decide_eq_true rfl) (all_cons rfl (all_cons (oc (hS.rdAt (R := (sliceR (sliceR intR 3) 24)) 0 rfl)) rfl)) ?_
          intro w160 hS
          replace hS : Sat w0 w160 [Box b107 46 [.int .i64 r155.1, v156], Own (sliceR (sliceR intR 3) 24) [v156] r155.2, Box b148 80 [.string x135.1, .int .i64 x135.2.1, v146]] := hS
          refine el_pv (v := .bool true) (pv_assign rfl) (by decide) ?_
          refine el_nil ?_
          refine hQ154 _ _ _ ?_
          refine thn_n ?_
          refine cw_ret ?_
          refine hQ133 _ _ _ ?_
          refine inb_r ?_
          refine hQ132 _ _ _ ?_
          refine thn_r ?_
          refine hQ128 _ _ _ ?_
          refine thn_r ?_
          refine hQ117 _ _ _ ?_
          refine inb_r ?_
          refine hQ110 _ _ _ ?_
          refine thn_r ?_
          replace hF := exL hF hK119
          refine finCT (cs := [.int .i64 r155.1, v156]) rfl he122 rfl (boxc0 (hS.boxAt 0 rfl)) rfl ?_
          replace hS : Sat w0 w160 [Own (sliceR (sliceR intR 3) 24) [v156] r155.2, Box b107 46 [.int .i64 r155.1, v156], Box b148 80 [.string x135.1, .int .i64 x135.2.1, v146]] := hS.tops 3 [1] rfl
          have hr := Option.some.inj hF
          exact ⟨v156, congrArg (fun (r : (Int × List (List Int)) × Bool) => Ending.returned (.tuple #[.agg #[.int .i64 r.1.1, v156], .bool r.2])) hr, Eq.mp (congrArg (fun (r : (Int × List (List Int)) × Bool) => Sat w0 w160 [Own (sliceR (sliceR intR 3) 24) [v156] r.1.2]) hr) (hS.keep 1)⟩
        · refine cw_cond_f rfl hb153 ?_
          refine cw_skip ?_
          refine hQ133 _ _ _ ?_
          refine inb_n ?_
          refine hQ132 _ _ _ ?_
          refine thn_n ?_
          replace hS : Sat w0 w151 [Box b107 46 [.int .i64 0, (.slice none 0 0)]] := hS.rems 2 [0] rfl
          refine cw_reg ?_
          replace hF := ob hF
          obtain ⟨x161, hx161, hF⟩ := hF
          refine el_pv (v := .int .i64 x161) (pv_add he125 rfl hx161) (by decide) ?_
          refine el_pv (v := .int .i64 x161) (pv_move rfl) (by decide) ?_
          refine el_nil ?_
          refine hQ128 _ _ _ ?_
          refine thn_n ?_
          replace hS := hS.keep 1
          exact ⟨x161, he121, he122, he123, he124, rfl, hS, hF⟩
      · refine cw_cond_f rfl hb131 ?_
        refine cw_exit ?_
        refine hQ130 _ _ _ ?_
        refine thn_x ?_
        refine hQ128 _ _ _ ?_
        refine thn_x ?_
        replace hF := exA hF hK119
        refine hQ117 _ _ _ ?_
        refine inb_s ?_
        refine hQ110 _ _ _ ?_
        refine thn_n ?_
        refine cw_seq ?_
        refine cw_gen ?_
        intro Q162 hQ162
        refine cw_reg ?_
        refine el_pv (v := .agg #[.int .i64 0, (.slice none 0 0)]) (pv_build [] [.int .i64 0, (.slice none 0 0)] rfl rfl) (by decide) ?_
        refine el_storev (hS.top 0 rfl) he122 [.int .i64 0, (.slice none 0 0)] rfl rfl (of_decide_eq_true rfl) (all_cons rfl (all_cons rfl rfl)) ?_
        intro w163 hS
        replace hS : Sat w0 w163 [Box b107 46 [.int .i64 0, (.slice none 0 0)]] := hS
        refine el_pv (v := .bool false) (pv_assign rfl) (by decide) ?_
        refine el_nil ?_
        refine hQ162 _ _ _ ?_
        refine thn_n ?_
        refine cw_ret ?_
        replace hS := hS.nil (sliceR intR 3) 24
        refine finCT (cs := [.int .i64 0, (.slice none 0 0)]) rfl he122 rfl (boxc0 (hS.boxAt 1 rfl)) rfl ?_
        have hr := Option.some.inj hF
        exact ⟨(.slice none 0 0), congrArg (fun (r : (Int × List (List Int)) × Bool) => Ending.returned (.tuple #[.agg #[.int .i64 r.1.1, (.slice none 0 0)], .bool r.2])) hr, Eq.mp (congrArg (fun (r : (Int × List (List Int)) × Bool) => Sat w0 w163 [Own (sliceR (sliceR intR 3) 24) [(.slice none 0 0)] r.1.2]) hr) (hS.keep 1)⟩
  · refine cw_cond_f rfl hb115 ?_
    refine cw_skip ?_
    refine hQ110 _ _ _ ?_
    refine thn_n ?_
    refine cw_seq ?_
    refine cw_gen ?_
    intro Q165 hQ165
    replace hS : Sat w0 w113 [Box b107 46 [.int .i64 0, (.slice none 0 0)]] := hS.rems 2 [1] rfl
    refine cw_reg ?_
    refine el_pv (v := .agg #[.int .i64 0, (.slice none 0 0)]) (pv_build [] [.int .i64 0, (.slice none 0 0)] rfl rfl) (by decide) ?_
    refine el_storev (hS.top 0 rfl) rfl [.int .i64 0, (.slice none 0 0)] rfl rfl (of_decide_eq_true rfl) (all_cons rfl (all_cons rfl rfl)) ?_
    intro w166 hS
    replace hS : Sat w0 w166 [Box b107 46 [.int .i64 0, (.slice none 0 0)]] := hS
    refine el_pv (v := .bool false) (pv_assign rfl) (by decide) ?_
    refine el_nil ?_
    refine hQ165 _ _ _ ?_
    refine thn_n ?_
    refine cw_ret ?_
    replace hS := hS.nil (sliceR intR 3) 24
    refine finCT (cs := [.int .i64 0, (.slice none 0 0)]) rfl rfl rfl (boxc0 (hS.boxAt 1 rfl)) rfl ?_
    have hr := Option.some.inj hF
    exact ⟨(.slice none 0 0), congrArg (fun (r : (Int × List (List Int)) × Bool) => Ending.returned (.tuple #[.agg #[.int .i64 r.1.1, (.slice none 0 0)], .bool r.2])) hr, Eq.mp (congrArg (fun (r : (Int × List (List Int)) × Bool) => Sat w0 w166 [Own (sliceR (sliceR intR 3) 24) [(.slice none 0 0)] r.1.2]) hr) (hS.keep 1)⟩
set_option maxHeartbeats 4000000 in
theorem impl_applicable_ok {w0 : World} {u0 : Value} {a0 : List (ByteArray × (Int × List (List Int)))} {a1 : ByteArray} {a2 : Int} {u3 : Value} {a3 : List (List Int)} {a4 : Int} {u5 : Value} {a5 : List (List Int)} (ha0 : (sliceR (pairR strR (pairR intR (sliceR (sliceR intR 3) 24))) 80).rd w0 [u0] a0) (ha1 : a1.size ≤ 9223372036854775807) (ha3 : (sliceR (sliceR intR 3) 24).rd w0 [u3] a3) (ha5 : (sliceR (sliceR intR 3) 24).rd w0 [u5] a5) {N : Nat} {r : (Int × List (List Int)) × Bool} (hF : impl_applicable N a0 a1 a2 a3 a4 a5 = some r) :
    Calls Try.prog 41 #[.agg #[u0], .agg #[.string a1, .int .i64 a2, u3, .int .i64 a4, u5]] w0 fun e w' => ∃ (q0 : Value), e = .returned (.tuple #[.agg #[.int .i64 r.1.1, q0], .bool r.2]) ∧ Sat w0 w' [Own (sliceR (sliceR intR 3) 24) [q0] r.1.2] := by
  unfold impl_applicable at hF
  refine calls_E Try.func41 rfl rfl (of_decide_eq_true rfl) ?_
  have hS := Sat.start w0
  refine cw_seq ?_
  refine cw_gen ?_
  intro Q101 hQ101
  refine cw_reg ?_
  refine el_box [u0] rfl hS (by decide) ?_
  intro w102 b103 hS hx104
  refine el_box [.string a1, .int .i64 a2, u3, .int .i64 a4, u5] rfl hS (by decide) ?_
  intro w106 b107 hS hx108
  refine el_alloc hS (by decide) ?_
  intro w110 b111 hS hx112
  refine el_pv (v := .bool false) (pv_assign rfl) (by decide) ?_
  refine el_nil ?_
  refine hQ101 _ _ _ ?_
  refine thn_n ?_
  refine cw_seq ?_
  refine cw_gen ?_
  intro Q114 hQ114
  refine cw_reg ?_
  refine el_pv (v := .agg #[u0]) (pv_loada (cs := [u0]) rfl rfl (boxc0 (hS.boxAt 2 rfl))) (by decide) ?_
  refine el_pv (v := .pointer (some ⟨b107, 0 + 0, none⟩)) (pv_fieldAddr rfl) (by decide) ?_
  refine el_pv (v := .string a1) (pv_loadc rfl ((hS.boxAt 1 rfl) 0 _ rfl)) (by decide) ?_
  replace hF := ob hF
  obtain ⟨r115, hr115, hF⟩ := hF
  refine el_call goes46 (impl_LookupRelation_ok (hS.up ha0) ha1 hr115) (congrArg List.toArray (mapc rfl (mapc rfl rfl))) (by decide) ?_
  rintro _ w118 ⟨v116, rfl, hS'⟩
  refine ⟨_, rfl, ?_⟩
  have hx119 := hS'.below
  replace hS := hS.call1 hS'
  refine el_pv (v := .tuple #[.agg #[.int .i64 r115.1.1, v116], .bool r115.2]) (pv_move rfl) (by decide) ?_
  refine el_pv (v := .agg #[.int .i64 r115.1.1, v116]) (pv_extract rfl rfl) (by decide) ?_
  refine el_pv (v := .bool r115.2) (pv_extract rfl rfl) (by decide) ?_
  refine el_alloc hS (by decide) ?_
  intro w120 b121 hS hx122
  refine el_storev (hS.top 0 rfl) rfl [.int .i64 r115.1.1, v116] rfl rfl (of_decide_eq_true rfl) (all_cons rfl (all_cons (oc (hS.rdAt (R := (sliceR (sliceR intR 3) 24)) 1 rfl)) rfl)) ?_
  intro w124 hS
  replace hS : Sat w0 w124 [Box b121 46 [.int .i64 r115.1.1, v116], Own (sliceR (sliceR intR 3) 24) [v116] r115.1.2, Box b111 46 [.int .i64 0, (.slice none 0 0)], Box b107 48 [.string a1, .int .i64 a2, u3, .int .i64 a4, u5], Box b103 44 [u0]] := hS
  refine el_pv (v := .bool r115.2) (pv_assign rfl) (by decide) ?_
  refine el_nil ?_
  refine hQ114 _ _ _ ?_
  refine thn_n ?_
  refine cw_seq ?_
  refine cw_gen ?_
  intro Q125 hQ125
  replace hS : Sat w0 w124 [Box b121 46 [.int .i64 r115.1.1, v116], Own (sliceR (sliceR intR 3) 24) [v116] r115.1.2, Box b111 46 [.int .i64 0, (.slice none 0 0)], Box b107 48 [.string a1, .int .i64 a2, u3, .int .i64 a4, u5]] := hS.rems 5 [4] rfl
  refine cw_reg ?_
  refine el_pv (v := .bool r115.2) (pv_move rfl) (by decide) ?_
  refine el_pv (v := .bool r115.2) (pv_move rfl) (by decide) ?_
  replace hF := oif hF
  rcases hF with ⟨hb126, hF⟩ | ⟨hb126, hF⟩
  · refine el_on rfl hb126 ?_
    refine el_pv (v := .pointer (some ⟨b107, 0 + 1, none⟩)) (pv_fieldAddr rfl) (by decide) ?_
    refine el_on rfl hb126 ?_
    refine el_pv (v := .agg #[.int .i64 a2, u3]) (pv_loada (cs := [.int .i64 a2, u3]) rfl rfl (boxc (hS.boxAt 3 rfl) 1 2)) (by decide) ?_
    refine el_on rfl hb126 ?_
    replace hF := ob hF
    obtain ⟨r127, hr127, hF⟩ := hF
    refine el_call goes60 (impl_IsValidRelation_ok (hS.up ha3) hr127) (congrArg List.toArray (mapc rfl rfl)) (by decide) ?_
    rintro _ w128 ⟨rfl, hx129⟩
    refine ⟨_, rfl, ?_⟩
    replace hS := hS.ext hx129
    refine el_pv (v := .bool r127) (pv_pick_t rfl hb126 rfl) (by decide) ?_
    refine el_pv (v := .bool r127) (pv_move rfl) (by decide) ?_
    replace hF := oif hF
    rcases hF with ⟨hb130, hF⟩ | ⟨hb130, hF⟩
    · refine el_on rfl hb130 ?_
      refine el_pv (v := .pointer (some ⟨b107, 0 + 3, none⟩)) (pv_fieldAddr rfl) (by decide) ?_
      refine el_on rfl hb130 ?_
      refine el_pv (v := .agg #[.int .i64 a4, u5]) (pv_loada (cs := [.int .i64 a4, u5]) rfl rfl (boxc (hS.boxAt 3 rfl) 3 2)) (by decide) ?_
      refine el_on rfl hb130 ?_
      replace hF := ob hF
      obtain ⟨r131, hr131, hF⟩ := hF
      refine el_call goes60 (impl_IsValidRelation_ok (hS.up ha5) hr131) (congrArg List.toArray (mapc rfl rfl)) (by decide) ?_
      rintro _ w132 ⟨rfl, hx133⟩
      refine ⟨_, rfl, ?_⟩
      replace hS := hS.ext hx133
      refine el_pv (v := .bool r131) (pv_pick_t rfl hb130 rfl) (by decide) ?_
      refine el_pv (v := .bool r131) (pv_assign rfl) (by decide) ?_
      refine el_nil ?_
      refine hQ125 _ _ _ ?_
      refine thn_n ?_
      refine cw_seq ?_
      refine cw_gen ?_
      intro Q134 hQ134
      obtain ⟨C, hCd⟩ : ∃ C : World → Prop, ∀ w, C w ↔ ∃ G, Sat w0 w ([Box b121 46 [.int .i64 r115.1.1, v116], Box b107 48 [.string a1, .int .i64 a2, u3, .int .i64 a4, u5], Own (sliceR (sliceR intR 3) 24) [v116] r115.1.2] ++ G) := ⟨_, fun _ => Iff.rfl⟩
      refine cw_regb [0, 1, 2, 3, 4, 5, 6, 7, 8, 9, 10, 11, 12, 13, 14, 15, 16, 17, 18, 19] C (by kernel_rfl) ?_
      intro w135 hx136
      replace hS := hS.ext hx136
      replace hS : Sat w0 w135 [Box b121 46 [.int .i64 r115.1.1, v116], Box b107 48 [.string a1, .int .i64 a2, u3, .int .i64 a4, u5], Own (sliceR (sliceR intR 3) 24) [v116] r115.1.2, Box b111 46 [.int .i64 0, (.slice none 0 0)]] := hS.tops 4 [0, 3, 1] rfl
      have hC := (hCd _).2 ⟨_, hS⟩
      refine al_p (v := .agg #[.int .i64 r115.1.1, v116]) (by kernel_rfl) 0 rfl rfl (by decide) hC (by kernel_rfl) (by kernel_rfl) (sv_on rfl (fun w' hw' => by obtain ⟨_, hS⟩ := (hCd _).1 hw'; exact (pv_loada (cs := [.int .i64 r115.1.1, v116]) rfl rfl (boxc0 (hS.boxAt 0 rfl))))) ?_
      refine al_p (v := .bool r131) (by kernel_rfl) 1 rfl rfl (by decide) hC (by kernel_rfl) (by kernel_rfl) (sv_on rfl (fun w' hw' => by obtain ⟨_, hS⟩ := (hCd _).1 hw'; exact (pv_move rfl))) ?_
      refine al_p (v := .bool r131) (by kernel_rfl) 2 rfl rfl (by decide) hC (by kernel_rfl) (by kernel_rfl) (sv_on rfl (fun w' hw' => by obtain ⟨_, hS⟩ := (hCd _).1 hw'; exact (pv_move rfl))) ?_
      replace hF := oif hF
      rcases hF with ⟨hb137, hF⟩ | ⟨hb137, hF⟩
      · refine al_p (v := .pointer (some ⟨b107, 0 + 1, none⟩)) (by kernel_rfl) 3 rfl rfl (by decide) hC (by kernel_rfl) (by kernel_rfl) (sv_g rfl hb137 (fun w' hw' => by obtain ⟨_, hS⟩ := (hCd _).1 hw'; exact (pv_fieldAddr rfl))) ?_
        refine al_p (v := .pointer (some ⟨b107, 0 + 1 + 0, none⟩)) (by kernel_rfl) 4 rfl rfl (by decide) hC (by kernel_rfl) (by kernel_rfl) (sv_g rfl hb137 (fun w' hw' => by obtain ⟨_, hS⟩ := (hCd _).1 hw'; exact (pv_fieldAddr rfl))) ?_
        refine al_p (v := .int .i64 a2) (by kernel_rfl) 5 rfl rfl (by decide) hC (by kernel_rfl) (by kernel_rfl) (sv_g rfl hb137 (fun w' hw' => by obtain ⟨_, hS⟩ := (hCd _).1 hw'; exact (pv_loadc rfl ((hS.boxAt 1 rfl) 1 _ rfl)))) ?_
        refine al_p (v := .pointer (some ⟨b121, 0 + 0, none⟩)) (by kernel_rfl) 6 rfl rfl (by decide) hC (by kernel_rfl) (by kernel_rfl) (sv_g rfl hb137 (fun w' hw' => by obtain ⟨_, hS⟩ := (hCd _).1 hw'; exact (pv_fieldAddr rfl))) ?_
        refine al_p (v := .int .i64 r115.1.1) (by kernel_rfl) 7 rfl rfl (by decide) hC (by kernel_rfl) (by kernel_rfl) (sv_g rfl hb137 (fun w' hw' => by obtain ⟨_, hS⟩ := (hCd _).1 hw'; exact (pv_loadc rfl ((hS.boxAt 0 rfl) 0 _ rfl)))) ?_
        refine al_p (v := .bool (a2 == r115.1.1)) (by kernel_rfl) 8 rfl rfl (by decide) hC (by kernel_rfl) (by kernel_rfl) (sv_g rfl hb137 (fun w' hw' => by obtain ⟨_, hS⟩ := (hCd _).1 hw'; exact (pv_eql rfl rfl))) ?_
        refine al_p (v := .bool (a2 == r115.1.1)) (by kernel_rfl) 9 rfl rfl (by decide) hC (by kernel_rfl) (by kernel_rfl) (sv_on rfl (fun w' hw' => by obtain ⟨_, hS⟩ := (hCd _).1 hw'; exact (pv_pick_t rfl hb137 rfl))) ?_
        refine al_p (v := .bool (a2 == r115.1.1)) (by kernel_rfl) 10 rfl rfl (by decide) hC (by kernel_rfl) (by kernel_rfl) (sv_on rfl (fun w' hw' => by obtain ⟨_, hS⟩ := (hCd _).1 hw'; exact (pv_move rfl))) ?_
        replace hF := oif hF
        rcases hF with ⟨hb138, hF⟩ | ⟨hb138, hF⟩
        · refine al_p (v := .pointer (some ⟨b107, 0 + 3, none⟩)) (by kernel_rfl) 11 rfl rfl (by decide) hC (by kernel_rfl) (by kernel_rfl) (sv_g rfl hb138 (fun w' hw' => by obtain ⟨_, hS⟩ := (hCd _).1 hw'; exact (pv_fieldAddr rfl))) ?_
          refine al_p (v := .pointer (some ⟨b107, 0 + 3 + 0, none⟩)) (by kernel_rfl) 12 rfl rfl (by decide) hC (by kernel_rfl) (by kernel_rfl) (sv_g rfl hb138 (fun w' hw' => by obtain ⟨_, hS⟩ := (hCd _).1 hw'; exact (pv_fieldAddr rfl))) ?_
          refine al_p (v := .int .i64 a4) (by kernel_rfl) 13 rfl rfl (by decide) hC (by kernel_rfl) (by kernel_rfl) (sv_g rfl hb138 (fun w' hw' => by obtain ⟨_, hS⟩ := (hCd _).1 hw'; exact (pv_loadc rfl ((hS.boxAt 1 rfl) 3 _ rfl)))) ?_
          refine al_p (v := .pointer (some ⟨b121, 0 + 0, none⟩)) (by kernel_rfl) 14 rfl rfl (by decide) hC (by kernel_rfl) (by kernel_rfl) (sv_g rfl hb138 (fun w' hw' => by obtain ⟨_, hS⟩ := (hCd _).1 hw'; exact (pv_fieldAddr rfl))) ?_
          refine al_p (v := .int .i64 r115.1.1) (by kernel_rfl) 15 rfl rfl (by decide) hC (by kernel_rfl) (by kernel_rfl) (sv_g rfl hb138 (fun w' hw' => by obtain ⟨_, hS⟩ := (hCd _).1 hw'; exact (pv_loadc rfl ((hS.boxAt 0 rfl) 0 _ rfl)))) ?_
          refine al_p (v := .bool (a4 == r115.1.1)) (by kernel_rfl) 16 rfl rfl (by decide) hC (by kernel_rfl) (by kernel_rfl) (sv_g rfl hb138 (fun w' hw' => by obtain ⟨_, hS⟩ := (hCd _).1 hw'; exact (pv_eql rfl rfl))) ?_
          refine al_p (v := .bool (a4 == r115.1.1)) (by kernel_rfl) 17 rfl rfl (by decide) hC (by kernel_rfl) (by kernel_rfl) (sv_on rfl (fun w' hw' => by obtain ⟨_, hS⟩ := (hCd _).1 hw'; exact (pv_pick_t rfl hb138 rfl))) ?_
          refine al_one 18 (by kernel_rfl) rfl ?_
          refine el_storev (hS.top 3 rfl) rfl [.int .i64 r115.1.1, v116] rfl rfl (of_decide_eq_true rfl) (all_cons rfl (all_cons (oc (hS.rdAt (R := (sliceR (sliceR intR 3) 24)) 2 rfl)) rfl)) ?_
          intro w139 hS
          replace hS : Sat w0 w139 [Box b111 46 [.int .i64 r115.1.1, v116], Box b121 46 [.int .i64 r115.1.1, v116], Box b107 48 [.string a1, .int .i64 a2, u3, .int .i64 a4, u5], Own (sliceR (sliceR intR 3) 24) [v116] r115.1.2] := hS
          refine el_nil ?_
          replace hS : Sat w0 w139 [Box b121 46 [.int .i64 r115.1.1, v116], Box b107 48 [.string a1, .int .i64 a2, u3, .int .i64 a4, u5], Own (sliceR (sliceR intR 3) 24) [v116] r115.1.2, Box b111 46 [.int .i64 r115.1.1, v116]] := hS.tops 4 [1, 2, 3] rfl
          have hC := (hCd _).2 ⟨_, hS⟩
          refine ⟨fun _ => hC, ?_⟩
          refine al_p (v := .bool (a4 == r115.1.1)) (by kernel_rfl) 19 rfl rfl (by decide) hC (by kernel_rfl) (by kernel_rfl) (sv_on rfl (fun w' hw' => by obtain ⟨_, hS⟩ := (hCd _).1 hw'; exact (pv_assign rfl))) ?_
          refine al_nil (by kernel_rfl) ?_
          refine hQ134 _ _ _ ?_
          refine thn_n ?_
          refine cw_ret ?_
          refine finCT (cs := [.int .i64 r115.1.1, v116]) rfl rfl rfl (boxc0 (hS.boxAt 3 rfl)) rfl ?_
          replace hS : Sat w0 w139 [Own (sliceR (sliceR intR 3) 24) [v116] r115.1.2, Box b121 46 [.int .i64 r115.1.1, v116], Box b107 48 [.string a1, .int .i64 a2, u3, .int .i64 a4, u5], Box b111 46 [.int .i64 r115.1.1, v116]] := hS.tops 4 [2] rfl
          have hr := Option.some.inj hF
          exact ⟨v116, congrArg (fun (r : (Int × List (List Int)) × Bool) => Ending.returned (.tuple #[.agg #[.int .i64 r.1.1, v116], .bool r.2])) hr, Eq.mp (congrArg (fun (r : (Int × List (List Int)) × Bool) => Sat w0 w139 [Own (sliceR (sliceR intR 3) 24) [v116] r.1.2]) hr) (hS.keep 1)⟩
        · refine al_p (by kernel_rfl) 11 rfl rfl (by decide) hC (by kernel_rfl) (by kernel_rfl) (sv_off rfl hb138 rfl) ?_
          refine al_p (by kernel_rfl) 12 rfl rfl (by decide) hC (by kernel_rfl) (by kernel_rfl) (sv_off rfl hb138 rfl) ?_
          refine al_p (by kernel_rfl) 13 rfl rfl (by decide) hC (by kernel_rfl) (by kernel_rfl) (sv_off rfl hb138 rfl) ?_
          refine al_p (by kernel_rfl) 14 rfl rfl (by decide) hC (by kernel_rfl) (by kernel_rfl) (sv_off rfl hb138 rfl) ?_
          refine al_p (by kernel_rfl) 15 rfl rfl (by decide) hC (by kernel_rfl) (by kernel_rfl) (sv_off rfl hb138 rfl) ?_
          refine al_p (by kernel_rfl) 16 rfl rfl (by decide) hC (by kernel_rfl) (by kernel_rfl) (sv_off rfl hb138 rfl) ?_
          refine al_p (v := .bool false) (by kernel_rfl) 17 rfl rfl (by decide) hC (by kernel_rfl) (by kernel_rfl) (sv_on rfl (fun w' hw' => by obtain ⟨_, hS⟩ := (hCd _).1 hw'; exact (pv_pick_f rfl hb138 rfl))) ?_
          refine al_one 18 (by kernel_rfl) rfl ?_
          refine el_storev (hS.top 3 rfl) rfl [.int .i64 r115.1.1, v116] rfl rfl (of_decide_eq_true rfl) (all_cons rfl (all_cons (oc (hS.rdAt (R := (sliceR (sliceR intR 3) 24)) 2 rfl)) rfl)) ?_
          intro w140 hS
          replace hS : Sat w0 w140 [Box b111 46 [.int .i64 r115.1.1, v116], Box b121 46 [.int .i64 r115.1.1, v116], Box b107 48 [.string a1, .int .i64 a2, u3, .int .i64 a4, u5], Own (sliceR (sliceR intR 3) 24) [v116] r115.1.2] := hS
          refine el_nil ?_
          replace hS : Sat w0 w140 [Box b121 46 [.int .i64 r115.1.1, v116], Box b107 48 [.string a1, .int .i64 a2, u3, .int .i64 a4, u5], Own (sliceR (sliceR intR 3) 24) [v116] r115.1.2, Box b111 46 [.int .i64 r115.1.1, v116]] := hS.tops 4 [1, 2, 3] rfl
          have hC := (hCd _).2 ⟨_, hS⟩
          refine ⟨fun _ => hC, ?_⟩
          refine al_p (v := .bool false) (by kernel_rfl) 19 rfl rfl (by decide) hC (by kernel_rfl) (by kernel_rfl) (sv_on rfl (fun w' hw' => by obtain ⟨_, hS⟩ := (hCd _).1 hw'; exact (pv_assign rfl))) ?_
          refine al_nil (by kernel_rfl) ?_
          refine hQ134 _ _ _ ?_
          refine thn_n ?_
          refine cw_ret ?_
          refine finCT (cs := [.int .i64 r115.1.1, v116]) rfl rfl rfl (boxc0 (hS.boxAt 3 rfl)) rfl ?_
          replace hS : Sat w0 w140 [Own (sliceR (sliceR intR 3) 24) [v116] r115.1.2, Box b121 46 [.int .i64 r115.1.1, v116], Box b107 48 [.string a1, .int .i64 a2, u3, .int .i64 a4, u5], Box b111 46 [.int .i64 r115.1.1, v116]] := hS.tops 4 [2] rfl
          have hr := Option.some.inj hF
          exact ⟨v116, congrArg (fun (r : (Int × List (List Int)) × Bool) => Ending.returned (.tuple #[.agg #[.int .i64 r.1.1, v116], .bool r.2])) hr, Eq.mp (congrArg (fun (r : (Int × List (List Int)) × Bool) => Sat w0 w140 [Own (sliceR (sliceR intR 3) 24) [v116] r.1.2]) hr) (hS.keep 1)⟩
      · refine al_p (by kernel_rfl) 3 rfl rfl (by decide) hC (by kernel_rfl) (by kernel_rfl) (sv_off rfl hb137 rfl) ?_
        refine al_p (by kernel_rfl) 4 rfl rfl (by decide) hC (by kernel_rfl) (by kernel_rfl) (sv_off rfl hb137 rfl) ?_
        refine al_p (by kernel_rfl) 5 rfl rfl (by decide) hC (by kernel_rfl) (by kernel_rfl) (sv_off rfl hb137 rfl) ?_
        refine al_p (by kernel_rfl) 6 rfl rfl (by decide) hC (by kernel_rfl) (by kernel_rfl) (sv_off rfl hb137 rfl) ?_
        refine al_p (by kernel_rfl) 7 rfl rfl (by decide) hC (by kernel_rfl) (by kernel_rfl) (sv_off rfl hb137 rfl) ?_
        refine al_p (by kernel_rfl) 8 rfl rfl (by decide) hC (by kernel_rfl) (by kernel_rfl) (sv_off rfl hb137 rfl) ?_
        refine al_p (v := .bool false) (by kernel_rfl) 9 rfl rfl (by decide) hC (by kernel_rfl) (by kernel_rfl) (sv_on rfl (fun w' hw' => by obtain ⟨_, hS⟩ := (hCd _).1 hw'; exact (pv_pick_f rfl hb137 rfl))) ?_
        refine al_p (v := .bool false) (by kernel_rfl) 10 rfl rfl (by decide) hC (by kernel_rfl) (by kernel_rfl) (sv_on rfl (fun w' hw' => by obtain ⟨_, hS⟩ := (hCd _).1 hw'; exact (pv_move rfl))) ?_
        refine al_p (by kernel_rfl) 11 rfl rfl (by decide) hC (by kernel_rfl) (by kernel_rfl) (sv_off rfl rfl rfl) ?_
        refine al_p (by kernel_rfl) 12 rfl rfl (by decide) hC (by kernel_rfl) (by kernel_rfl) (sv_off rfl rfl rfl) ?_
        refine al_p (by kernel_rfl) 13 rfl rfl (by decide) hC (by kernel_rfl) (by kernel_rfl) (sv_off rfl rfl rfl) ?_
        refine al_p (by kernel_rfl) 14 rfl rfl (by decide) hC (by kernel_rfl) (by kernel_rfl) (sv_off rfl rfl rfl) ?_
        refine al_p (by kernel_rfl) 15 rfl rfl (by decide) hC (by kernel_rfl) (by kernel_rfl) (sv_off rfl rfl rfl) ?_
        refine al_p (by kernel_rfl) 16 rfl rfl (by decide) hC (by kernel_rfl) (by kernel_rfl) (sv_off rfl rfl rfl) ?_
        refine al_p (v := .bool false) (by kernel_rfl) 17 rfl rfl (by decide) hC (by kernel_rfl) (by kernel_rfl) (sv_on rfl (fun w' hw' => by obtain ⟨_, hS⟩ := (hCd _).1 hw'; exact (pv_pick_f rfl rfl rfl))) ?_
        refine al_one 18 (by kernel_rfl) rfl ?_
        refine el_storev (hS.top 3 rfl) rfl [.int .i64 r115.1.1, v116] rfl rfl (of_decide_eq_true rfl) (all_cons rfl (all_cons (oc (hS.rdAt (R := (sliceR (sliceR intR 3) 24)) 2 rfl)) rfl)) ?_
        intro w141 hS
        replace hS : Sat w0 w141 [Box b111 46 [.int .i64 r115.1.1, v116], Box b121 46 [.int .i64 r115.1.1, v116], Box b107 48 [.string a1, .int .i64 a2, u3, .int .i64 a4, u5], Own (sliceR (sliceR intR 3) 24) [v116] r115.1.2] := hS
        refine el_nil ?_
        replace hS : Sat w0 w141 [Box b121 46 [.int .i64 r115.1.1, v116], Box b107 48 [.string a1, .int .i64 a2, u3, .int .i64 a4, u5], Own (sliceR (sliceR intR 3) 24) [v116] r115.1.2, Box b111 46 [.int .i64 r115.1.1, v116]] := hS.tops 4 [1, 2, 3] rfl
        have hC := (hCd _).2 ⟨_, hS⟩
        refine ⟨fun _ => hC, ?_⟩
        refine al_p (v := .bool false) (by kernel_rfl) 19 rfl rfl (by decide) hC (by kernel_rfl) (by kernel_rfl) (sv_on rfl (fun w' hw' => by obtain ⟨_, hS⟩ := (hCd _).1 hw'; exact (pv_assign rfl))) ?_
        refine al_nil (by kernel_rfl) ?_
        refine hQ134 _ _ _ ?_
        refine thn_n ?_
        refine cw_ret ?_
        refine finCT (cs := [.int .i64 r115.1.1, v116]) rfl rfl rfl (boxc0 (hS.boxAt 3 rfl)) rfl ?_
        replace hS : Sat w0 w141 [Own (sliceR (sliceR intR 3) 24) [v116] r115.1.2, Box b121 46 [.int .i64 r115.1.1, v116], Box b107 48 [.string a1, .int .i64 a2, u3, .int .i64 a4, u5], Box b111 46 [.int .i64 r115.1.1, v116]] := hS.tops 4 [2] rfl
        have hr := Option.some.inj hF
        exact ⟨v116, congrArg (fun (r : (Int × List (List Int)) × Bool) => Ending.returned (.tuple #[.agg #[.int .i64 r.1.1, v116], .bool r.2])) hr, Eq.mp (congrArg (fun (r : (Int × List (List Int)) × Bool) => Sat w0 w141 [Own (sliceR (sliceR intR 3) 24) [v116] r.1.2]) hr) (hS.keep 1)⟩
    · refine el_off rfl hb130 rfl (by decide) ?_
      refine el_off rfl hb130 rfl (by decide) ?_
      refine el_off rfl hb130 rfl (by decide) ?_
      refine el_pv (v := .bool false) (pv_pick_f rfl hb130 rfl) (by decide) ?_
      refine el_pv (v := .bool false) (pv_assign rfl) (by decide) ?_
      refine el_nil ?_
      refine hQ125 _ _ _ ?_
      refine thn_n ?_
      refine cw_seq ?_
      refine cw_gen ?_
      intro Q142 hQ142
      obtain ⟨C, hCd⟩ : ∃ C : World → Prop, ∀ w, C w ↔ ∃ G, Sat w0 w ([Box b121 46 [.int .i64 r115.1.1, v116], Own (sliceR (sliceR intR 3) 24) [v116] r115.1.2] ++ G) := ⟨_, fun _ => Iff.rfl⟩
      refine cw_regb [0, 1, 2, 3, 4, 5, 6, 7, 8, 9, 10, 11, 12, 13, 14, 15, 16, 17, 18, 19] C (by kernel_rfl) ?_
      intro w143 hx144
      replace hS := hS.ext hx144
      have hC := (hCd _).2 ⟨_, hS⟩
      refine al_p (v := .agg #[.int .i64 r115.1.1, v116]) (by kernel_rfl) 0 rfl rfl (by decide) hC (by kernel_rfl) (by kernel_rfl) (sv_on rfl (fun w' hw' => by obtain ⟨_, hS⟩ := (hCd _).1 hw'; exact (pv_loada (cs := [.int .i64 r115.1.1, v116]) rfl rfl (boxc0 (hS.boxAt 0 rfl))))) ?_
      refine al_p (v := .bool false) (by kernel_rfl) 1 rfl rfl (by decide) hC (by kernel_rfl) (by kernel_rfl) (sv_on rfl (fun w' hw' => by obtain ⟨_, hS⟩ := (hCd _).1 hw'; exact (pv_move rfl))) ?_
      refine al_p (v := .bool false) (by kernel_rfl) 2 rfl rfl (by decide) hC (by kernel_rfl) (by kernel_rfl) (sv_on rfl (fun w' hw' => by obtain ⟨_, hS⟩ := (hCd _).1 hw'; exact (pv_move rfl))) ?_
      refine al_p (by kernel_rfl) 3 rfl rfl (by decide) hC (by kernel_rfl) (by kernel_rfl) (sv_off rfl rfl rfl) ?_
      refine al_p (by kernel_rfl) 4 rfl rfl (by decide) hC (by kernel_rfl) (by kernel_rfl) (sv_off rfl rfl rfl) ?_
      refine al_p (by kernel_rfl) 5 rfl rfl (by decide) hC (by kernel_rfl) (by kernel_rfl) (sv_off rfl rfl rfl) ?_
      refine al_p (by kernel_rfl) 6 rfl rfl (by decide) hC (by kernel_rfl) (by kernel_rfl) (sv_off rfl rfl rfl) ?_
      refine al_p (by kernel_rfl) 7 rfl rfl (by decide) hC (by kernel_rfl) (by kernel_rfl) (sv_off rfl rfl rfl) ?_
      refine al_p (by kernel_rfl) 8 rfl rfl (by decide) hC (by kernel_rfl) (by kernel_rfl) (sv_off rfl rfl rfl) ?_
      refine al_p (v := .bool false) (by kernel_rfl) 9 rfl rfl (by decide) hC (by kernel_rfl) (by kernel_rfl) (sv_on rfl (fun w' hw' => by obtain ⟨_, hS⟩ := (hCd _).1 hw'; exact (pv_pick_f rfl rfl rfl))) ?_
      refine al_p (v := .bool false) (by kernel_rfl) 10 rfl rfl (by decide) hC (by kernel_rfl) (by kernel_rfl) (sv_on rfl (fun w' hw' => by obtain ⟨_, hS⟩ := (hCd _).1 hw'; exact (pv_move rfl))) ?_
      refine al_p (by kernel_rfl) 11 rfl rfl (by decide) hC (by kernel_rfl) (by kernel_rfl) (sv_off rfl rfl rfl) ?_
      refine al_p (by kernel_rfl) 12 rfl rfl (by decide) hC (by kernel_rfl) (by kernel_rfl) (sv_off rfl rfl rfl) ?_
      refine al_p (by kernel_rfl) 13 rfl rfl (by decide) hC (by kernel_rfl) (by kernel_rfl) (sv_off rfl rfl rfl) ?_
      refine al_p (by kernel_rfl) 14 rfl rfl (by decide) hC (by kernel_rfl) (by kernel_rfl) (sv_off rfl rfl rfl) ?_
      refine al_p (by kernel_rfl) 15 rfl rfl (by decide) hC (by kernel_rfl) (by kernel_rfl) (sv_off rfl rfl rfl) ?_
      refine al_p (by kernel_rfl) 16 rfl rfl (by decide) hC (by kernel_rfl) (by kernel_rfl) (sv_off rfl rfl rfl) ?_
      refine al_p (v := .bool false) (by kernel_rfl) 17 rfl rfl (by decide) hC (by kernel_rfl) (by kernel_rfl) (sv_on rfl (fun w' hw' => by obtain ⟨_, hS⟩ := (hCd _).1 hw'; exact (pv_pick_f rfl rfl rfl))) ?_
      refine al_one 18 (by kernel_rfl) rfl ?_
      refine el_storev (hS.top 2 rfl) rfl [.int .i64 r115.1.1, v116] rfl rfl (of_decide_eq_true rfl) (all_cons rfl (all_cons (oc (hS.rdAt (R := (sliceR (sliceR intR 3) 24)) 1 rfl)) rfl)) ?_
      intro w145 hS
      replace hS : Sat w0 w145 [Box b111 46 [.int .i64 r115.1.1, v116], Box b121 46 [.int .i64 r115.1.1, v116], Own (sliceR (sliceR intR 3) 24) [v116] r115.1.2, Box b107 48 [.string a1, .int .i64 a2, u3, .int .i64 a4, u5]] := hS
      refine el_nil ?_
      replace hS : Sat w0 w145 [Box b121 46 [.int .i64 r115.1.1, v116], Own (sliceR (sliceR intR 3) 24) [v116] r115.1.2, Box b111 46 [.int .i64 r115.1.1, v116], Box b107 48 [.string a1, .int .i64 a2, u3, .int .i64 a4, u5]] := hS.tops 4 [1, 2] rfl
      have hC := (hCd _).2 ⟨_, hS⟩
      refine ⟨fun _ => hC, ?_⟩
      refine al_p (v := .bool false) (by kernel_rfl) 19 rfl rfl (by decide) hC (by kernel_rfl) (by kernel_rfl) (sv_on rfl (fun w' hw' => by obtain ⟨_, hS⟩ := (hCd _).1 hw'; exact (pv_assign rfl))) ?_
      refine al_nil (by kernel_rfl) ?_
      refine hQ142 _ _ _ ?_
      refine thn_n ?_
      refine cw_ret ?_
      refine finCT (cs := [.int .i64 r115.1.1, v116]) rfl rfl rfl (boxc0 (hS.boxAt 2 rfl)) rfl ?_
      replace hS : Sat w0 w145 [Own (sliceR (sliceR intR 3) 24) [v116] r115.1.2, Box b121 46 [.int .i64 r115.1.1, v116], Box b111 46 [.int .i64 r115.1.1, v116], Box b107 48 [.string a1, .int .i64 a2, u3, .int .i64 a4, u5]] := hS.tops 4 [1] rfl
      have hr := Option.some.inj hF
      exact ⟨v116, congrArg (fun (r : (Int × List (List Int)) × Bool) => Ending.returned (.tuple #[.agg #[.int .i64 r.1.1, v116], .bool r.2])) hr, Eq.mp (congrArg (fun (r : (Int × List (List Int)) × Bool) => Sat w0 w145 [Own (sliceR (sliceR intR 3) 24) [v116] r.1.2]) hr) (hS.keep 1)⟩
  · refine el_off rfl hb126 rfl (by decide) ?_
    refine el_off rfl hb126 rfl (by decide) ?_
    refine el_off rfl hb126 rfl (by decide) ?_
    refine el_pv (v := .bool false) (pv_pick_f rfl hb126 rfl) (by decide) ?_
    refine el_pv (v := .bool false) (pv_move rfl) (by decide) ?_
    refine el_off rfl rfl rfl (by decide) ?_
    refine el_off rfl rfl rfl (by decide) ?_
    refine el_off rfl rfl rfl (by decide) ?_
    refine el_pv (v := .bool false) (pv_pick_f rfl rfl rfl) (by decide) ?_
    refine el_pv (v := .bool false) (pv_assign rfl) (by decide) ?_
    refine el_nil ?_
    refine hQ125 _ _ _ ?_
    refine thn_n ?_
    refine cw_seq ?_
    refine cw_gen ?_
    intro Q146 hQ146
    obtain ⟨C, hCd⟩ : ∃ C : World → Prop, ∀ w, C w ↔ ∃ G, Sat w0 w ([Box b121 46 [.int .i64 r115.1.1, v116], Own (sliceR (sliceR intR 3) 24) [v116] r115.1.2] ++ G) := ⟨_, fun _ => Iff.rfl⟩
    refine cw_regb [0, 1, 2, 3, 4, 5, 6, 7, 8, 9, 10, 11, 12, 13, 14, 15, 16, 17, 18, 19] C (by kernel_rfl) ?_
    intro w147 hx148
    replace hS := hS.ext hx148
    have hC := (hCd _).2 ⟨_, hS⟩
    refine al_p (v := .agg #[.int .i64 r115.1.1, v116]) (by kernel_rfl) 0 rfl rfl (by decide) hC (by kernel_rfl) (by kernel_rfl) (sv_on rfl (fun w' hw' => by obtain ⟨_, hS⟩ := (hCd _).1 hw'; exact (pv_loada (cs := [.int .i64 r115.1.1, v116]) rfl rfl (boxc0 (hS.boxAt 0 rfl))))) ?_
    refine al_p (v := .bool false) (by kernel_rfl) 1 rfl rfl (by decide) hC (by kernel_rfl) (by kernel_rfl) (sv_on rfl (fun w' hw' => by obtain ⟨_, hS⟩ := (hCd _).1 hw'; exact (pv_move rfl))) ?_
    refine al_p (v := .bool false) (by kernel_rfl) 2 rfl rfl (by decide) hC (by kernel_rfl) (by kernel_rfl) (sv_on rfl (fun w' hw' => by obtain ⟨_, hS⟩ := (hCd _).1 hw'; exact (pv_move rfl))) ?_
    refine al_p (by kernel_rfl) 3 rfl rfl (by decide) hC (by kernel_rfl) (by kernel_rfl) (sv_off rfl rfl rfl) ?_
    refine al_p (by kernel_rfl) 4 rfl rfl (by decide) hC (by kernel_rfl) (by kernel_rfl) (sv_off rfl rfl rfl) ?_
    refine al_p (by kernel_rfl) 5 rfl rfl (by decide) hC (by kernel_rfl) (by kernel_rfl) (sv_off rfl rfl rfl) ?_
    refine al_p (by kernel_rfl) 6 rfl rfl (by decide) hC (by kernel_rfl) (by kernel_rfl) (sv_off rfl rfl rfl) ?_
    refine al_p (by kernel_rfl) 7 rfl rfl (by decide) hC (by kernel_rfl) (by kernel_rfl) (sv_off rfl rfl rfl) ?_
    refine al_p (by kernel_rfl) 8 rfl rfl (by decide) hC (by kernel_rfl) (by kernel_rfl) (sv_off rfl rfl rfl) ?_
    refine al_p (v := .bool false) (by kernel_rfl) 9 rfl rfl (by decide) hC (by kernel_rfl) (by kernel_rfl) (sv_on rfl (fun w' hw' => by obtain ⟨_, hS⟩ := (hCd _).1 hw'; exact (pv_pick_f rfl rfl rfl))) ?_
    refine al_p (v := .bool false) (by kernel_rfl) 10 rfl rfl (by decide) hC (by kernel_rfl) (by kernel_rfl) (sv_on rfl (fun w' hw' => by obtain ⟨_, hS⟩ := (hCd _).1 hw'; exact (pv_move rfl))) ?_
    refine al_p (by kernel_rfl) 11 rfl rfl (by decide) hC (by kernel_rfl) (by kernel_rfl) (sv_off rfl rfl rfl) ?_
    refine al_p (by kernel_rfl) 12 rfl rfl (by decide) hC (by kernel_rfl) (by kernel_rfl) (sv_off rfl rfl rfl) ?_
    refine al_p (by kernel_rfl) 13 rfl rfl (by decide) hC (by kernel_rfl) (by kernel_rfl) (sv_off rfl rfl rfl) ?_
    refine al_p (by kernel_rfl) 14 rfl rfl (by decide) hC (by kernel_rfl) (by kernel_rfl) (sv_off rfl rfl rfl) ?_
    refine al_p (by kernel_rfl) 15 rfl rfl (by decide) hC (by kernel_rfl) (by kernel_rfl) (sv_off rfl rfl rfl) ?_
    refine al_p (by kernel_rfl) 16 rfl rfl (by decide) hC (by kernel_rfl) (by kernel_rfl) (sv_off rfl rfl rfl) ?_
    refine al_p (v := .bool false) (by kernel_rfl) 17 rfl rfl (by decide) hC (by kernel_rfl) (by kernel_rfl) (sv_on rfl (fun w' hw' => by obtain ⟨_, hS⟩ := (hCd _).1 hw'; exact (pv_pick_f rfl rfl rfl))) ?_
    refine al_one 18 (by kernel_rfl) rfl ?_
    refine el_storev (hS.top 2 rfl) rfl [.int .i64 r115.1.1, v116] rfl rfl (of_decide_eq_true rfl) (all_cons rfl (all_cons (oc (hS.rdAt (R := (sliceR (sliceR intR 3) 24)) 1 rfl)) rfl)) ?_
    intro w149 hS
    replace hS : Sat w0 w149 [Box b111 46 [.int .i64 r115.1.1, v116], Box b121 46 [.int .i64 r115.1.1, v116], Own (sliceR (sliceR intR 3) 24) [v116] r115.1.2, Box b107 48 [.string a1, .int .i64 a2, u3, .int .i64 a4, u5]] := hS
    refine el_nil ?_
    replace hS : Sat w0 w149 [Box b121 46 [.int .i64 r115.1.1, v116], Own (sliceR (sliceR intR 3) 24) [v116] r115.1.2, Box b111 46 [.int .i64 r115.1.1, v116], Box b107 48 [.string a1, .int .i64 a2, u3, .int .i64 a4, u5]] := hS.tops 4 [1, 2] rfl
    have hC := (hCd _).2 ⟨_, hS⟩
    refine ⟨fun _ => hC, ?_⟩
    refine al_p (v := .bool false) (by kernel_rfl) 19 rfl rfl (by decide) hC (by kernel_rfl) (by kernel_rfl) (sv_on rfl (fun w' hw' => by obtain ⟨_, hS⟩ := (hCd _).1 hw'; exact (pv_assign rfl))) ?_
    refine al_nil (by kernel_rfl) ?_
    refine hQ146 _ _ _ ?_
    refine thn_n ?_
    refine cw_ret ?_
    refine finCT (cs := [.int .i64 r115.1.1, v116]) rfl rfl rfl (boxc0 (hS.boxAt 2 rfl)) rfl ?_
    replace hS : Sat w0 w149 [Own (sliceR (sliceR intR 3) 24) [v116] r115.1.2, Box b121 46 [.int .i64 r115.1.1, v116], Box b111 46 [.int .i64 r115.1.1, v116], Box b107 48 [.string a1, .int .i64 a2, u3, .int .i64 a4, u5]] := hS.tops 4 [1] rfl
    have hr := Option.some.inj hF
    exact ⟨v116, congrArg (fun (r : (Int × List (List Int)) × Bool) => Ending.returned (.tuple #[.agg #[.int .i64 r.1.1, v116], .bool r.2])) hr, Eq.mp (congrArg (fun (r : (Int × List (List Int)) × Bool) => Sat w0 w149 [Own (sliceR (sliceR intR 3) 24) [v116] r.1.2]) hr) (hS.keep 1)⟩
set_option maxHeartbeats 4000000 in
theorem impl_place_ok {w0 : World} {u0 : Value} {a0 : List (List Int)} {u1 : Value} {a1 : List Int} (ha0 : (sliceR (sliceR intR 3) 24).rd w0 [u0] a0) (ha1 : (sliceR intR 3).rd w0 [u1] a1) {N : Nat} {r : Int × Bool} (hF : impl_place N a0 a1 = some r) :
    Calls Try.prog 61 #[u0, u1] w0 fun e w' => e = .returned (.tuple #[.int .i64 r.1, .bool r.2]) ∧ Ext w0 w' := by
  unfold impl_place at hF
  refine calls_E Try.func61 rfl rfl (of_decide_eq_true rfl) ?_
  have hS := Sat.start w0
  refine cw_seq ?_
  refine cw_gen ?_
  intro Q101 hQ101
  refine cw_reg ?_
  refine el_pv (v := .int .i64 0) (pv_assign rfl) (by decide) ?_
  refine el_pv (v := .bool false) (pv_assign rfl) (by decide) ?_
  refine el_nil ?_
  refine hQ101 _ _ _ ?_
  refine thn_n ?_
  refine cw_seq ?_
  refine cw_gen ?_
  intro Q102 hQ102
  refine cw_reg ?_
  refine el_pv (v := u0) (pv_move rfl) (by decide) ?_
  refine el_pv (v := .int .i64 (a0.length : Int)) (pv_len rfl ha0) (by decide) ?_
  refine el_pv (v := .int .i64 0) (pv_assign rfl) (by decide) ?_
  refine el_pv (v := .int .i64 (a0.length : Int)) (pv_assign rfl) (by decide) ?_
  refine el_nil ?_
  refine hQ102 _ _ _ ?_
  refine thn_n ?_
  refine cw_seq ?_
  refine cw_gen ?_
  intro Q103 hQ103
  refine cw_block ?_
  refine cw_gen ?_
  intro Q104 hQ104
  obtain ⟨s105, hL, hK106⟩ := ob hF
  refine cw_loopS (fun k e w => ∃ (x107 : Int), ∃ (x108 : Int), e 0 = u0 ∧ e 1 = u1 ∧ e 6 = .int .i64 x107 ∧ e 7 = .int .i64 x108 ∧ Sat w0 w [] ∧ impl_place_L1 N k a0 a1 x107 x108 = some s105) N ?_ ?_ ?_
  · exact ⟨0, (a0.length : Int), rfl, rfl, rfl, rfl, hS, hL⟩
  · rintro e w ⟨_, _, _, _, _, _, _, hz⟩; exact nomatch (show none = some _ from hz)
  · rintro k e114 w113 ⟨x107, x108, he109, he110, he111, he112, hS, hF⟩
    refine cw_gen ?_
    intro Q115 hQ115
    refine cw_seq ?_
    refine cw_gen ?_
    intro Q116 hQ116
    refine cw_seq ?_
    refine cw_gen ?_
    intro Q117 hQ117
    refine cw_reg ?_
    refine el_pv (v := .int .i64 x107) (pv_move he111) (by decide) ?_
    refine el_pv (v := .int .i64 x108) (pv_move he112) (by decide) ?_
    refine el_pv (v := .bool (decide (x107 < x108))) (pv_lss rfl rfl) (by decide) ?_
    refine el_nil ?_
    refine hQ117 _ _ _ ?_
    refine thn_n ?_
    replace hF := oif hF
    rcases hF with ⟨hb118, hF⟩ | ⟨hb118, hF⟩
    · refine cw_cond_t rfl hb118 ?_
      refine cw_skip ?_
      refine hQ116 _ _ _ ?_
      refine thn_n ?_
      refine cw_block ?_
      refine cw_gen ?_
      intro Q119 hQ119
      refine cw_seq ?_
      refine cw_gen ?_
      intro Q120 hQ120
      refine cw_reg ?_
      refine el_pv (v := .int .i64 x107) (pv_move he111) (by decide) ?_
      refine el_pv (v := .int .i64 x108) (pv_move he112) (by decide) ?_
      replace hF := ob hF
      obtain ⟨x121, hx121, hF⟩ := hF
      refine el_pv (v := .int .i64 x121) (pv_add rfl rfl hx121) (by decide) ?_
      replace hF := ob hF
      obtain ⟨x122, hx122, hF⟩ := hF
      refine el_pv (v := .int .i64 x122) (pv_quo rfl rfl hx122) (by decide) ?_
      refine el_pv (v := .int .i64 x122) (pv_assign rfl) (by decide) ?_
      refine el_nil ?_
      refine hQ120 _ _ _ ?_
      refine thn_n ?_
      refine cw_seq ?_
      refine cw_gen ?_
      intro Q123 hQ123
      refine cw_reg ?_
      refine el_pv (v := u0) (pv_move he109) (by decide) ?_
      refine el_pv (v := .int .i64 x122) (pv_move rfl) (by decide) ?_
      replace hF := ob hF
      obtain ⟨x124, hx124, hF⟩ := hF
      refine el_index (wA := w0) rfl ha0 rfl (by decide) rfl hx124 (by decide) ?_
      intro b125 of126 c127 hr128 hm129
      obtain ⟨v130, rfl⟩ := slice_one hr128
      refine el_pv (v := v130) (pv_loadc rfl ((cells_up hS.below hm129) 0 _ rfl)) (by decide) ?_
      refine el_pv (v := u1) (pv_move he110) (by decide) ?_
      replace hF := ob hF
      obtain ⟨r131, hr131, hF⟩ := hF
      refine el_call goes73 (impl_CompareRows_ok (hS.up hr128) (hS.up ha1) hr131) (congrArg List.toArray (mapc rfl (mapc rfl rfl))) (by decide) ?_
      rintro _ w132 ⟨rfl, hx133⟩
      refine ⟨_, rfl, ?_⟩
      replace hS := hS.ext hx133
      refine el_pv (v := .bool (decide (r131 < 0))) (pv_lss rfl rfl) (by decide) ?_
      refine el_nil ?_
      refine hQ123 _ _ _ ?_
      refine thn_n ?_
      replace hF := oif hF
      rcases hF with ⟨hb134, hF⟩ | ⟨hb134, hF⟩
      · refine cw_cond_t rfl hb134 ?_
        refine cw_reg ?_
        refine el_pv (v := .int .i64 x122) (pv_move rfl) (by decide) ?_
        replace hF := ob hF
        obtain ⟨x135, hx135, hF⟩ := hF
        refine el_pv (v := .int .i64 x135) (pv_add rfl rfl hx135) (by decide) ?_
        refine el_pv (v := .int .i64 x135) (pv_assign rfl) (by decide) ?_
        refine el_nil ?_
        refine hQ119 _ _ _ ?_
        refine inb_n ?_
        refine hQ115 _ _ _ ?_
        refine thn_n ?_
        replace hS := hS.keep 0
        exact ⟨x135, x108, he109, he110, rfl, he112, hS, hF⟩
      · refine cw_cond_f rfl hb134 ?_
        refine cw_reg ?_
        refine el_pv (v := .int .i64 x122) (pv_move rfl) (by decide) ?_
        refine el_pv (v := .int .i64 x122) (pv_assign rfl) (by decide) ?_
        refine el_nil ?_
        refine hQ119 _ _ _ ?_
        refine inb_n ?_
        refine hQ115 _ _ _ ?_
        refine thn_n ?_
        replace hS := hS.keep 0
        exact ⟨x107, x122, he109, he110, he111, rfl, hS, hF⟩
    · refine cw_cond_f rfl hb118 ?_
      refine cw_exit ?_
      refine hQ116 _ _ _ ?_
      refine thn_x ?_
      refine hQ115 _ _ _ ?_
      refine thn_x ?_
      replace hF := exB hF hK106
      refine hQ104 _ _ _ ?_
      refine inb_s ?_
      refine hQ103 _ _ _ ?_
      refine thn_n ?_
      refine cw_seq ?_
      refine cw_gen ?_
      intro Q136 hQ136
      refine cw_reg ?_
      refine el_pv (v := .int .i64 x107) (pv_move he111) (by decide) ?_
      refine el_pv (v := .int .i64 x107) (pv_move he111) (by decide) ?_
      refine el_pv (v := u0) (pv_move he109) (by decide) ?_
      refine el_pv (v := .int .i64 (a0.length : Int)) (pv_len rfl ha0) (by decide) ?_
      refine el_pv (v := .bool (decide (x107 < (a0.length : Int)))) (pv_lss rfl rfl) (by decide) ?_
      refine el_pv (v := .bool (decide (x107 < (a0.length : Int)))) (pv_move rfl) (by decide) ?_
      replace hF := oif hF
      rcases hF with ⟨hb137, hF⟩ | ⟨hb137, hF⟩
      · refine el_on rfl hb137 ?_
        refine el_pv (v := u0) (pv_move he109) (by decide) ?_
        refine el_on rfl hb137 ?_
        refine el_pv (v := .int .i64 x107) (pv_move he111) (by decide) ?_
        refine el_on rfl hb137 ?_
        replace hF := ob hF
        obtain ⟨x138, hx138, hF⟩ := hF
        refine el_index (wA := w0) rfl ha0 rfl (by decide) rfl hx138 (by decide) ?_
        intro b139 of140 c141 hr142 hm143
        obtain ⟨v144, rfl⟩ := slice_one hr142
        refine el_on rfl hb137 ?_
        refine el_pv (v := v144) (pv_loadc rfl ((cells_up hS.below hm143) 0 _ rfl)) (by decide) ?_
        refine el_on rfl hb137 ?_
        refine el_pv (v := u1) (pv_move he110) (by decide) ?_
        refine el_on rfl hb137 ?_
        replace hF := ob hF
        obtain ⟨r145, hr145, hF⟩ := hF
        refine el_call goes73 (impl_CompareRows_ok (hS.up hr142) (hS.up ha1) hr145) (congrArg List.toArray (mapc rfl (mapc rfl rfl))) (by decide) ?_
        rintro _ w146 ⟨rfl, hx147⟩
        refine ⟨_, rfl, ?_⟩
        replace hS := hS.ext hx147
        refine el_on rfl hb137 ?_
        refine el_pv (v := .bool (r145 == 0)) (pv_eql rfl rfl) (by decide) ?_
        refine el_pv (v := .bool (r145 == 0)) (pv_pick_t rfl hb137 rfl) (by decide) ?_
        refine el_pv (v := .int .i64 x107) (pv_assign rfl) (by decide) ?_
        refine el_pv (v := .bool (r145 == 0)) (pv_assign rfl) (by decide) ?_
        refine el_nil ?_
        refine hQ136 _ _ _ ?_
        refine thn_n ?_
        refine cw_ret ?_
        refine fin2 rfl rfl rfl ?_
        have hr := Option.some.inj hF
        exact ⟨congrArg (fun (r : Int × Bool) => Ending.returned (.tuple #[.int .i64 r.1, .bool r.2])) hr, hS.below⟩
      · refine el_off rfl hb137 rfl (by decide) ?_
        refine el_off rfl hb137 rfl (by decide) ?_
        refine el_off rfl hb137 rfl (by decide) ?_
        refine el_off rfl hb137 rfl (by decide) ?_
        refine el_off rfl hb137 rfl (by decide) ?_
        refine el_off rfl hb137 rfl (by decide) ?_
        refine el_off rfl hb137 rfl (by decide) ?_
        refine el_pv (v := .bool false) (pv_pick_f rfl hb137 rfl) (by decide) ?_
        refine el_pv (v := .int .i64 x107) (pv_assign rfl) (by decide) ?_
        refine el_pv (v := .bool false) (pv_assign rfl) (by decide) ?_
        refine el_nil ?_
        refine hQ136 _ _ _ ?_
        refine thn_n ?_
        refine cw_ret ?_
        refine fin2 rfl rfl rfl ?_
        have hr := Option.some.inj hF
        exact ⟨congrArg (fun (r : Int × Bool) => Ending.returned (.tuple #[.int .i64 r.1, .bool r.2])) hr, hS.below⟩
set_option maxHeartbeats 4000000 in
theorem impl_ContainsRow_ok {w0 : World} {a0 : Int} {u1 : Value} {a1 : List (List Int)} {u2 : Value} {a2 : List Int} (ha1 : (sliceR (sliceR intR 3) 24).rd w0 [u1] a1) (ha2 : (sliceR intR 3).rd w0 [u2] a2) {N : Nat} {r : Bool} (hF : impl_ContainsRow N a0 a1 a2 = some r) :
    Calls Try.prog 42 #[.agg #[.int .i64 a0, u1], u2] w0 fun e w' => e = .returned (.bool r) ∧ Ext w0 w' := by
  unfold impl_ContainsRow at hF
  refine calls_E Try.func42 rfl rfl (of_decide_eq_true rfl) ?_
  have hS := Sat.start w0
  refine cw_seq ?_
  refine cw_gen ?_
  intro Q101 hQ101
  refine cw_reg ?_
  refine el_box [.int .i64 a0, u1] rfl hS (by decide) ?_
  intro w102 b103 hS hx104
  refine el_pv (v := .bool false) (pv_assign rfl) (by decide) ?_
  refine el_nil ?_
  refine hQ101 _ _ _ ?_
  refine thn_n ?_
  refine cw_seq ?_
  refine cw_gen ?_
  intro Q106 hQ106
  refine cw_reg ?_
  refine el_pv (v := .pointer (some ⟨b103, 0 + 1, none⟩)) (pv_fieldAddr rfl) (by decide) ?_
  refine el_pv (v := u1) (pv_loadc rfl ((hS.boxAt 0 rfl) 1 _ rfl)) (by decide) ?_
  refine el_pv (v := u2) (pv_move rfl) (by decide) ?_
  replace hF := ob hF
  obtain ⟨r107, hr107, hF⟩ := hF
  refine el_call goes61 (impl_place_ok (hS.up ha1) (hS.up ha2) hr107) (congrArg List.toArray (mapc rfl (mapc rfl rfl))) (by decide) ?_
  rintro _ w108 ⟨rfl, hx109⟩
  refine ⟨_, rfl, ?_⟩
  replace hS := hS.ext hx109
  refine el_pv (v := .tuple #[.int .i64 r107.1, .bool r107.2]) (pv_move rfl) (by decide) ?_
  refine el_pv (v := .int .i64 r107.1) (pv_extract rfl rfl) (by decide) ?_
  refine el_pv (v := .bool r107.2) (pv_extract rfl rfl) (by decide) ?_
  refine el_pv (v := .int .i64 r107.1) (pv_assign rfl) (by decide) ?_
  refine el_pv (v := .bool r107.2) (pv_assign rfl) (by decide) ?_
  refine el_nil ?_
  refine hQ106 _ _ _ ?_
  refine thn_n ?_
  refine cw_seq ?_
  refine cw_gen ?_
  intro Q110 hQ110
  refine cw_reg ?_
  refine el_pv (v := .agg #[.int .i64 a0, u1]) (pv_loada (cs := [.int .i64 a0, u1]) rfl rfl (boxc0 (hS.boxAt 0 rfl))) (by decide) ?_
  replace hF := ob hF
  obtain ⟨r111, hr111, hF⟩ := hF
  refine el_call goes60 (impl_IsValidRelation_ok (hS.up ha1) hr111) (congrArg List.toArray (mapc rfl rfl)) (by decide) ?_
  rintro _ w112 ⟨rfl, hx113⟩
  refine ⟨_, rfl, ?_⟩
  replace hS := hS.ext hx113
  refine el_pv (v := .bool r111) (pv_move rfl) (by decide) ?_
  replace hF := oif hF
  rcases hF with ⟨hb114, hF⟩ | ⟨hb114, hF⟩
  · refine el_on rfl hb114 ?_
    refine el_pv (v := .bool r107.2) (pv_move rfl) (by decide) ?_
    refine el_pv (v := .bool r107.2) (pv_pick_t rfl hb114 rfl) (by decide) ?_
    refine el_pv (v := .bool r107.2) (pv_assign rfl) (by decide) ?_
    refine el_nil ?_
    refine hQ110 _ _ _ ?_
    refine thn_n ?_
    refine cw_ret ?_
    refine fin1 rfl rfl ?_
    have hr := Option.some.inj hF
    exact ⟨congrArg (fun (r : Bool) => Ending.returned (.bool r)) hr, hS.below⟩
  · refine el_off rfl hb114 rfl (by decide) ?_
    refine el_pv (v := .bool false) (pv_pick_f rfl hb114 rfl) (by decide) ?_
    refine el_pv (v := .bool false) (pv_assign rfl) (by decide) ?_
    refine el_nil ?_
    refine hQ110 _ _ _ ?_
    refine thn_n ?_
    refine cw_ret ?_
    refine fin1 rfl rfl ?_
    have hr := Option.some.inj hF
    exact ⟨congrArg (fun (r : Bool) => Ending.returned (.bool r)) hr, hS.below⟩
set_option maxHeartbeats 4000000 in
theorem impl_IsValidDelta_ok {w0 : World} {u0 : Value} {a0 : List (ByteArray × (Int × List (List Int)))} {a1 : ByteArray} {a2 : Int} {u3 : Value} {a3 : List (List Int)} {a4 : Int} {u5 : Value} {a5 : List (List Int)} (ha0 : (sliceR (pairR strR (pairR intR (sliceR (sliceR intR 3) 24))) 80).rd w0 [u0] a0) (ha1 : a1.size ≤ 9223372036854775807) (ha3 : (sliceR (sliceR intR 3) 24).rd w0 [u3] a3) (ha5 : (sliceR (sliceR intR 3) 24).rd w0 [u5] a5) {N : Nat} {r : Bool} (hF : impl_IsValidDelta N a0 a1 a2 a3 a4 a5 = some r) :
    Calls Try.prog 20 #[.agg #[u0], .agg #[.string a1, .int .i64 a2, u3, .int .i64 a4, u5]] w0 fun e w' => e = .returned (.bool r) ∧ Ext w0 w' := by
  unfold impl_IsValidDelta at hF
  refine calls_E Try.func20 rfl rfl (of_decide_eq_true rfl) ?_
  have hS := Sat.start w0
  refine cw_seq ?_
  refine cw_gen ?_
  intro Q101 hQ101
  refine cw_reg ?_
  refine el_box [u0] rfl hS (by decide) ?_
  intro w102 b103 hS hx104
  refine el_box [.string a1, .int .i64 a2, u3, .int .i64 a4, u5] rfl hS (by decide) ?_
  intro w106 b107 hS hx108
  refine el_pv (v := .bool false) (pv_assign rfl) (by decide) ?_
  refine el_nil ?_
  refine hQ101 _ _ _ ?_
  refine thn_n ?_
  refine cw_seq ?_
  refine cw_gen ?_
  intro Q110 hQ110
  refine cw_reg ?_
  refine el_pv (v := .agg #[u0]) (pv_loada (cs := [u0]) rfl rfl (boxc0 (hS.boxAt 1 rfl))) (by decide) ?_
  refine el_pv (v := .agg #[.string a1, .int .i64 a2, u3, .int .i64 a4, u5]) (pv_loada (cs := [.string a1, .int .i64 a2, u3, .int .i64 a4, u5]) rfl rfl (boxc0 (hS.boxAt 0 rfl))) (by decide) ?_
  replace hF := ob hF
  obtain ⟨r111, hr111, hF⟩ := hF
  refine el_call goes41 (impl_applicable_ok (hS.up ha0) ha1 (hS.up ha3) (hS.up ha5) hr111) (congrArg List.toArray (mapc rfl (mapc rfl rfl))) (by decide) ?_
  rintro _ w114 ⟨v112, rfl, hS'⟩
  refine ⟨_, rfl, ?_⟩
  have hx115 := hS'.below
  replace hS := hS.call1 hS'
  refine el_pv (v := .tuple #[.agg #[.int .i64 r111.1.1, v112], .bool r111.2]) (pv_move rfl) (by decide) ?_
  refine el_pv (v := .agg #[.int .i64 r111.1.1, v112]) (pv_extract rfl rfl) (by decide) ?_
  refine el_pv (v := .bool r111.2) (pv_extract rfl rfl) (by decide) ?_
  refine el_alloc hS (by decide) ?_
  intro w116 b117 hS hx118
  refine el_storev (hS.top 0 rfl) rfl [.int .i64 r111.1.1, v112] rfl rfl (of_decide_eq_true rfl) (all_cons rfl (all_cons (oc (hS.rdAt (R := (sliceR (sliceR intR 3) 24)) 1 rfl)) rfl)) ?_
  intro w120 hS
  replace hS : Sat w0 w120 [Box b117 46 [.int .i64 r111.1.1, v112], Own (sliceR (sliceR intR 3) 24) [v112] r111.1.2, Box b107 48 [.string a1, .int .i64 a2, u3, .int .i64 a4, u5], Box b103 44 [u0]] := hS
  refine el_pv (v := .bool r111.2) (pv_assign rfl) (by decide) ?_
  refine el_nil ?_
  refine hQ110 _ _ _ ?_
  refine thn_n ?_
  refine cw_seq ?_
  refine cw_gen ?_
  intro Q121 hQ121
  refine cw_seq ?_
  refine cw_gen ?_
  intro Q122 hQ122
  replace hS : Sat w0 w120 [Box b117 46 [.int .i64 r111.1.1, v112], Own (sliceR (sliceR intR 3) 24) [v112] r111.1.2, Box b107 48 [.string a1, .int .i64 a2, u3, .int .i64 a4, u5]] := hS.rems 4 [3] rfl
  refine cw_reg ?_
  refine el_pv (v := .bool r111.2) (pv_move rfl) (by decide) ?_
  refine el_pv (v := .bool (!r111.2)) (pv_not rfl) (by decide) ?_
  refine el_nil ?_
  refine hQ122 _ _ _ ?_
  refine thn_n ?_
  replace hF := oif hF
  rcases hF with ⟨hb123, hF⟩ | ⟨hb123, hF⟩
  · refine cw_cond_f rfl (bnot_t hb123) ?_
    refine cw_skip ?_
    refine hQ121 _ _ _ ?_
    refine thn_n ?_
    refine cw_seq ?_
    refine cw_gen ?_
    intro Q124 hQ124
    refine cw_seq ?_
    refine cw_gen ?_
    intro Q125 hQ125
    refine cw_reg ?_
    refine el_pv (v := .pointer (some ⟨b107, 0 + 1, none⟩)) (pv_fieldAddr rfl) (by decide) ?_
    refine el_pv (v := .pointer (some ⟨b107, 0 + 1 + 1, none⟩)) (pv_fieldAddr rfl) (by decide) ?_
    refine el_pv (v := u3) (pv_loadc rfl ((hS.boxAt 2 rfl) 2 _ rfl)) (by decide) ?_
    refine el_pv (v := .int .i64 (a3.length : Int)) (pv_len rfl ha3) (by decide) ?_
    refine el_pv (v := .int .i64 0) (pv_move rfl) (by decide) ?_
    refine el_nil ?_
    refine hQ125 _ _ _ ?_
    refine thn_n ?_
    refine cw_block ?_
    refine cw_gen ?_
    intro Q126 hQ126
    obtain ⟨s127, hL, hK128⟩ := ob hF
    refine cw_loopS (fun k e w => ∃ (x129 : Int), e 3 = .pointer (some ⟨b107, 0, none⟩) ∧ e 5 = .pointer (some ⟨b117, 0, none⟩) ∧ e 21 = u3 ∧ e 22 = .int .i64 (a3.length : Int) ∧ e 23 = .int .i64 x129 ∧ Sat w0 w [Box b117 46 [.int .i64 r111.1.1, v112], Own (sliceR (sliceR intR 3) 24) [v112] r111.1.2, Box b107 48 [.string a1, .int .i64 a2, u3, .int .i64 a4, u5]] ∧ impl_IsValidDelta_L1 N k a1 a2 a3 a4 a5 r111.1.1 r111.1.2 a3 (a3.length : Int) x129 = some s127) N ?_ ?_ ?_
    · exact ⟨0, rfl, rfl, rfl, rfl, rfl, hS, hL⟩
    · rintro e w ⟨_, _, _, _, _, _, _, hz⟩; exact nomatch (show none = some _ from hz)
    · rintro k e136 w135 ⟨x129, he130, he131, he132, he133, he134, hS, hF⟩
      refine cw_gen ?_
      intro Q137 hQ137
      refine cw_seq ?_
      refine cw_gen ?_
      intro Q138 hQ138
      refine cw_reg ?_
      refine el_pv (v := .bool (decide (x129 < (a3.length : Int)))) (pv_lss he134 he133) (by decide) ?_
      refine el_nil ?_
      refine hQ138 _ _ _ ?_
      refine thn_n ?_
      refine cw_seq ?_
      refine cw_gen ?_
      intro Q139 hQ139
      replace hF := oif hF
      rcases hF with ⟨hb140, hF⟩ | ⟨hb140, hF⟩
      · refine cw_cond_t rfl hb140 ?_
        refine cw_skip ?_
        refine hQ139 _ _ _ ?_
        refine thn_n ?_
        refine cw_seq ?_
        refine cw_gen ?_
        intro Q141 hQ141
        refine cw_block ?_
        refine cw_gen ?_
        intro Q142 hQ142
        refine cw_seq ?_
        refine cw_gen ?_
        intro Q143 hQ143
        refine cw_reg ?_
        replace hF := ob hF
        obtain ⟨x144, hx144, hF⟩ := hF
        refine el_index (wA := w0) he132 ha3 rfl (by decide) he134 hx144 (by decide) ?_
        intro b145 of146 c147 hr148 hm149
        obtain ⟨v150, rfl⟩ := slice_one hr148
        refine el_pv (v := v150) (pv_loadc rfl ((cells_up hS.below hm149) 0 _ rfl)) (by decide) ?_
        refine el_pv (v := v150) (pv_assign rfl) (by decide) ?_
        refine el_nil ?_
        refine hQ143 _ _ _ ?_
        refine thn_n ?_
        refine cw_seq ?_
        refine cw_gen ?_
        intro Q151 hQ151
        refine cw_reg ?_
        refine el_pv (v := .agg #[.int .i64 r111.1.1, v112]) (pv_loada (cs := [.int .i64 r111.1.1, v112]) he131 rfl (boxc0 (hS.boxAt 0 rfl))) (by decide) ?_
        refine el_pv (v := v150) (pv_move rfl) (by decide) ?_
        replace hF := ob hF
        obtain ⟨r152, hr152, hF⟩ := hF
        refine el_call goes42 (impl_ContainsRow_ok (hS.rdAt (R := (sliceR (sliceR intR 3) 24)) 1 rfl) (hS.up hr148) hr152) (congrArg List.toArray (mapc rfl (mapc rfl rfl))) (by decide) ?_
        rintro _ w153 ⟨rfl, hx154⟩
        refine ⟨_, rfl, ?_⟩
        replace hS := hS.ext hx154
        refine el_nil ?_
        refine hQ151 _ _ _ ?_
        refine thn_n ?_
        replace hF := oif hF
        rcases hF with ⟨hb155, hF⟩ | ⟨hb155, hF⟩
        · refine cw_cond_t rfl hb155 ?_
          refine cw_seq ?_
          refine cw_gen ?_
          intro Q156 hQ156
          replace hS : Sat w0 w153 [] := hS.rems 3 [0, 1, 2] rfl
          refine cw_reg ?_
          refine el_pv (v := .bool false) (pv_assign rfl) (by decide) ?_
          refine el_nil ?_
          refine hQ156 _ _ _ ?_
          refine thn_n ?_
          refine cw_ret ?_
          refine hQ142 _ _ _ ?_
          refine inb_r ?_
          refine hQ141 _ _ _ ?_
          refine thn_r ?_
          refine hQ137 _ _ _ ?_
          refine thn_r ?_
          refine hQ126 _ _ _ ?_
          refine inb_r ?_
          refine hQ124 _ _ _ ?_
          refine thn_r ?_
          replace hF := exL hF hK128
          refine fin1 rfl rfl ?_
          have hr := Option.some.inj hF
          exact ⟨congrArg (fun (r : Bool) => Ending.returned (.bool r)) hr, hS.below⟩
        · refine cw_cond_f rfl hb155 ?_
          refine cw_skip ?_
          refine hQ142 _ _ _ ?_
          refine inb_n ?_
          refine hQ141 _ _ _ ?_
          refine thn_n ?_
          refine cw_reg ?_
          replace hF := ob hF
          obtain ⟨x157, hx157, hF⟩ := hF
          refine el_pv (v := .int .i64 x157) (pv_add he134 rfl hx157) (by decide) ?_
          refine el_pv (v := .int .i64 x157) (pv_move rfl) (by decide) ?_
          refine el_nil ?_
          refine hQ137 _ _ _ ?_
          refine thn_n ?_
          replace hS := hS.keep 3
          exact ⟨x157, he130, he131, he132, he133, rfl, hS, hF⟩
      · refine cw_cond_f rfl hb140 ?_
        refine cw_exit ?_
        refine hQ139 _ _ _ ?_
        refine thn_x ?_
        refine hQ137 _ _ _ ?_
        refine thn_x ?_
        replace hF := exA hF hK128
        refine hQ126 _ _ _ ?_
        refine inb_s ?_
        refine hQ124 _ _ _ ?_
        refine thn_n ?_
        refine cw_seq ?_
        refine cw_gen ?_
        intro Q158 hQ158
        refine cw_seq ?_
        refine cw_gen ?_
        intro Q159 hQ159
        refine cw_reg ?_
        refine el_pv (v := .pointer (some ⟨b107, 0 + 3, none⟩)) (pv_fieldAddr he130) (by decide) ?_
        refine el_pv (v := .pointer (some ⟨b107, 0 + 3 + 1, none⟩)) (pv_fieldAddr rfl) (by decide) ?_
        refine el_pv (v := u5) (pv_loadc rfl ((hS.boxAt 2 rfl) 4 _ rfl)) (by decide) ?_
        refine el_pv (v := .int .i64 (a5.length : Int)) (pv_len rfl ha5) (by decide) ?_
        refine el_pv (v := .int .i64 0) (pv_move rfl) (by decide) ?_
        refine el_nil ?_
        refine hQ159 _ _ _ ?_
        refine thn_n ?_
        refine cw_block ?_
        refine cw_gen ?_
        intro Q160 hQ160
        obtain ⟨s161, hL, hK162⟩ := ob hF
        replace hS : Sat w0 w135 [Box b117 46 [.int .i64 r111.1.1, v112], Own (sliceR (sliceR intR 3) 24) [v112] r111.1.2] := hS.rems 3 [2] rfl
        refine cw_loopS (fun k e w => ∃ (x163 : Int), e 5 = .pointer (some ⟨b117, 0, none⟩) ∧ e 33 = u5 ∧ e 34 = .int .i64 (a5.length : Int) ∧ e 35 = .int .i64 x163 ∧ Sat w0 w [Box b117 46 [.int .i64 r111.1.1, v112], Own (sliceR (sliceR intR 3) 24) [v112] r111.1.2] ∧ impl_IsValidDelta_L2 N k r111.1.1 r111.1.2 a5 (a5.length : Int) x163 = some s161) N ?_ ?_ ?_
        · exact ⟨0, he131, rfl, rfl, rfl, hS, hL⟩
        · rintro e w ⟨_, _, _, _, _, _, hz⟩; exact nomatch (show none = some _ from hz)
        · rintro k e169 w168 ⟨x163, he164, he165, he166, he167, hS, hF⟩
          refine cw_gen ?_
          intro Q170 hQ170
          refine cw_seq ?_
          refine cw_gen ?_
          intro Q171 hQ171
          refine cw_reg ?_
          refine el_pv (v := .bool (decide (x163 < (a5.length : Int)))) (pv_lss he167 he166) (by decide) ?_
          refine el_nil ?_
          refine hQ171 _ _ _ ?_
          refine thn_n ?_
          refine cw_seq ?_
          refine cw_gen ?_
          intro Q172 hQ172
          replace hF := oif hF
          rcases hF with ⟨hb173, hF⟩ | ⟨hb173, hF⟩
          · refine cw_cond_t rfl hb173 ?_
            refine cw_skip ?_
            refine hQ172 _ _ _ ?_
            refine thn_n ?_
            refine cw_seq ?_
            refine cw_gen ?_
            intro Q174 hQ174
            refine cw_block ?_
            refine cw_gen ?_
            intro Q175 hQ175
            refine cw_seq ?_
            refine cw_gen ?_
            intro Q176 hQ176
            refine cw_reg ?_
            replace hF := ob hF
            obtain ⟨x177, hx177, hF⟩ := hF
            refine el_index (wA := w0) he165 ha5 rfl (by decide) he167 hx177 (by decide) ?_
            intro b178 of179 c180 hr181 hm182
            obtain ⟨v183, rfl⟩ := slice_one hr181
            refine el_pv (v := v183) (pv_loadc rfl ((cells_up hS.below hm182) 0 _ rfl)) (by decide) ?_
            refine el_pv (v := v183) (pv_assign rfl) (by decide) ?_
            refine el_nil ?_
            refine hQ176 _ _ _ ?_
            refine thn_n ?_
            refine cw_seq ?_
            refine cw_gen ?_
            intro Q184 hQ184
            refine cw_reg ?_
            refine el_pv (v := .agg #[.int .i64 r111.1.1, v112]) (pv_loada (cs := [.int .i64 r111.1.1, v112]) he164 rfl (boxc0 (hS.boxAt 0 rfl))) (by decide) ?_
            refine el_pv (v := v183) (pv_move rfl) (by decide) ?_
            replace hF := ob hF
            obtain ⟨r185, hr185, hF⟩ := hF
            refine el_call goes42 (impl_ContainsRow_ok (hS.rdAt (R := (sliceR (sliceR intR 3) 24)) 1 rfl) (hS.up hr181) hr185) (congrArg List.toArray (mapc rfl (mapc rfl rfl))) (by decide) ?_
            rintro _ w186 ⟨rfl, hx187⟩
            refine ⟨_, rfl, ?_⟩
            replace hS := hS.ext hx187
            refine el_pv (v := .bool (!r185)) (pv_not rfl) (by decide) ?_
            refine el_nil ?_
            refine hQ184 _ _ _ ?_
            refine thn_n ?_
            replace hF := oif hF
            rcases hF with ⟨hb188, hF⟩ | ⟨hb188, hF⟩
            · refine cw_cond_f rfl (bnot_t hb188) ?_
              refine cw_skip ?_
              refine hQ175 _ _ _ ?_
              refine inb_n ?_
              refine hQ174 _ _ _ ?_
              refine thn_n ?_
              refine cw_reg ?_
              replace hF := ob hF
              obtain ⟨x189, hx189, hF⟩ := hF
              refine el_pv (v := .int .i64 x189) (pv_add he167 rfl hx189) (by decide) ?_
              refine el_pv (v := .int .i64 x189) (pv_move rfl) (by decide) ?_
              refine el_nil ?_
              refine hQ170 _ _ _ ?_
              refine thn_n ?_
              replace hS := hS.keep 2
              exact ⟨x189, he164, he165, he166, rfl, hS, hF⟩
            · refine cw_cond_t rfl (bnot_f hb188) ?_
              refine cw_seq ?_
              refine cw_gen ?_
              intro Q190 hQ190
              replace hS : Sat w0 w186 [] := hS.rems 2 [0, 1] rfl
              refine cw_reg ?_
              refine el_pv (v := .bool false) (pv_assign rfl) (by decide) ?_
              refine el_nil ?_
              refine hQ190 _ _ _ ?_
              refine thn_n ?_
              refine cw_ret ?_
              refine hQ175 _ _ _ ?_
              refine inb_r ?_
              refine hQ174 _ _ _ ?_
              refine thn_r ?_
              refine hQ170 _ _ _ ?_
              refine thn_r ?_
              refine hQ160 _ _ _ ?_
              refine inb_r ?_
              refine hQ158 _ _ _ ?_
              refine thn_r ?_
              replace hF := exL hF hK162
              refine fin1 rfl rfl ?_
              have hr := Option.some.inj hF
              exact ⟨congrArg (fun (r : Bool) => Ending.returned (.bool r)) hr, hS.below⟩
          · refine cw_cond_f rfl hb173 ?_
            refine cw_exit ?_
            refine hQ172 _ _ _ ?_
            refine thn_x ?_
            refine hQ170 _ _ _ ?_
            refine thn_x ?_
            replace hF := exA hF hK162
            refine hQ160 _ _ _ ?_
            refine inb_s ?_
            refine hQ158 _ _ _ ?_
            refine thn_n ?_
            refine cw_seq ?_
            refine cw_gen ?_
            intro Q191 hQ191
            replace hS : Sat w0 w168 [] := hS.rems 2 [0, 1] rfl
            refine cw_reg ?_
            refine el_pv (v := .bool true) (pv_assign rfl) (by decide) ?_
            refine el_nil ?_
            refine hQ191 _ _ _ ?_
            refine thn_n ?_
            refine cw_ret ?_
            refine fin1 rfl rfl ?_
            have hr := Option.some.inj hF
            exact ⟨congrArg (fun (r : Bool) => Ending.returned (.bool r)) hr, hS.below⟩
  · refine cw_cond_t rfl (bnot_f hb123) ?_
    refine cw_seq ?_
    refine cw_gen ?_
    intro Q192 hQ192
    replace hS : Sat w0 w120 [] := hS.rems 3 [0, 1, 2] rfl
    refine cw_reg ?_
    refine el_pv (v := .bool false) (pv_assign rfl) (by decide) ?_
    refine el_nil ?_
    refine hQ192 _ _ _ ?_
    refine thn_n ?_
    refine cw_ret ?_
    refine hQ121 _ _ _ ?_
    refine thn_r ?_
    refine fin1 rfl rfl ?_
    have hr := Option.some.inj hF
    exact ⟨congrArg (fun (r : Bool) => Ending.returned (.bool r)) hr, hS.below⟩
set_option maxHeartbeats 4000000 in
theorem laws_eqRelation_ok {w0 : World} {a0 : Int} {u1 : Value} {a1 : List (List Int)} {a2 : Int} {u3 : Value} {a3 : List (List Int)} (ha1 : (sliceR (sliceR intR 3) 24).rd w0 [u1] a1) (ha3 : (sliceR (sliceR intR 3) 24).rd w0 [u3] a3) {N : Nat} {r : Bool} (hF : laws_eqRelation N a0 a1 a2 a3 = some r) :
    Calls Try.prog 44 #[.agg #[.int .i64 a0, u1], .agg #[.int .i64 a2, u3]] w0 fun e w' => e = .returned (.bool r) ∧ Ext w0 w' := by
  unfold laws_eqRelation at hF
  refine calls_E Try.func44 rfl rfl (of_decide_eq_true rfl) ?_
  have hS := Sat.start w0
  refine cw_seq ?_
  refine cw_gen ?_
  intro Q101 hQ101
  refine cw_reg ?_
  refine el_box [.int .i64 a0, u1] rfl hS (by decide) ?_
  intro w102 b103 hS hx104
  refine el_box [.int .i64 a2, u3] rfl hS (by decide) ?_
  intro w106 b107 hS hx108
  refine el_pv (v := .bool false) (pv_assign rfl) (by decide) ?_
  refine el_nil ?_
  refine hQ101 _ _ _ ?_
  refine thn_n ?_
  refine cw_seq ?_
  refine cw_gen ?_
  intro Q110 hQ110
  refine cw_seq ?_
  refine cw_gen ?_
  intro Q111 hQ111
  refine cw_reg ?_
  refine el_pv (v := .pointer (some ⟨b103, 0 + 0, none⟩)) (pv_fieldAddr rfl) (by decide) ?_
  refine el_pv (v := .int .i64 a0) (pv_loadc rfl ((hS.boxAt 1 rfl) 0 _ rfl)) (by decide) ?_
  refine el_pv (v := .pointer (some ⟨b107, 0 + 0, none⟩)) (pv_fieldAddr rfl) (by decide) ?_
  refine el_pv (v := .int .i64 a2) (pv_loadc rfl ((hS.boxAt 0 rfl) 0 _ rfl)) (by decide) ?_
  refine el_pv (v := .bool (a0 != a2)) (pv_neq rfl rfl) (by decide) ?_
  refine el_nil ?_
  refine hQ111 _ _ _ ?_
  refine thn_n ?_
  replace hF := oif hF
  rcases hF with ⟨hb112, hF⟩ | ⟨hb112, hF⟩
  · refine cw_cond_t rfl hb112 ?_
    refine cw_seq ?_
    refine cw_gen ?_
    intro Q113 hQ113
    replace hS : Sat w0 w106 [] := hS.rems 2 [0, 1] rfl
    refine cw_reg ?_
    refine el_pv (v := .bool false) (pv_assign rfl) (by decide) ?_
    refine el_nil ?_
    refine hQ113 _ _ _ ?_
    refine thn_n ?_
    refine cw_ret ?_
    refine hQ110 _ _ _ ?_
    refine thn_r ?_
    refine fin1 rfl rfl ?_
    have hr := Option.some.inj hF
    exact ⟨congrArg (fun (r : Bool) => Ending.returned (.bool r)) hr, hS.below⟩
  · refine cw_cond_f rfl hb112 ?_
    refine cw_skip ?_
    refine hQ110 _ _ _ ?_
    refine thn_n ?_
    refine cw_seq ?_
    refine cw_gen ?_
    intro Q114 hQ114
    refine cw_seq ?_
    refine cw_gen ?_
    intro Q115 hQ115
    refine cw_reg ?_
    refine el_pv (v := .pointer (some ⟨b103, 0 + 1, none⟩)) (pv_fieldAddr rfl) (by decide) ?_
    refine el_pv (v := u1) (pv_loadc rfl ((hS.boxAt 1 rfl) 1 _ rfl)) (by decide) ?_
    refine el_pv (v := .pointer (some ⟨b107, 0 + 1, none⟩)) (pv_fieldAddr rfl) (by decide) ?_
    refine el_pv (v := u3) (pv_loadc rfl ((hS.boxAt 0 rfl) 1 _ rfl)) (by decide) ?_
    replace hF := ob hF
    obtain ⟨r116, hr116, hF⟩ := hF
    refine el_call goes11 (laws_eqIntSS_ok (hS.up ha1) (hS.up ha3) hr116) (congrArg List.toArray (mapc rfl (mapc rfl rfl))) (by decide) ?_
    rintro _ w117 ⟨rfl, hx118⟩
    refine ⟨_, rfl, ?_⟩
    replace hS := hS.ext hx118
    refine el_pv (v := .bool (!r116)) (pv_not rfl) (by decide) ?_
    refine el_nil ?_
    refine hQ115 _ _ _ ?_
    refine thn_n ?_
    replace hF := oif hF
    rcases hF with ⟨hb119, hF⟩ | ⟨hb119, hF⟩
    · refine cw_cond_f rfl (bnot_t hb119) ?_
      refine cw_skip ?_
      refine hQ114 _ _ _ ?_
      refine thn_n ?_
      refine cw_seq ?_
      refine cw_gen ?_
      intro Q120 hQ120
      replace hS : Sat w0 w117 [] := hS.rems 2 [0, 1] rfl
      refine cw_reg ?_
      refine el_pv (v := .bool true) (pv_assign rfl) (by decide) ?_
      refine el_nil ?_
      refine hQ120 _ _ _ ?_
      refine thn_n ?_
      refine cw_ret ?_
      refine fin1 rfl rfl ?_
      have hr := Option.some.inj hF
      exact ⟨congrArg (fun (r : Bool) => Ending.returned (.bool r)) hr, hS.below⟩
    · refine cw_cond_t rfl (bnot_f hb119) ?_
      refine cw_seq ?_
      refine cw_gen ?_
      intro Q121 hQ121
      replace hS : Sat w0 w117 [] := hS.rems 2 [0, 1] rfl
      refine cw_reg ?_
      refine el_pv (v := .bool false) (pv_assign rfl) (by decide) ?_
      refine el_nil ?_
      refine hQ121 _ _ _ ?_
      refine thn_n ?_
      refine cw_ret ?_
      refine hQ114 _ _ _ ?_
      refine thn_r ?_
      refine fin1 rfl rfl ?_
      have hr := Option.some.inj hF
      exact ⟨congrArg (fun (r : Bool) => Ending.returned (.bool r)) hr, hS.below⟩
set_option maxHeartbeats 4000000 in
theorem laws_eqTable_ok {w0 : World} {a0 : ByteArray} {a1 : Int} {u2 : Value} {a2 : List (List Int)} {a3 : ByteArray} {a4 : Int} {u5 : Value} {a5 : List (List Int)} (_ : a0.size ≤ 9223372036854775807) (ha2 : (sliceR (sliceR intR 3) 24).rd w0 [u2] a2) (_ : a3.size ≤ 9223372036854775807) (ha5 : (sliceR (sliceR intR 3) 24).rd w0 [u5] a5) {N : Nat} {r : Bool} (hF : laws_eqTable N a0 a1 a2 a3 a4 a5 = some r) :
    Calls Try.prog 62 #[.agg #[.string a0, .int .i64 a1, u2], .agg #[.string a3, .int .i64 a4, u5]] w0 fun e w' => e = .returned (.bool r) ∧ Ext w0 w' := by
  unfold laws_eqTable at hF
  refine calls_E Try.func62 rfl rfl (of_decide_eq_true rfl) ?_
  have hS := Sat.start w0
  refine cw_seq ?_
  refine cw_gen ?_
  intro Q101 hQ101
  refine cw_reg ?_
  refine el_box [.string a0, .int .i64 a1, u2] rfl hS (by decide) ?_
  intro w102 b103 hS hx104
  refine el_box [.string a3, .int .i64 a4, u5] rfl hS (by decide) ?_
  intro w106 b107 hS hx108
  refine el_pv (v := .bool false) (pv_assign rfl) (by decide) ?_
  refine el_nil ?_
  refine hQ101 _ _ _ ?_
  refine thn_n ?_
  refine cw_seq ?_
  refine cw_gen ?_
  intro Q110 hQ110
  refine cw_seq ?_
  refine cw_gen ?_
  intro Q111 hQ111
  refine cw_reg ?_
  refine el_pv (v := .pointer (some ⟨b103, 0 + 0, none⟩)) (pv_fieldAddr rfl) (by decide) ?_
  refine el_pv (v := .string a0) (pv_loadc rfl ((hS.boxAt 1 rfl) 0 _ rfl)) (by decide) ?_
  refine el_pv (v := .pointer (some ⟨b107, 0 + 0, none⟩)) (pv_fieldAddr rfl) (by decide) ?_
  refine el_pv (v := .string a3) (pv_loadc rfl ((hS.boxAt 0 rfl) 0 _ rfl)) (by decide) ?_
  refine el_pv (v := .bool (!(eqS a0 a3))) (pv_neqS rfl rfl) (by decide) ?_
  refine el_nil ?_
  refine hQ111 _ _ _ ?_
  refine thn_n ?_
  replace hF := oif hF
  rcases hF with ⟨hb112, hF⟩ | ⟨hb112, hF⟩
  · refine cw_cond_f rfl (bnot_t hb112) ?_
    refine cw_skip ?_
    refine hQ110 _ _ _ ?_
    refine thn_n ?_
    refine cw_seq ?_
    refine cw_gen ?_
    intro Q113 hQ113
    refine cw_seq ?_
    refine cw_gen ?_
    intro Q114 hQ114
    refine cw_reg ?_
    refine el_pv (v := .pointer (some ⟨b103, 0 + 1, none⟩)) (pv_fieldAddr rfl) (by decide) ?_
    refine el_pv (v := .agg #[.int .i64 a1, u2]) (pv_loada (cs := [.int .i64 a1, u2]) rfl rfl (boxc (hS.boxAt 1 rfl) 1 2)) (by decide) ?_
    refine el_pv (v := .pointer (some ⟨b107, 0 + 1, none⟩)) (pv_fieldAddr rfl) (by decide) ?_
    refine el_pv (v := .agg #[.int .i64 a4, u5]) (pv_loada (cs := [.int .i64 a4, u5]) rfl rfl (boxc (hS.boxAt 0 rfl) 1 2)) (by decide) ?_
    replace hF := ob hF
    obtain ⟨r115, hr115, hF⟩ := hF
    refine el_call goes44 (laws_eqRelation_ok (hS.up ha2) (hS.up ha5) hr115) (congrArg List.toArray (mapc rfl (mapc rfl rfl))) (by decide) ?_
    rintro _ w116 ⟨rfl, hx117⟩
    refine ⟨_, rfl, ?_⟩
    replace hS := hS.ext hx117
    refine el_pv (v := .bool (!r115)) (pv_not rfl) (by decide) ?_
    refine el_nil ?_
    refine hQ114 _ _ _ ?_
    refine thn_n ?_
    replace hF := oif hF
    rcases hF with ⟨hb118, hF⟩ | ⟨hb118, hF⟩
    · refine cw_cond_f rfl (bnot_t hb118) ?_
      refine cw_skip ?_
      refine hQ113 _ _ _ ?_
      refine thn_n ?_
      refine cw_seq ?_
      refine cw_gen ?_
      intro Q119 hQ119
      replace hS : Sat w0 w116 [] := hS.rems 2 [0, 1] rfl
      refine cw_reg ?_
      refine el_pv (v := .bool true) (pv_assign rfl) (by decide) ?_
      refine el_nil ?_
      refine hQ119 _ _ _ ?_
      refine thn_n ?_
      refine cw_ret ?_
      refine fin1 rfl rfl ?_
      have hr := Option.some.inj hF
      exact ⟨congrArg (fun (r : Bool) => Ending.returned (.bool r)) hr, hS.below⟩
    · refine cw_cond_t rfl (bnot_f hb118) ?_
      refine cw_seq ?_
      refine cw_gen ?_
      intro Q120 hQ120
      replace hS : Sat w0 w116 [] := hS.rems 2 [0, 1] rfl
      refine cw_reg ?_
      refine el_pv (v := .bool false) (pv_assign rfl) (by decide) ?_
      refine el_nil ?_
      refine hQ120 _ _ _ ?_
      refine thn_n ?_
      refine cw_ret ?_
      refine hQ113 _ _ _ ?_
      refine thn_r ?_
      refine fin1 rfl rfl ?_
      have hr := Option.some.inj hF
      exact ⟨congrArg (fun (r : Bool) => Ending.returned (.bool r)) hr, hS.below⟩
  · refine cw_cond_t rfl (bnot_f hb112) ?_
    refine cw_seq ?_
    refine cw_gen ?_
    intro Q121 hQ121
    replace hS : Sat w0 w106 [] := hS.rems 2 [0, 1] rfl
    refine cw_reg ?_
    refine el_pv (v := .bool false) (pv_assign rfl) (by decide) ?_
    refine el_nil ?_
    refine hQ121 _ _ _ ?_
    refine thn_n ?_
    refine cw_ret ?_
    refine hQ110 _ _ _ ?_
    refine thn_r ?_
    refine fin1 rfl rfl ?_
    have hr := Option.some.inj hF
    exact ⟨congrArg (fun (r : Bool) => Ending.returned (.bool r)) hr, hS.below⟩
end Go.Proofs.Ytnanddmadghnnaa
