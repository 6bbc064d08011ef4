/- The walks through functions of the program: each hands back what it comes to. No condition but that it comes to something. -/
import Derived.Test.YtdingjlefilafaaW3
import Derived.Test.YtdingjlefilafaaW4D
namespace Go.Proofs.Ytdingjlefilafaa
open Go.RowKit
set_option maxRecDepth 100000
set_option maxHeartbeats 4000000 in
theorem laws_heldRelation_ok {w0 : World} {a0 : Int} {u1 : Value} {a1 : List (List Int)} {a2 : Int} (ha1 : (sliceR (sliceR intR 3) 26).rd w0 [u1] a1) {N : Nat} {r : Int} (hF : laws_heldRelation N a0 a1 a2 = some r) :
    Calls Try.prog 29 #[.agg #[.int .i64 a0, u1], .int .i64 a2] w0 fun e w' => e = .returned (.int .i64 r) ∧ Ext w0 w' := by
  unfold laws_heldRelation at hF
  refine calls_E Try.func29 rfl rfl (of_decide_eq_true rfl) ?_
  have hS := Sat.start w0
  refine cw_seq ?_
  refine cw_gen ?_
  intro Q101 hQ101
  refine cw_reg ?_
  refine el_box [.int .i64 a0, u1] rfl hS (by decide) ?_
  intro w102 b103 hS hx104
  refine el_pv (v := .int .i64 0) (pv_assign rfl) (by decide) ?_
  refine el_nil ?_
  refine hQ101 _ _ _ ?_
  refine thn_n ?_
  refine cw_seq ?_
  refine cw_gen ?_
  intro Q106 hQ106
  refine cw_reg ?_
  refine el_pv (v := .pointer (some ⟨b103, 0 + 1, none⟩)) (pv_fieldAddr rfl) (by decide) ?_
  refine el_pv (v := u1) (pv_loadc rfl ((hS.boxAt 0 rfl) 1 _ rfl)) (by decide) ?_
  refine el_pv (v := .int .i64 a2) (pv_move rfl) (by decide) ?_
  replace hF := ob hF
  obtain ⟨r107, hr107, hF⟩ := hF
  refine el_call goes76 (laws_heldIntSS_ok (hS.up ha1) hr107) (congrArg List.toArray (mapc rfl (mapc rfl rfl))) (by decide) ?_
  rintro _ w108 ⟨rfl, hx109⟩
  refine ⟨_, rfl, ?_⟩
  replace hS := hS.ext hx109
  refine el_pv (v := .int .i64 r107) (pv_assign rfl) (by decide) ?_
  refine el_nil ?_
  refine hQ106 _ _ _ ?_
  refine thn_n ?_
  refine cw_seq ?_
  refine cw_gen ?_
  intro Q110 hQ110
  refine cw_seq ?_
  refine cw_gen ?_
  intro Q111 hQ111
  replace hS : Sat w0 w108 [] := hS.rems 1 [0] rfl
  refine cw_reg ?_
  refine el_pv (v := .int .i64 r107) (pv_move rfl) (by decide) ?_
  refine el_pv (v := .bool (decide (r107 < 0))) (pv_lss rfl rfl) (by decide) ?_
  refine el_nil ?_
  refine hQ111 _ _ _ ?_
  refine thn_n ?_
  replace hF := oif hF
  rcases hF with ⟨hb112, hF⟩ | ⟨hb112, hF⟩
  · refine cw_cond_t rfl hb112 ?_
    refine cw_seq ?_
    refine cw_gen ?_
    intro Q113 hQ113
    refine cw_reg ?_
    refine el_pv (v := .int .i64 (-1)) (pv_assign rfl) (by decide) ?_
    refine el_nil ?_
    refine hQ113 _ _ _ ?_
    refine thn_n ?_
    refine cw_ret ?_
    refine hQ110 _ _ _ ?_
    refine thn_r ?_
    refine fin1 rfl rfl ?_
    have hr := Option.some.inj hF
    exact ⟨congrArg (fun (r : Int) => Ending.returned (.int .i64 r)) hr, hS.below⟩
  · refine cw_cond_f rfl hb112 ?_
    refine cw_skip ?_
    refine hQ110 _ _ _ ?_
    refine thn_n ?_
    refine cw_seq ?_
    refine cw_gen ?_
    intro Q114 hQ114
    refine cw_reg ?_
    refine el_pv (v := .int .i64 r107) (pv_move rfl) (by decide) ?_
    refine el_pv (v := .int .i64 r107) (pv_assign rfl) (by decide) ?_
    refine el_nil ?_
    refine hQ114 _ _ _ ?_
    refine thn_n ?_
    refine cw_ret ?_
    refine fin1 rfl rfl ?_
    have hr := Option.some.inj hF
    exact ⟨congrArg (fun (r : Int) => Ending.returned (.int .i64 r)) hr, hS.below⟩
set_option maxHeartbeats 4000000 in
theorem laws_FnExactExpandFactorization_ok {w0 : World} {u0 : Value} {a0 : List Int} {u1 : Value} {a1 : List (List Int × List Int)} (ha0 : (sliceR intR 3).rd w0 [u0] a0) (ha1 : (sliceR (pairR (sliceR intR 3) (sliceR intR 3)) 113).rd w0 [u1] a1) {N : Nat} {r : Bool} (hF : laws_FnExactExpandFactorization N a0 a1 = some r) :
    Calls Try.prog 5 #[.agg #[u0, u1]] w0 fun e w' => e = .returned (.bool r) ∧ Ext w0 w' := by
  unfold laws_FnExactExpandFactorization at hF
  refine calls_E Try.func5 rfl rfl (of_decide_eq_true rfl) ?_
  have hS := Sat.start w0
  refine cw_seq ?_
  refine cw_gen ?_
  intro Q101 hQ101
  refine cw_reg ?_
  refine el_box [u0, u1] rfl hS (by decide) ?_
  intro w102 b103 hS hx104
  refine el_pv (v := .bool false) (pv_assign rfl) (by decide) ?_
  refine el_nil ?_
  refine hQ101 _ _ _ ?_
  refine thn_n ?_
  refine cw_seq ?_
  refine cw_gen ?_
  intro Q106 hQ106
  refine cw_reg ?_
  refine el_pv (v := .int .i64 1048576) (pv_assign rfl) (by decide) ?_
  refine el_nil ?_
  refine hQ106 _ _ _ ?_
  refine thn_n ?_
  refine cw_seq ?_
  refine cw_gen ?_
  intro Q107 hQ107
  refine cw_reg ?_
  refine el_pv (v := .agg #[u0, u1]) (pv_loada (cs := [u0, u1]) rfl rfl (boxc0 (hS.boxAt 0 rfl))) (by decide) ?_
  refine el_pv (v := .int .i64 1048576) (pv_move rfl) (by decide) ?_
  replace hF := ob hF
  obtain ⟨r108, hr108, hF⟩ := hF
  refine el_call goes26 (laws_szFactorization_ok (hS.up ha0) (hS.up ha1) hr108) (congrArg List.toArray (mapc rfl (mapc rfl rfl))) (by decide) ?_
  rintro _ w109 ⟨rfl, hx110⟩
  refine ⟨_, rfl, ?_⟩
  replace hS := hS.ext hx110
  refine el_pv (v := .int .i64 r108) (pv_assign rfl) (by decide) ?_
  refine el_nil ?_
  refine hQ107 _ _ _ ?_
  refine thn_n ?_
  refine cw_seq ?_
  refine cw_gen ?_
  intro Q111 hQ111
  refine cw_seq ?_
  refine cw_gen ?_
  intro Q112 hQ112
  refine cw_reg ?_
  refine el_pv (v := .int .i64 r108) (pv_move rfl) (by decide) ?_
  refine el_pv (v := .bool (decide (r108 < 0))) (pv_lss rfl rfl) (by decide) ?_
  refine el_nil ?_
  refine hQ112 _ _ _ ?_
  refine thn_n ?_
  replace hF := oif hF
  rcases hF with ⟨hb113, hF⟩ | ⟨hb113, hF⟩
  · refine cw_cond_t rfl hb113 ?_
    refine cw_seq ?_
    refine cw_gen ?_
    intro Q114 hQ114
    replace hS : Sat w0 w109 [] := hS.rems 1 [0] rfl
    refine cw_reg ?_
    refine el_pv (v := .bool true) (pv_assign rfl) (by decide) ?_
    refine el_nil ?_
    refine hQ114 _ _ _ ?_
    refine thn_n ?_
    refine cw_ret ?_
    refine hQ111 _ _ _ ?_
    refine thn_r ?_
    refine fin1 rfl rfl ?_
    have hr := Option.some.inj hF
    exact ⟨congrArg (fun (r : Bool) => Ending.returned (.bool r)) hr, hS.below⟩
  · refine cw_cond_f rfl hb113 ?_
    refine cw_skip ?_
    refine hQ111 _ _ _ ?_
    refine thn_n ?_
    refine cw_seq ?_
    refine cw_gen ?_
    intro Q115 hQ115
    refine cw_reg ?_
    refine el_pv (v := .agg #[u0, u1]) (pv_loada (cs := [u0, u1]) rfl rfl (boxc0 (hS.boxAt 0 rfl))) (by decide) ?_
    replace hF := ob hF
    obtain ⟨r116, hr116, hF⟩ := hF
    refine el_call goes28 (laws_toFactorization_ok (hS.up ha0) (hS.up ha1) hr116) (congrArg List.toArray (mapc rfl rfl)) (by decide) ?_
    rintro _ w121 ⟨v117, v118, rfl, hS'⟩
    refine ⟨_, rfl, ?_⟩
    have hx122 := hS'.below
    replace hS := hS.call2 hS'
    replace hF := ob hF
    obtain ⟨r123, hr123, hF⟩ := hF
    refine el_call goes27 (spec_ExpandFactorization_ok (hS.rdAt (R := (sliceR intR 3)) 0 rfl) (hS.rdAt (R := (sliceR (pairR (sliceR intR 3) (sliceR intR 3)) 84)) 1 rfl) hr123) (congrArg List.toArray (mapc rfl rfl)) (by decide) ?_
    rintro _ w126 ⟨v124, rfl, hS'⟩
    refine ⟨_, rfl, ?_⟩
    have hx127 := hS'.below
    replace hS := hS.call1 hS'
    refine el_pv (v := .tuple #[.agg #[.int .i64 r123.1.1, v124], .bool r123.2]) (pv_move rfl) (by decide) ?_
    refine el_pv (v := .agg #[.int .i64 r123.1.1, v124]) (pv_extract rfl rfl) (by decide) ?_
    refine el_pv (v := .bool r123.2) (pv_extract rfl rfl) (by decide) ?_
    refine el_alloc hS (by decide) ?_
    intro w128 b129 hS hx130
    refine el_storev (hS.top 0 rfl) rfl [.int .i64 r123.1.1, v124] rfl rfl (of_decide_eq_true rfl) (all_cons rfl (all_cons (oc (hS.rdAt (R := (sliceR (sliceR intR 3) 26)) 1 rfl)) rfl)) ?_
    intro w132 hS
    replace hS : Sat w0 w132 [Box b129 32 [.int .i64 r123.1.1, v124], Own (sliceR (sliceR intR 3) 26) [v124] r123.1.2, Own (sliceR intR 3) [v117] r116.1, Own (sliceR (pairR (sliceR intR 3) (sliceR intR 3)) 84) [v118] r116.2, Box b103 49 [u0, u1]] := hS
    refine el_pv (v := .bool r123.2) (pv_assign rfl) (by decide) ?_
    refine el_nil ?_
    refine hQ115 _ _ _ ?_
    refine thn_n ?_
    refine cw_seq ?_
    refine cw_gen ?_
    intro Q133 hQ133
    replace hS : Sat w0 w132 [Box b129 32 [.int .i64 r123.1.1, v124], Own (sliceR (sliceR intR 3) 26) [v124] r123.1.2, Box b103 49 [u0, u1]] := hS.rems 5 [2, 3] rfl
    refine cw_reg ?_
    refine el_pv (v := .agg #[u0, u1]) (pv_loada (cs := [u0, u1]) rfl rfl (boxc0 (hS.boxAt 2 rfl))) (by decide) ?_
    replace hF := ob hF
    obtain ⟨r134, hr134, hF⟩ := hF
    refine el_call goes28 (laws_toFactorization_ok (hS.up ha0) (hS.up ha1) hr134) (congrArg List.toArray (mapc rfl rfl)) (by decide) ?_
    rintro _ w139 ⟨v135, v136, rfl, hS'⟩
    refine ⟨_, rfl, ?_⟩
    have hx140 := hS'.below
    replace hS := hS.call2 hS'
    refine el_alloc hS (by decide) ?_
    intro w141 b142 hS hx143
    refine el_storev (hS.top 0 rfl) rfl [v135, v136] rfl rfl (of_decide_eq_true rfl) (all_cons (oc (hS.rdAt (R := (sliceR intR 3)) 1 rfl)) (all_cons (oc (hS.rdAt (R := (sliceR (pairR (sliceR intR 3) (sliceR intR 3)) 84)) 2 rfl)) rfl)) ?_
    intro w145 hS
    replace hS : Sat w0 w145 [Box b142 29 [v135, v136], Own (sliceR intR 3) [v135] r134.1, Own (sliceR (pairR (sliceR intR 3) (sliceR intR 3)) 84) [v136] r134.2, Box b129 32 [.int .i64 r123.1.1, v124], Own (sliceR (sliceR intR 3) 26) [v124] r123.1.2, Box b103 49 [u0, u1]] := hS
    refine el_nil ?_
    refine hQ133 _ _ _ ?_
    refine thn_n ?_
    refine cw_seq ?_
    refine cw_gen ?_
    intro Q146 hQ146
    refine cw_reg ?_
    refine el_pv (v := .agg #[v135, v136]) (pv_loada (cs := [v135, v136]) rfl rfl (boxc0 (hS.boxAt 0 rfl))) (by decide) ?_
    replace hF := ob hF
    obtain ⟨r147, hr147, hF⟩ := hF
    refine el_call goes23 (impl_ExpandFactorization_ok (hS.rdAt (R := (sliceR intR 3)) 1 rfl) (hS.rdAt (R := (sliceR (pairR (sliceR intR 3) (sliceR intR 3)) 84)) 2 rfl) hr147) (congrArg List.toArray (mapc rfl rfl)) (by decide) ?_
    rintro _ w150 ⟨v148, rfl, hS'⟩
    refine ⟨_, rfl, ?_⟩
    have hx151 := hS'.below
    replace hS := hS.call1 hS'
    refine el_pv (v := .tuple #[.agg #[.int .i64 r147.1.1, v148], .bool r147.2]) (pv_move rfl) (by decide) ?_
    refine el_pv (v := .agg #[.int .i64 r147.1.1, v148]) (pv_extract rfl rfl) (by decide) ?_
    refine el_pv (v := .bool r147.2) (pv_extract rfl rfl) (by decide) ?_
    refine el_alloc hS (by decide) ?_
    intro w152 b153 hS hx154
    refine el_storev (hS.top 0 rfl) rfl [.int .i64 r147.1.1, v148] rfl rfl (of_decide_eq_true rfl) (all_cons rfl (all_cons (oc (hS.rdAt (R := (sliceR (sliceR intR 3) 26)) 1 rfl)) rfl)) ?_
    intro w156 hS
    replace hS : Sat w0 w156 [Box b153 32 [.int .i64 r147.1.1, v148], Own (sliceR (sliceR intR 3) 26) [v148] r147.1.2, Box b142 29 [v135, v136], Own (sliceR intR 3) [v135] r134.1, Own (sliceR (pairR (sliceR intR 3) (sliceR intR 3)) 84) [v136] r134.2, Box b129 32 [.int .i64 r123.1.1, v124], Own (sliceR (sliceR intR 3) 26) [v124] r123.1.2, Box b103 49 [u0, u1]] := hS
    refine el_pv (v := .bool r147.2) (pv_assign rfl) (by decide) ?_
    refine el_nil ?_
    refine hQ146 _ _ _ ?_
    refine thn_n ?_
    refine cw_seq ?_
    refine cw_gen ?_
    intro Q157 hQ157
    refine cw_seq ?_
    refine cw_gen ?_
    intro Q158 hQ158
    refine cw_reg ?_
    refine el_pv (v := .agg #[.int .i64 r147.1.1, v148]) (pv_loada (cs := [.int .i64 r147.1.1, v148]) rfl rfl (boxc0 (hS.boxAt 0 rfl))) (by decide) ?_
    refine el_pv (v := .agg #[.int .i64 r123.1.1, v124]) (pv_loada (cs := [.int .i64 r123.1.1, v124]) rfl rfl (boxc0 (hS.boxAt 5 rfl))) (by decide) ?_
    replace hF := ob hF
    obtain ⟨r159, hr159, hF⟩ := hF
    refine el_call goes14 (laws_eqRelation_ok (hS.rdAt (R := (sliceR (sliceR intR 3) 26)) 1 rfl) (hS.rdAt (R := (sliceR (sliceR intR 3) 26)) 6 rfl) hr159) (congrArg List.toArray (mapc rfl (mapc rfl rfl))) (by decide) ?_
    rintro _ w160 ⟨rfl, hx161⟩
    refine ⟨_, rfl, ?_⟩
    replace hS := hS.ext hx161
    refine el_pv (v := .bool (!r159)) (pv_not rfl) (by decide) ?_
    refine el_pv (v := .bool (!r159)) (pv_move rfl) (by decide) ?_
    replace hF := oif hF
    rcases hF with ⟨hb162, hF⟩ | ⟨hb162, hF⟩
    · refine el_on rfl (bnot_t hb162) ?_
      refine el_pv (v := .bool r147.2) (pv_move rfl) (by decide) ?_
      refine el_on rfl (bnot_t hb162) ?_
      refine el_pv (v := .bool r123.2) (pv_move rfl) (by decide) ?_
      refine el_on rfl (bnot_t hb162) ?_
      refine el_pv (v := .bool (r147.2 != r123.2)) (pv_neqB Try.underlying4 rfl rfl) (by decide) ?_
      refine el_pv (v := .bool (r147.2 != r123.2)) (pv_pick_f rfl (bnot_t hb162) rfl) (by decide) ?_
      refine el_nil ?_
      refine hQ158 _ _ _ ?_
      refine thn_n ?_
      replace hF := oif hF
      rcases hF with ⟨hb163, hF⟩ | ⟨hb163, hF⟩
      · refine cw_cond_t rfl hb163 ?_
        refine cw_seq ?_
        refine cw_gen ?_
        intro Q164 hQ164
        replace hS : Sat w0 w160 [] := hS.rems 8 [0, 1, 2, 3, 4, 5, 6, 7] rfl
        refine cw_reg ?_
        refine el_pv (v := .bool false) (pv_assign rfl) (by decide) ?_
        refine el_nil ?_
        refine hQ164 _ _ _ ?_
        refine thn_n ?_
        refine cw_ret ?_
        refine hQ157 _ _ _ ?_
        refine thn_r ?_
        refine fin1 rfl rfl ?_
        have hr := Option.some.inj hF
        exact ⟨congrArg (fun (r : Bool) => Ending.returned (.bool r)) hr, hS.below⟩
      · refine cw_cond_f rfl hb163 ?_
        refine cw_skip ?_
        refine hQ157 _ _ _ ?_
        refine thn_n ?_
        refine cw_seq ?_
        refine cw_gen ?_
        intro Q165 hQ165
        refine cw_seq ?_
        refine cw_gen ?_
        intro Q166 hQ166
        obtain ⟨C, hCd⟩ : ∃ C : World → Prop, ∀ w, C w ↔ ∃ G, Sat w0 w ([Box b142 29 [v135, v136], Box b103 49 [u0, u1], Own (sliceR intR 3) [v135] r134.1, Own (sliceR (pairR (sliceR intR 3) (sliceR intR 3)) 84) [v136] r134.2] ++ G) := ⟨_, fun _ => Iff.rfl⟩
        refine cw_regb [0, 1, 2, 3, 4] C (by kernel_rfl) ?_
        intro w167 hx168
        replace hS := hS.ext hx168
        replace hS : Sat w0 w167 [Box b142 29 [v135, v136], Box b103 49 [u0, u1], Own (sliceR intR 3) [v135] r134.1, Own (sliceR (pairR (sliceR intR 3) (sliceR intR 3)) 84) [v136] r134.2, Box b153 32 [.int .i64 r147.1.1, v148], Own (sliceR (sliceR intR 3) 26) [v148] r147.1.2, Box b129 32 [.int .i64 r123.1.1, v124], Own (sliceR (sliceR intR 3) 26) [v124] r123.1.2] := hS.tops 8 [2, 7, 3, 4] rfl
        have hC := (hCd _).2 ⟨_, hS⟩
        refine al_p (v := .agg #[v135, v136]) (by kernel_rfl) 0 rfl rfl (by decide) hC (by kernel_rfl) (by kernel_rfl) (sv_on rfl (fun w' hw' => by obtain ⟨_, hS⟩ := (hCd _).1 hw'; exact (pv_loada (cs := [v135, v136]) rfl rfl (boxc0 (hS.boxAt 0 rfl))))) ?_
        refine al_one 1 (by kernel_rfl) rfl ?_
        refine el_pv (v := .agg #[u0, u1]) (pv_loada (cs := [u0, u1]) rfl rfl (boxc0 (hS.boxAt 1 rfl))) (by decide) ?_
        refine el_nil ?_
        refine ⟨fun _ => hC, ?_⟩
        refine al_one 2 (by kernel_rfl) rfl ?_
        replace hF := ob hF
        obtain ⟨r169, hr169, hF⟩ := hF
        refine el_call goes28 (laws_toFactorization_ok (hS.up ha0) (hS.up ha1) hr169) (congrArg List.toArray (mapc rfl rfl)) (by decide) ?_
        rintro _ w174 ⟨v170, v171, rfl, hS'⟩
        refine ⟨_, rfl, ?_⟩
        have hx175 := hS'.below
        replace hS := hS.call2 hS'
        refine el_nil ?_
        replace hS : Sat w0 w174 [Box b142 29 [v135, v136], Box b103 49 [u0, u1], Own (sliceR intR 3) [v135] r134.1, Own (sliceR (pairR (sliceR intR 3) (sliceR intR 3)) 84) [v136] r134.2, Own (sliceR intR 3) [v170] r169.1, Own (sliceR (pairR (sliceR intR 3) (sliceR intR 3)) 84) [v171] r169.2, Box b153 32 [.int .i64 r147.1.1, v148], Own (sliceR (sliceR intR 3) 26) [v148] r147.1.2, Box b129 32 [.int .i64 r123.1.1, v124], Own (sliceR (sliceR intR 3) 26) [v124] r123.1.2] := hS.tops 10 [2, 3, 4, 5] rfl
        have hC := (hCd _).2 ⟨_, hS⟩
        refine ⟨fun _ => hC, ?_⟩
        refine al_one 3 (by kernel_rfl) rfl ?_
        replace hF := ob hF
        obtain ⟨r176, hr176, hF⟩ := hF
        refine el_call goes13 (laws_eqFactorization_ok (hS.rdAt (R := (sliceR intR 3)) 2 rfl) (hS.rdAt (R := (sliceR (pairR (sliceR intR 3) (sliceR intR 3)) 84)) 3 rfl) (hS.rdAt (R := (sliceR intR 3)) 4 rfl) (hS.rdAt (R := (sliceR (pairR (sliceR intR 3) (sliceR intR 3)) 84)) 5 rfl) hr176) (congrArg List.toArray (mapc rfl (mapc rfl rfl))) (by decide) ?_
        rintro _ w177 ⟨rfl, hx178⟩
        refine ⟨_, rfl, ?_⟩
        replace hS := hS.ext hx178
        refine el_nil ?_
        have hC := (hCd _).2 ⟨_, hS⟩
        refine ⟨fun _ => hC, ?_⟩
        refine al_one 4 (by kernel_rfl) rfl ?_
        refine el_pv (v := .bool (!r176)) (pv_not rfl) (by decide) ?_
        refine el_nil ?_
        refine ⟨fun _ => hC, ?_⟩
        refine al_nil (by kernel_rfl) ?_
        refine hQ166 _ _ _ ?_
        refine thn_n ?_
        replace hF := oif hF
        rcases hF with ⟨hb179, hF⟩ | ⟨hb179, hF⟩
        · refine cw_cond_f rfl (bnot_t hb179) ?_
          refine cw_skip ?_
          refine hQ165 _ _ _ ?_
          refine thn_n ?_
          refine cw_seq ?_
          refine cw_gen ?_
          intro Q180 hQ180
          replace hS : Sat w0 w177 [Box b142 29 [v135, v136], Box b103 49 [u0, u1], Own (sliceR intR 3) [v135] r134.1, Own (sliceR (pairR (sliceR intR 3) (sliceR intR 3)) 84) [v136] r134.2, Box b153 32 [.int .i64 r147.1.1, v148], Own (sliceR (sliceR intR 3) 26) [v148] r147.1.2, Box b129 32 [.int .i64 r123.1.1, v124], Own (sliceR (sliceR intR 3) 26) [v124] r123.1.2] := hS.rems 10 [4, 5] rfl
          refine cw_reg ?_
          refine el_pv (v := .int .i64 1) (pv_assign rfl) (by decide) ?_
          refine el_nil ?_
          refine hQ180 _ _ _ ?_
          refine thn_n ?_
          refine cw_seq ?_
          refine cw_gen ?_
          intro Q181 hQ181
          refine cw_reg ?_
          refine el_pv (v := .agg #[v135, v136]) (pv_loada (cs := [v135, v136]) rfl rfl (boxc0 (hS.boxAt 0 rfl))) (by decide) ?_
          refine el_pv (v := .int .i64 1) (pv_move rfl) (by decide) ?_
          replace hS : Sat w0 w177 [Own (sliceR intR 3) [v135] r134.1, Own (sliceR (pairR (sliceR intR 3) (sliceR intR 3)) 84) [v136] r134.2, Box b142 29 [v135, v136], Box b103 49 [u0, u1], Box b153 32 [.int .i64 r147.1.1, v148], Own (sliceR (sliceR intR 3) 26) [v148] r147.1.2, Box b129 32 [.int .i64 r123.1.1, v124], Own (sliceR (sliceR intR 3) 26) [v124] r123.1.2] := hS.tops 8 [2, 3] rfl
          replace hF := ob hF
          obtain ⟨r182, hr182, hF⟩ := hF
          refine el_call goes16 (laws_markFactorization_ok hS hr182) (congrArg List.toArray (mapc rfl (mapc rfl rfl))) (by decide) ?_
          rintro _ w183 ⟨rfl, hS⟩
          refine ⟨_, rfl, ?_⟩
          replace hS : Sat w0 w183 [Own (sliceR intR 3) [v135] r182.2.1, Own (sliceR (pairR (sliceR intR 3) (sliceR intR 3)) 84) [v136] r182.2.2, Box b142 29 [v135, v136], Box b103 49 [u0, u1], Box b153 32 [.int .i64 r147.1.1, v148], Own (sliceR (sliceR intR 3) 26) [v148] r147.1.2, Box b129 32 [.int .i64 r123.1.1, v124], Own (sliceR (sliceR intR 3) 26) [v124] r123.1.2] := hS
          refine el_pv (v := .int .i64 r182.1) (pv_assign rfl) (by decide) ?_
          refine el_nil ?_
          refine hQ181 _ _ _ ?_
          refine thn_n ?_
          refine cw_seq ?_
          refine cw_gen ?_
          intro Q184 hQ184
          refine cw_seq ?_
          refine cw_gen ?_
          intro Q185 hQ185
          replace hS : Sat w0 w183 [Box b103 49 [u0, u1], Box b153 32 [.int .i64 r147.1.1, v148], Own (sliceR (sliceR intR 3) 26) [v148] r147.1.2, Box b129 32 [.int .i64 r123.1.1, v124], Own (sliceR (sliceR intR 3) 26) [v124] r123.1.2] := hS.rems 8 [0, 1, 2] rfl
          refine cw_reg ?_
          refine el_pv (v := .int .i64 r182.1) (pv_move rfl) (by decide) ?_
          refine el_pv (v := .bool (decide (r182.1 < 0))) (pv_lss rfl rfl) (by decide) ?_
          refine el_pv (v := .bool (decide (r182.1 < 0))) (pv_move rfl) (by decide) ?_
          replace hF := oif hF
          rcases hF with ⟨hb186, hF⟩ | ⟨hb186, hF⟩
          · refine el_off rfl hb186 rfl (by decide) ?_
            refine el_off rfl hb186 rfl (by decide) ?_
            refine el_off rfl hb186 rfl (by decide) ?_
            refine el_off rfl hb186 rfl (by decide) ?_
            refine el_pv (v := .bool true) (pv_pick_t rfl hb186 rfl) (by decide) ?_
            refine el_pv (v := .bool true) (pv_move rfl) (by decide) ?_
            refine el_off rfl rfl rfl (by decide) ?_
            refine el_off rfl rfl rfl (by decide) ?_
            refine el_off rfl rfl rfl (by decide) ?_
            refine el_pv (v := .bool true) (pv_pick_t rfl rfl rfl) (by decide) ?_
            refine el_nil ?_
            refine hQ185 _ _ _ ?_
            refine thn_n ?_
            refine cw_cond_t rfl rfl ?_
            refine cw_seq ?_
            refine cw_gen ?_
            intro Q187 hQ187
            replace hS : Sat w0 w183 [] := hS.rems 5 [0, 1, 2, 3, 4] rfl
            refine cw_reg ?_
            refine el_pv (v := .bool false) (pv_assign rfl) (by decide) ?_
            refine el_nil ?_
            refine hQ187 _ _ _ ?_
            refine thn_n ?_
            refine cw_ret ?_
            refine hQ184 _ _ _ ?_
            refine thn_r ?_
            refine fin1 rfl rfl ?_
            have hr := Option.some.inj hF
            exact ⟨congrArg (fun (r : Bool) => Ending.returned (.bool r)) hr, hS.below⟩
          · refine el_on rfl hb186 ?_
            refine el_pv (v := .agg #[.int .i64 r147.1.1, v148]) (pv_loada (cs := [.int .i64 r147.1.1, v148]) rfl rfl (boxc0 (hS.boxAt 1 rfl))) (by decide) ?_
            refine el_on rfl hb186 ?_
            refine el_pv (v := .agg #[.int .i64 r123.1.1, v124]) (pv_loada (cs := [.int .i64 r123.1.1, v124]) rfl rfl (boxc0 (hS.boxAt 3 rfl))) (by decide) ?_
            refine el_on rfl hb186 ?_
            replace hF := ob hF
            obtain ⟨r188, hr188, hF⟩ := hF
            refine el_call goes14 (laws_eqRelation_ok (hS.rdAt (R := (sliceR (sliceR intR 3) 26)) 2 rfl) (hS.rdAt (R := (sliceR (sliceR intR 3) 26)) 4 rfl) hr188) (congrArg List.toArray (mapc rfl (mapc rfl rfl))) (by decide) ?_
            rintro _ w189 ⟨rfl, hx190⟩
            refine ⟨_, rfl, ?_⟩
            replace hS := hS.ext hx190
            refine el_on rfl hb186 ?_
            refine el_pv (v := .bool (!r188)) (pv_not rfl) (by decide) ?_
            refine el_pv (v := .bool (!r188)) (pv_pick_f rfl hb186 rfl) (by decide) ?_
            refine el_pv (v := .bool (!r188)) (pv_move rfl) (by decide) ?_
            replace hF := oif hF
            rcases hF with ⟨hb191, hF⟩ | ⟨hb191, hF⟩
            · refine el_on rfl (bnot_t hb191) ?_
              refine el_pv (v := .bool r147.2) (pv_move rfl) (by decide) ?_
              refine el_on rfl (bnot_t hb191) ?_
              refine el_pv (v := .bool r123.2) (pv_move rfl) (by decide) ?_
              refine el_on rfl (bnot_t hb191) ?_
              refine el_pv (v := .bool (r147.2 != r123.2)) (pv_neqB Try.underlying4 rfl rfl) (by decide) ?_
              refine el_pv (v := .bool (r147.2 != r123.2)) (pv_pick_f rfl (bnot_t hb191) rfl) (by decide) ?_
              refine el_nil ?_
              refine hQ185 _ _ _ ?_
              refine thn_n ?_
              refine cw_cond_f rfl hb163 ?_
              refine cw_skip ?_
              refine hQ184 _ _ _ ?_
              refine thn_n ?_
              refine cw_seq ?_
              refine cw_gen ?_
              intro Q192 hQ192
              refine cw_reg ?_
              refine el_pv (v := .int .i64 1) (pv_assign rfl) (by decide) ?_
              refine el_nil ?_
              refine hQ192 _ _ _ ?_
              refine thn_n ?_
              refine cw_seq ?_
              refine cw_gen ?_
              intro Q193 hQ193
              refine cw_reg ?_
              refine el_pv (v := .agg #[.int .i64 r147.1.1, v148]) (pv_loada (cs := [.int .i64 r147.1.1, v148]) rfl rfl (boxc0 (hS.boxAt 1 rfl))) (by decide) ?_
              refine el_pv (v := .int .i64 1) (pv_move rfl) (by decide) ?_
              replace hS : Sat w0 w189 [Own (sliceR (sliceR intR 3) 26) [v148] r147.1.2, Box b103 49 [u0, u1], Box b153 32 [.int .i64 r147.1.1, v148], Box b129 32 [.int .i64 r123.1.1, v124], Own (sliceR (sliceR intR 3) 26) [v124] r123.1.2] := hS.tops 5 [2] rfl
              replace hF := ob hF
              obtain ⟨r194, hr194, hF⟩ := hF
              refine el_call goes15 (laws_markRelation_ok hS hr194) (congrArg List.toArray (mapc rfl (mapc rfl rfl))) (by decide) ?_
              rintro _ w195 ⟨rfl, hS⟩
              refine ⟨_, rfl, ?_⟩
              replace hS : Sat w0 w195 [Own (sliceR (sliceR intR 3) 26) [v148] r194.2, Box b103 49 [u0, u1], Box b153 32 [.int .i64 r147.1.1, v148], Box b129 32 [.int .i64 r123.1.1, v124], Own (sliceR (sliceR intR 3) 26) [v124] r123.1.2] := hS
              refine el_pv (v := .int .i64 r194.1) (pv_assign rfl) (by decide) ?_
              refine el_nil ?_
              refine hQ193 _ _ _ ?_
              refine thn_n ?_
              refine cw_seq ?_
              refine cw_gen ?_
              intro Q196 hQ196
              refine cw_reg ?_
              refine el_pv (v := .int .i64 1) (pv_assign rfl) (by decide) ?_
              refine el_nil ?_
              refine hQ196 _ _ _ ?_
              refine thn_n ?_
              refine cw_seq ?_
              refine cw_gen ?_
              intro Q197 hQ197
              refine cw_reg ?_
              refine el_pv (v := .agg #[.int .i64 r147.1.1, v148]) (pv_loada (cs := [.int .i64 r147.1.1, v148]) rfl rfl (boxc0 (hS.boxAt 2 rfl))) (by decide) ?_
              refine el_pv (v := .int .i64 1) (pv_move rfl) (by decide) ?_
              replace hF := ob hF
              obtain ⟨r198, hr198, hF⟩ := hF
              refine el_call goes29 (laws_heldRelation_ok (hS.rdAt (R := (sliceR (sliceR intR 3) 26)) 0 rfl) hr198) (congrArg List.toArray (mapc rfl (mapc rfl rfl))) (by decide) ?_
              rintro _ w199 ⟨rfl, hx200⟩
              refine ⟨_, rfl, ?_⟩
              replace hS := hS.ext hx200
              refine el_pv (v := .int .i64 r198) (pv_assign rfl) (by decide) ?_
              refine el_nil ?_
              refine hQ197 _ _ _ ?_
              refine thn_n ?_
              refine cw_seq ?_
              refine cw_gen ?_
              intro Q201 hQ201
              refine cw_seq ?_
              refine cw_gen ?_
              intro Q202 hQ202
              refine cw_reg ?_
              refine el_pv (v := .int .i64 r198) (pv_move rfl) (by decide) ?_
              refine el_pv (v := .bool (decide (r198 < 0))) (pv_lss rfl rfl) (by decide) ?_
              refine el_nil ?_
              refine hQ202 _ _ _ ?_
              refine thn_n ?_
              replace hF := oif hF
              rcases hF with ⟨hb203, hF⟩ | ⟨hb203, hF⟩
              · refine cw_cond_t rfl hb203 ?_
                refine cw_seq ?_
                refine cw_gen ?_
                intro Q204 hQ204
                replace hS : Sat w0 w199 [] := hS.rems 5 [0, 1, 2, 3, 4] rfl
                refine cw_reg ?_
                refine el_pv (v := .bool false) (pv_assign rfl) (by decide) ?_
                refine el_nil ?_
                refine hQ204 _ _ _ ?_
                refine thn_n ?_
                refine cw_ret ?_
                refine hQ201 _ _ _ ?_
                refine thn_r ?_
                refine fin1 rfl rfl ?_
                have hr := Option.some.inj hF
                exact ⟨congrArg (fun (r : Bool) => Ending.returned (.bool r)) hr, hS.below⟩
              · refine cw_cond_f rfl hb203 ?_
                refine cw_skip ?_
                refine hQ201 _ _ _ ?_
                refine thn_n ?_
                refine cw_seq ?_
                refine cw_gen ?_
                intro Q205 hQ205
                refine cw_seq ?_
                refine cw_gen ?_
                intro Q206 hQ206
                refine cw_reg ?_
                refine el_pv (v := .int .i64 r198) (pv_move rfl) (by decide) ?_
                refine el_pv (v := .int .i64 r194.1) (pv_move rfl) (by decide) ?_
                refine el_pv (v := .bool (r198 != r194.1)) (pv_neq rfl rfl) (by decide) ?_
                refine el_nil ?_
                refine hQ206 _ _ _ ?_
                refine thn_n ?_
                replace hF := oif hF
                rcases hF with ⟨hb207, hF⟩ | ⟨hb207, hF⟩
                · refine cw_cond_t rfl hb207 ?_
                  refine cw_seq ?_
                  refine cw_gen ?_
                  intro Q208 hQ208
                  replace hS : Sat w0 w199 [] := hS.rems 5 [0, 1, 2, 3, 4] rfl
                  refine cw_reg ?_
                  refine el_pv (v := .bool false) (pv_assign rfl) (by decide) ?_
                  refine el_nil ?_
                  refine hQ208 _ _ _ ?_
                  refine thn_n ?_
                  refine cw_ret ?_
                  refine hQ205 _ _ _ ?_
                  refine thn_r ?_
                  refine fin1 rfl rfl ?_
                  have hr := Option.some.inj hF
                  exact ⟨congrArg (fun (r : Bool) => Ending.returned (.bool r)) hr, hS.below⟩
                · refine cw_cond_f rfl hb207 ?_
                  refine cw_skip ?_
                  refine hQ205 _ _ _ ?_
                  refine thn_n ?_
                  refine cw_seq ?_
                  refine cw_gen ?_
                  intro Q209 hQ209
                  refine cw_reg ?_
                  refine el_pv (v := .agg #[u0, u1]) (pv_loada (cs := [u0, u1]) rfl rfl (boxc0 (hS.boxAt 1 rfl))) (by decide) ?_
                  replace hF := ob hF
                  obtain ⟨r210, hr210, hF⟩ := hF
                  refine el_call goes28 (laws_toFactorization_ok (hS.up ha0) (hS.up ha1) hr210) (congrArg List.toArray (mapc rfl rfl)) (by decide) ?_
                  rintro _ w215 ⟨v211, v212, rfl, hS'⟩
                  refine ⟨_, rfl, ?_⟩
                  have hx216 := hS'.below
                  replace hS := hS.call2 hS'
                  replace hF := ob hF
                  obtain ⟨r217, hr217, hF⟩ := hF
                  refine el_call goes23 (impl_ExpandFactorization_ok (hS.rdAt (R := (sliceR intR 3)) 0 rfl) (hS.rdAt (R := (sliceR (pairR (sliceR intR 3) (sliceR intR 3)) 84)) 1 rfl) hr217) (congrArg List.toArray (mapc rfl rfl)) (by decide) ?_
                  rintro _ w220 ⟨v218, rfl, hS'⟩
                  refine ⟨_, rfl, ?_⟩
                  have hx221 := hS'.below
                  replace hS := hS.call1 hS'
                  refine el_pv (v := .tuple #[.agg #[.int .i64 r217.1.1, v218], .bool r217.2]) (pv_move rfl) (by decide) ?_
                  refine el_pv (v := .agg #[.int .i64 r217.1.1, v218]) (pv_extract rfl rfl) (by decide) ?_
                  refine el_pv (v := .bool r217.2) (pv_extract rfl rfl) (by decide) ?_
                  refine el_alloc hS (by decide) ?_
                  intro w222 b223 hS hx224
                  refine el_storev (hS.top 0 rfl) rfl [.int .i64 r217.1.1, v218] rfl rfl (of_decide_eq_true rfl) (all_cons rfl (all_cons (oc (hS.rdAt (R := (sliceR (sliceR intR 3) 26)) 1 rfl)) rfl)) ?_
                  intro w226 hS
                  replace hS : Sat w0 w226 [Box b223 32 [.int .i64 r217.1.1, v218], Own (sliceR (sliceR intR 3) 26) [v218] r217.1.2, Own (sliceR intR 3) [v211] r210.1, Own (sliceR (pairR (sliceR intR 3) (sliceR intR 3)) 84) [v212] r210.2, Own (sliceR (sliceR intR 3) 26) [v148] r194.2, Box b103 49 [u0, u1], Box b153 32 [.int .i64 r147.1.1, v148], Box b129 32 [.int .i64 r123.1.1, v124], Own (sliceR (sliceR intR 3) 26) [v124] r123.1.2] := hS
                  refine el_pv (v := .bool r217.2) (pv_assign rfl) (by decide) ?_
                  refine el_nil ?_
                  refine hQ209 _ _ _ ?_
                  refine thn_n ?_
                  refine cw_seq ?_
                  refine cw_gen ?_
                  intro Q227 hQ227
                  refine cw_seq ?_
                  refine cw_gen ?_
                  intro Q228 hQ228
                  replace hS : Sat w0 w226 [Box b223 32 [.int .i64 r217.1.1, v218], Own (sliceR (sliceR intR 3) 26) [v218] r217.1.2, Own (sliceR (sliceR intR 3) 26) [v148] r194.2, Box b153 32 [.int .i64 r147.1.1, v148], Box b129 32 [.int .i64 r123.1.1, v124], Own (sliceR (sliceR intR 3) 26) [v124] r123.1.2] := hS.rems 9 [2, 3, 5] rfl
                  refine cw_reg ?_
                  refine el_pv (v := .agg #[.int .i64 r217.1.1, v218]) (pv_loada (cs := [.int .i64 r217.1.1, v218]) rfl rfl (boxc0 (hS.boxAt 0 rfl))) (by decide) ?_
                  refine el_pv (v := .agg #[.int .i64 r123.1.1, v124]) (pv_loada (cs := [.int .i64 r123.1.1, v124]) rfl rfl (boxc0 (hS.boxAt 4 rfl))) (by decide) ?_
                  replace hF := ob hF
                  obtain ⟨r229, hr229, hF⟩ := hF
                  refine el_call goes14 (laws_eqRelation_ok (hS.rdAt (R := (sliceR (sliceR intR 3) 26)) 1 rfl) (hS.rdAt (R := (sliceR (sliceR intR 3) 26)) 5 rfl) hr229) (congrArg List.toArray (mapc rfl (mapc rfl rfl))) (by decide) ?_
                  rintro _ w230 ⟨rfl, hx231⟩
                  refine ⟨_, rfl, ?_⟩
                  replace hS := hS.ext hx231
                  refine el_pv (v := .bool (!r229)) (pv_not rfl) (by decide) ?_
                  refine el_pv (v := .bool (!r229)) (pv_move rfl) (by decide) ?_
                  replace hF := oif hF
                  rcases hF with ⟨hb232, hF⟩ | ⟨hb232, hF⟩
                  · refine el_on rfl (bnot_t hb232) ?_
                    refine el_pv (v := .bool r217.2) (pv_move rfl) (by decide) ?_
                    refine el_on rfl (bnot_t hb232) ?_
                    refine el_pv (v := .bool r123.2) (pv_move rfl) (by decide) ?_
                    refine el_on rfl (bnot_t hb232) ?_
                    refine el_pv (v := .bool (r217.2 != r123.2)) (pv_neqB Try.underlying4 rfl rfl) (by decide) ?_
                    refine el_pv (v := .bool (r217.2 != r123.2)) (pv_pick_f rfl (bnot_t hb232) rfl) (by decide) ?_
                    refine el_nil ?_
                    refine hQ228 _ _ _ ?_
                    refine thn_n ?_
                    replace hF := oif hF
                    rcases hF with ⟨hb233, hF⟩ | ⟨hb233, hF⟩
                    · refine cw_cond_t rfl hb233 ?_
                      refine cw_seq ?_
                      refine cw_gen ?_
                      intro Q234 hQ234
                      replace hS : Sat w0 w230 [] := hS.rems 6 [0, 1, 2, 3, 4, 5] rfl
                      refine cw_reg ?_
                      refine el_pv (v := .bool false) (pv_assign rfl) (by decide) ?_
                      refine el_nil ?_
                      refine hQ234 _ _ _ ?_
                      refine thn_n ?_
                      refine cw_ret ?_
                      refine hQ227 _ _ _ ?_
                      refine thn_r ?_
                      refine fin1 rfl rfl ?_
                      have hr := Option.some.inj hF
                      exact ⟨congrArg (fun (r : Bool) => Ending.returned (.bool r)) hr, hS.below⟩
                    · refine cw_cond_f rfl hb233 ?_
                      refine cw_skip ?_
                      refine hQ227 _ _ _ ?_
                      refine thn_n ?_
                      refine cw_seq ?_
                      refine cw_gen ?_
                      intro Q235 hQ235
                      replace hS : Sat w0 w230 [Own (sliceR (sliceR intR 3) 26) [v148] r194.2, Box b153 32 [.int .i64 r147.1.1, v148]] := hS.rems 6 [0, 1, 4, 5] rfl
                      refine cw_reg ?_
                      refine el_pv (v := .int .i64 1) (pv_assign rfl) (by decide) ?_
                      refine el_nil ?_
                      refine hQ235 _ _ _ ?_
                      refine thn_n ?_
                      refine cw_seq ?_
                      refine cw_gen ?_
                      intro Q236 hQ236
                      refine cw_reg ?_
                      refine el_pv (v := .agg #[.int .i64 r147.1.1, v148]) (pv_loada (cs := [.int .i64 r147.1.1, v148]) rfl rfl (boxc0 (hS.boxAt 1 rfl))) (by decide) ?_
                      refine el_pv (v := .int .i64 1) (pv_move rfl) (by decide) ?_
                      replace hF := ob hF
                      obtain ⟨r237, hr237, hF⟩ := hF
                      refine el_call goes29 (laws_heldRelation_ok (hS.rdAt (R := (sliceR (sliceR intR 3) 26)) 0 rfl) hr237) (congrArg List.toArray (mapc rfl (mapc rfl rfl))) (by decide) ?_
                      rintro _ w238 ⟨rfl, hx239⟩
                      refine ⟨_, rfl, ?_⟩
                      replace hS := hS.ext hx239
                      refine el_pv (v := .int .i64 r237) (pv_assign rfl) (by decide) ?_
                      refine el_nil ?_
                      refine hQ236 _ _ _ ?_
                      refine thn_n ?_
                      refine cw_seq ?_
                      refine cw_gen ?_
                      intro Q240 hQ240
                      refine cw_seq ?_
                      refine cw_gen ?_
                      intro Q241 hQ241
                      replace hS : Sat w0 w238 [] := hS.rems 2 [0, 1] rfl
                      refine cw_reg ?_
                      refine el_pv (v := .int .i64 r237) (pv_move rfl) (by decide) ?_
                      refine el_pv (v := .bool (decide (r237 < 0))) (pv_lss rfl rfl) (by decide) ?_
                      refine el_nil ?_
                      refine hQ241 _ _ _ ?_
                      refine thn_n ?_
                      replace hF := oif hF
                      rcases hF with ⟨hb242, hF⟩ | ⟨hb242, hF⟩
                      · refine cw_cond_t rfl hb242 ?_
                        refine cw_seq ?_
                        refine cw_gen ?_
                        intro Q243 hQ243
                        refine cw_reg ?_
                        refine el_pv (v := .bool false) (pv_assign rfl) (by decide) ?_
                        refine el_nil ?_
                        refine hQ243 _ _ _ ?_
                        refine thn_n ?_
                        refine cw_ret ?_
                        refine hQ240 _ _ _ ?_
                        refine thn_r ?_
                        refine fin1 rfl rfl ?_
                        have hr := Option.some.inj hF
                        exact ⟨congrArg (fun (r : Bool) => Ending.returned (.bool r)) hr, hS.below⟩
                      · refine cw_cond_f rfl hb242 ?_
                        refine cw_skip ?_
                        refine hQ240 _ _ _ ?_
                        refine thn_n ?_
                        refine cw_seq ?_
                        refine cw_gen ?_
                        intro Q244 hQ244
                        refine cw_seq ?_
                        refine cw_gen ?_
                        intro Q245 hQ245
                        refine cw_reg ?_
                        refine el_pv (v := .int .i64 r237) (pv_move rfl) (by decide) ?_
                        refine el_pv (v := .int .i64 r194.1) (pv_move rfl) (by decide) ?_
                        refine el_pv (v := .bool (r237 != r194.1)) (pv_neq rfl rfl) (by decide) ?_
                        refine el_nil ?_
                        refine hQ245 _ _ _ ?_
                        refine thn_n ?_
                        replace hF := oif hF
                        rcases hF with ⟨hb246, hF⟩ | ⟨hb246, hF⟩
                        · refine cw_cond_t rfl hb246 ?_
                          refine cw_seq ?_
                          refine cw_gen ?_
                          intro Q247 hQ247
                          refine cw_reg ?_
                          refine el_pv (v := .bool false) (pv_assign rfl) (by decide) ?_
                          refine el_nil ?_
                          refine hQ247 _ _ _ ?_
                          refine thn_n ?_
                          refine cw_ret ?_
                          refine hQ244 _ _ _ ?_
                          refine thn_r ?_
                          refine fin1 rfl rfl ?_
                          have hr := Option.some.inj hF
                          exact ⟨congrArg (fun (r : Bool) => Ending.returned (.bool r)) hr, hS.below⟩
                        · refine cw_cond_f rfl hb246 ?_
                          refine cw_skip ?_
                          refine hQ244 _ _ _ ?_
                          refine thn_n ?_
                          refine cw_seq ?_
                          refine cw_gen ?_
                          intro Q248 hQ248
                          refine cw_reg ?_
                          refine el_pv (v := .bool true) (pv_assign rfl) (by decide) ?_
                          refine el_nil ?_
                          refine hQ248 _ _ _ ?_
                          refine thn_n ?_
                          refine cw_ret ?_
                          refine fin1 rfl rfl ?_
                          have hr := Option.some.inj hF
                          exact ⟨congrArg (fun (r : Bool) => Ending.returned (.bool r)) hr, hS.below⟩
                  · refine el_off rfl (bnot_f hb232) rfl (by decide) ?_
                    refine el_off rfl (bnot_f hb232) rfl (by decide) ?_
                    refine el_off rfl (bnot_f hb232) rfl (by decide) ?_
                    refine el_pv (v := .bool true) (pv_pick_t rfl (bnot_f hb232) rfl) (by decide) ?_
                    refine el_nil ?_
                    refine hQ228 _ _ _ ?_
                    refine thn_n ?_
                    refine cw_cond_t rfl rfl ?_
                    refine cw_seq ?_
                    refine cw_gen ?_
                    intro Q249 hQ249
                    replace hS : Sat w0 w230 [] := hS.rems 6 [0, 1, 2, 3, 4, 5] rfl
                    refine cw_reg ?_
                    refine el_pv (v := .bool false) (pv_assign rfl) (by decide) ?_
                    refine el_nil ?_
                    refine hQ249 _ _ _ ?_
                    refine thn_n ?_
                    refine cw_ret ?_
                    refine hQ227 _ _ _ ?_
                    refine thn_r ?_
                    refine fin1 rfl rfl ?_
                    have hr := Option.some.inj hF
                    exact ⟨congrArg (fun (r : Bool) => Ending.returned (.bool r)) hr, hS.below⟩
            · refine el_off rfl (bnot_f hb191) rfl (by decide) ?_
              refine el_off rfl (bnot_f hb191) rfl (by decide) ?_
              refine el_off rfl (bnot_f hb191) rfl (by decide) ?_
              refine el_pv (v := .bool true) (pv_pick_t rfl (bnot_f hb191) rfl) (by decide) ?_
              refine el_nil ?_
              refine hQ185 _ _ _ ?_
              refine thn_n ?_
              refine cw_cond_t rfl rfl ?_
              refine cw_seq ?_
              refine cw_gen ?_
              intro Q250 hQ250
              replace hS : Sat w0 w189 [] := hS.rems 5 [0, 1, 2, 3, 4] rfl
              refine cw_reg ?_
              refine el_pv (v := .bool false) (pv_assign rfl) (by decide) ?_
              refine el_nil ?_
              refine hQ250 _ _ _ ?_
              refine thn_n ?_
              refine cw_ret ?_
              refine hQ184 _ _ _ ?_
              refine thn_r ?_
              refine fin1 rfl rfl ?_
              have hr := Option.some.inj hF
              exact ⟨congrArg (fun (r : Bool) => Ending.returned (.bool r)) hr, hS.below⟩
        · refine cw_cond_t rfl (bnot_f hb179) ?_
          refine cw_seq ?_
          refine cw_gen ?_
          intro Q251 hQ251
          replace hS : Sat w0 w177 [] := hS.rems 10 [0, 1, 2, 3, 4, 5, 6, 7, 8, 9] rfl
          refine cw_reg ?_
          refine el_pv (v := .bool false) (pv_assign rfl) (by decide) ?_
          refine el_nil ?_
          refine hQ251 _ _ _ ?_
          refine thn_n ?_
          refine cw_ret ?_
          refine hQ165 _ _ _ ?_
          refine thn_r ?_
          refine fin1 rfl rfl ?_
          have hr := Option.some.inj hF
          exact ⟨congrArg (fun (r : Bool) => Ending.returned (.bool r)) hr, hS.below⟩
    · refine el_off rfl (bnot_f hb162) rfl (by decide) ?_
      refine el_off rfl (bnot_f hb162) rfl (by decide) ?_
      refine el_off rfl (bnot_f hb162) rfl (by decide) ?_
      refine el_pv (v := .bool true) (pv_pick_t rfl (bnot_f hb162) rfl) (by decide) ?_
      refine el_nil ?_
      refine hQ158 _ _ _ ?_
      refine thn_n ?_
      refine cw_cond_t rfl rfl ?_
      refine cw_seq ?_
      refine cw_gen ?_
      intro Q252 hQ252
      replace hS : Sat w0 w160 [] := hS.rems 8 [0, 1, 2, 3, 4, 5, 6, 7] rfl
      refine cw_reg ?_
      refine el_pv (v := .bool false) (pv_assign rfl) (by decide) ?_
      refine el_nil ?_
      refine hQ252 _ _ _ ?_
      refine thn_n ?_
      refine cw_ret ?_
      refine hQ157 _ _ _ ?_
      refine thn_r ?_
      refine fin1 rfl rfl ?_
      have hr := Option.some.inj hF
      exact ⟨congrArg (fun (r : Bool) => Ending.returned (.bool r)) hr, hS.below⟩
set_option maxHeartbeats 4000000 in
theorem laws_szIntSS_ok {w0 : World} {u0 : Value} {a0 : List (List Int)} {a1 : Int} (ha0 : (sliceR (sliceR intR 3) 26).rd w0 [u0] a0) {N : Nat} {r : Int} (hF : laws_szIntSS N a0 a1 = some r) :
    Calls Try.prog 44 #[u0, .int .i64 a1] w0 fun e w' => e = .returned (.int .i64 r) ∧ Ext w0 w' := by
  unfold laws_szIntSS at hF
  refine calls_E Try.func44 rfl rfl (of_decide_eq_true rfl) ?_
  have hS := Sat.start w0
  refine cw_seq ?_
  refine cw_gen ?_
  intro Q101 hQ101
  refine cw_reg ?_
  refine el_pv (v := .int .i64 0) (pv_assign rfl) (by decide) ?_
  refine el_nil ?_
  refine hQ101 _ _ _ ?_
  refine thn_n ?_
  refine cw_seq ?_
  refine cw_gen ?_
  intro Q102 hQ102
  refine cw_reg ?_
  refine el_pv (v := .int .i64 a1) (pv_move rfl) (by decide) ?_
  refine el_pv (v := u0) (pv_move rfl) (by decide) ?_
  refine el_pv (v := .int .i64 (a0.length : Int)) (pv_len rfl ha0) (by decide) ?_
  replace hF := ob hF
  obtain ⟨x103, hx103, hF⟩ := hF
  refine el_pv (v := .int .i64 x103) (pv_sub rfl rfl hx103) (by decide) ?_
  refine el_pv (v := .int .i64 x103) (pv_assign rfl) (by decide) ?_
  refine el_nil ?_
  refine hQ102 _ _ _ ?_
  refine thn_n ?_
  refine cw_seq ?_
  refine cw_gen ?_
  intro Q104 hQ104
  refine cw_seq ?_
  refine cw_gen ?_
  intro Q105 hQ105
  refine cw_reg ?_
  refine el_pv (v := .int .i64 x103) (pv_move rfl) (by decide) ?_
  refine el_pv (v := .bool (decide (x103 < 0))) (pv_lss rfl rfl) (by decide) ?_
  refine el_nil ?_
  refine hQ105 _ _ _ ?_
  refine thn_n ?_
  replace hF := oif hF
  rcases hF with ⟨hb106, hF⟩ | ⟨hb106, hF⟩
  · refine cw_cond_t rfl hb106 ?_
    refine cw_seq ?_
    refine cw_gen ?_
    intro Q107 hQ107
    refine cw_reg ?_
    refine el_pv (v := .int .i64 (-1)) (pv_assign rfl) (by decide) ?_
    refine el_nil ?_
    refine hQ107 _ _ _ ?_
    refine thn_n ?_
    refine cw_ret ?_
    refine hQ104 _ _ _ ?_
    refine thn_r ?_
    refine fin1 rfl rfl ?_
    have hr := Option.some.inj hF
    exact ⟨congrArg (fun (r : Int) => Ending.returned (.int .i64 r)) hr, hS.below⟩
  · refine cw_cond_f rfl hb106 ?_
    refine cw_skip ?_
    refine hQ104 _ _ _ ?_
    refine thn_n ?_
    refine cw_seq ?_
    refine cw_gen ?_
    intro Q108 hQ108
    refine cw_seq ?_
    refine cw_gen ?_
    intro Q109 hQ109
    refine cw_reg ?_
    refine el_pv (v := .int .i64 0) (pv_assign rfl) (by decide) ?_
    refine el_nil ?_
    refine hQ109 _ _ _ ?_
    refine thn_n ?_
    refine cw_block ?_
    refine cw_gen ?_
    intro Q110 hQ110
    obtain ⟨s111, hL, hK112⟩ := ob hF
    refine cw_loopS (fun k e w => ∃ (x113 : Int), ∃ (x114 : Int), e 0 = u0 ∧ e 1 = .int .i64 x113 ∧ e 5 = .int .i64 x114 ∧ Sat w0 w [] ∧ laws_szIntSS_L1 N k a0 x113 x114 = some s111) N ?_ ?_ ?_
    · exact ⟨x103, 0, rfl, rfl, rfl, hS, hL⟩
    · rintro e w ⟨_, _, _, _, _, _, hz⟩; exact nomatch (show none = some _ from hz)
    · rintro k e119 w118 ⟨x113, x114, he115, he116, he117, hS, hF⟩
      refine cw_gen ?_
      intro Q120 hQ120
      refine cw_seq ?_
      refine cw_gen ?_
      intro Q121 hQ121
      refine cw_seq ?_
      refine cw_gen ?_
      intro Q122 hQ122
      refine cw_reg ?_
      refine el_pv (v := .int .i64 x114) (pv_move he117) (by decide) ?_
      refine el_pv (v := u0) (pv_move he115) (by decide) ?_
      refine el_pv (v := .int .i64 (a0.length : Int)) (pv_len rfl ha0) (by decide) ?_
      refine el_pv (v := .bool (decide (x114 < (a0.length : Int)))) (pv_lss rfl rfl) (by decide) ?_
      refine el_nil ?_
      refine hQ122 _ _ _ ?_
      refine thn_n ?_
      replace hF := oif hF
      rcases hF with ⟨hb123, hF⟩ | ⟨hb123, hF⟩
      · refine cw_cond_t rfl hb123 ?_
        refine cw_skip ?_
        refine hQ121 _ _ _ ?_
        refine thn_n ?_
        refine cw_seq ?_
        refine cw_gen ?_
        intro Q124 hQ124
        refine cw_block ?_
        refine cw_gen ?_
        intro Q125 hQ125
        refine cw_seq ?_
        refine cw_gen ?_
        intro Q126 hQ126
        refine cw_reg ?_
        refine el_pv (v := u0) (pv_move he115) (by decide) ?_
        refine el_pv (v := .int .i64 x114) (pv_move he117) (by decide) ?_
        replace hF := ob hF
        obtain ⟨x127, hx127, hF⟩ := hF
        refine el_index (wA := w0) rfl ha0 rfl (by decide) rfl hx127 (by decide) ?_
        intro b128 of129 c130 hr131 hm132
        obtain ⟨v133, rfl⟩ := slice_one hr131
        refine el_pv (v := v133) (pv_loadc rfl ((cells_up hS.below hm132) 0 _ rfl)) (by decide) ?_
        refine el_pv (v := .int .i64 x113) (pv_move he116) (by decide) ?_
        replace hF := ob hF
        obtain ⟨r134, hr134, hF⟩ := hF
        refine el_call goes69 (laws_szIntS_ok (hS.up hr131) hr134) (congrArg List.toArray (mapc rfl (mapc rfl rfl))) (by decide) ?_
        rintro _ w135 ⟨rfl, hx136⟩
        refine ⟨_, rfl, ?_⟩
        replace hS := hS.ext hx136
        refine el_pv (v := .int .i64 r134) (pv_assign rfl) (by decide) ?_
        refine el_nil ?_
        refine hQ126 _ _ _ ?_
        refine thn_n ?_
        refine cw_seq ?_
        refine cw_gen ?_
        intro Q137 hQ137
        refine cw_reg ?_
        refine el_pv (v := .int .i64 r134) (pv_move rfl) (by decide) ?_
        refine el_pv (v := .bool (decide (r134 < 0))) (pv_lss rfl rfl) (by decide) ?_
        refine el_nil ?_
        refine hQ137 _ _ _ ?_
        refine thn_n ?_
        replace hF := oif hF
        rcases hF with ⟨hb138, hF⟩ | ⟨hb138, hF⟩
        · refine cw_cond_t rfl hb138 ?_
          refine cw_seq ?_
          refine cw_gen ?_
          intro Q139 hQ139
          refine cw_reg ?_
          refine el_pv (v := .int .i64 (-1)) (pv_assign rfl) (by decide) ?_
          refine el_nil ?_
          refine hQ139 _ _ _ ?_
          refine thn_n ?_
          refine cw_ret ?_
          refine hQ125 _ _ _ ?_
          refine inb_r ?_
          refine hQ124 _ _ _ ?_
          refine thn_r ?_
          refine hQ120 _ _ _ ?_
          refine thn_r ?_
          refine hQ110 _ _ _ ?_
          refine inb_r ?_
          refine hQ108 _ _ _ ?_
          refine thn_r ?_
          replace hF := exL hF hK112
          refine fin1 rfl rfl ?_
          have hr := Option.some.inj hF
          exact ⟨congrArg (fun (r : Int) => Ending.returned (.int .i64 r)) hr, hS.below⟩
        · refine cw_cond_f rfl hb138 ?_
          refine cw_skip ?_
          refine hQ125 _ _ _ ?_
          refine inb_n ?_
          refine hQ124 _ _ _ ?_
          refine thn_n ?_
          refine cw_reg ?_
          refine el_pv (v := .int .i64 x114) (pv_move he117) (by decide) ?_
          replace hF := ob hF
          obtain ⟨x140, hx140, hF⟩ := hF
          refine el_pv (v := .int .i64 x140) (pv_add rfl rfl hx140) (by decide) ?_
          refine el_pv (v := .int .i64 x140) (pv_assign rfl) (by decide) ?_
          refine el_nil ?_
          refine hQ120 _ _ _ ?_
          refine thn_n ?_
          replace hS := hS.keep 0
          exact ⟨r134, x140, he115, rfl, rfl, hS, hF⟩
      · refine cw_cond_f rfl hb123 ?_
        refine cw_exit ?_
        refine hQ121 _ _ _ ?_
        refine thn_x ?_
        refine hQ120 _ _ _ ?_
        refine thn_x ?_
        replace hF := exA hF hK112
        refine hQ110 _ _ _ ?_
        refine inb_s ?_
        refine hQ108 _ _ _ ?_
        refine thn_n ?_
        refine cw_seq ?_
        refine cw_gen ?_
        intro Q141 hQ141
        refine cw_reg ?_
        refine el_pv (v := .int .i64 x113) (pv_move he116) (by decide) ?_
        refine el_pv (v := .int .i64 x113) (pv_assign rfl) (by decide) ?_
        refine el_nil ?_
        refine hQ141 _ _ _ ?_
        refine thn_n ?_
        refine cw_ret ?_
        refine fin1 rfl rfl ?_
        have hr := Option.some.inj hF
        exact ⟨congrArg (fun (r : Int) => Ending.returned (.int .i64 r)) hr, hS.below⟩
set_option maxHeartbeats 4000000 in
theorem laws_szRelation_ok {w0 : World} {a0 : Int} {u1 : Value} {a1 : List (List Int)} {a2 : Int} (ha1 : (sliceR (sliceR intR 3) 26).rd w0 [u1] a1) {N : Nat} {r : Int} (hF : laws_szRelation N a0 a1 a2 = some r) :
    Calls Try.prog 9 #[.agg #[.int .i64 a0, u1], .int .i64 a2] w0 fun e w' => e = .returned (.int .i64 r) ∧ Ext w0 w' := by
  unfold laws_szRelation at hF
  refine calls_E Try.func9 rfl rfl (of_decide_eq_true rfl) ?_
  have hS := Sat.start w0
  refine cw_seq ?_
  refine cw_gen ?_
  intro Q101 hQ101
  refine cw_reg ?_
  refine el_box [.int .i64 a0, u1] rfl hS (by decide) ?_
  intro w102 b103 hS hx104
  refine el_pv (v := .int .i64 0) (pv_assign rfl) (by decide) ?_
  refine el_nil ?_
  refine hQ101 _ _ _ ?_
  refine thn_n ?_
  refine cw_seq ?_
  refine cw_gen ?_
  intro Q106 hQ106
  refine cw_reg ?_
  refine el_pv (v := .pointer (some ⟨b103, 0 + 1, none⟩)) (pv_fieldAddr rfl) (by decide) ?_
  refine el_pv (v := u1) (pv_loadc rfl ((hS.boxAt 0 rfl) 1 _ rfl)) (by decide) ?_
  refine el_pv (v := .int .i64 a2) (pv_move rfl) (by decide) ?_
  replace hF := ob hF
  obtain ⟨r107, hr107, hF⟩ := hF
  refine el_call goes44 (laws_szIntSS_ok (hS.up ha1) hr107) (congrArg List.toArray (mapc rfl (mapc rfl rfl))) (by decide) ?_
  rintro _ w108 ⟨rfl, hx109⟩
  refine ⟨_, rfl, ?_⟩
  replace hS := hS.ext hx109
  refine el_pv (v := .int .i64 r107) (pv_assign rfl) (by decide) ?_
  refine el_nil ?_
  refine hQ106 _ _ _ ?_
  refine thn_n ?_
  refine cw_seq ?_
  refine cw_gen ?_
  intro Q110 hQ110
  refine cw_seq ?_
  refine cw_gen ?_
  intro Q111 hQ111
  replace hS : Sat w0 w108 [] := hS.rems 1 [0] rfl
  refine cw_reg ?_
  refine el_pv (v := .int .i64 r107) (pv_move rfl) (by decide) ?_
  refine el_pv (v := .bool (decide (r107 < 0))) (pv_lss rfl rfl) (by decide) ?_
  refine el_nil ?_
  refine hQ111 _ _ _ ?_
  refine thn_n ?_
  replace hF := oif hF
  rcases hF with ⟨hb112, hF⟩ | ⟨hb112, hF⟩
  · refine cw_cond_t rfl hb112 ?_
    refine cw_seq ?_
    refine cw_gen ?_
    intro Q113 hQ113
    refine cw_reg ?_
    refine el_pv (v := .int .i64 (-1)) (pv_assign rfl) (by decide) ?_
    refine el_nil ?_
    refine hQ113 _ _ _ ?_
    refine thn_n ?_
    refine cw_ret ?_
    refine hQ110 _ _ _ ?_
    refine thn_r ?_
    refine fin1 rfl rfl ?_
    have hr := Option.some.inj hF
    exact ⟨congrArg (fun (r : Int) => Ending.returned (.int .i64 r)) hr, hS.below⟩
  · refine cw_cond_f rfl hb112 ?_
    refine cw_skip ?_
    refine hQ110 _ _ _ ?_
    refine thn_n ?_
    refine cw_seq ?_
    refine cw_gen ?_
    intro Q114 hQ114
    refine cw_reg ?_
    refine el_pv (v := .int .i64 r107) (pv_move rfl) (by decide) ?_
    refine el_pv (v := .int .i64 r107) (pv_assign rfl) (by decide) ?_
    refine el_nil ?_
    refine hQ114 _ _ _ ?_
    refine thn_n ?_
    refine cw_ret ?_
    refine fin1 rfl rfl ?_
    have hr := Option.some.inj hF
    exact ⟨congrArg (fun (r : Int) => Ending.returned (.int .i64 r)) hr, hS.below⟩
set_option maxHeartbeats 4000000 in
theorem spec_IsValidRelation_ok {w0 : World} {a0 : Int} {u1 : Value} {a1 : List (List Int)} (ha1 : (sliceR (sliceR intR 3) 26).rd w0 [u1] a1) {N : Nat} {r : Bool} (hF : spec_IsValidRelation N a0 a1 = some r) :
    Calls Try.prog 20 #[.agg #[.int .i64 a0, u1]] w0 fun e w' => e = .returned (.bool r) ∧ Ext w0 w' := by
  unfold spec_IsValidRelation at hF
  refine calls_E Try.func20 rfl rfl (of_decide_eq_true rfl) ?_
  have hS := Sat.start w0
  refine cw_seq ?_
  refine cw_gen ?_
  intro Q101 hQ101
  refine cw_reg ?_
  refine el_box [.int .i64 a0, u1] rfl hS (by decide) ?_
  intro w102 b103 hS hx104
  refine el_pv (v := .bool false) (pv_assign rfl) (by decide) ?_
  refine el_nil ?_
  refine hQ101 _ _ _ ?_
  refine thn_n ?_
  refine cw_seq ?_
  refine cw_gen ?_
  intro Q106 hQ106
  refine cw_seq ?_
  refine cw_gen ?_
  intro Q107 hQ107
  refine cw_reg ?_
  refine el_pv (v := .pointer (some ⟨b103, 0 + 0, none⟩)) (pv_fieldAddr rfl) (by decide) ?_
  refine el_pv (v := .int .i64 a0) (pv_loadc rfl ((hS.boxAt 0 rfl) 0 _ rfl)) (by decide) ?_
  replace hF := ob hF
  obtain ⟨r108, hr108, hF⟩ := hF
  refine el_call goes58 (spec_l1In_ok hr108) (congrArg List.toArray (mapc rfl (mapc rfl (mapc rfl rfl)))) (by decide) ?_
  rintro _ w109 ⟨rfl, hx110⟩
  refine ⟨_, rfl, ?_⟩
  replace hS := hS.ext hx110
  refine el_pv (v := .bool (!r108)) (pv_not rfl) (by decide) ?_
  refine el_pv (v := .bool (!r108)) (pv_move rfl) (by decide) ?_
  replace hF := oif hF
  rcases hF with ⟨hb111, hF⟩ | ⟨hb111, hF⟩
  · refine el_on rfl (bnot_t hb111) ?_
    refine el_pv (v := .pointer (some ⟨b103, 0 + 1, none⟩)) (pv_fieldAddr rfl) (by decide) ?_
    refine el_on rfl (bnot_t hb111) ?_
    refine el_pv (v := u1) (pv_loadc rfl ((hS.boxAt 0 rfl) 1 _ rfl)) (by decide) ?_
    refine el_on rfl (bnot_t hb111) ?_
    refine el_pv (v := .int .i64 (a1.length : Int)) (pv_len rfl ha1) (by decide) ?_
    refine el_on rfl (bnot_t hb111) ?_
    refine el_pv (v := .bool (decide (4000 < (a1.length : Int)))) (pv_gtr rfl rfl) (by decide) ?_
    refine el_pv (v := .bool (decide (4000 < (a1.length : Int)))) (pv_pick_f rfl (bnot_t hb111) rfl) (by decide) ?_
    refine el_nil ?_
    refine hQ107 _ _ _ ?_
    refine thn_n ?_
    replace hF := oif hF
    rcases hF with ⟨hb112, hF⟩ | ⟨hb112, hF⟩
    · refine cw_cond_t rfl hb112 ?_
      refine cw_seq ?_
      refine cw_gen ?_
      intro Q113 hQ113
      replace hS : Sat w0 w109 [] := hS.rems 1 [0] rfl
      refine cw_reg ?_
      refine el_pv (v := .bool false) (pv_assign rfl) (by decide) ?_
      refine el_nil ?_
      refine hQ113 _ _ _ ?_
      refine thn_n ?_
      refine cw_ret ?_
      refine hQ106 _ _ _ ?_
      refine thn_r ?_
      refine fin1 rfl rfl ?_
      have hr := Option.some.inj hF
      exact ⟨congrArg (fun (r : Bool) => Ending.returned (.bool r)) hr, hS.below⟩
    · refine cw_cond_f rfl hb112 ?_
      refine cw_skip ?_
      refine hQ106 _ _ _ ?_
      refine thn_n ?_
      refine cw_seq ?_
      refine cw_gen ?_
      intro Q114 hQ114
      refine cw_seq ?_
      refine cw_gen ?_
      intro Q115 hQ115
      refine cw_reg ?_
      refine el_pv (v := .int .i64 0) (pv_assign rfl) (by decide) ?_
      refine el_nil ?_
      refine hQ115 _ _ _ ?_
      refine thn_n ?_
      refine cw_block ?_
      refine cw_gen ?_
      intro Q116 hQ116
      obtain ⟨s117, hL, hK118⟩ := ob hF
      refine cw_loopS (fun k e w => ∃ (x119 : Int), e 1 = .pointer (some ⟨b103, 0, none⟩) ∧ e 3 = .int .i64 x119 ∧ Sat w0 w [Box b103 32 [.int .i64 a0, u1]] ∧ spec_IsValidRelation_L1 N k a0 a1 x119 = some s117) N ?_ ?_ ?_
      · exact ⟨0, rfl, rfl, hS, hL⟩
      · rintro e w ⟨_, _, _, _, hz⟩; exact nomatch (show none = some _ from hz)
      · rintro k e123 w122 ⟨x119, he120, he121, hS, hF⟩
        refine cw_gen ?_
        intro Q124 hQ124
        refine cw_seq ?_
        refine cw_gen ?_
        intro Q125 hQ125
        refine cw_seq ?_
        refine cw_gen ?_
        intro Q126 hQ126
        refine cw_reg ?_
        refine el_pv (v := .int .i64 x119) (pv_move he121) (by decide) ?_
        refine el_pv (v := .pointer (some ⟨b103, 0 + 1, none⟩)) (pv_fieldAddr he120) (by decide) ?_
        refine el_pv (v := u1) (pv_loadc rfl ((hS.boxAt 0 rfl) 1 _ rfl)) (by decide) ?_
        refine el_pv (v := .int .i64 (a1.length : Int)) (pv_len rfl ha1) (by decide) ?_
        refine el_pv (v := .bool (decide (x119 < (a1.length : Int)))) (pv_lss rfl rfl) (by decide) ?_
        refine el_nil ?_
        refine hQ126 _ _ _ ?_
        refine thn_n ?_
        replace hF := oif hF
        rcases hF with ⟨hb127, hF⟩ | ⟨hb127, hF⟩
        · refine cw_cond_t rfl hb127 ?_
          refine cw_skip ?_
          refine hQ125 _ _ _ ?_
          refine thn_n ?_
          refine cw_seq ?_
          refine cw_gen ?_
          intro Q128 hQ128
          refine cw_block ?_
          refine cw_gen ?_
          intro Q129 hQ129
          refine cw_seq ?_
          refine cw_gen ?_
          intro Q130 hQ130
          refine cw_regq (by kernel_rfl) (by kernel_rfl) ?_
          refine ql_pv (v := .pointer (some ⟨b103, 0 + 1, none⟩)) (pv_fieldAddr he120) (by decide) ?_
          refine ql_pv (v := u1) (pv_loadc rfl ((hS.boxAt 0 rfl) 1 _ rfl)) (by decide) ?_
          refine ql_pv (v := .int .i64 x119) (pv_move he121) (by decide) ?_
          replace hF := ob hF
          obtain ⟨x131, hx131, hF⟩ := hF
          refine ql_index (wA := w0) rfl ha1 rfl (by decide) rfl hx131 (by decide) ?_
          intro b132 of133 c134 hr135 hm136
          obtain ⟨v137, rfl⟩ := slice_one hr135
          refine ql_pv (v := v137) (pv_loadc rfl ((cells_up hS.below hm136) 0 _ rfl)) (by decide) ?_
          refine ql_pv (v := .int .i64 (x131.length : Int)) (pv_len rfl hr135) (by decide) ?_
          refine ql_pv (v := .pointer (some ⟨b103, 0 + 0, none⟩)) (pv_fieldAddr he120) (by decide) ?_
          refine ql_pv (v := .int .i64 a0) (pv_loadc rfl ((hS.boxAt 0 rfl) 0 _ rfl)) (by decide) ?_
          refine ql_pv (v := .bool ((x131.length : Int) != a0)) (pv_neq rfl rfl) (by decide) ?_
          refine ql_pv (v := .bool ((x131.length : Int) != a0)) (pv_move rfl) (by decide) ?_
          replace hF := oif hF
          rcases hF with ⟨hb138, hF⟩ | ⟨hb138, hF⟩
          · refine ql_off rfl hb138 rfl (by decide) ?_
            refine ql_off rfl hb138 rfl (by decide) ?_
            refine ql_off rfl hb138 rfl (by decide) ?_
            refine ql_off rfl hb138 rfl (by decide) ?_
            refine ql_off rfl hb138 rfl (by decide) ?_
            refine ql_off rfl hb138 rfl (by decide) ?_
            refine ql_off rfl hb138 rfl (by decide) ?_
            refine ql_pv (v := .bool true) (pv_pick_t rfl hb138 rfl) (by decide) ?_
            refine ql_pv (v := .bool true) (pv_move rfl) (by decide) ?_
            refine ql_off rfl rfl rfl (by decide) ?_
            refine ql_off rfl rfl rfl (by decide) ?_
            refine ql_off rfl rfl rfl (by decide) ?_
            refine ql_offu rfl (by decide) ?_
            refine ql_offu rfl (by decide) ?_
            refine ql_offu rfl (by decide) ?_
            refine ql_offu rfl (by decide) ?_
            refine ql_offu rfl (by decide) ?_
            refine ql_offu rfl (by decide) ?_
            refine ql_offu rfl (by decide) ?_
            refine ql_offu rfl (by decide) ?_
            refine ql_offu rfl (by decide) ?_
            refine ql_offu rfl (by decide) ?_
            refine ql_offu rfl (by decide) ?_
            refine ql_offu rfl (by decide) ?_
            refine ql_offu rfl (by decide) ?_
            refine ql_off rfl rfl rfl (by decide) ?_
            refine ql_pv (v := .bool true) (pv_pick_t rfl rfl rfl) (by decide) ?_
            refine ql_nil ?_
            intro w139 hx140
            replace hS := hS.ext hx140
            refine hQ130 _ _ _ ?_
            refine thn_n ?_
            refine cw_cond_t rfl rfl ?_
            refine cw_seq ?_
            refine cw_gen ?_
            intro Q141 hQ141
            replace hS : Sat w0 w139 [] := hS.rems 1 [0] rfl
            refine cw_reg ?_
            refine el_pv (v := .bool false) (pv_assign rfl) (by decide) ?_
            refine el_nil ?_
            refine hQ141 _ _ _ ?_
            refine thn_n ?_
            refine cw_ret ?_
            refine hQ129 _ _ _ ?_
            refine inb_r ?_
            refine hQ128 _ _ _ ?_
            refine thn_r ?_
            refine hQ124 _ _ _ ?_
            refine thn_r ?_
            refine hQ116 _ _ _ ?_
            refine inb_r ?_
            refine hQ114 _ _ _ ?_
            refine thn_r ?_
            replace hF := exL hF hK118
            refine fin1 rfl rfl ?_
            have hr := Option.some.inj hF
            exact ⟨congrArg (fun (r : Bool) => Ending.returned (.bool r)) hr, hS.below⟩
          · refine ql_on rfl hb138 ?_
            refine ql_pv (v := .pointer (some ⟨b103, 0 + 1, none⟩)) (pv_fieldAddr he120) (by decide) ?_
            refine ql_on rfl hb138 ?_
            refine ql_pv (v := u1) (pv_loadc rfl ((hS.boxAt 0 rfl) 1 _ rfl)) (by decide) ?_
            refine ql_on rfl hb138 ?_
            refine ql_pv (v := .int .i64 x119) (pv_move he121) (by decide) ?_
            refine ql_on rfl hb138 ?_
            replace hF := ob hF
            obtain ⟨x142, hx142, hF⟩ := hF
            refine ql_index (wA := w0) rfl ha1 rfl (by decide) rfl hx142 (by decide) ?_
            intro b143 of144 c145 hr146 hm147
            obtain ⟨v148, rfl⟩ := slice_one hr146
            refine ql_on rfl hb138 ?_
            refine ql_pv (v := v148) (pv_loadc rfl ((cells_up hS.below hm147) 0 _ rfl)) (by decide) ?_
            refine ql_on rfl hb138 ?_
            replace hF := ob hF
            obtain ⟨r149, hr149, hF⟩ := hF
            refine ql_call (.bool r149) goes59 (fun w' hw' => spec_AreValidValues_ok (rd_up (hS.up hr146) hw') hr149) (congrArg List.toArray (mapc rfl rfl)) (by decide) ?_
            refine ql_on rfl hb138 ?_
            refine ql_pv (v := .bool (!r149)) (pv_not rfl) (by decide) ?_
            refine ql_pv (v := .bool (!r149)) (pv_pick_f rfl hb138 rfl) (by decide) ?_
            refine ql_pv (v := .bool (!r149)) (pv_move rfl) (by decide) ?_
            replace hF := oif hF
            rcases hF with ⟨hb150, hF⟩ | ⟨hb150, hF⟩
            · refine ql_on rfl (bnot_t hb150) ?_
              refine ql_pv (v := .int .i64 x119) (pv_move he121) (by decide) ?_
              refine ql_on rfl (bnot_t hb150) ?_
              refine ql_pv (v := .bool (decide (0 < x119))) (pv_gtr rfl rfl) (by decide) ?_
              refine ql_on rfl (bnot_t hb150) ?_
              refine ql_pv (v := .bool (decide (0 < x119))) (pv_move rfl) (by decide) ?_
              replace hF := oif hF
              rcases hF with ⟨hb151, hF⟩ | ⟨hb151, hF⟩
              · refine ql_on rfl hb151 ?_
                refine ql_pv (v := .pointer (some ⟨b103, 0 + 1, none⟩)) (pv_fieldAddr he120) (by decide) ?_
                refine ql_on rfl hb151 ?_
                refine ql_pv (v := u1) (pv_loadc rfl ((hS.boxAt 0 rfl) 1 _ rfl)) (by decide) ?_
                refine ql_on rfl hb151 ?_
                refine ql_pv (v := .int .i64 x119) (pv_move he121) (by decide) ?_
                refine ql_on rfl hb151 ?_
                replace hF := ob hF
                obtain ⟨x152, hx152, hF⟩ := hF
                refine ql_pv (v := .int .i64 x152) (pv_sub rfl rfl hx152) (by decide) ?_
                refine ql_on rfl hb151 ?_
                replace hF := ob hF
                obtain ⟨x153, hx153, hF⟩ := hF
                refine ql_index (wA := w0) rfl ha1 rfl (by decide) rfl hx153 (by decide) ?_
                intro b154 of155 c156 hr157 hm158
                obtain ⟨v159, rfl⟩ := slice_one hr157
                refine ql_on rfl hb151 ?_
                refine ql_pv (v := v159) (pv_loadc rfl ((cells_up hS.below hm158) 0 _ rfl)) (by decide) ?_
                refine ql_on rfl hb151 ?_
                refine ql_pv (v := .pointer (some ⟨b103, 0 + 1, none⟩)) (pv_fieldAddr he120) (by decide) ?_
                refine ql_on rfl hb151 ?_
                refine ql_pv (v := u1) (pv_loadc rfl ((hS.boxAt 0 rfl) 1 _ rfl)) (by decide) ?_
                refine ql_on rfl hb151 ?_
                refine ql_pv (v := .int .i64 x119) (pv_move he121) (by decide) ?_
                refine ql_on rfl hb151 ?_
                replace hF := ob hF
                obtain ⟨x160, hx160, hF⟩ := hF
                refine ql_index (wA := w0) rfl ha1 rfl (by decide) rfl hx160 (by decide) ?_
                intro b161 of162 c163 hr164 hm165
                obtain ⟨v166, rfl⟩ := slice_one hr164
                refine ql_on rfl hb151 ?_
                refine ql_pv (v := v166) (pv_loadc rfl ((cells_up hS.below hm165) 0 _ rfl)) (by decide) ?_
                refine ql_on rfl hb151 ?_
                replace hF := ob hF
                obtain ⟨r167, hr167, hF⟩ := hF
                refine ql_call (.int .i64 r167) goes60 (fun w' hw' => spec_CompareRows_ok (rd_up (hS.up hr157) hw') (rd_up (hS.up hr164) hw') hr167) (congrArg List.toArray (mapc rfl (mapc rfl rfl))) (by decide) ?_
                refine ql_on rfl hb151 ?_
                refine ql_pv (v := .bool (decide (0 ≤ r167))) (pv_geq rfl rfl) (by decide) ?_
                refine ql_on rfl (bnot_t hb150) ?_
                refine ql_pv (v := .bool (decide (0 ≤ r167))) (pv_pick_t rfl hb151 rfl) (by decide) ?_
                refine ql_pv (v := .bool (decide (0 ≤ r167))) (pv_pick_f rfl (bnot_t hb150) rfl) (by decide) ?_
                refine ql_nil ?_
                intro w168 hx169
                replace hS := hS.ext hx169
                refine hQ130 _ _ _ ?_
                refine thn_n ?_
                replace hF := oif hF
                rcases hF with ⟨hb170, hF⟩ | ⟨hb170, hF⟩
                · refine cw_cond_t rfl hb170 ?_
                  refine cw_seq ?_
                  refine cw_gen ?_
                  intro Q171 hQ171
                  replace hS : Sat w0 w168 [] := hS.rems 1 [0] rfl
                  refine cw_reg ?_
                  refine el_pv (v := .bool false) (pv_assign rfl) (by decide) ?_
                  refine el_nil ?_
                  refine hQ171 _ _ _ ?_
                  refine thn_n ?_
                  refine cw_ret ?_
                  refine hQ129 _ _ _ ?_
                  refine inb_r ?_
                  refine hQ128 _ _ _ ?_
                  refine thn_r ?_
                  refine hQ124 _ _ _ ?_
                  refine thn_r ?_
                  refine hQ116 _ _ _ ?_
                  refine inb_r ?_
                  refine hQ114 _ _ _ ?_
                  refine thn_r ?_
                  replace hF := exL hF hK118
                  refine fin1 rfl rfl ?_
                  have hr := Option.some.inj hF
                  exact ⟨congrArg (fun (r : Bool) => Ending.returned (.bool r)) hr, hS.below⟩
                · refine cw_cond_f rfl hb170 ?_
                  refine cw_skip ?_
                  refine hQ129 _ _ _ ?_
                  refine inb_n ?_
                  refine hQ128 _ _ _ ?_
                  refine thn_n ?_
                  refine cw_reg ?_
                  refine el_pv (v := .int .i64 x119) (pv_move he121) (by decide) ?_
                  replace hF := ob hF
                  obtain ⟨x172, hx172, hF⟩ := hF
                  refine el_pv (v := .int .i64 x172) (pv_add rfl rfl hx172) (by decide) ?_
                  refine el_pv (v := .int .i64 x172) (pv_assign rfl) (by decide) ?_
                  refine el_nil ?_
                  refine hQ124 _ _ _ ?_
                  refine thn_n ?_
                  replace hS := hS.keep 1
                  exact ⟨x172, he120, rfl, hS, hF⟩
              · refine ql_off rfl hb151 rfl (by decide) ?_
                refine ql_off rfl hb151 rfl (by decide) ?_
                refine ql_off rfl hb151 rfl (by decide) ?_
                refine ql_off rfl hb151 rfl (by decide) ?_
                refine ql_off rfl hb151 rfl (by decide) ?_
                refine ql_off rfl hb151 rfl (by decide) ?_
                refine ql_off rfl hb151 rfl (by decide) ?_
                refine ql_off rfl hb151 rfl (by decide) ?_
                refine ql_off rfl hb151 rfl (by decide) ?_
                refine ql_off rfl hb151 rfl (by decide) ?_
                refine ql_off rfl hb151 rfl (by decide) ?_
                refine ql_off rfl hb151 rfl (by decide) ?_
                refine ql_off rfl hb151 rfl (by decide) ?_
                refine ql_on rfl (bnot_t hb150) ?_
                refine ql_pv (v := .bool false) (pv_pick_f rfl hb151 rfl) (by decide) ?_
                refine ql_pv (v := .bool false) (pv_pick_f rfl (bnot_t hb150) rfl) (by decide) ?_
                refine ql_nil ?_
                intro w173 hx174
                replace hS := hS.ext hx174
                refine hQ130 _ _ _ ?_
                refine thn_n ?_
                refine cw_cond_f rfl rfl ?_
                refine cw_skip ?_
                refine hQ129 _ _ _ ?_
                refine inb_n ?_
                refine hQ128 _ _ _ ?_
                refine thn_n ?_
                refine cw_reg ?_
                refine el_pv (v := .int .i64 x119) (pv_move he121) (by decide) ?_
                replace hF := ob hF
                obtain ⟨x175, hx175, hF⟩ := hF
                refine el_pv (v := .int .i64 x175) (pv_add rfl rfl hx175) (by decide) ?_
                refine el_pv (v := .int .i64 x175) (pv_assign rfl) (by decide) ?_
                refine el_nil ?_
                refine hQ124 _ _ _ ?_
                refine thn_n ?_
                replace hS := hS.keep 1
                exact ⟨x175, he120, rfl, hS, hF⟩
            · refine ql_off rfl (bnot_f hb150) rfl (by decide) ?_
              refine ql_off rfl (bnot_f hb150) rfl (by decide) ?_
              refine ql_off rfl (bnot_f hb150) rfl (by decide) ?_
              refine ql_offu rfl (by decide) ?_
              refine ql_offu rfl (by decide) ?_
              refine ql_offu rfl (by decide) ?_
              refine ql_offu rfl (by decide) ?_
              refine ql_offu rfl (by decide) ?_
              refine ql_offu rfl (by decide) ?_
              refine ql_offu rfl (by decide) ?_
              refine ql_offu rfl (by decide) ?_
              refine ql_offu rfl (by decide) ?_
              refine ql_offu rfl (by decide) ?_
              refine ql_offu rfl (by decide) ?_
              refine ql_offu rfl (by decide) ?_
              refine ql_offu rfl (by decide) ?_
              refine ql_off rfl (bnot_f hb150) rfl (by decide) ?_
              refine ql_pv (v := .bool true) (pv_pick_t rfl (bnot_f hb150) rfl) (by decide) ?_
              refine ql_nil ?_
              intro w176 hx177
              replace hS := hS.ext hx177
              refine hQ130 _ _ _ ?_
              refine thn_n ?_
              refine cw_cond_t rfl rfl ?_
              refine cw_seq ?_
              refine cw_gen ?_
              intro Q178 hQ178
              replace hS : Sat w0 w176 [] := hS.rems 1 [0] rfl
              refine cw_reg ?_
              refine el_pv (v := .bool false) (pv_assign rfl) (by decide) ?_
              refine el_nil ?_
              refine hQ178 _ _ _ ?_
              refine thn_n ?_
              refine cw_ret ?_
              refine hQ129 _ _ _ ?_
              refine inb_r ?_
              refine hQ128 _ _ _ ?_
              refine thn_r ?_
              refine hQ124 _ _ _ ?_
              refine thn_r ?_
              refine hQ116 _ _ _ ?_
              refine inb_r ?_
              refine hQ114 _ _ _ ?_
              refine thn_r ?_
              replace hF := exL hF hK118
              refine fin1 rfl rfl ?_
              have hr := Option.some.inj hF
              exact ⟨congrArg (fun (r : Bool) => Ending.returned (.bool r)) hr, hS.below⟩
        · refine cw_cond_f rfl hb127 ?_
          refine cw_exit ?_
          refine hQ125 _ _ _ ?_
          refine thn_x ?_
          refine hQ124 _ _ _ ?_
          refine thn_x ?_
          replace hF := exA hF hK118
          refine hQ116 _ _ _ ?_
          refine inb_s ?_
          refine hQ114 _ _ _ ?_
          refine thn_n ?_
          refine cw_seq ?_
          refine cw_gen ?_
          intro Q179 hQ179
          replace hS : Sat w0 w122 [] := hS.rems 1 [0] rfl
          refine cw_reg ?_
          refine el_pv (v := .bool true) (pv_assign rfl) (by decide) ?_
          refine el_nil ?_
          refine hQ179 _ _ _ ?_
          refine thn_n ?_
          refine cw_ret ?_
          refine fin1 rfl rfl ?_
          have hr := Option.some.inj hF
          exact ⟨congrArg (fun (r : Bool) => Ending.returned (.bool r)) hr, hS.below⟩
  · refine el_off rfl (bnot_f hb111) rfl (by decide) ?_
    refine el_off rfl (bnot_f hb111) rfl (by decide) ?_
    refine el_off rfl (bnot_f hb111) rfl (by decide) ?_
    refine el_off rfl (bnot_f hb111) rfl (by decide) ?_
    refine el_pv (v := .bool true) (pv_pick_t rfl (bnot_f hb111) rfl) (by decide) ?_
    refine el_nil ?_
    refine hQ107 _ _ _ ?_
    refine thn_n ?_
    refine cw_cond_t rfl rfl ?_
    refine cw_seq ?_
    refine cw_gen ?_
    intro Q180 hQ180
    replace hS : Sat w0 w109 [] := hS.rems 1 [0] rfl
    refine cw_reg ?_
    refine el_pv (v := .bool false) (pv_assign rfl) (by decide) ?_
    refine el_nil ?_
    refine hQ180 _ _ _ ?_
    refine thn_n ?_
    refine cw_ret ?_
    refine hQ106 _ _ _ ?_
    refine thn_r ?_
    refine fin1 rfl rfl ?_
    have hr := Option.some.inj hF
    exact ⟨congrArg (fun (r : Bool) => Ending.returned (.bool r)) hr, hS.below⟩
set_option maxHeartbeats 4000000 in
theorem spec_l23Put_ok {w0 : World} {w00 : World} {G0 : List Asn} {b0 : Nat} {u0 : Value} {a0 : List Int} {u1 : Value} {a1 : List (List Int × List Int)} {u2 : Value} {a2 : List Int} {u3 : Value} {a3 : List Int} (hS : Sat w00 w0 (Box b0 29 [u0, u1] :: Own (sliceR intR 3) [u0] a0 :: Own (sliceR (pairR (sliceR intR 3) (sliceR intR 3)) 84) [u1] a1 :: Own (sliceR intR 3) [u2] a2 :: Own (sliceR intR 3) [u3] a3 :: G0)) {N : Nat} {r : Int × (List Int) × (List (List Int × List Int))} (hF : spec_l23Put N a0 a1 a2 a3 = some r) :
    Calls Try.prog 112 #[.pointer (some ⟨b0, 0, none⟩), .agg #[u2, u3]] w0 fun e w' => ∃ (q0 : Value) (q1 : Value), e = .returned (.int .i64 r.1) ∧ Sat w00 w' (Box b0 29 [q0, q1] :: Own (sliceR intR 3) [q0] r.2.1 :: Own (sliceR (pairR (sliceR intR 3) (sliceR intR 3)) 84) [q1] r.2.2 :: G0) := by
  unfold spec_l23Put at hF
  refine calls_E Try.func112 rfl rfl (of_decide_eq_true rfl) ?_
  refine cw_seq ?_
  refine cw_gen ?_
  intro Q101 hQ101
  refine cw_reg ?_
  refine el_box [u2, u3] rfl hS (by decide) ?_
  intro w102 b103 hS hx104
  refine el_pv (v := .int .i64 0) (pv_assign rfl) (by decide) ?_
  refine el_nil ?_
  refine hQ101 _ _ _ ?_
  refine thn_n ?_
  refine cw_seq ?_
  refine cw_gen ?_
  intro Q106 hQ106
  refine cw_seq ?_
  refine cw_gen ?_
  intro Q107 hQ107
  refine cw_reg ?_
  refine el_pv (v := .int .i64 1) (pv_assign rfl) (by decide) ?_
  refine el_nil ?_
  refine hQ107 _ _ _ ?_
  refine thn_n ?_
  refine cw_block ?_
  refine cw_gen ?_
  intro Q108 hQ108
  obtain ⟨s109, hL, hK110⟩ := ob hF
  refine cw_loopS (fun k e w => ∃ (x111 : Int), e 0 = .pointer (some ⟨b0, 0, none⟩) ∧ e 3 = .pointer (some ⟨b103, 0, none⟩) ∧ e 5 = .int .i64 x111 ∧ Sat w00 w (Box b103 84 [u2, u3] :: Box b0 29 [u0, u1] :: Own (sliceR intR 3) [u0] a0 :: Own (sliceR (pairR (sliceR intR 3) (sliceR intR 3)) 84) [u1] a1 :: Own (sliceR intR 3) [u2] a2 :: Own (sliceR intR 3) [u3] a3 :: G0) ∧ spec_l23Put_L1 N k a0 a1 a2 a3 x111 = some s109) N ?_ ?_ ?_
  · exact ⟨1, rfl, rfl, rfl, hS, hL⟩
  · rintro e w ⟨_, _, _, _, _, hz⟩; exact nomatch (show none = some _ from hz)
  · rintro k e116 w115 ⟨x111, he112, he113, he114, hS, hF⟩
    refine cw_gen ?_
    intro Q117 hQ117
    refine cw_seq ?_
    refine cw_gen ?_
    intro Q118 hQ118
    refine cw_seq ?_
    refine cw_gen ?_
    intro Q119 hQ119
    refine cw_reg ?_
    refine el_pv (v := .int .i64 x111) (pv_move he114) (by decide) ?_
    refine el_pv (v := .pointer (some ⟨b0, 0, none⟩)) (pv_move he112) (by decide) ?_
    refine el_pv (v := .pointer (some ⟨b0, 0, none⟩)) (pv_nilCheck rfl) (by decide) ?_
    refine el_pv (v := .pointer (some ⟨b0, 0 + 1, none⟩)) (pv_fieldAddr rfl) (by decide) ?_
    refine el_pv (v := u1) (pv_loadc rfl ((hS.boxAt 1 rfl) 1 _ rfl)) (by decide) ?_
    refine el_pv (v := .int .i64 (a1.length : Int)) (pv_len rfl (hS.rdAt (R := (sliceR (pairR (sliceR intR 3) (sliceR intR 3)) 84)) 3 rfl)) (by decide) ?_
    refine el_pv (v := .bool (decide (x111 < (a1.length : Int)))) (pv_lss rfl rfl) (by decide) ?_
    refine el_nil ?_
    refine hQ119 _ _ _ ?_
    refine thn_n ?_
    replace hF := oif hF
    rcases hF with ⟨hb120, hF⟩ | ⟨hb120, hF⟩
    · refine cw_cond_t rfl hb120 ?_
      refine cw_skip ?_
      refine hQ118 _ _ _ ?_
      refine thn_n ?_
      refine cw_seq ?_
      refine cw_gen ?_
      intro Q121 hQ121
      refine cw_block ?_
      refine cw_gen ?_
      intro Q122 hQ122
      refine cw_seq ?_
      refine cw_gen ?_
      intro Q123 hQ123
      refine cw_regq (by kernel_rfl) (by kernel_rfl) ?_
      refine ql_pv (v := .pointer (some ⟨b0, 0, none⟩)) (pv_move he112) (by decide) ?_
      refine ql_pv (v := .pointer (some ⟨b0, 0, none⟩)) (pv_nilCheck rfl) (by decide) ?_
      refine ql_pv (v := .pointer (some ⟨b0, 0 + 1, none⟩)) (pv_fieldAddr rfl) (by decide) ?_
      refine ql_pv (v := u1) (pv_loadc rfl ((hS.boxAt 1 rfl) 1 _ rfl)) (by decide) ?_
      refine ql_pv (v := .int .i64 x111) (pv_move he114) (by decide) ?_
      replace hF := ob hF
      obtain ⟨x124, hx124, hF⟩ := hF
      refine ql_index (wA := w115) rfl (hS.rdAt (R := (sliceR (pairR (sliceR intR 3) (sliceR intR 3)) 84)) 3 rfl) rfl (by decide) rfl hx124 (by decide) ?_
      intro b125 of126 c127 hr128 hm129
      obtain ⟨_, _, rfl, hr130, hr131⟩ := hr128
      obtain ⟨v132, rfl⟩ := slice_one hr130
      obtain ⟨v133, rfl⟩ := slice_one hr131
      refine ql_pv (v := .pointer (some ⟨b125, of126 + 0, none⟩)) (pv_fieldAddr rfl) (by decide) ?_
      refine ql_pv (v := v132) (pv_loadc rfl (hm129 0 _ rfl)) (by decide) ?_
      refine ql_pv (v := .pointer (some ⟨b103, 0 + 0, none⟩)) (pv_fieldAddr he113) (by decide) ?_
      refine ql_pv (v := u2) (pv_loadc rfl ((hS.boxAt 0 rfl) 0 _ rfl)) (by decide) ?_
      replace hF := ob hF
      obtain ⟨r134, hr134, hF⟩ := hF
      refine ql_call (.int .i64 r134) goes60 (fun w' hw' => spec_CompareRows_ok (rd_up hr130 hw') (rd_up (hS.rdAt (R := (sliceR intR 3)) 4 rfl) hw') hr134) (congrArg List.toArray (mapc rfl (mapc rfl rfl))) (by decide) ?_
      refine ql_pv (v := .bool (r134 == 0)) (pv_eql rfl rfl) (by decide) ?_
      refine ql_pv (v := .bool (r134 == 0)) (pv_move rfl) (by decide) ?_
      replace hF := oif hF
      rcases hF with ⟨hb135, hF⟩ | ⟨hb135, hF⟩
      · refine ql_on rfl hb135 ?_
        refine ql_pv (v := .pointer (some ⟨b0, 0, none⟩)) (pv_move he112) (by decide) ?_
        refine ql_on rfl hb135 ?_
        refine ql_pv (v := .pointer (some ⟨b0, 0, none⟩)) (pv_nilCheck rfl) (by decide) ?_
        refine ql_on rfl hb135 ?_
        refine ql_pv (v := .pointer (some ⟨b0, 0 + 1, none⟩)) (pv_fieldAddr rfl) (by decide) ?_
        refine ql_on rfl hb135 ?_
        refine ql_pv (v := u1) (pv_loadc rfl ((hS.boxAt 1 rfl) 1 _ rfl)) (by decide) ?_
        refine ql_on rfl hb135 ?_
        refine ql_pv (v := .int .i64 x111) (pv_move he114) (by decide) ?_
        refine ql_on rfl hb135 ?_
        replace hF := ob hF
        obtain ⟨x136, hx136, hF⟩ := hF
        refine ql_index (wA := w115) rfl (hS.rdAt (R := (sliceR (pairR (sliceR intR 3) (sliceR intR 3)) 84)) 3 rfl) rfl (by decide) rfl hx136 (by decide) ?_
        intro b137 of138 c139 hr140 hm141
        obtain ⟨_, _, rfl, hr142, hr143⟩ := hr140
        obtain ⟨v144, rfl⟩ := slice_one hr142
        obtain ⟨v145, rfl⟩ := slice_one hr143
        refine ql_on rfl hb135 ?_
        refine ql_pv (v := .pointer (some ⟨b137, of138 + 1, none⟩)) (pv_fieldAddr rfl) (by decide) ?_
        refine ql_on rfl hb135 ?_
        refine ql_pv (v := v145) (pv_loadc rfl (hm141 1 _ rfl)) (by decide) ?_
        refine ql_on rfl hb135 ?_
        refine ql_pv (v := .pointer (some ⟨b103, 0 + 1, none⟩)) (pv_fieldAddr he113) (by decide) ?_
        refine ql_on rfl hb135 ?_
        refine ql_pv (v := u3) (pv_loadc rfl ((hS.boxAt 0 rfl) 1 _ rfl)) (by decide) ?_
        refine ql_on rfl hb135 ?_
        replace hF := ob hF
        obtain ⟨r146, hr146, hF⟩ := hF
        refine ql_call (.int .i64 r146) goes60 (fun w' hw' => spec_CompareRows_ok (rd_up hr143 hw') (rd_up (hS.rdAt (R := (sliceR intR 3)) 5 rfl) hw') hr146) (congrArg List.toArray (mapc rfl (mapc rfl rfl))) (by decide) ?_
        refine ql_on rfl hb135 ?_
        refine ql_pv (v := .bool (r146 == 0)) (pv_eql rfl rfl) (by decide) ?_
        refine ql_pv (v := .bool (r146 == 0)) (pv_pick_t rfl hb135 rfl) (by decide) ?_
        refine ql_nil ?_
        intro w147 hx148
        replace hS := hS.ext hx148
        have hm129 := cells_up hx148 hm129
        have hr130 := rd_up hr130 hx148
        have hr131 := rd_up hr131 hx148
        have hm141 := cells_up hx148 hm141
        have hr142 := rd_up hr142 hx148
        have hr143 := rd_up hr143 hx148
        refine hQ123 _ _ _ ?_
        refine thn_n ?_
        replace hF := oif hF
        rcases hF with ⟨hb149, hF⟩ | ⟨hb149, hF⟩
        · refine cw_cond_t rfl hb149 ?_
          refine cw_seq ?_
          refine cw_gen ?_
          intro Q150 hQ150
          replace hS : Sat w00 w147 (Box b0 29 [u0, u1] :: Own (sliceR intR 3) [u0] a0 :: Own (sliceR (pairR (sliceR intR 3) (sliceR intR 3)) 84) [u1] a1 :: Own (sliceR intR 3) [u2] a2 :: Own (sliceR intR 3) [u3] a3 :: G0) := hS.rems 6 [0] rfl
          refine cw_reg ?_
          refine el_pv (v := .int .i64 x111) (pv_move he114) (by decide) ?_
          refine el_pv (v := .int .i64 x111) (pv_assign rfl) (by decide) ?_
          refine el_nil ?_
          refine hQ150 _ _ _ ?_
          refine thn_n ?_
          refine cw_ret ?_
          refine hQ122 _ _ _ ?_
          refine inb_r ?_
          refine hQ121 _ _ _ ?_
          refine thn_r ?_
          refine hQ117 _ _ _ ?_
          refine thn_r ?_
          refine hQ108 _ _ _ ?_
          refine inb_r ?_
          refine hQ106 _ _ _ ?_
          refine thn_r ?_
          replace hF := exL hF hK110
          refine fin1 rfl rfl ?_
          have hr := Option.some.inj hF
          replace hS : Sat w00 w147 (Box b0 29 [u0, u1] :: Own (sliceR intR 3) [u0] a0 :: Own (sliceR (pairR (sliceR intR 3) (sliceR intR 3)) 84) [u1] a1 :: G0) := hS.rems 5 [3, 4] rfl
          exact ⟨u0, u1, congrArg (fun (r : Int × (List Int) × (List (List Int × List Int))) => Ending.returned (.int .i64 r.1)) hr, Eq.mp (congrArg (fun (r : Int × (List Int) × (List (List Int × List Int))) => Sat w00 w147 (Box b0 29 [u0, u1] :: Own (sliceR intR 3) [u0] r.2.1 :: Own (sliceR (pairR (sliceR intR 3) (sliceR intR 3)) 84) [u1] r.2.2 :: G0)) hr) hS⟩
        · refine cw_cond_f rfl hb149 ?_
          refine cw_skip ?_
          refine hQ122 _ _ _ ?_
          refine inb_n ?_
          refine hQ121 _ _ _ ?_
          refine thn_n ?_
          refine cw_reg ?_
          refine el_pv (v := .int .i64 x111) (pv_move he114) (by decide) ?_
          replace hF := ob hF
          obtain ⟨x151, hx151, hF⟩ := hF
          refine el_pv (v := .int .i64 x151) (pv_add rfl rfl hx151) (by decide) ?_
          refine el_pv (v := .int .i64 x151) (pv_assign rfl) (by decide) ?_
          refine el_nil ?_
          refine hQ117 _ _ _ ?_
          refine thn_n ?_
          exact ⟨x151, he112, he113, rfl, hS, hF⟩
      · refine ql_off rfl hb135 rfl (by decide) ?_
        refine ql_off rfl hb135 rfl (by decide) ?_
        refine ql_off rfl hb135 rfl (by decide) ?_
        refine ql_off rfl hb135 rfl (by decide) ?_
        refine ql_off rfl hb135 rfl (by decide) ?_
        refine ql_off rfl hb135 rfl (by decide) ?_
        refine ql_off rfl hb135 rfl (by decide) ?_
        refine ql_off rfl hb135 rfl (by decide) ?_
        refine ql_off rfl hb135 rfl (by decide) ?_
        refine ql_off rfl hb135 rfl (by decide) ?_
        refine ql_off rfl hb135 rfl (by decide) ?_
        refine ql_off rfl hb135 rfl (by decide) ?_
        refine ql_pv (v := .bool false) (pv_pick_f rfl hb135 rfl) (by decide) ?_
        refine ql_nil ?_
        intro w152 hx153
        replace hS := hS.ext hx153
        have hm129 := cells_up hx153 hm129
        have hr130 := rd_up hr130 hx153
        have hr131 := rd_up hr131 hx153
        refine hQ123 _ _ _ ?_
        refine thn_n ?_
        refine cw_cond_f rfl rfl ?_
        refine cw_skip ?_
        refine hQ122 _ _ _ ?_
        refine inb_n ?_
        refine hQ121 _ _ _ ?_
        refine thn_n ?_
        refine cw_reg ?_
        refine el_pv (v := .int .i64 x111) (pv_move he114) (by decide) ?_
        replace hF := ob hF
        obtain ⟨x154, hx154, hF⟩ := hF
        refine el_pv (v := .int .i64 x154) (pv_add rfl rfl hx154) (by decide) ?_
        refine el_pv (v := .int .i64 x154) (pv_assign rfl) (by decide) ?_
        refine el_nil ?_
        refine hQ117 _ _ _ ?_
        refine thn_n ?_
        exact ⟨x154, he112, he113, rfl, hS, hF⟩
    · refine cw_cond_f rfl hb120 ?_
      refine cw_exit ?_
      refine hQ118 _ _ _ ?_
      refine thn_x ?_
      refine hQ117 _ _ _ ?_
      refine thn_x ?_
      replace hF := exA hF hK110
      refine hQ108 _ _ _ ?_
      refine inb_s ?_
      refine hQ106 _ _ _ ?_
      refine thn_n ?_
      refine cw_seq ?_
      refine cw_gen ?_
      intro Q155 hQ155
      obtain ⟨C, hCd⟩ : ∃ C : World → Prop, ∀ w, C w ↔ ∃ G, Sat w00 w ([Box b103 84 [u2, u3], Box b0 29 [u0, u1]] ++ G) := ⟨_, fun _ => Iff.rfl⟩
      refine cw_regb [0, 1, 2, 3, 4, 5, 6, 7, 8, 9] C (by kernel_rfl) ?_
      intro w156 hx157
      replace hS := hS.ext hx157
      have hC := (hCd _).2 ⟨_, hS⟩
      refine al_p (v := .pointer (some ⟨b0, 0, none⟩)) (by kernel_rfl) 0 rfl rfl (by decide) hC (by kernel_rfl) (by kernel_rfl) (sv_on rfl (fun w' hw' => by obtain ⟨_, hS⟩ := (hCd _).1 hw'; exact (pv_move he112))) ?_
      refine al_p (v := .pointer (some ⟨b0, 0, none⟩)) (by kernel_rfl) 1 rfl rfl (by decide) hC (by kernel_rfl) (by kernel_rfl) (sv_on rfl (fun w' hw' => by obtain ⟨_, hS⟩ := (hCd _).1 hw'; exact (pv_move he112))) ?_
      refine al_p (v := .pointer (some ⟨b0, 0, none⟩)) (by kernel_rfl) 2 rfl rfl (by decide) hC (by kernel_rfl) (by kernel_rfl) (sv_on rfl (fun w' hw' => by obtain ⟨_, hS⟩ := (hCd _).1 hw'; exact (pv_nilCheck rfl))) ?_
      refine al_p (v := .pointer (some ⟨b0, 0 + 1, none⟩)) (by kernel_rfl) 3 rfl rfl (by decide) hC (by kernel_rfl) (by kernel_rfl) (sv_on rfl (fun w' hw' => by obtain ⟨_, hS⟩ := (hCd _).1 hw'; exact (pv_fieldAddr rfl))) ?_
      refine al_p (v := u1) (by kernel_rfl) 4 rfl rfl (by decide) hC (by kernel_rfl) (by kernel_rfl) (sv_on rfl (fun w' hw' => by obtain ⟨_, hS⟩ := (hCd _).1 hw'; exact (pv_loadc rfl ((hS.boxAt 1 rfl) 1 _ rfl)))) ?_
      refine al_one 5 (by kernel_rfl) rfl ?_
      refine el_pv (v := .agg #[u2, u3]) (pv_loada (cs := [u2, u3]) he113 rfl (boxc0 (hS.boxAt 0 rfl))) (by decide) ?_
      refine el_nil ?_
      refine ⟨fun _ => hC, ?_⟩
      refine al_one 6 (by kernel_rfl) rfl ?_
      refine el_buildSlice1 [u2, u3] rfl (by rfl) (by decide) rfl (by decide) hS (by decide) ?_
      intro w158 b160 hS hx159
      refine el_nil ?_
      replace hS : Sat w00 w158 (Box b103 84 [u2, u3] :: Box b0 29 [u0, u1] :: Box b160 84 [u2, u3] :: Own (sliceR intR 3) [u0] a0 :: Own (sliceR (pairR (sliceR intR 3) (sliceR intR 3)) 84) [u1] a1 :: Own (sliceR intR 3) [u2] a2 :: Own (sliceR intR 3) [u3] a3 :: G0) := hS.tops 7 [1, 2] rfl
      have hC := (hCd _).2 ⟨_, hS⟩
      refine ⟨fun _ => hC, ?_⟩
      refine al_one 7 (by kernel_rfl) rfl ?_
      replace hF := ob hF
      obtain ⟨x164, hx164, hF⟩ := hF
      have hrow165 := hS.boxRow 2 rfl
      replace hS : Sat w00 w158 (Own (sliceR (pairR (sliceR intR 3) (sliceR intR 3)) 84) [u1] a1 :: Box b103 84 [u2, u3] :: Box b0 29 [u0, u1] :: Box b160 84 [u2, u3] :: Own (sliceR intR 3) [u0] a0 :: Own (sliceR intR 3) [u2] a2 :: Own (sliceR intR 3) [u3] a3 :: G0) := hS.top 4 rfl
      replace hS : Sat w00 w158 (Own (sliceR intR 3) [u3] a3 :: Own (sliceR (pairR (sliceR intR 3) (sliceR intR 3)) 84) [u1] a1 :: Box b103 84 [u2, u3] :: Box b0 29 [u0, u1] :: Box b160 84 [u2, u3] :: Own (sliceR intR 3) [u0] a0 :: Own (sliceR intR 3) [u2] a2 :: G0) := hS.top 6 rfl
      replace hS : Sat w00 w158 (Own (sliceR intR 3) [u2] a2 :: _ :: Own (sliceR (pairR (sliceR intR 3) (sliceR intR 3)) 84) [u1] a1 :: Box b103 84 [u2, u3] :: Box b0 29 [u0, u1] :: Box b160 84 [u2, u3] :: Own (sliceR intR 3) [u0] a0 :: G0) := hS.top 6 rfl
      replace hS := hS.pair
      replace hS := hS.one
      refine el_append rfl (by decide) rfl (by decide) hS rfl rfl rfl (by simp) hrow165 hx164 (by decide) ?_
      intro w162 v163 hS
      refine el_nil ?_
      replace hS : Sat w00 w162 (Box b103 84 [u2, u3] :: Box b0 29 [u0, u1] :: Own (sliceR (pairR (sliceR intR 3) (sliceR intR 3)) 84) [v163] x164 :: Box b160 84 [u2, u3] :: Own (sliceR intR 3) [u0] a0 :: G0) := hS.tops 5 [1, 2] rfl
      have hC := (hCd _).2 ⟨_, hS⟩
      refine ⟨fun _ => hC, ?_⟩
      refine al_one 8 (by kernel_rfl) rfl ?_
      refine el_pv (v := .pointer (some ⟨b0, 0, none⟩)) (pv_nilCheck rfl) (by decide) ?_
      refine el_nil ?_
      refine ⟨fun _ => hC, ?_⟩
      refine al_one 9 (by kernel_rfl) rfl ?_
      refine el_pv (v := .pointer (some ⟨b0, 0 + 1, none⟩)) (pv_fieldAddr rfl) (by decide) ?_
      refine el_nil ?_
      refine ⟨fun _ => hC, ?_⟩
      refine al_one 10 (by kernel_rfl) rfl ?_
      refine el_storev (hS.top 1 rfl) rfl [v163] (cells_of rfl (oc (hS.rdAt (R := (sliceR (pairR (sliceR intR 3) (sliceR intR 3)) 84)) 2 rfl))) rfl (of_decide_eq_true rfl) (all_cons (oc (hS.rdAt (R := (sliceR (pairR (sliceR intR 3) (sliceR intR 3)) 84)) 2 rfl)) rfl) ?_
      intro w167 hS
      replace hS : Sat w00 w167 (Box b0 29 [u0, v163] :: Box b103 84 [u2, u3] :: Own (sliceR (pairR (sliceR intR 3) (sliceR intR 3)) 84) [v163] x164 :: Box b160 84 [u2, u3] :: Own (sliceR intR 3) [u0] a0 :: G0) := hS
      refine el_nil ?_
      refine ⟨fun h => (nomatch (show false = true from h)), ?_⟩
      refine al_nil (by kernel_rfl) ?_
      refine hQ155 _ _ _ ?_
      refine thn_n ?_
      refine cw_seq ?_
      refine cw_gen ?_
      intro Q168 hQ168
      replace hS : Sat w00 w167 (Box b0 29 [u0, v163] :: Own (sliceR (pairR (sliceR intR 3) (sliceR intR 3)) 84) [v163] x164 :: Own (sliceR intR 3) [u0] a0 :: G0) := hS.rems 5 [1, 3] rfl
      refine cw_reg ?_
      refine el_pv (v := .pointer (some ⟨b0, 0, none⟩)) (pv_move he112) (by decide) ?_
      refine el_pv (v := .pointer (some ⟨b0, 0, none⟩)) (pv_nilCheck rfl) (by decide) ?_
      refine el_pv (v := .pointer (some ⟨b0, 0 + 1, none⟩)) (pv_fieldAddr rfl) (by decide) ?_
      refine el_pv (v := v163) (pv_loadc rfl ((hS.boxAt 0 rfl) 1 _ rfl)) (by decide) ?_
      refine el_pv (v := .int .i64 (x164.length : Int)) (pv_len rfl (hS.rdAt (R := (sliceR (pairR (sliceR intR 3) (sliceR intR 3)) 84)) 1 rfl)) (by decide) ?_
      replace hF := ob hF
      obtain ⟨x169, hx169, hF⟩ := hF
      refine el_pv (v := .int .i64 x169) (pv_sub rfl rfl hx169) (by decide) ?_
      refine el_pv (v := .int .i64 x169) (pv_assign rfl) (by decide) ?_
      refine el_nil ?_
      refine hQ168 _ _ _ ?_
      refine thn_n ?_
      refine cw_ret ?_
      refine fin1 rfl rfl ?_
      replace hS : Sat w00 w167 (Box b0 29 [u0, v163] :: Own (sliceR intR 3) [u0] a0 :: Own (sliceR (pairR (sliceR intR 3) (sliceR intR 3)) 84) [v163] x164 :: G0) := hS.tops 3 [0, 2, 1] rfl
      have hr := Option.some.inj hF
      exact ⟨u0, v163, congrArg (fun (r : Int × (List Int) × (List (List Int × List Int))) => Ending.returned (.int .i64 r.1)) hr, Eq.mp (congrArg (fun (r : Int × (List Int) × (List (List Int × List Int))) => Sat w00 w167 (Box b0 29 [u0, v163] :: Own (sliceR intR 3) [u0] r.2.1 :: Own (sliceR (pairR (sliceR intR 3) (sliceR intR 3)) 84) [v163] r.2.2 :: G0)) hr) hS⟩
set_option maxHeartbeats 4000000 in
theorem spec_l23Build_ok' (N : Nat) : ∀ {w0 : World} {w00 : World} {G0 : List Asn} {b0 : Nat} {u0 : Value} {a0 : List Int} {u1 : Value} {a1 : List (List Int × List Int)} {u2 : Value} {a2 : List (List Int)} {a3 : Int} (_ : (sliceR (sliceR intR 3) 26).rd w00 [u2] a2) (_ : Sat w00 w0 (Box b0 29 [u0, u1] :: Own (sliceR intR 3) [u0] a0 :: Own (sliceR (pairR (sliceR intR 3) (sliceR intR 3)) 84) [u1] a1 :: G0)) {r : Int × (List Int) × (List (List Int × List Int))} (_ : spec_l23Build N a0 a1 a2 a3 = some r),
    Calls Try.prog 93 #[.pointer (some ⟨b0, 0, none⟩), u2, .int .i64 a3] w0 fun e w' => ∃ (q0 : Value) (q1 : Value), e = .returned (.int .i64 r.1) ∧ Sat w00 w' (Box b0 29 [q0, q1] :: Own (sliceR intR 3) [q0] r.2.1 :: Own (sliceR (pairR (sliceR intR 3) (sliceR intR 3)) 84) [q1] r.2.2 :: G0) := by
  induction N with
  | zero => intros; exact nomatch (show none = some _ by assumption)
  | succ N ih =>
    intro w0 w00 G0 b0 u0 a0 u1 a1 u2 a2 a3 ha2 hS r hF
    refine calls_E Try.func93 rfl rfl (of_decide_eq_true rfl) ?_
    refine cw_seq ?_
    refine cw_gen ?_
    intro Q101 hQ101
    refine cw_reg ?_
    refine el_pv (v := .int .i64 0) (pv_assign rfl) (by decide) ?_
    refine el_nil ?_
    refine hQ101 _ _ _ ?_
    refine thn_n ?_
    refine cw_seq ?_
    refine cw_gen ?_
    intro Q102 hQ102
    refine cw_seq ?_
    refine cw_gen ?_
    intro Q103 hQ103
    refine cw_reg ?_
    refine el_pv (v := u2) (pv_move rfl) (by decide) ?_
    refine el_pv (v := .int .i64 (a2.length : Int)) (pv_len rfl ha2) (by decide) ?_
    refine el_pv (v := .bool (decide (0 < (a2.length : Int)))) (pv_gtr rfl rfl) (by decide) ?_
    refine el_pv (v := .bool (decide (0 < (a2.length : Int)))) (pv_move rfl) (by decide) ?_
    replace hF := oif hF
    rcases hF with ⟨hb104, hF⟩ | ⟨hb104, hF⟩
    · refine el_on rfl hb104 ?_
      refine el_pv (v := .int .i64 a3) (pv_move rfl) (by decide) ?_
      refine el_on rfl hb104 ?_
      refine el_pv (v := u2) (pv_move rfl) (by decide) ?_
      refine el_on rfl hb104 ?_
      replace hF := ob hF
      obtain ⟨x105, hx105, hF⟩ := hF
      refine el_index (wA := w00) rfl ha2 rfl (by decide) rfl hx105 (by decide) ?_
      intro b106 of107 c108 hr109 hm110
      obtain ⟨v111, rfl⟩ := slice_one hr109
      refine el_on rfl hb104 ?_
      refine el_pv (v := v111) (pv_loadc rfl ((cells_up hS.below hm110) 0 _ rfl)) (by decide) ?_
      refine el_on rfl hb104 ?_
      refine el_pv (v := .int .i64 (x105.length : Int)) (pv_len rfl hr109) (by decide) ?_
      refine el_on rfl hb104 ?_
      refine el_pv (v := .bool (a3 == (x105.length : Int))) (pv_eql rfl rfl) (by decide) ?_
      refine el_pv (v := .bool (a3 == (x105.length : Int))) (pv_pick_t rfl hb104 rfl) (by decide) ?_
      refine el_nil ?_
      refine hQ103 _ _ _ ?_
      refine thn_n ?_
      replace hF := oif hF
      rcases hF with ⟨hb112, hF⟩ | ⟨hb112, hF⟩
      · refine cw_cond_t rfl hb112 ?_
        refine cw_seq ?_
        refine cw_gen ?_
        intro Q113 hQ113
        refine cw_reg ?_
        refine el_pv (v := .int .i64 0) (pv_assign rfl) (by decide) ?_
        refine el_nil ?_
        refine hQ113 _ _ _ ?_
        refine thn_n ?_
        refine cw_ret ?_
        refine hQ102 _ _ _ ?_
        refine thn_r ?_
        refine fin1 rfl rfl ?_
        have hr := Option.some.inj hF
        exact ⟨u0, u1, congrArg (fun (r : Int × (List Int) × (List (List Int × List Int))) => Ending.returned (.int .i64 r.1)) hr, Eq.mp (congrArg (fun (r : Int × (List Int) × (List (List Int × List Int))) => Sat w00 w0 (Box b0 29 [u0, u1] :: Own (sliceR intR 3) [u0] r.2.1 :: Own (sliceR (pairR (sliceR intR 3) (sliceR intR 3)) 84) [u1] r.2.2 :: G0)) hr) hS⟩
      · refine cw_cond_f rfl hb112 ?_
        refine cw_skip ?_
        refine hQ102 _ _ _ ?_
        refine thn_n ?_
        refine cw_seq ?_
        refine cw_gen ?_
        intro Q114 hQ114
        refine cw_reg ?_
        refine el_pv (v := .agg #[(.slice none 0 0), (.slice none 0 0)]) (pv_build [] [(.slice none 0 0), (.slice none 0 0)] rfl rfl) (by decide) ?_
        refine el_alloc hS (by decide) ?_
        intro w115 b116 hS hx117
        refine el_storev (hS.top 0 rfl) rfl [(.slice none 0 0), (.slice none 0 0)] rfl rfl (of_decide_eq_true rfl) (all_cons rfl (all_cons rfl rfl)) ?_
        intro w119 hS
        replace hS : Sat w00 w119 (Box b116 84 [(.slice none 0 0), (.slice none 0 0)] :: Box b0 29 [u0, u1] :: Own (sliceR intR 3) [u0] a0 :: Own (sliceR (pairR (sliceR intR 3) (sliceR intR 3)) 84) [u1] a1 :: G0) := hS
        refine el_nil ?_
        refine hQ114 _ _ _ ?_
        refine thn_n ?_
        refine cw_seq ?_
        refine cw_gen ?_
        intro Q120 hQ120
        refine cw_seq ?_
        refine cw_gen ?_
        intro Q121 hQ121
        refine cw_reg ?_
        refine el_pv (v := .int .i64 0) (pv_assign rfl) (by decide) ?_
        refine el_nil ?_
        refine hQ121 _ _ _ ?_
        refine thn_n ?_
        refine cw_block ?_
        refine cw_gen ?_
        intro Q122 hQ122
        replace hS := hS.nil intR 3
        replace hS := hS.nil intR 3
        obtain ⟨s125, hL, hK126⟩ := ob hF
        refine cw_loopS (fun k e w => ∃ (v128 : Value), ∃ (x127 : List Int), ∃ (v130 : Value), ∃ (x129 : List (List Int × List Int)), ∃ (v132 : Value), ∃ (x131 : List Int), ∃ (v134 : Value), ∃ (x133 : List Int), ∃ (x135 : Int), e 0 = .pointer (some ⟨b0, 0, none⟩) ∧ e 1 = u2 ∧ e 2 = .int .i64 a3 ∧ e 7 = .pointer (some ⟨b116, 0, none⟩) ∧ e 8 = .int .i64 x135 ∧ Sat w00 w (Own (sliceR intR 3) [v134] x133 :: Own (sliceR intR 3) [v132] x131 :: Box b116 84 [v132, v134] :: Box b0 29 [v128, v130] :: Own (sliceR intR 3) [v128] x127 :: Own (sliceR (pairR (sliceR intR 3) (sliceR intR 3)) 84) [v130] x129 :: G0) ∧ spec_l23Build_L1 (spec_l23Build N) N k x127 x129 a2 a3 x131 x133 x135 = some s125) N ?_ ?_ ?_
        · exact ⟨u0, a0, u1, a1, (.slice none 0 0), [], (.slice none 0 0), [], 0, rfl, rfl, rfl, rfl, rfl, hS, hL⟩
        · rintro e w ⟨_, _, _, _, _, _, _, _, _, _, _, _, _, _, _, hz⟩; exact nomatch (show none = some _ from hz)
        · rintro k e142 w141 ⟨v128, x127, v130, x129, v132, x131, v134, x133, x135, he136, he137, he138, he139, he140, hS, hF⟩
          refine cw_gen ?_
          intro Q143 hQ143
          refine cw_seq ?_
          refine cw_gen ?_
          intro Q144 hQ144
          refine cw_seq ?_
          refine cw_gen ?_
          intro Q145 hQ145
          refine cw_reg ?_
          refine el_pv (v := .int .i64 x135) (pv_move he140) (by decide) ?_
          refine el_pv (v := u2) (pv_move he137) (by decide) ?_
          refine el_pv (v := .int .i64 (a2.length : Int)) (pv_len rfl ha2) (by decide) ?_
          refine el_pv (v := .bool (decide (x135 < (a2.length : Int)))) (pv_lss rfl rfl) (by decide) ?_
          refine el_nil ?_
          refine hQ145 _ _ _ ?_
          refine thn_n ?_
          replace hF := oif hF
          rcases hF with ⟨hb146, hF⟩ | ⟨hb146, hF⟩
          · refine cw_cond_t rfl hb146 ?_
            refine cw_skip ?_
            refine hQ144 _ _ _ ?_
            refine thn_n ?_
            refine cw_block ?_
            refine cw_gen ?_
            intro Q147 hQ147
            refine cw_seq ?_
            refine cw_gen ?_
            intro Q148 hQ148
            refine cw_reg ?_
            refine el_pv (v := .int .i64 x135) (pv_move he140) (by decide) ?_
            refine el_pv (v := .int .i64 x135) (pv_assign rfl) (by decide) ?_
            refine el_nil ?_
            refine hQ148 _ _ _ ?_
            refine thn_n ?_
            refine cw_seq ?_
            refine cw_gen ?_
            intro Q149 hQ149
            refine cw_block ?_
            refine cw_gen ?_
            intro Q150 hQ150
            obtain ⟨s151, hL, hK152⟩ := ob hF
            refine cw_loopS (fun k e w => ∃ (x153 : Int), e 0 = .pointer (some ⟨b0, 0, none⟩) ∧ e 1 = u2 ∧ e 2 = .int .i64 a3 ∧ e 7 = .pointer (some ⟨b116, 0, none⟩) ∧ e 8 = .int .i64 x135 ∧ e 9 = .int .i64 x153 ∧ Sat w00 w (Own (sliceR intR 3) [v134] x133 :: Own (sliceR intR 3) [v132] x131 :: Box b116 84 [v132, v134] :: Box b0 29 [v128, v130] :: Own (sliceR intR 3) [v128] x127 :: Own (sliceR (pairR (sliceR intR 3) (sliceR intR 3)) 84) [v130] x129 :: G0) ∧ spec_l23Build_L2 (spec_l23Build N) N k x127 x129 a2 a3 x131 x133 x135 x153 = some s151) N ?_ ?_ ?_
            · exact ⟨x135, he136, he137, he138, he139, he140, rfl, hS, hL⟩
            · rintro e w ⟨_, _, _, _, _, _, _, _, hz⟩; exact nomatch (show none = some _ from hz)
            · rintro k e161 w160 ⟨x153, he154, he155, he156, he157, he158, he159, hS, hF⟩
              refine cw_gen ?_
              intro Q162 hQ162
              refine cw_seq ?_
              refine cw_gen ?_
              intro Q163 hQ163
              refine cw_seq ?_
              refine cw_gen ?_
              intro Q164 hQ164
              refine cw_regq (by kernel_rfl) (by kernel_rfl) ?_
              refine ql_pv (v := .int .i64 x153) (pv_move he159) (by decide) ?_
              refine ql_pv (v := u2) (pv_move he155) (by decide) ?_
              refine ql_pv (v := .int .i64 (a2.length : Int)) (pv_len rfl ha2) (by decide) ?_
              refine ql_pv (v := .bool (decide (x153 < (a2.length : Int)))) (pv_lss rfl rfl) (by decide) ?_
              refine ql_pv (v := .bool (decide (x153 < (a2.length : Int)))) (pv_move rfl) (by decide) ?_
              replace hF := oif hF
              rcases hF with ⟨hb165, hF⟩ | ⟨hb165, hF⟩
              · refine ql_on rfl hb165 ?_
                refine ql_pv (v := u2) (pv_move he155) (by decide) ?_
                refine ql_on rfl hb165 ?_
                refine ql_pv (v := .int .i64 x153) (pv_move he159) (by decide) ?_
                refine ql_on rfl hb165 ?_
                replace hF := ob hF
                obtain ⟨x166, hx166, hF⟩ := hF
                refine ql_index (wA := w00) rfl ha2 rfl (by decide) rfl hx166 (by decide) ?_
                intro b167 of168 c169 hr170 hm171
                obtain ⟨v172, rfl⟩ := slice_one hr170
                refine ql_on rfl hb165 ?_
                refine ql_pv (v := v172) (pv_loadc rfl ((cells_up hS.below hm171) 0 _ rfl)) (by decide) ?_
                refine ql_on rfl hb165 ?_
                refine ql_pv (v := .int .i64 a3) (pv_move he156) (by decide) ?_
                refine ql_on rfl hb165 ?_
                replace hF := ob hF
                obtain ⟨x173, hx173, hF⟩ := hF
                refine ql_index (wA := w00) rfl hr170 rfl (by decide) rfl hx173 (by decide) ?_
                intro b174 of175 c176 hr177 hm178
                obtain rfl := hr177
                refine ql_on rfl hb165 ?_
                refine ql_pv (v := .int .i64 x173) (pv_loadc rfl ((cells_up hS.below hm178) 0 _ rfl)) (by decide) ?_
                refine ql_on rfl hb165 ?_
                refine ql_pv (v := u2) (pv_move he155) (by decide) ?_
                refine ql_on rfl hb165 ?_
                refine ql_pv (v := .int .i64 x135) (pv_move he158) (by decide) ?_
                refine ql_on rfl hb165 ?_
                replace hF := ob hF
                obtain ⟨x179, hx179, hF⟩ := hF
                refine ql_index (wA := w00) rfl ha2 rfl (by decide) rfl hx179 (by decide) ?_
                intro b180 of181 c182 hr183 hm184
                obtain ⟨v185, rfl⟩ := slice_one hr183
                refine ql_on rfl hb165 ?_
                refine ql_pv (v := v185) (pv_loadc rfl ((cells_up hS.below hm184) 0 _ rfl)) (by decide) ?_
                refine ql_on rfl hb165 ?_
                refine ql_pv (v := .int .i64 a3) (pv_move he156) (by decide) ?_
                refine ql_on rfl hb165 ?_
                replace hF := ob hF
                obtain ⟨x186, hx186, hF⟩ := hF
                refine ql_index (wA := w00) rfl hr183 rfl (by decide) rfl hx186 (by decide) ?_
                intro b187 of188 c189 hr190 hm191
                obtain rfl := hr190
                refine ql_on rfl hb165 ?_
                refine ql_pv (v := .int .i64 x186) (pv_loadc rfl ((cells_up hS.below hm191) 0 _ rfl)) (by decide) ?_
                refine ql_on rfl hb165 ?_
                refine ql_pv (v := .bool (x173 == x186)) (pv_eql rfl rfl) (by decide) ?_
                refine ql_pv (v := .bool (x173 == x186)) (pv_pick_t rfl hb165 rfl) (by decide) ?_
                refine ql_nil ?_
                intro w192 hx193
                replace hS := hS.ext hx193
                refine hQ164 _ _ _ ?_
                refine thn_n ?_
                replace hF := oif hF
                rcases hF with ⟨hb194, hF⟩ | ⟨hb194, hF⟩
                · refine cw_cond_t rfl hb194 ?_
                  refine cw_skip ?_
                  refine hQ163 _ _ _ ?_
                  refine thn_n ?_
                  refine cw_block ?_
                  refine cw_gen ?_
                  intro Q195 hQ195
                  refine cw_reg ?_
                  refine el_pv (v := .int .i64 x153) (pv_move he159) (by decide) ?_
                  replace hF := ob hF
                  obtain ⟨x196, hx196, hF⟩ := hF
                  refine el_pv (v := .int .i64 x196) (pv_add rfl rfl hx196) (by decide) ?_
                  refine el_pv (v := .int .i64 x196) (pv_assign rfl) (by decide) ?_
                  refine el_nil ?_
                  refine hQ195 _ _ _ ?_
                  refine inb_n ?_
                  refine hQ162 _ _ _ ?_
                  refine thn_n ?_
                  exact ⟨x196, he154, he155, he156, he157, he158, rfl, hS, hF⟩
                · refine cw_cond_f rfl hb194 ?_
                  refine cw_exit ?_
                  refine hQ163 _ _ _ ?_
                  refine thn_x ?_
                  refine hQ162 _ _ _ ?_
                  refine thn_x ?_
                  replace hF := exB hF hK152
                  refine hQ150 _ _ _ ?_
                  refine inb_s ?_
                  refine hQ149 _ _ _ ?_
                  refine thn_n ?_
                  refine cw_seq ?_
                  refine cw_gen ?_
                  intro Q197 hQ197
                  obtain ⟨C, hCd⟩ : ∃ C : World → Prop, ∀ w, C w ↔ ∃ G, Sat w00 w ([Box b116 84 [v132, v134]] ++ G) := ⟨_, fun _ => Iff.rfl⟩
                  refine cw_regb [0, 1, 2, 3, 4, 5, 6, 7, 8, 9, 10, 11] C (by kernel_rfl) ?_
                  intro w198 hx199
                  replace hS := hS.ext hx199
                  replace hS : Sat w00 w198 (Box b116 84 [v132, v134] :: Own (sliceR intR 3) [v134] x133 :: Own (sliceR intR 3) [v132] x131 :: Box b0 29 [v128, v130] :: Own (sliceR intR 3) [v128] x127 :: Own (sliceR (pairR (sliceR intR 3) (sliceR intR 3)) 84) [v130] x129 :: G0) := hS.tops 6 [2] rfl
                  have hC := (hCd _).2 ⟨_, hS⟩
                  refine al_p (v := .pointer (some ⟨b116, 0 + 0, none⟩)) (by kernel_rfl) 0 rfl rfl (by decide) hC (by kernel_rfl) (by kernel_rfl) (sv_on rfl (fun w' hw' => by obtain ⟨_, hS⟩ := (hCd _).1 hw'; exact (pv_fieldAddr he157))) ?_
                  refine al_p (v := v132) (by kernel_rfl) 1 rfl rfl (by decide) hC (by kernel_rfl) (by kernel_rfl) (sv_on rfl (fun w' hw' => by obtain ⟨_, hS⟩ := (hCd _).1 hw'; exact (pv_loadc rfl ((hS.boxAt 0 rfl) 0 _ rfl)))) ?_
                  refine al_p (v := u2) (by kernel_rfl) 2 rfl rfl (by decide) hC (by kernel_rfl) (by kernel_rfl) (sv_on rfl (fun w' hw' => by obtain ⟨_, hS⟩ := (hCd _).1 hw'; exact (pv_move he155))) ?_
                  refine al_p (v := .int .i64 x135) (by kernel_rfl) 3 rfl rfl (by decide) hC (by kernel_rfl) (by kernel_rfl) (sv_on rfl (fun w' hw' => by obtain ⟨_, hS⟩ := (hCd _).1 hw'; exact (pv_move he158))) ?_
                  replace hF := ob hF
                  obtain ⟨x200, hx200, hF⟩ := hF
                  refine al_index (wA := w00) (by kernel_rfl) 4 rfl hC (by kernel_rfl) (by kernel_rfl) rfl ha2 rfl (by decide) rfl hx200 (by decide) ?_
                  intro b201 of202 c203 hr204 hm205
                  obtain ⟨v206, rfl⟩ := slice_one hr204
                  refine al_p (v := v206) (by kernel_rfl) 5 rfl rfl (by decide) hC (by kernel_rfl) (by kernel_rfl) (sv_on rfl (fun w' hw' => by obtain ⟨_, hS⟩ := (hCd _).1 hw'; exact (pv_loadc rfl ((cells_up hS.below hm205) 0 _ rfl)))) ?_
                  refine al_one 6 (by kernel_rfl) rfl ?_
                  refine el_pv (v := .int .i64 a3) (pv_move he156) (by decide) ?_
                  refine el_nil ?_
                  refine ⟨fun _ => hC, ?_⟩
                  refine al_one 7 (by kernel_rfl) rfl ?_
                  replace hF := ob hF
                  obtain ⟨x207, hx207, hF⟩ := hF
                  refine el_index (wA := w00) rfl hr204 rfl (by decide) rfl hx207 (by decide) ?_
                  intro b208 of209 c210 hr211 hm212
                  obtain rfl := hr211
                  refine el_nil ?_
                  refine ⟨fun _ => hC, ?_⟩
                  refine al_one 8 (by kernel_rfl) rfl ?_
                  refine el_pv (v := .int .i64 x207) (pv_loadc rfl ((cells_up hS.below hm212) 0 _ rfl)) (by decide) ?_
                  refine el_nil ?_
                  refine ⟨fun _ => hC, ?_⟩
                  refine al_one 9 (by kernel_rfl) rfl ?_
                  refine el_buildSlice1 [.int .i64 x207] rfl (by rfl) (by decide) rfl (by decide) hS (by decide) ?_
                  intro w213 b215 hS hx214
                  refine el_nil ?_
                  replace hS : Sat w00 w213 (Box b116 84 [v132, v134] :: Box b215 3 [.int .i64 x207] :: Own (sliceR intR 3) [v134] x133 :: Own (sliceR intR 3) [v132] x131 :: Box b0 29 [v128, v130] :: Own (sliceR intR 3) [v128] x127 :: Own (sliceR (pairR (sliceR intR 3) (sliceR intR 3)) 84) [v130] x129 :: G0) := hS.tops 7 [1] rfl
                  have hC := (hCd _).2 ⟨_, hS⟩
                  refine ⟨fun _ => hC, ?_⟩
                  refine al_one 10 (by kernel_rfl) rfl ?_
                  replace hF := ob hF
                  obtain ⟨x219, hx219, hF⟩ := hF
                  have hrow220 := hS.boxRow 1 rfl
                  replace hS : Sat w00 w213 (Own (sliceR intR 3) [v132] x131 :: Box b116 84 [v132, v134] :: Box b215 3 [.int .i64 x207] :: Own (sliceR intR 3) [v134] x133 :: Box b0 29 [v128, v130] :: Own (sliceR intR 3) [v128] x127 :: Own (sliceR (pairR (sliceR intR 3) (sliceR intR 3)) 84) [v130] x129 :: G0) := hS.top 3 rfl
                  replace hS := hS.int x207
                  replace hS := hS.one
                  refine el_append rfl (by decide) rfl (by decide) hS rfl rfl rfl (by simp) hrow220 hx219 (by decide) ?_
                  intro w217 v218 hS
                  refine el_nil ?_
                  replace hS : Sat w00 w217 (Box b116 84 [v132, v134] :: Own (sliceR intR 3) [v218] x219 :: Box b215 3 [.int .i64 x207] :: Own (sliceR intR 3) [v134] x133 :: Box b0 29 [v128, v130] :: Own (sliceR intR 3) [v128] x127 :: Own (sliceR (pairR (sliceR intR 3) (sliceR intR 3)) 84) [v130] x129 :: G0) := hS.tops 7 [1] rfl
                  have hC := (hCd _).2 ⟨_, hS⟩
                  refine ⟨fun _ => hC, ?_⟩
                  refine al_one 11 (by kernel_rfl) rfl ?_
                  refine el_pv (v := .pointer (some ⟨b116, 0 + 0, none⟩)) (pv_fieldAddr he157) (by decide) ?_
                  refine el_nil ?_
                  refine ⟨fun _ => hC, ?_⟩
                  refine al_one 12 (by kernel_rfl) rfl ?_
                  refine el_storev (hS.top 0 rfl) rfl [v218] (cells_of rfl (oc (hS.rdAt (R := (sliceR intR 3)) 1 rfl))) rfl (of_decide_eq_true rfl) (all_cons (oc (hS.rdAt (R := (sliceR intR 3)) 1 rfl)) rfl) ?_
                  intro w222 hS
                  replace hS : Sat w00 w222 (Box b116 84 [v218, v134] :: Own (sliceR intR 3) [v218] x219 :: Box b215 3 [.int .i64 x207] :: Own (sliceR intR 3) [v134] x133 :: Box b0 29 [v128, v130] :: Own (sliceR intR 3) [v128] x127 :: Own (sliceR (pairR (sliceR intR 3) (sliceR intR 3)) 84) [v130] x129 :: G0) := hS
                  refine el_nil ?_
                  refine ⟨fun h => (nomatch (show false = true from h)), ?_⟩
                  refine al_nil (by kernel_rfl) ?_
                  refine hQ197 _ _ _ ?_
                  refine thn_n ?_
                  refine cw_seq ?_
                  refine cw_gen ?_
                  intro Q223 hQ223
                  replace hS : Sat w00 w222 (Box b116 84 [v218, v134] :: Own (sliceR intR 3) [v218] x219 :: Own (sliceR intR 3) [v134] x133 :: Box b0 29 [v128, v130] :: Own (sliceR intR 3) [v128] x127 :: Own (sliceR (pairR (sliceR intR 3) (sliceR intR 3)) 84) [v130] x129 :: G0) := hS.rems 7 [2] rfl
                  obtain ⟨C, hCd⟩ : ∃ C : World → Prop, ∀ w, C w ↔ ∃ G, Sat w00 w ([Box b116 84 [v218, v134]] ++ G) := ⟨_, fun _ => Iff.rfl⟩
                  refine cw_regb [0, 1, 2, 3, 4, 5, 6, 7, 8, 9, 10, 11, 12] C (by kernel_rfl) ?_
                  intro w224 hx225
                  replace hS := hS.ext hx225
                  have hC := (hCd _).2 ⟨_, hS⟩
                  refine al_p (v := .pointer (some ⟨b116, 0 + 1, none⟩)) (by kernel_rfl) 0 rfl rfl (by decide) hC (by kernel_rfl) (by kernel_rfl) (sv_on rfl (fun w' hw' => by obtain ⟨_, hS⟩ := (hCd _).1 hw'; exact (pv_fieldAddr he157))) ?_
                  refine al_p (v := v134) (by kernel_rfl) 1 rfl rfl (by decide) hC (by kernel_rfl) (by kernel_rfl) (sv_on rfl (fun w' hw' => by obtain ⟨_, hS⟩ := (hCd _).1 hw'; exact (pv_loadc rfl ((hS.boxAt 0 rfl) 1 _ rfl)))) ?_
                  refine al_p (v := .pointer (some ⟨b0, 0, none⟩)) (by kernel_rfl) 2 rfl rfl (by decide) hC (by kernel_rfl) (by kernel_rfl) (sv_on rfl (fun w' hw' => by obtain ⟨_, hS⟩ := (hCd _).1 hw'; exact (pv_move he154))) ?_
                  refine al_p (v := u2) (by kernel_rfl) 3 rfl rfl (by decide) hC (by kernel_rfl) (by kernel_rfl) (sv_on rfl (fun w' hw' => by obtain ⟨_, hS⟩ := (hCd _).1 hw'; exact (pv_move he155))) ?_
                  refine al_p (v := .int .i64 x135) (by kernel_rfl) 4 rfl rfl (by decide) hC (by kernel_rfl) (by kernel_rfl) (sv_on rfl (fun w' hw' => by obtain ⟨_, hS⟩ := (hCd _).1 hw'; exact (pv_move he158))) ?_
                  refine al_p (v := .int .i64 x153) (by kernel_rfl) 5 rfl rfl (by decide) hC (by kernel_rfl) (by kernel_rfl) (sv_on rfl (fun w' hw' => by obtain ⟨_, hS⟩ := (hCd _).1 hw'; exact (pv_move he159))) ?_
                  replace hF := ob hF
                  obtain ⟨x226, hx226, hF⟩ := hF
                  refine al_slice (wA := w00) (by kernel_rfl) 6 rfl hC (by kernel_rfl) (by kernel_rfl) rfl rfl ha2 (.inl (congrArg some rfl)) (.inl (congrArg some rfl)) hx226 (by decide) ?_
                  intro v227 hr228
                  refine al_one 7 (by kernel_rfl) rfl ?_
                  refine el_pv (v := .int .i64 a3) (pv_move he156) (by decide) ?_
                  refine el_nil ?_
                  refine ⟨fun _ => hC, ?_⟩
                  refine al_one 8 (by kernel_rfl) rfl ?_
                  replace hF := ob hF
                  obtain ⟨x229, hx229, hF⟩ := hF
                  refine el_pv (v := .int .i64 x229) (pv_add rfl rfl hx229) (by decide) ?_
                  refine el_nil ?_
                  refine ⟨fun _ => hC, ?_⟩
                  refine al_one 9 (by kernel_rfl) rfl ?_
                  replace hS : Sat w00 w224 (Box b0 29 [v128, v130] :: Own (sliceR intR 3) [v128] x127 :: Own (sliceR (pairR (sliceR intR 3) (sliceR intR 3)) 84) [v130] x129 :: Box b116 84 [v218, v134] :: Own (sliceR intR 3) [v218] x219 :: Own (sliceR intR 3) [v134] x133 :: G0) := hS.tops 6 [3, 4, 5] rfl
                  replace hF := ob hF
                  obtain ⟨r230, hr230, hF⟩ := hF
                  refine el_call goes93 (ih hr228 hS hr230) (congrArg List.toArray (mapc rfl (mapc rfl (mapc rfl rfl)))) (by decide) ?_
                  rintro _ w231 ⟨v232, v233, rfl, hS⟩
                  refine ⟨_, rfl, ?_⟩
                  replace hS : Sat w00 w231 (Box b0 29 [v232, v233] :: Own (sliceR intR 3) [v232] r230.2.1 :: Own (sliceR (pairR (sliceR intR 3) (sliceR intR 3)) 84) [v233] r230.2.2 :: Box b116 84 [v218, v134] :: Own (sliceR intR 3) [v218] x219 :: Own (sliceR intR 3) [v134] x133 :: G0) := hS
                  refine el_nil ?_
                  replace hS : Sat w00 w231 (Box b116 84 [v218, v134] :: Box b0 29 [v232, v233] :: Own (sliceR intR 3) [v232] r230.2.1 :: Own (sliceR (pairR (sliceR intR 3) (sliceR intR 3)) 84) [v233] r230.2.2 :: Own (sliceR intR 3) [v218] x219 :: Own (sliceR intR 3) [v134] x133 :: G0) := hS.tops 6 [3] rfl
                  have hC := (hCd _).2 ⟨_, hS⟩
                  refine ⟨fun _ => hC, ?_⟩
                  refine al_one 10 (by kernel_rfl) rfl ?_
                  refine el_buildSlice1 [.int .i64 r230.1] rfl (by rfl) (by decide) rfl (by decide) hS (by decide) ?_
                  intro w234 b236 hS hx235
                  refine el_nil ?_
                  replace hS : Sat w00 w234 (Box b116 84 [v218, v134] :: Box b236 3 [.int .i64 r230.1] :: Box b0 29 [v232, v233] :: Own (sliceR intR 3) [v232] r230.2.1 :: Own (sliceR (pairR (sliceR intR 3) (sliceR intR 3)) 84) [v233] r230.2.2 :: Own (sliceR intR 3) [v218] x219 :: Own (sliceR intR 3) [v134] x133 :: G0) := hS.tops 7 [1] rfl
                  have hC := (hCd _).2 ⟨_, hS⟩
                  refine ⟨fun _ => hC, ?_⟩
                  refine al_one 11 (by kernel_rfl) rfl ?_
                  replace hF := ob hF
                  obtain ⟨x240, hx240, hF⟩ := hF
                  have hrow241 := hS.boxRow 1 rfl
                  replace hS : Sat w00 w234 (Own (sliceR intR 3) [v134] x133 :: Box b116 84 [v218, v134] :: Box b236 3 [.int .i64 r230.1] :: Box b0 29 [v232, v233] :: Own (sliceR intR 3) [v232] r230.2.1 :: Own (sliceR (pairR (sliceR intR 3) (sliceR intR 3)) 84) [v233] r230.2.2 :: Own (sliceR intR 3) [v218] x219 :: G0) := hS.top 6 rfl
                  replace hS := hS.int r230.1
                  replace hS := hS.one
                  refine el_append rfl (by decide) rfl (by decide) hS rfl rfl rfl (by simp) hrow241 hx240 (by decide) ?_
                  intro w238 v239 hS
                  refine el_nil ?_
                  replace hS : Sat w00 w238 (Box b116 84 [v218, v134] :: Own (sliceR intR 3) [v239] x240 :: Box b236 3 [.int .i64 r230.1] :: Box b0 29 [v232, v233] :: Own (sliceR intR 3) [v232] r230.2.1 :: Own (sliceR (pairR (sliceR intR 3) (sliceR intR 3)) 84) [v233] r230.2.2 :: Own (sliceR intR 3) [v218] x219 :: G0) := hS.tops 7 [1] rfl
                  have hC := (hCd _).2 ⟨_, hS⟩
                  refine ⟨fun _ => hC, ?_⟩
                  refine al_one 12 (by kernel_rfl) rfl ?_
                  refine el_pv (v := .pointer (some ⟨b116, 0 + 1, none⟩)) (pv_fieldAddr he157) (by decide) ?_
                  refine el_nil ?_
                  refine ⟨fun _ => hC, ?_⟩
                  refine al_one 13 (by kernel_rfl) rfl ?_
                  refine el_storev (hS.top 0 rfl) rfl [v239] (cells_of rfl (oc (hS.rdAt (R := (sliceR intR 3)) 1 rfl))) rfl (of_decide_eq_true rfl) (all_cons (oc (hS.rdAt (R := (sliceR intR 3)) 1 rfl)) rfl) ?_
                  intro w243 hS
                  replace hS : Sat w00 w243 (Box b116 84 [v218, v239] :: Own (sliceR intR 3) [v239] x240 :: Box b236 3 [.int .i64 r230.1] :: Box b0 29 [v232, v233] :: Own (sliceR intR 3) [v232] r230.2.1 :: Own (sliceR (pairR (sliceR intR 3) (sliceR intR 3)) 84) [v233] r230.2.2 :: Own (sliceR intR 3) [v218] x219 :: G0) := hS
                  refine el_nil ?_
                  refine ⟨fun h => (nomatch (show false = true from h)), ?_⟩
                  refine al_nil (by kernel_rfl) ?_
                  refine hQ223 _ _ _ ?_
                  refine thn_n ?_
                  replace hS : Sat w00 w243 (Box b116 84 [v218, v239] :: Own (sliceR intR 3) [v239] x240 :: Box b0 29 [v232, v233] :: Own (sliceR intR 3) [v232] r230.2.1 :: Own (sliceR (pairR (sliceR intR 3) (sliceR intR 3)) 84) [v233] r230.2.2 :: Own (sliceR intR 3) [v218] x219 :: G0) := hS.rems 7 [2] rfl
                  refine cw_reg ?_
                  refine el_pv (v := .int .i64 x153) (pv_move he159) (by decide) ?_
                  refine el_pv (v := .int .i64 x153) (pv_assign rfl) (by decide) ?_
                  refine el_nil ?_
                  refine hQ147 _ _ _ ?_
                  refine inb_n ?_
                  refine hQ143 _ _ _ ?_
                  refine thn_n ?_
                  replace hS : Sat w00 w243 (Own (sliceR intR 3) [v239] x240 :: Own (sliceR intR 3) [v218] x219 :: Box b116 84 [v218, v239] :: Box b0 29 [v232, v233] :: Own (sliceR intR 3) [v232] r230.2.1 :: Own (sliceR (pairR (sliceR intR 3) (sliceR intR 3)) 84) [v233] r230.2.2 :: G0) := hS.tops 6 [1, 5, 0, 2, 3, 4] rfl
                  exact ⟨v232, r230.2.1, v233, r230.2.2, v218, x219, v239, x240, x153, he154, he155, he156, he157, rfl, hS, hF⟩
              · refine ql_off rfl hb165 rfl (by decide) ?_
                refine ql_off rfl hb165 rfl (by decide) ?_
                refine ql_off rfl hb165 rfl (by decide) ?_
                refine ql_off rfl hb165 rfl (by decide) ?_
                refine ql_off rfl hb165 rfl (by decide) ?_
                refine ql_off rfl hb165 rfl (by decide) ?_
                refine ql_off rfl hb165 rfl (by decide) ?_
                refine ql_off rfl hb165 rfl (by decide) ?_
                refine ql_off rfl hb165 rfl (by decide) ?_
                refine ql_off rfl hb165 rfl (by decide) ?_
                refine ql_off rfl hb165 rfl (by decide) ?_
                refine ql_off rfl hb165 rfl (by decide) ?_
                refine ql_off rfl hb165 rfl (by decide) ?_
                refine ql_off rfl hb165 rfl (by decide) ?_
                refine ql_off rfl hb165 rfl (by decide) ?_
                refine ql_pv (v := .bool false) (pv_pick_f rfl hb165 rfl) (by decide) ?_
                refine ql_nil ?_
                intro w244 hx245
                replace hS := hS.ext hx245
                refine hQ164 _ _ _ ?_
                refine thn_n ?_
                refine cw_cond_f rfl rfl ?_
                refine cw_exit ?_
                refine hQ163 _ _ _ ?_
                refine thn_x ?_
                refine hQ162 _ _ _ ?_
                refine thn_x ?_
                replace hF := exB hF hK152
                refine hQ150 _ _ _ ?_
                refine inb_s ?_
                refine hQ149 _ _ _ ?_
                refine thn_n ?_
                refine cw_seq ?_
                refine cw_gen ?_
                intro Q246 hQ246
                obtain ⟨C, hCd⟩ : ∃ C : World → Prop, ∀ w, C w ↔ ∃ G, Sat w00 w ([Box b116 84 [v132, v134]] ++ G) := ⟨_, fun _ => Iff.rfl⟩
                refine cw_regb [0, 1, 2, 3, 4, 5, 6, 7, 8, 9, 10, 11] C (by kernel_rfl) ?_
                intro w247 hx248
                replace hS := hS.ext hx248
                replace hS : Sat w00 w247 (Box b116 84 [v132, v134] :: Own (sliceR intR 3) [v134] x133 :: Own (sliceR intR 3) [v132] x131 :: Box b0 29 [v128, v130] :: Own (sliceR intR 3) [v128] x127 :: Own (sliceR (pairR (sliceR intR 3) (sliceR intR 3)) 84) [v130] x129 :: G0) := hS.tops 6 [2] rfl
                have hC := (hCd _).2 ⟨_, hS⟩
                refine al_p (v := .pointer (some ⟨b116, 0 + 0, none⟩)) (by kernel_rfl) 0 rfl rfl (by decide) hC (by kernel_rfl) (by kernel_rfl) (sv_on rfl (fun w' hw' => by obtain ⟨_, hS⟩ := (hCd _).1 hw'; exact (pv_fieldAddr he157))) ?_
                refine al_p (v := v132) (by kernel_rfl) 1 rfl rfl (by decide) hC (by kernel_rfl) (by kernel_rfl) (sv_on rfl (fun w' hw' => by obtain ⟨_, hS⟩ := (hCd _).1 hw'; exact (pv_loadc rfl ((hS.boxAt 0 rfl) 0 _ rfl)))) ?_
                refine al_p (v := u2) (by kernel_rfl) 2 rfl rfl (by decide) hC (by kernel_rfl) (by kernel_rfl) (sv_on rfl (fun w' hw' => by obtain ⟨_, hS⟩ := (hCd _).1 hw'; exact (pv_move he155))) ?_
                refine al_p (v := .int .i64 x135) (by kernel_rfl) 3 rfl rfl (by decide) hC (by kernel_rfl) (by kernel_rfl) (sv_on rfl (fun w' hw' => by obtain ⟨_, hS⟩ := (hCd _).1 hw'; exact (pv_move he158))) ?_
                replace hF := ob hF
                obtain ⟨x249, hx249, hF⟩ := hF
                refine al_index (wA := w00) (by kernel_rfl) 4 rfl hC (by kernel_rfl) (by kernel_rfl) rfl ha2 rfl (by decide) rfl hx249 (by decide) ?_
                intro b250 of251 c252 hr253 hm254
                obtain ⟨v255, rfl⟩ := slice_one hr253
                refine al_p (v := v255) (by kernel_rfl) 5 rfl rfl (by decide) hC (by kernel_rfl) (by kernel_rfl) (sv_on rfl (fun w' hw' => by obtain ⟨_, hS⟩ := (hCd _).1 hw'; exact (pv_loadc rfl ((cells_up hS.below hm254) 0 _ rfl)))) ?_
                refine al_one 6 (by kernel_rfl) rfl ?_
                refine el_pv (v := .int .i64 a3) (pv_move he156) (by decide) ?_
                refine el_nil ?_
                refine ⟨fun _ => hC, ?_⟩
                refine al_one 7 (by kernel_rfl) rfl ?_
                replace hF := ob hF
                obtain ⟨x256, hx256, hF⟩ := hF
                refine el_index (wA := w00) rfl hr253 rfl (by decide) rfl hx256 (by decide) ?_
                intro b257 of258 c259 hr260 hm261
                obtain rfl := hr260
                refine el_nil ?_
                refine ⟨fun _ => hC, ?_⟩
                refine al_one 8 (by kernel_rfl) rfl ?_
                refine el_pv (v := .int .i64 x256) (pv_loadc rfl ((cells_up hS.below hm261) 0 _ rfl)) (by decide) ?_
                refine el_nil ?_
                refine ⟨fun _ => hC, ?_⟩
                refine al_one 9 (by kernel_rfl) rfl ?_
                refine el_buildSlice1 [.int .i64 x256] rfl (by rfl) (by decide) rfl (by decide) hS (by decide) ?_
                intro w262 b264 hS hx263
                refine el_nil ?_
                replace hS : Sat w00 w262 (Box b116 84 [v132, v134] :: Box b264 3 [.int .i64 x256] :: Own (sliceR intR 3) [v134] x133 :: Own (sliceR intR 3) [v132] x131 :: Box b0 29 [v128, v130] :: Own (sliceR intR 3) [v128] x127 :: Own (sliceR (pairR (sliceR intR 3) (sliceR intR 3)) 84) [v130] x129 :: G0) := hS.tops 7 [1] rfl
                have hC := (hCd _).2 ⟨_, hS⟩
                refine ⟨fun _ => hC, ?_⟩
                refine al_one 10 (by kernel_rfl) rfl ?_
                replace hF := ob hF
                obtain ⟨x268, hx268, hF⟩ := hF
                have hrow269 := hS.boxRow 1 rfl
                replace hS : Sat w00 w262 (Own (sliceR intR 3) [v132] x131 :: Box b116 84 [v132, v134] :: Box b264 3 [.int .i64 x256] :: Own (sliceR intR 3) [v134] x133 :: Box b0 29 [v128, v130] :: Own (sliceR intR 3) [v128] x127 :: Own (sliceR (pairR (sliceR intR 3) (sliceR intR 3)) 84) [v130] x129 :: G0) := hS.top 3 rfl
                replace hS := hS.int x256
                replace hS := hS.one
                refine el_append rfl (by decide) rfl (by decide) hS rfl rfl rfl (by simp) hrow269 hx268 (by decide) ?_
                intro w266 v267 hS
                refine el_nil ?_
                replace hS : Sat w00 w266 (Box b116 84 [v132, v134] :: Own (sliceR intR 3) [v267] x268 :: Box b264 3 [.int .i64 x256] :: Own (sliceR intR 3) [v134] x133 :: Box b0 29 [v128, v130] :: Own (sliceR intR 3) [v128] x127 :: Own (sliceR (pairR (sliceR intR 3) (sliceR intR 3)) 84) [v130] x129 :: G0) := hS.tops 7 [1] rfl
                have hC := (hCd _).2 ⟨_, hS⟩
                refine ⟨fun _ => hC, ?_⟩
                refine al_one 11 (by kernel_rfl) rfl ?_
                refine el_pv (v := .pointer (some ⟨b116, 0 + 0, none⟩)) (pv_fieldAddr he157) (by decide) ?_
                refine el_nil ?_
                refine ⟨fun _ => hC, ?_⟩
                refine al_one 12 (by kernel_rfl) rfl ?_
                refine el_storev (hS.top 0 rfl) rfl [v267] (cells_of rfl (oc (hS.rdAt (R := (sliceR intR 3)) 1 rfl))) rfl (of_decide_eq_true rfl) (all_cons (oc (hS.rdAt (R := (sliceR intR 3)) 1 rfl)) rfl) ?_
                intro w271 hS
                replace hS : Sat w00 w271 (Box b116 84 [v267, v134] :: Own (sliceR intR 3) [v267] x268 :: Box b264 3 [.int .i64 x256] :: Own (sliceR intR 3) [v134] x133 :: Box b0 29 [v128, v130] :: Own (sliceR intR 3) [v128] x127 :: Own (sliceR (pairR (sliceR intR 3) (sliceR intR 3)) 84) [v130] x129 :: G0) := hS
                refine el_nil ?_
                refine ⟨fun h => (nomatch (show false = true from h)), ?_⟩
                refine al_nil (by kernel_rfl) ?_
                refine hQ246 _ _ _ ?_
                refine thn_n ?_
                refine cw_seq ?_
                refine cw_gen ?_
                intro Q272 hQ272
                replace hS : Sat w00 w271 (Box b116 84 [v267, v134] :: Own (sliceR intR 3) [v267] x268 :: Own (sliceR intR 3) [v134] x133 :: Box b0 29 [v128, v130] :: Own (sliceR intR 3) [v128] x127 :: Own (sliceR (pairR (sliceR intR 3) (sliceR intR 3)) 84) [v130] x129 :: G0) := hS.rems 7 [2] rfl
                obtain ⟨C, hCd⟩ : ∃ C : World → Prop, ∀ w, C w ↔ ∃ G, Sat w00 w ([Box b116 84 [v267, v134]] ++ G) := ⟨_, fun _ => Iff.rfl⟩
                refine cw_regb [0, 1, 2, 3, 4, 5, 6, 7, 8, 9, 10, 11, 12] C (by kernel_rfl) ?_
                intro w273 hx274
                replace hS := hS.ext hx274
                have hC := (hCd _).2 ⟨_, hS⟩
                refine al_p (v := .pointer (some ⟨b116, 0 + 1, none⟩)) (by kernel_rfl) 0 rfl rfl (by decide) hC (by kernel_rfl) (by kernel_rfl) (sv_on rfl (fun w' hw' => by obtain ⟨_, hS⟩ := (hCd _).1 hw'; exact (pv_fieldAddr he157))) ?_
                refine al_p (v := v134) (by kernel_rfl) 1 rfl rfl (by decide) hC (by kernel_rfl) (by kernel_rfl) (sv_on rfl (fun w' hw' => by obtain ⟨_, hS⟩ := (hCd _).1 hw'; exact (pv_loadc rfl ((hS.boxAt 0 rfl) 1 _ rfl)))) ?_
                refine al_p (v := .pointer (some ⟨b0, 0, none⟩)) (by kernel_rfl) 2 rfl rfl (by decide) hC (by kernel_rfl) (by kernel_rfl) (sv_on rfl (fun w' hw' => by obtain ⟨_, hS⟩ := (hCd _).1 hw'; exact (pv_move he154))) ?_
                refine al_p (v := u2) (by kernel_rfl) 3 rfl rfl (by decide) hC (by kernel_rfl) (by kernel_rfl) (sv_on rfl (fun w' hw' => by obtain ⟨_, hS⟩ := (hCd _).1 hw'; exact (pv_move he155))) ?_
                refine al_p (v := .int .i64 x135) (by kernel_rfl) 4 rfl rfl (by decide) hC (by kernel_rfl) (by kernel_rfl) (sv_on rfl (fun w' hw' => by obtain ⟨_, hS⟩ := (hCd _).1 hw'; exact (pv_move he158))) ?_
                refine al_p (v := .int .i64 x153) (by kernel_rfl) 5 rfl rfl (by decide) hC (by kernel_rfl) (by kernel_rfl) (sv_on rfl (fun w' hw' => by obtain ⟨_, hS⟩ := (hCd _).1 hw'; exact (pv_move he159))) ?_
                replace hF := ob hF
                obtain ⟨x275, hx275, hF⟩ := hF
                refine al_slice (wA := w00) (by kernel_rfl) 6 rfl hC (by kernel_rfl) (by kernel_rfl) rfl rfl ha2 (.inl (congrArg some rfl)) (.inl (congrArg some rfl)) hx275 (by decide) ?_
                intro v276 hr277
                refine al_one 7 (by kernel_rfl) rfl ?_
                refine el_pv (v := .int .i64 a3) (pv_move he156) (by decide) ?_
                refine el_nil ?_
                refine ⟨fun _ => hC, ?_⟩
                refine al_one 8 (by kernel_rfl) rfl ?_
                replace hF := ob hF
                obtain ⟨x278, hx278, hF⟩ := hF
                refine el_pv (v := .int .i64 x278) (pv_add rfl rfl hx278) (by decide) ?_
                refine el_nil ?_
                refine ⟨fun _ => hC, ?_⟩
                refine al_one 9 (by kernel_rfl) rfl ?_
                replace hS : Sat w00 w273 (Box b0 29 [v128, v130] :: Own (sliceR intR 3) [v128] x127 :: Own (sliceR (pairR (sliceR intR 3) (sliceR intR 3)) 84) [v130] x129 :: Box b116 84 [v267, v134] :: Own (sliceR intR 3) [v267] x268 :: Own (sliceR intR 3) [v134] x133 :: G0) := hS.tops 6 [3, 4, 5] rfl
                replace hF := ob hF
                obtain ⟨r279, hr279, hF⟩ := hF
                refine el_call goes93 (ih hr277 hS hr279) (congrArg List.toArray (mapc rfl (mapc rfl (mapc rfl rfl)))) (by decide) ?_
                rintro _ w280 ⟨v281, v282, rfl, hS⟩
                refine ⟨_, rfl, ?_⟩
                replace hS : Sat w00 w280 (Box b0 29 [v281, v282] :: Own (sliceR intR 3) [v281] r279.2.1 :: Own (sliceR (pairR (sliceR intR 3) (sliceR intR 3)) 84) [v282] r279.2.2 :: Box b116 84 [v267, v134] :: Own (sliceR intR 3) [v267] x268 :: Own (sliceR intR 3) [v134] x133 :: G0) := hS
                refine el_nil ?_
                replace hS : Sat w00 w280 (Box b116 84 [v267, v134] :: Box b0 29 [v281, v282] :: Own (sliceR intR 3) [v281] r279.2.1 :: Own (sliceR (pairR (sliceR intR 3) (sliceR intR 3)) 84) [v282] r279.2.2 :: Own (sliceR intR 3) [v267] x268 :: Own (sliceR intR 3) [v134] x133 :: G0) := hS.tops 6 [3] rfl
                have hC := (hCd _).2 ⟨_, hS⟩
                refine ⟨fun _ => hC, ?_⟩
                refine al_one 10 (by kernel_rfl) rfl ?_
                refine el_buildSlice1 [.int .i64 r279.1] rfl (by rfl) (by decide) rfl (by decide) hS (by decide) ?_
                intro w283 b285 hS hx284
                refine el_nil ?_
                replace hS : Sat w00 w283 (Box b116 84 [v267, v134] :: Box b285 3 [.int .i64 r279.1] :: Box b0 29 [v281, v282] :: Own (sliceR intR 3) [v281] r279.2.1 :: Own (sliceR (pairR (sliceR intR 3) (sliceR intR 3)) 84) [v282] r279.2.2 :: Own (sliceR intR 3) [v267] x268 :: Own (sliceR intR 3) [v134] x133 :: G0) := hS.tops 7 [1] rfl
                have hC := (hCd _).2 ⟨_, hS⟩
                refine ⟨fun _ => hC, ?_⟩
                refine al_one 11 (by kernel_rfl) rfl ?_
                replace hF := ob hF
                obtain ⟨x289, hx289, hF⟩ := hF
                have hrow290 := hS.boxRow 1 rfl
                replace hS : Sat w00 w283 (Own (sliceR intR 3) [v134] x133 :: Box b116 84 [v267, v134] :: Box b285 3 [.int .i64 r279.1] :: Box b0 29 [v281, v282] :: Own (sliceR intR 3) [v281] r279.2.1 :: Own (sliceR (pairR (sliceR intR 3) (sliceR intR 3)) 84) [v282] r279.2.2 :: Own (sliceR intR 3) [v267] x268 :: G0) := hS.top 6 rfl
                replace hS := hS.int r279.1
                replace hS := hS.one
                refine el_append rfl (by decide) rfl (by decide) hS rfl rfl rfl (by simp) hrow290 hx289 (by decide) ?_
                intro w287 v288 hS
                refine el_nil ?_
                replace hS : Sat w00 w287 (Box b116 84 [v267, v134] :: Own (sliceR intR 3) [v288] x289 :: Box b285 3 [.int .i64 r279.1] :: Box b0 29 [v281, v282] :: Own (sliceR intR 3) [v281] r279.2.1 :: Own (sliceR (pairR (sliceR intR 3) (sliceR intR 3)) 84) [v282] r279.2.2 :: Own (sliceR intR 3) [v267] x268 :: G0) := hS.tops 7 [1] rfl
                have hC := (hCd _).2 ⟨_, hS⟩
                refine ⟨fun _ => hC, ?_⟩
                refine al_one 12 (by kernel_rfl) rfl ?_
                refine el_pv (v := .pointer (some ⟨b116, 0 + 1, none⟩)) (pv_fieldAddr he157) (by decide) ?_
                refine el_nil ?_
                refine ⟨fun _ => hC, ?_⟩
                refine al_one 13 (by kernel_rfl) rfl ?_
                refine el_storev (hS.top 0 rfl) rfl [v288] (cells_of rfl (oc (hS.rdAt (R := (sliceR intR 3)) 1 rfl))) rfl (of_decide_eq_true rfl) (all_cons (oc (hS.rdAt (R := (sliceR intR 3)) 1 rfl)) rfl) ?_
                intro w292 hS
                replace hS : Sat w00 w292 (Box b116 84 [v267, v288] :: Own (sliceR intR 3) [v288] x289 :: Box b285 3 [.int .i64 r279.1] :: Box b0 29 [v281, v282] :: Own (sliceR intR 3) [v281] r279.2.1 :: Own (sliceR (pairR (sliceR intR 3) (sliceR intR 3)) 84) [v282] r279.2.2 :: Own (sliceR intR 3) [v267] x268 :: G0) := hS
                refine el_nil ?_
                refine ⟨fun h => (nomatch (show false = true from h)), ?_⟩
                refine al_nil (by kernel_rfl) ?_
                refine hQ272 _ _ _ ?_
                refine thn_n ?_
                replace hS : Sat w00 w292 (Box b116 84 [v267, v288] :: Own (sliceR intR 3) [v288] x289 :: Box b0 29 [v281, v282] :: Own (sliceR intR 3) [v281] r279.2.1 :: Own (sliceR (pairR (sliceR intR 3) (sliceR intR 3)) 84) [v282] r279.2.2 :: Own (sliceR intR 3) [v267] x268 :: G0) := hS.rems 7 [2] rfl
                refine cw_reg ?_
                refine el_pv (v := .int .i64 x153) (pv_move he159) (by decide) ?_
                refine el_pv (v := .int .i64 x153) (pv_assign rfl) (by decide) ?_
                refine el_nil ?_
                refine hQ147 _ _ _ ?_
                refine inb_n ?_
                refine hQ143 _ _ _ ?_
                refine thn_n ?_
                replace hS : Sat w00 w292 (Own (sliceR intR 3) [v288] x289 :: Own (sliceR intR 3) [v267] x268 :: Box b116 84 [v267, v288] :: Box b0 29 [v281, v282] :: Own (sliceR intR 3) [v281] r279.2.1 :: Own (sliceR (pairR (sliceR intR 3) (sliceR intR 3)) 84) [v282] r279.2.2 :: G0) := hS.tops 6 [1, 5, 0, 2, 3, 4] rfl
                exact ⟨v281, r279.2.1, v282, r279.2.2, v267, x268, v288, x289, x153, he154, he155, he156, he157, rfl, hS, hF⟩
          · refine cw_cond_f rfl hb146 ?_
            refine cw_exit ?_
            refine hQ144 _ _ _ ?_
            refine thn_x ?_
            refine hQ143 _ _ _ ?_
            refine thn_x ?_
            replace hF := exB hF hK126
            refine hQ122 _ _ _ ?_
            refine inb_s ?_
            refine hQ120 _ _ _ ?_
            refine thn_n ?_
            refine cw_seq ?_
            refine cw_gen ?_
            intro Q293 hQ293
            refine cw_reg ?_
            refine el_pv (v := .pointer (some ⟨b0, 0, none⟩)) (pv_move he136) (by decide) ?_
            refine el_pv (v := .agg #[v132, v134]) (pv_loada (cs := [v132, v134]) he139 rfl (boxc0 (hS.boxAt 2 rfl))) (by decide) ?_
            replace hS : Sat w00 w141 (Box b0 29 [v128, v130] :: Own (sliceR intR 3) [v128] x127 :: Own (sliceR (pairR (sliceR intR 3) (sliceR intR 3)) 84) [v130] x129 :: Own (sliceR intR 3) [v132] x131 :: Own (sliceR intR 3) [v134] x133 :: Box b116 84 [v132, v134] :: G0) := hS.tops 6 [3, 4, 5, 1, 0] rfl
            replace hF := ob hF
            obtain ⟨r294, hr294, hF⟩ := hF
            refine el_call goes112 (spec_l23Put_ok hS hr294) (congrArg List.toArray (mapc rfl (mapc rfl rfl))) (by decide) ?_
            rintro _ w295 ⟨v296, v297, rfl, hS⟩
            refine ⟨_, rfl, ?_⟩
            replace hS : Sat w00 w295 (Box b0 29 [v296, v297] :: Own (sliceR intR 3) [v296] r294.2.1 :: Own (sliceR (pairR (sliceR intR 3) (sliceR intR 3)) 84) [v297] r294.2.2 :: Box b116 84 [v132, v134] :: G0) := hS
            refine el_pv (v := .int .i64 r294.1) (pv_assign rfl) (by decide) ?_
            refine el_nil ?_
            refine hQ293 _ _ _ ?_
            refine thn_n ?_
            refine cw_ret ?_
            refine fin1 rfl rfl ?_
            have hr := Option.some.inj hF
            replace hS : Sat w00 w295 (Box b0 29 [v296, v297] :: Own (sliceR intR 3) [v296] r294.2.1 :: Own (sliceR (pairR (sliceR intR 3) (sliceR intR 3)) 84) [v297] r294.2.2 :: G0) := hS.rems 4 [3] rfl
            exact ⟨v296, v297, congrArg (fun (r : Int × (List Int) × (List (List Int × List Int))) => Ending.returned (.int .i64 r.1)) hr, Eq.mp (congrArg (fun (r : Int × (List Int) × (List (List Int × List Int))) => Sat w00 w295 (Box b0 29 [v296, v297] :: Own (sliceR intR 3) [v296] r.2.1 :: Own (sliceR (pairR (sliceR intR 3) (sliceR intR 3)) 84) [v297] r.2.2 :: G0)) hr) hS⟩
    · refine el_off rfl hb104 rfl (by decide) ?_
      refine el_off rfl hb104 rfl (by decide) ?_
      refine el_off rfl hb104 rfl (by decide) ?_
      refine el_off rfl hb104 rfl (by decide) ?_
      refine el_off rfl hb104 rfl (by decide) ?_
      refine el_off rfl hb104 rfl (by decide) ?_
      refine el_pv (v := .bool false) (pv_pick_f rfl hb104 rfl) (by decide) ?_
      refine el_nil ?_
      refine hQ103 _ _ _ ?_
      refine thn_n ?_
      refine cw_cond_f rfl rfl ?_
      refine cw_skip ?_
      refine hQ102 _ _ _ ?_
      refine thn_n ?_
      refine cw_seq ?_
      refine cw_gen ?_
      intro Q298 hQ298
      refine cw_reg ?_
      refine el_pv (v := .agg #[(.slice none 0 0), (.slice none 0 0)]) (pv_build [] [(.slice none 0 0), (.slice none 0 0)] rfl rfl) (by decide) ?_
      refine el_alloc hS (by decide) ?_
      intro w299 b300 hS hx301
      refine el_storev (hS.top 0 rfl) rfl [(.slice none 0 0), (.slice none 0 0)] rfl rfl (of_decide_eq_true rfl) (all_cons rfl (all_cons rfl rfl)) ?_
      intro w303 hS
      replace hS : Sat w00 w303 (Box b300 84 [(.slice none 0 0), (.slice none 0 0)] :: Box b0 29 [u0, u1] :: Own (sliceR intR 3) [u0] a0 :: Own (sliceR (pairR (sliceR intR 3) (sliceR intR 3)) 84) [u1] a1 :: G0) := hS
      refine el_nil ?_
      refine hQ298 _ _ _ ?_
      refine thn_n ?_
      refine cw_seq ?_
      refine cw_gen ?_
      intro Q304 hQ304
      refine cw_seq ?_
      refine cw_gen ?_
      intro Q305 hQ305
      refine cw_reg ?_
      refine el_pv (v := .int .i64 0) (pv_assign rfl) (by decide) ?_
      refine el_nil ?_
      refine hQ305 _ _ _ ?_
      refine thn_n ?_
      refine cw_block ?_
      refine cw_gen ?_
      intro Q306 hQ306
      replace hS := hS.nil intR 3
      replace hS := hS.nil intR 3
      obtain ⟨s309, hL, hK310⟩ := ob hF
      refine cw_loopS (fun k e w => ∃ (v312 : Value), ∃ (x311 : List Int), ∃ (v314 : Value), ∃ (x313 : List (List Int × List Int)), ∃ (v316 : Value), ∃ (x315 : List Int), ∃ (v318 : Value), ∃ (x317 : List Int), ∃ (x319 : Int), e 0 = .pointer (some ⟨b0, 0, none⟩) ∧ e 1 = u2 ∧ e 2 = .int .i64 a3 ∧ e 7 = .pointer (some ⟨b300, 0, none⟩) ∧ e 8 = .int .i64 x319 ∧ Sat w00 w (Own (sliceR intR 3) [v318] x317 :: Own (sliceR intR 3) [v316] x315 :: Box b300 84 [v316, v318] :: Box b0 29 [v312, v314] :: Own (sliceR intR 3) [v312] x311 :: Own (sliceR (pairR (sliceR intR 3) (sliceR intR 3)) 84) [v314] x313 :: G0) ∧ spec_l23Build_L1 (spec_l23Build N) N k x311 x313 a2 a3 x315 x317 x319 = some s309) N ?_ ?_ ?_
      · exact ⟨u0, a0, u1, a1, (.slice none 0 0), [], (.slice none 0 0), [], 0, rfl, rfl, rfl, rfl, rfl, hS, hL⟩
      · rintro e w ⟨_, _, _, _, _, _, _, _, _, _, _, _, _, _, _, hz⟩; exact nomatch (show none = some _ from hz)
      · rintro k e326 w325 ⟨v312, x311, v314, x313, v316, x315, v318, x317, x319, he320, he321, he322, he323, he324, hS, hF⟩
        refine cw_gen ?_
        intro Q327 hQ327
        refine cw_seq ?_
        refine cw_gen ?_
        intro Q328 hQ328
        refine cw_seq ?_
        refine cw_gen ?_
        intro Q329 hQ329
        refine cw_reg ?_
        refine el_pv (v := .int .i64 x319) (pv_move he324) (by decide) ?_
        refine el_pv (v := u2) (pv_move he321) (by decide) ?_
        refine el_pv (v := .int .i64 (a2.length : Int)) (pv_len rfl ha2) (by decide) ?_
        refine el_pv (v := .bool (decide (x319 < (a2.length : Int)))) (pv_lss rfl rfl) (by decide) ?_
        refine el_nil ?_
        refine hQ329 _ _ _ ?_
        refine thn_n ?_
        replace hF := oif hF
        rcases hF with ⟨hb330, hF⟩ | ⟨hb330, hF⟩
        · refine cw_cond_t rfl hb330 ?_
          refine cw_skip ?_
          refine hQ328 _ _ _ ?_
          refine thn_n ?_
          refine cw_block ?_
          refine cw_gen ?_
          intro Q331 hQ331
          refine cw_seq ?_
          refine cw_gen ?_
          intro Q332 hQ332
          refine cw_reg ?_
          refine el_pv (v := .int .i64 x319) (pv_move he324) (by decide) ?_
          refine el_pv (v := .int .i64 x319) (pv_assign rfl) (by decide) ?_
          refine el_nil ?_
          refine hQ332 _ _ _ ?_
          refine thn_n ?_
          refine cw_seq ?_
          refine cw_gen ?_
          intro Q333 hQ333
          refine cw_block ?_
          refine cw_gen ?_
          intro Q334 hQ334
          obtain ⟨s335, hL, hK336⟩ := ob hF
          refine cw_loopS (fun k e w => ∃ (x337 : Int), e 0 = .pointer (some ⟨b0, 0, none⟩) ∧ e 1 = u2 ∧ e 2 = .int .i64 a3 ∧ e 7 = .pointer (some ⟨b300, 0, none⟩) ∧ e 8 = .int .i64 x319 ∧ e 9 = .int .i64 x337 ∧ Sat w00 w (Own (sliceR intR 3) [v318] x317 :: Own (sliceR intR 3) [v316] x315 :: Box b300 84 [v316, v318] :: Box b0 29 [v312, v314] :: Own (sliceR intR 3) [v312] x311 :: Own (sliceR (pairR (sliceR intR 3) (sliceR intR 3)) 84) [v314] x313 :: G0) ∧ spec_l23Build_L2 (spec_l23Build N) N k x311 x313 a2 a3 x315 x317 x319 x337 = some s335) N ?_ ?_ ?_
          · exact ⟨x319, he320, he321, he322, he323, he324, rfl, hS, hL⟩
          · rintro e w ⟨_, _, _, _, _, _, _, _, hz⟩; exact nomatch (show none = some _ from hz)
          · rintro k e345 w344 ⟨x337, he338, he339, he340, he341, he342, he343, hS, hF⟩
            refine cw_gen ?_
            intro Q346 hQ346
            refine cw_seq ?_
            refine cw_gen ?_
            intro Q347 hQ347
            refine cw_seq ?_
            refine cw_gen ?_
            intro Q348 hQ348
            refine cw_regq (by kernel_rfl) (by kernel_rfl) ?_
            refine ql_pv (v := .int .i64 x337) (pv_move he343) (by decide) ?_
            refine ql_pv (v := u2) (pv_move he339) (by decide) ?_
            refine ql_pv (v := .int .i64 (a2.length : Int)) (pv_len rfl ha2) (by decide) ?_
            refine ql_pv (v := .bool (decide (x337 < (a2.length : Int)))) (pv_lss rfl rfl) (by decide) ?_
            refine ql_pv (v := .bool (decide (x337 < (a2.length : Int)))) (pv_move rfl) (by decide) ?_
            replace hF := oif hF
            rcases hF with ⟨hb349, hF⟩ | ⟨hb349, hF⟩
            · refine ql_on rfl hb349 ?_
              refine ql_pv (v := u2) (pv_move he339) (by decide) ?_
              refine ql_on rfl hb349 ?_
              refine ql_pv (v := .int .i64 x337) (pv_move he343) (by decide) ?_
              refine ql_on rfl hb349 ?_
              replace hF := ob hF
              obtain ⟨x350, hx350, hF⟩ := hF
              refine ql_index (wA := w00) rfl ha2 rfl (by decide) rfl hx350 (by decide) ?_
              intro b351 of352 c353 hr354 hm355
              obtain ⟨v356, rfl⟩ := slice_one hr354
              refine ql_on rfl hb349 ?_
              refine ql_pv (v := v356) (pv_loadc rfl ((cells_up hS.below hm355) 0 _ rfl)) (by decide) ?_
              refine ql_on rfl hb349 ?_
              refine ql_pv (v := .int .i64 a3) (pv_move he340) (by decide) ?_
              refine ql_on rfl hb349 ?_
              replace hF := ob hF
              obtain ⟨x357, hx357, hF⟩ := hF
              refine ql_index (wA := w00) rfl hr354 rfl (by decide) rfl hx357 (by decide) ?_
              intro b358 of359 c360 hr361 hm362
              obtain rfl := hr361
              refine ql_on rfl hb349 ?_
              refine ql_pv (v := .int .i64 x357) (pv_loadc rfl ((cells_up hS.below hm362) 0 _ rfl)) (by decide) ?_
              refine ql_on rfl hb349 ?_
              refine ql_pv (v := u2) (pv_move he339) (by decide) ?_
              refine ql_on rfl hb349 ?_
              refine ql_pv (v := .int .i64 x319) (pv_move he342) (by decide) ?_
              refine ql_on rfl hb349 ?_
              replace hF := ob hF
              obtain ⟨x363, hx363, hF⟩ := hF
              refine ql_index (wA := w00) rfl ha2 rfl (by decide) rfl hx363 (by decide) ?_
              intro b364 of365 c366 hr367 hm368
              obtain ⟨v369, rfl⟩ := slice_one hr367
              refine ql_on rfl hb349 ?_
              refine ql_pv (v := v369) (pv_loadc rfl ((cells_up hS.below hm368) 0 _ rfl)) (by decide) ?_
              refine ql_on rfl hb349 ?_
              refine ql_pv (v := .int .i64 a3) (pv_move he340) (by decide) ?_
              refine ql_on rfl hb349 ?_
              replace hF := ob hF
              obtain ⟨x370, hx370, hF⟩ := hF
              refine ql_index (wA := w00) rfl hr367 rfl (by decide) rfl hx370 (by decide) ?_
              intro b371 of372 c373 hr374 hm375
              obtain rfl := hr374
              refine ql_on rfl hb349 ?_
              refine ql_pv (v := .int .i64 x370) (pv_loadc rfl ((cells_up hS.below hm375) 0 _ rfl)) (by decide) ?_
              refine ql_on rfl hb349 ?_
              refine ql_pv (v := .bool (x357 == x370)) (pv_eql rfl rfl) (by decide) ?_
              refine ql_pv (v := .bool (x357 == x370)) (pv_pick_t rfl hb349 rfl) (by decide) ?_
              refine ql_nil ?_
              intro w376 hx377
              replace hS := hS.ext hx377
              refine hQ348 _ _ _ ?_
              refine thn_n ?_
              replace hF := oif hF
              rcases hF with ⟨hb378, hF⟩ | ⟨hb378, hF⟩
              · refine cw_cond_t rfl hb378 ?_
                refine cw_skip ?_
                refine hQ347 _ _ _ ?_
                refine thn_n ?_
                refine cw_block ?_
                refine cw_gen ?_
                intro Q379 hQ379
                refine cw_reg ?_
                refine el_pv (v := .int .i64 x337) (pv_move he343) (by decide) ?_
                replace hF := ob hF
                obtain ⟨x380, hx380, hF⟩ := hF
                refine el_pv (v := .int .i64 x380) (pv_add rfl rfl hx380) (by decide) ?_
                refine el_pv (v := .int .i64 x380) (pv_assign rfl) (by decide) ?_
                refine el_nil ?_
                refine hQ379 _ _ _ ?_
                refine inb_n ?_
                refine hQ346 _ _ _ ?_
                refine thn_n ?_
                exact ⟨x380, he338, he339, he340, he341, he342, rfl, hS, hF⟩
              · refine cw_cond_f rfl hb378 ?_
                refine cw_exit ?_
                refine hQ347 _ _ _ ?_
                refine thn_x ?_
                refine hQ346 _ _ _ ?_
                refine thn_x ?_
                replace hF := exB hF hK336
                refine hQ334 _ _ _ ?_
                refine inb_s ?_
                refine hQ333 _ _ _ ?_
                refine thn_n ?_
                refine cw_seq ?_
                refine cw_gen ?_
                intro Q381 hQ381
                obtain ⟨C, hCd⟩ : ∃ C : World → Prop, ∀ w, C w ↔ ∃ G, Sat w00 w ([Box b300 84 [v316, v318]] ++ G) := ⟨_, fun _ => Iff.rfl⟩
                refine cw_regb [0, 1, 2, 3, 4, 5, 6, 7, 8, 9, 10, 11] C (by kernel_rfl) ?_
                intro w382 hx383
                replace hS := hS.ext hx383
                replace hS : Sat w00 w382 (Box b300 84 [v316, v318] :: Own (sliceR intR 3) [v318] x317 :: Own (sliceR intR 3) [v316] x315 :: Box b0 29 [v312, v314] :: Own (sliceR intR 3) [v312] x311 :: Own (sliceR (pairR (sliceR intR 3) (sliceR intR 3)) 84) [v314] x313 :: G0) := hS.tops 6 [2] rfl
                have hC := (hCd _).2 ⟨_, hS⟩
                refine al_p (v := .pointer (some ⟨b300, 0 + 0, none⟩)) (by kernel_rfl) 0 rfl rfl (by decide) hC (by kernel_rfl) (by kernel_rfl) (sv_on rfl (fun w' hw' => by obtain ⟨_, hS⟩ := (hCd _).1 hw'; exact (pv_fieldAddr he341))) ?_
                refine al_p (v := v316) (by kernel_rfl) 1 rfl rfl (by decide) hC (by kernel_rfl) (by kernel_rfl) (sv_on rfl (fun w' hw' => by obtain ⟨_, hS⟩ := (hCd _).1 hw'; exact (pv_loadc rfl ((hS.boxAt 0 rfl) 0 _ rfl)))) ?_
                refine al_p (v := u2) (by kernel_rfl) 2 rfl rfl (by decide) hC (by kernel_rfl) (by kernel_rfl) (sv_on rfl (fun w' hw' => by obtain ⟨_, hS⟩ := (hCd _).1 hw'; exact (pv_move he339))) ?_
                refine al_p (v := .int .i64 x319) (by kernel_rfl) 3 rfl rfl (by decide) hC (by kernel_rfl) (by kernel_rfl) (sv_on rfl (fun w' hw' => by obtain ⟨_, hS⟩ := (hCd _).1 hw'; exact (pv_move he342))) ?_
                replace hF := ob hF
                obtain ⟨x384, hx384, hF⟩ := hF
                refine al_index (wA := w00) (by kernel_rfl) 4 rfl hC (by kernel_rfl) (by kernel_rfl) rfl ha2 rfl (by decide) rfl hx384 (by decide) ?_
                intro b385 of386 c387 hr388 hm389
                obtain ⟨v390, rfl⟩ := slice_one hr388
                refine al_p (v := v390) (by kernel_rfl) 5 rfl rfl (by decide) hC (by kernel_rfl) (by kernel_rfl) (sv_on rfl (fun w' hw' => by obtain ⟨_, hS⟩ := (hCd _).1 hw'; exact (pv_loadc rfl ((cells_up hS.below hm389) 0 _ rfl)))) ?_
                refine al_one 6 (by kernel_rfl) rfl ?_
                refine el_pv (v := .int .i64 a3) (pv_move he340) (by decide) ?_
                refine el_nil ?_
                refine ⟨fun _ => hC, ?_⟩
                refine al_one 7 (by kernel_rfl) rfl ?_
                replace hF := ob hF
                obtain ⟨x391, hx391, hF⟩ := hF
                refine el_index (wA := w00) rfl hr388 rfl (by decide) rfl hx391 (by decide) ?_
                intro b392 of393 c394 hr395 hm396
                obtain rfl := hr395
                refine el_nil ?_
                refine ⟨fun _ => hC, ?_⟩
                refine al_one 8 (by kernel_rfl) rfl ?_
                refine el_pv (v := .int .i64 x391) (pv_loadc rfl ((cells_up hS.below hm396) 0 _ rfl)) (by decide) ?_
                refine el_nil ?_
                refine ⟨fun _ => hC, ?_⟩
                refine al_one 9 (by kernel_rfl) rfl ?_
                refine el_buildSlice1 [.int .i64 x391] rfl (by rfl) (by decide) rfl (by decide) hS (by decide) ?_
                intro w397 b399 hS hx398
                refine el_nil ?_
                replace hS : Sat w00 w397 (Box b300 84 [v316, v318] :: Box b399 3 [.int .i64 x391] :: Own (sliceR intR 3) [v318] x317 :: Own (sliceR intR 3) [v316] x315 :: Box b0 29 [v312, v314] :: Own (sliceR intR 3) [v312] x311 :: Own (sliceR (pairR (sliceR intR 3) (sliceR intR 3)) 84) [v314] x313 :: G0) := hS.tops 7 [1] rfl
                have hC := (hCd _).2 ⟨_, hS⟩
                refine ⟨fun _ => hC, ?_⟩
                refine al_one 10 (by kernel_rfl) rfl ?_
                replace hF := ob hF
                obtain ⟨x403, hx403, hF⟩ := hF
                have hrow404 := hS.boxRow 1 rfl
                replace hS : Sat w00 w397 (Own (sliceR intR 3) [v316] x315 :: Box b300 84 [v316, v318] :: Box b399 3 [.int .i64 x391] :: Own (sliceR intR 3) [v318] x317 :: Box b0 29 [v312, v314] :: Own (sliceR intR 3) [v312] x311 :: Own (sliceR (pairR (sliceR intR 3) (sliceR intR 3)) 84) [v314] x313 :: G0) := hS.top 3 rfl
                replace hS := hS.int x391
                replace hS := hS.one
                refine el_append rfl (by decide) rfl (by decide) hS rfl rfl rfl (by simp) hrow404 hx403 (by decide) ?_
                intro w401 v402 hS
                refine el_nil ?_
                replace hS : Sat w00 w401 (Box b300 84 [v316, v318] :: Own (sliceR intR 3) [v402] x403 :: Box b399 3 [.int .i64 x391] :: Own (sliceR intR 3) [v318] x317 :: Box b0 29 [v312, v314] :: Own (sliceR intR 3) [v312] x311 :: Own (sliceR (pairR (sliceR intR 3) (sliceR intR 3)) 84) [v314] x313 :: G0) := hS.tops 7 [1] rfl
                have hC := (hCd _).2 ⟨_, hS⟩
                refine ⟨fun _ => hC, ?_⟩
                refine al_one 11 (by kernel_rfl) rfl ?_
                refine el_pv (v := .pointer (some ⟨b300, 0 + 0, none⟩)) (pv_fieldAddr he341) (by decide) ?_
                refine el_nil ?_
                refine ⟨fun _ => hC, ?_⟩
                refine al_one 12 (by kernel_rfl) rfl ?_
                refine el_storev (hS.top 0 rfl) rfl [v402] (cells_of rfl (oc (hS.rdAt (R := (sliceR intR 3)) 1 rfl))) rfl (of_decide_eq_true rfl) (all_cons (oc (hS.rdAt (R := (sliceR intR 3)) 1 rfl)) rfl) ?_
                intro w406 hS
                replace hS : Sat w00 w406 (Box b300 84 [v402, v318] :: Own (sliceR intR 3) [v402] x403 :: Box b399 3 [.int .i64 x391] :: Own (sliceR intR 3) [v318] x317 :: Box b0 29 [v312, v314] :: Own (sliceR intR 3) [v312] x311 :: Own (sliceR (pairR (sliceR intR 3) (sliceR intR 3)) 84) [v314] x313 :: G0) := hS
                refine el_nil ?_
                refine ⟨fun h => (nomatch (show false = true from h)), ?_⟩
                refine al_nil (by kernel_rfl) ?_
                refine hQ381 _ _ _ ?_
                refine thn_n ?_
                refine cw_seq ?_
                refine cw_gen ?_
                intro Q407 hQ407
                replace hS : Sat w00 w406 (Box b300 84 [v402, v318] :: Own (sliceR intR 3) [v402] x403 :: Own (sliceR intR 3) [v318] x317 :: Box b0 29 [v312, v314] :: Own (sliceR intR 3) [v312] x311 :: Own (sliceR (pairR (sliceR intR 3) (sliceR intR 3)) 84) [v314] x313 :: G0) := hS.rems 7 [2] rfl
                obtain ⟨C, hCd⟩ : ∃ C : World → Prop, ∀ w, C w ↔ ∃ G, Sat w00 w ([Box b300 84 [v402, v318]] ++ G) := ⟨_, fun _ => Iff.rfl⟩
                refine cw_regb [0, 1, 2, 3, 4, 5, 6, 7, 8, 9, 10, 11, 12] C (by kernel_rfl) ?_
                intro w408 hx409
                replace hS := hS.ext hx409
                have hC := (hCd _).2 ⟨_, hS⟩
                refine al_p (v := .pointer (some ⟨b300, 0 + 1, none⟩)) (by kernel_rfl) 0 rfl rfl (by decide) hC (by kernel_rfl) (by kernel_rfl) (sv_on rfl (fun w' hw' => by obtain ⟨_, hS⟩ := (hCd _).1 hw'; exact (pv_fieldAddr he341))) ?_
                refine al_p (v := v318) (by kernel_rfl) 1 rfl rfl (by decide) hC (by kernel_rfl) (by kernel_rfl) (sv_on rfl (fun w' hw' => by obtain ⟨_, hS⟩ := (hCd _).1 hw'; exact (pv_loadc rfl ((hS.boxAt 0 rfl) 1 _ rfl)))) ?_
                refine al_p (v := .pointer (some ⟨b0, 0, none⟩)) (by kernel_rfl) 2 rfl rfl (by decide) hC (by kernel_rfl) (by kernel_rfl) (sv_on rfl (fun w' hw' => by obtain ⟨_, hS⟩ := (hCd _).1 hw'; exact (pv_move he338))) ?_
                refine al_p (v := u2) (by kernel_rfl) 3 rfl rfl (by decide) hC (by kernel_rfl) (by kernel_rfl) (sv_on rfl (fun w' hw' => by obtain ⟨_, hS⟩ := (hCd _).1 hw'; exact (pv_move he339))) ?_
                refine al_p (v := .int .i64 x319) (by kernel_rfl) 4 rfl rfl (by decide) hC (by kernel_rfl) (by kernel_rfl) (sv_on rfl (fun w' hw' => by obtain ⟨_, hS⟩ := (hCd _).1 hw'; exact (pv_move he342))) ?_
                refine al_p (v := .int .i64 x337) (by kernel_rfl) 5 rfl rfl (by decide) hC (by kernel_rfl) (by kernel_rfl) (sv_on rfl (fun w' hw' => by obtain ⟨_, hS⟩ := (hCd _).1 hw'; exact (pv_move he343))) ?_
                replace hF := ob hF
                obtain ⟨x410, hx410, hF⟩ := hF
                refine al_slice (wA := w00) (by kernel_rfl) 6 rfl hC (by kernel_rfl) (by kernel_rfl) rfl rfl ha2 (.inl (congrArg some rfl)) (.inl (congrArg some rfl)) hx410 (by decide) ?_
                intro v411 hr412
                refine al_one 7 (by kernel_rfl) rfl ?_
                refine el_pv (v := .int .i64 a3) (pv_move he340) (by decide) ?_
                refine el_nil ?_
                refine ⟨fun _ => hC, ?_⟩
                refine al_one 8 (by kernel_rfl) rfl ?_
                replace hF := ob hF
                obtain ⟨x413, hx413, hF⟩ := hF
                refine el_pv (v := .int .i64 x413) (pv_add rfl rfl hx413) (by decide) ?_
                refine el_nil ?_
                refine ⟨fun _ => hC, ?_⟩
                refine al_one 9 (by kernel_rfl) rfl ?_
                replace hS : Sat w00 w408 (Box b0 29 [v312, v314] :: Own (sliceR intR 3) [v312] x311 :: Own (sliceR (pairR (sliceR intR 3) (sliceR intR 3)) 84) [v314] x313 :: Box b300 84 [v402, v318] :: Own (sliceR intR 3) [v402] x403 :: Own (sliceR intR 3) [v318] x317 :: G0) := hS.tops 6 [3, 4, 5] rfl
                replace hF := ob hF
                obtain ⟨r414, hr414, hF⟩ := hF
                refine el_call goes93 (ih hr412 hS hr414) (congrArg List.toArray (mapc rfl (mapc rfl (mapc rfl rfl)))) (by decide) ?_
                rintro _ w415 ⟨v416, v417, rfl, hS⟩
                refine ⟨_, rfl, ?_⟩
                replace hS : Sat w00 w415 (Box b0 29 [v416, v417] :: Own (sliceR intR 3) [v416] r414.2.1 :: Own (sliceR (pairR (sliceR intR 3) (sliceR intR 3)) 84) [v417] r414.2.2 :: Box b300 84 [v402, v318] :: Own (sliceR intR 3) [v402] x403 :: Own (sliceR intR 3) [v318] x317 :: G0) := hS
                refine el_nil ?_
                replace hS : Sat w00 w415 (Box b300 84 [v402, v318] :: Box b0 29 [v416, v417] :: Own (sliceR intR 3) [v416] r414.2.1 :: Own (sliceR (pairR (sliceR intR 3) (sliceR intR 3)) 84) [v417] r414.2.2 :: Own (sliceR intR 3) [v402] x403 :: Own (sliceR intR 3) [v318] x317 :: G0) := hS.tops 6 [3] rfl
                have hC := (hCd _).2 ⟨_, hS⟩
                refine ⟨fun _ => hC, ?_⟩
                refine al_one 10 (by kernel_rfl) rfl ?_
                refine el_buildSlice1 [.int .i64 r414.1] rfl (by rfl) (by decide) rfl (by decide) hS (by decide) ?_
                intro w418 b420 hS hx419
                refine el_nil ?_
                replace hS : Sat w00 w418 (Box b300 84 [v402, v318] :: Box b420 3 [.int .i64 r414.1] :: Box b0 29 [v416, v417] :: Own (sliceR intR 3) [v416] r414.2.1 :: Own (sliceR (pairR (sliceR intR 3) (sliceR intR 3)) 84) [v417] r414.2.2 :: Own (sliceR intR 3) [v402] x403 :: Own (sliceR intR 3) [v318] x317 :: G0) := hS.tops 7 [1] rfl
                have hC := (hCd _).2 ⟨_, hS⟩
                refine ⟨fun _ => hC, ?_⟩
                refine al_one 11 (by kernel_rfl) rfl ?_
                replace hF := ob hF
                obtain ⟨x424, hx424, hF⟩ := hF
                have hrow425 := hS.boxRow 1 rfl
                replace hS : Sat w00 w418 (Own (sliceR intR 3) [v318] x317 :: Box b300 84 [v402, v318] :: Box b420 3 [.int .i64 r414.1] :: Box b0 29 [v416, v417] :: Own (sliceR intR 3) [v416] r414.2.1 :: Own (sliceR (pairR (sliceR intR 3) (sliceR intR 3)) 84) [v417] r414.2.2 :: Own (sliceR intR 3) [v402] x403 :: G0) := hS.top 6 rfl
                replace hS := hS.int r414.1
                replace hS := hS.one
                refine el_append rfl (by decide) rfl (by decide) hS rfl rfl rfl (by simp) hrow425 hx424 (by decide) ?_
                intro w422 v423 hS
                refine el_nil ?_
                replace hS : Sat w00 w422 (Box b300 84 [v402, v318] :: Own (sliceR intR 3) [v423] x424 :: Box b420 3 [.int .i64 r414.1] :: Box b0 29 [v416, v417] :: Own (sliceR intR 3) [v416] r414.2.1 :: Own (sliceR (pairR (sliceR intR 3) (sliceR intR 3)) 84) [v417] r414.2.2 :: Own (sliceR intR 3) [v402] x403 :: G0) := hS.tops 7 [1] rfl
                have hC := (hCd _).2 ⟨_, hS⟩
                refine ⟨fun _ => hC, ?_⟩
                refine al_one 12 (by kernel_rfl) rfl ?_
                refine el_pv (v := .pointer (some ⟨b300, 0 + 1, none⟩)) (pv_fieldAddr he341) (by decide) ?_
                refine el_nil ?_
                refine ⟨fun _ => hC, ?_⟩
                refine al_one 13 (by kernel_rfl) rfl ?_
                refine el_storev (hS.top 0 rfl) rfl [v423] (cells_of rfl (oc (hS.rdAt (R := (sliceR intR 3)) 1 rfl))) rfl (of_decide_eq_true rfl) (all_cons (oc (hS.rdAt (R := (sliceR intR 3)) 1 rfl)) rfl) ?_
                intro w427 hS
                replace hS : Sat w00 w427 (Box b300 84 [v402, v423] :: Own (sliceR intR 3) [v423] x424 :: Box b420 3 [.int .i64 r414.1] :: Box b0 29 [v416, v417] :: Own (sliceR intR 3) [v416] r414.2.1 :: Own (sliceR (pairR (sliceR intR 3) (sliceR intR 3)) 84) [v417] r414.2.2 :: Own (sliceR intR 3) [v402] x403 :: G0) := hS
                refine el_nil ?_
                refine ⟨fun h => (nomatch (show false = true from h)), ?_⟩
                refine al_nil (by kernel_rfl) ?_
                refine hQ407 _ _ _ ?_
                refine thn_n ?_
                replace hS : Sat w00 w427 (Box b300 84 [v402, v423] :: Own (sliceR intR 3) [v423] x424 :: Box b0 29 [v416, v417] :: Own (sliceR intR 3) [v416] r414.2.1 :: Own (sliceR (pairR (sliceR intR 3) (sliceR intR 3)) 84) [v417] r414.2.2 :: Own (sliceR intR 3) [v402] x403 :: G0) := hS.rems 7 [2] rfl
                refine cw_reg ?_
                refine el_pv (v := .int .i64 x337) (pv_move he343) (by decide) ?_
                refine el_pv (v := .int .i64 x337) (pv_assign rfl) (by decide) ?_
                refine el_nil ?_
                refine hQ331 _ _ _ ?_
                refine inb_n ?_
                refine hQ327 _ _ _ ?_
                refine thn_n ?_
                replace hS : Sat w00 w427 (Own (sliceR intR 3) [v423] x424 :: Own (sliceR intR 3) [v402] x403 :: Box b300 84 [v402, v423] :: Box b0 29 [v416, v417] :: Own (sliceR intR 3) [v416] r414.2.1 :: Own (sliceR (pairR (sliceR intR 3) (sliceR intR 3)) 84) [v417] r414.2.2 :: G0) := hS.tops 6 [1, 5, 0, 2, 3, 4] rfl
                exact ⟨v416, r414.2.1, v417, r414.2.2, v402, x403, v423, x424, x337, he338, he339, he340, he341, rfl, hS, hF⟩
            · refine ql_off rfl hb349 rfl (by decide) ?_
              refine ql_off rfl hb349 rfl (by decide) ?_
              refine ql_off rfl hb349 rfl (by decide) ?_
              refine ql_off rfl hb349 rfl (by decide) ?_
              refine ql_off rfl hb349 rfl (by decide) ?_
              refine ql_off rfl hb349 rfl (by decide) ?_
              refine ql_off rfl hb349 rfl (by decide) ?_
              refine ql_off rfl hb349 rfl (by decide) ?_
              refine ql_off rfl hb349 rfl (by decide) ?_
              refine ql_off rfl hb349 rfl (by decide) ?_
              refine ql_off rfl hb349 rfl (by decide) ?_
              refine ql_off rfl hb349 rfl (by decide) ?_
              refine ql_off rfl hb349 rfl (by decide) ?_
              refine ql_off rfl hb349 rfl (by decide) ?_
              refine ql_off rfl hb349 rfl (by decide) ?_
              refine ql_pv (v := .bool false) (pv_pick_f rfl hb349 rfl) (by decide) ?_
              refine ql_nil ?_
              intro w428 hx429
              replace hS := hS.ext hx429
              refine hQ348 _ _ _ ?_
              refine thn_n ?_
              refine cw_cond_f rfl rfl ?_
              refine cw_exit ?_
              refine hQ347 _ _ _ ?_
              refine thn_x ?_
              refine hQ346 _ _ _ ?_
              refine thn_x ?_
              replace hF := exB hF hK336
              refine hQ334 _ _ _ ?_
              refine inb_s ?_
              refine hQ333 _ _ _ ?_
              refine thn_n ?_
              refine cw_seq ?_
              refine cw_gen ?_
              intro Q430 hQ430
              obtain ⟨C, hCd⟩ : ∃ C : World → Prop, ∀ w, C w ↔ ∃ G, Sat w00 w ([Box b300 84 [v316, v318]] ++ G) := ⟨_, fun _ => Iff.rfl⟩
              refine cw_regb [0, 1, 2, 3, 4, 5, 6, 7, 8, 9, 10, 11] C (by kernel_rfl) ?_
              intro w431 hx432
              replace hS := hS.ext hx432
              replace hS : Sat w00 w431 (Box b300 84 [v316, v318] :: Own (sliceR intR 3) [v318] x317 :: Own (sliceR intR 3) [v316] x315 :: Box b0 29 [v312, v314] :: Own (sliceR intR 3) [v312] x311 :: Own (sliceR (pairR (sliceR intR 3) (sliceR intR 3)) 84) [v314] x313 :: G0) := hS.tops 6 [2] rfl
              have hC := (hCd _).2 ⟨_, hS⟩
              refine al_p (v := .pointer (some ⟨b300, 0 + 0, none⟩)) (by kernel_rfl) 0 rfl rfl (by decide) hC (by kernel_rfl) (by kernel_rfl) (sv_on rfl (fun w' hw' => by obtain ⟨_, hS⟩ := (hCd _).1 hw'; exact (pv_fieldAddr he341))) ?_
              refine al_p (v := v316) (by kernel_rfl) 1 rfl rfl (by decide) hC (by kernel_rfl) (by kernel_rfl) (sv_on rfl (fun w' hw' => by obtain ⟨_, hS⟩ := (hCd _).1 hw'; exact (pv_loadc rfl ((hS.boxAt 0 rfl) 0 _ rfl)))) ?_
              refine al_p (v := u2) (by kernel_rfl) 2 rfl rfl (by decide) hC (by kernel_rfl) (by kernel_rfl) (sv_on rfl (fun w' hw' => by obtain ⟨_, hS⟩ := (hCd _).1 hw'; exact (pv_move he339))) ?_
              refine al_p (v := .int .i64 x319) (by kernel_rfl) 3 rfl rfl (by decide) hC (by kernel_rfl) (by kernel_rfl) (sv_on rfl (fun w' hw' => by obtain ⟨_, hS⟩ := (hCd _).1 hw'; exact (pv_move he342))) ?_
              replace hF := ob hF
              obtain ⟨x433, hx433, hF⟩ := hF
              refine al_index (wA := w00) (by kernel_rfl) 4 rfl hC (by kernel_rfl) (by kernel_rfl) rfl ha2 rfl (by decide) rfl hx433 (by decide) ?_
              intro b434 of435 c436 hr437 hm438
              obtain ⟨v439, rfl⟩ := slice_one hr437
              refine al_p (v := v439) (by kernel_rfl) 5 rfl rfl (by decide) hC (by kernel_rfl) (by kernel_rfl) (sv_on rfl (fun w' hw' => by obtain ⟨_, hS⟩ := (hCd _).1 hw'; exact (pv_loadc rfl ((cells_up hS.below hm438) 0 _ rfl)))) ?_
              refine al_one 6 (by kernel_rfl) rfl ?_
              refine el_pv (v := .int .i64 a3) (pv_move he340) (by decide) ?_
              refine el_nil ?_
              refine ⟨fun _ => hC, ?_⟩
              refine al_one 7 (by kernel_rfl) rfl ?_
              replace hF := ob hF
              obtain ⟨x440, hx440, hF⟩ := hF
              refine el_index (wA := w00) rfl hr437 rfl (by decide) rfl hx440 (by decide) ?_
              intro b441 of442 c443 hr444 hm445
              obtain rfl := hr444
              refine el_nil ?_
              refine ⟨fun _ => hC, ?_⟩
              refine al_one 8 (by kernel_rfl) rfl ?_
              refine el_pv (v := .int .i64 x440) (pv_loadc rfl ((cells_up hS.below hm445) 0 _ rfl)) (by decide) ?_
              refine el_nil ?_
              refine ⟨fun _ => hC, ?_⟩
              refine al_one 9 (by kernel_rfl) rfl ?_
              refine el_buildSlice1 [.int .i64 x440] rfl (by rfl) (by decide) rfl (by decide) hS (by decide) ?_
              intro w446 b448 hS hx447
              refine el_nil ?_
              replace hS : Sat w00 w446 (Box b300 84 [v316, v318] :: Box b448 3 [.int .i64 x440] :: Own (sliceR intR 3) [v318] x317 :: Own (sliceR intR 3) [v316] x315 :: Box b0 29 [v312, v314] :: Own (sliceR intR 3) [v312] x311 :: Own (sliceR (pairR (sliceR intR 3) (sliceR intR 3)) 84) [v314] x313 :: G0) := hS.tops 7 [1] rfl
              have hC := (hCd _).2 ⟨_, hS⟩
              refine ⟨fun _ => hC, ?_⟩
              refine al_one 10 (by kernel_rfl) rfl ?_
              replace hF := ob hF
              obtain ⟨x452, hx452, hF⟩ := hF
              have hrow453 := hS.boxRow 1 rfl
              replace hS : Sat w00 w446 (Own (sliceR intR 3) [v316] x315 :: Box b300 84 [v316, v318] :: Box b448 3 [.int .i64 x440] :: Own (sliceR intR 3) [v318] x317 :: Box b0 29 [v312, v314] :: Own (sliceR intR 3) [v312] x311 :: Own (sliceR (pairR (sliceR intR 3) (sliceR intR 3)) 84) [v314] x313 :: G0) := hS.top 3 rfl
              replace hS := hS.int x440
              replace hS := hS.one
              refine el_append rfl (by decide) rfl (by decide) hS rfl rfl rfl (by simp) hrow453 hx452 (by decide) ?_
              intro w450 v451 hS
              refine el_nil ?_
              replace hS : Sat w00 w450 (Box b300 84 [v316, v318] :: Own (sliceR intR 3) [v451] x452 :: Box b448 3 [.int .i64 x440] :: Own (sliceR intR 3) [v318] x317 :: Box b0 29 [v312, v314] :: Own (sliceR intR 3) [v312] x311 :: Own (sliceR (pairR (sliceR intR 3) (sliceR intR 3)) 84) [v314] x313 :: G0) := hS.tops 7 [1] rfl
              have hC := (hCd _).2 ⟨_, hS⟩
              refine ⟨fun _ => hC, ?_⟩
              refine al_one 11 (by kernel_rfl) rfl ?_
              refine el_pv (v := .pointer (some ⟨b300, 0 + 0, none⟩)) (pv_fieldAddr he341) (by decide) ?_
              refine el_nil ?_
              refine ⟨fun _ => hC, ?_⟩
              refine al_one 12 (by kernel_rfl) rfl ?_
              refine el_storev (hS.top 0 rfl) rfl [v451] (cells_of rfl (oc (hS.rdAt (R := (sliceR intR 3)) 1 rfl))) rfl (of_decide_eq_true rfl) (all_cons (oc (hS.rdAt (R := (sliceR intR 3)) 1 rfl)) rfl) ?_
              intro w455 hS
              replace hS : Sat w00 w455 (Box b300 84 [v451, v318] :: Own (sliceR intR 3) [v451] x452 :: Box b448 3 [.int .i64 x440] :: Own (sliceR intR 3) [v318] x317 :: Box b0 29 [v312, v314] :: Own (sliceR intR 3) [v312] x311 :: Own (sliceR (pairR (sliceR intR 3) (sliceR intR 3)) 84) [v314] x313 :: G0) := hS
              refine el_nil ?_
              refine ⟨fun h => (nomatch (show false = true from h)), ?_⟩
              refine al_nil (by kernel_rfl) ?_
              refine hQ430 _ _ _ ?_
              refine thn_n ?_
              refine cw_seq ?_
              refine cw_gen ?_
              intro Q456 hQ456
              replace hS : Sat w00 w455 (Box b300 84 [v451, v318] :: Own (sliceR intR 3) [v451] x452 :: Own (sliceR intR 3) [v318] x317 :: Box b0 29 [v312, v314] :: Own (sliceR intR 3) [v312] x311 :: Own (sliceR (pairR (sliceR intR 3) (sliceR intR 3)) 84) [v314] x313 :: G0) := hS.rems 7 [2] rfl
              obtain ⟨C, hCd⟩ : ∃ C : World → Prop, ∀ w, C w ↔ ∃ G, Sat w00 w ([Box b300 84 [v451, v318]] ++ G) := ⟨_, fun _ => Iff.rfl⟩
              refine cw_regb [0, 1, 2, 3, 4, 5, 6, 7, 8, 9, 10, 11, 12] C (by kernel_rfl) ?_
              intro w457 hx458
              replace hS := hS.ext hx458
              have hC := (hCd _).2 ⟨_, hS⟩
              refine al_p (v := .pointer (some ⟨b300, 0 + 1, none⟩)) (by kernel_rfl) 0 rfl rfl (by decide) hC (by kernel_rfl) (by kernel_rfl) (sv_on rfl (fun w' hw' => by obtain ⟨_, hS⟩ := (hCd _).1 hw'; exact (pv_fieldAddr he341))) ?_
              refine al_p (v := v318) (by kernel_rfl) 1 rfl rfl (by decide) hC (by kernel_rfl) (by kernel_rfl) (sv_on rfl (fun w' hw' => by obtain ⟨_, hS⟩ := (hCd _).1 hw'; exact (pv_loadc rfl ((hS.boxAt 0 rfl) 1 _ rfl)))) ?_
              refine al_p (v := .pointer (some ⟨b0, 0, none⟩)) (by kernel_rfl) 2 rfl rfl (by decide) hC (by kernel_rfl) (by kernel_rfl) (sv_on rfl (fun w' hw' => by obtain ⟨_, hS⟩ := (hCd _).1 hw'; exact (pv_move he338))) ?_
              refine al_p (v := u2) (by kernel_rfl) 3 rfl rfl (by decide) hC (by kernel_rfl) (by kernel_rfl) (sv_on rfl (fun w' hw' => by obtain ⟨_, hS⟩ := (hCd _).1 hw'; exact (pv_move he339))) ?_
              refine al_p (v := .int .i64 x319) (by kernel_rfl) 4 rfl rfl (by decide) hC (by kernel_rfl) (by kernel_rfl) (sv_on rfl (fun w' hw' => by obtain ⟨_, hS⟩ := (hCd _).1 hw'; exact (pv_move he342))) ?_
              refine al_p (v := .int .i64 x337) (by kernel_rfl) 5 rfl rfl (by decide) hC (by kernel_rfl) (by kernel_rfl) (sv_on rfl (fun w' hw' => by obtain ⟨_, hS⟩ := (hCd _).1 hw'; exact (pv_move he343))) ?_
              replace hF := ob hF
              obtain ⟨x459, hx459, hF⟩ := hF
              refine al_slice (wA := w00) (by kernel_rfl) 6 rfl hC (by kernel_rfl) (by kernel_rfl) rfl rfl ha2 (.inl (congrArg some rfl)) (.inl (congrArg some rfl)) hx459 (by decide) ?_
              intro v460 hr461
              refine al_one 7 (by kernel_rfl) rfl ?_
              refine el_pv (v := .int .i64 a3) (pv_move he340) (by decide) ?_
              refine el_nil ?_
              refine ⟨fun _ => hC, ?_⟩
              refine al_one 8 (by kernel_rfl) rfl ?_
              replace hF := ob hF
              obtain ⟨x462, hx462, hF⟩ := hF
              refine el_pv (v := .int .i64 x462) (pv_add rfl rfl hx462) (by decide) ?_
              refine el_nil ?_
              refine ⟨fun _ => hC, ?_⟩
              refine al_one 9 (by kernel_rfl) rfl ?_
              replace hS : Sat w00 w457 (Box b0 29 [v312, v314] :: Own (sliceR intR 3) [v312] x311 :: Own (sliceR (pairR (sliceR intR 3) (sliceR intR 3)) 84) [v314] x313 :: Box b300 84 [v451, v318] :: Own (sliceR intR 3) [v451] x452 :: Own (sliceR intR 3) [v318] x317 :: G0) := hS.tops 6 [3, 4, 5] rfl
              replace hF := ob hF
              obtain ⟨r463, hr463, hF⟩ := hF
              refine el_call goes93 (ih hr461 hS hr463) (congrArg List.toArray (mapc rfl (mapc rfl (mapc rfl rfl)))) (by decide) ?_
              rintro _ w464 ⟨v465, v466, rfl, hS⟩
              refine ⟨_, rfl, ?_⟩
              replace hS : Sat w00 w464 (Box b0 29 [v465, v466] :: Own (sliceR intR 3) [v465] r463.2.1 :: Own (sliceR (pairR (sliceR intR 3) (sliceR intR 3)) 84) [v466] r463.2.2 :: Box b300 84 [v451, v318] :: Own (sliceR intR 3) [v451] x452 :: Own (sliceR intR 3) [v318] x317 :: G0) := hS
              refine el_nil ?_
              replace hS : Sat w00 w464 (Box b300 84 [v451, v318] :: Box b0 29 [v465, v466] :: Own (sliceR intR 3) [v465] r463.2.1 :: Own (sliceR (pairR (sliceR intR 3) (sliceR intR 3)) 84) [v466] r463.2.2 :: Own (sliceR intR 3) [v451] x452 :: Own (sliceR intR 3) [v318] x317 :: G0) := hS.tops 6 [3] rfl
              have hC := (hCd _).2 ⟨_, hS⟩
              refine ⟨fun _ => hC, ?_⟩
              refine al_one 10 (by kernel_rfl) rfl ?_
              refine el_buildSlice1 [.int .i64 r463.1] rfl (by rfl) (by decide) rfl (by decide) hS (by decide) ?_
              intro w467 b469 hS hx468
              refine el_nil ?_
              replace hS : Sat w00 w467 (Box b300 84 [v451, v318] :: Box b469 3 [.int .i64 r463.1] :: Box b0 29 [v465, v466] :: Own (sliceR intR 3) [v465] r463.2.1 :: Own (sliceR (pairR (sliceR intR 3) (sliceR intR 3)) 84) [v466] r463.2.2 :: Own (sliceR intR 3) [v451] x452 :: Own (sliceR intR 3) [v318] x317 :: G0) := hS.tops 7 [1] rfl
              have hC := (hCd _).2 ⟨_, hS⟩
              refine ⟨fun _ => hC, ?_⟩
              refine al_one 11 (by kernel_rfl) rfl ?_
              replace hF := ob hF
              obtain ⟨x473, hx473, hF⟩ := hF
              have hrow474 := hS.boxRow 1 rfl
              replace hS : Sat w00 w467 (Own (sliceR intR 3) [v318] x317 :: Box b300 84 [v451, v318] :: Box b469 3 [.int .i64 r463.1] :: Box b0 29 [v465, v466] :: Own (sliceR intR 3) [v465] r463.2.1 :: Own (sliceR (pairR (sliceR intR 3) (sliceR intR 3)) 84) [v466] r463.2.2 :: Own (sliceR intR 3) [v451] x452 :: G0) := hS.top 6 rfl
              replace hS := hS.int r463.1
              replace hS := hS.one
              refine el_append rfl (by decide) rfl (by decide) hS rfl rfl rfl (by simp) hrow474 hx473 (by decide) ?_
              intro w471 v472 hS
              refine el_nil ?_
              replace hS : Sat w00 w471 (Box b300 84 [v451, v318] :: Own (sliceR intR 3) [v472] x473 :: Box b469 3 [.int .i64 r463.1] :: Box b0 29 [v465, v466] :: Own (sliceR intR 3) [v465] r463.2.1 :: Own (sliceR (pairR (sliceR intR 3) (sliceR intR 3)) 84) [v466] r463.2.2 :: Own (sliceR intR 3) [v451] x452 :: G0) := hS.tops 7 [1] rfl
              have hC := (hCd _).2 ⟨_, hS⟩
              refine ⟨fun _ => hC, ?_⟩
              refine al_one 12 (by kernel_rfl) rfl ?_
              refine el_pv (v := .pointer (some ⟨b300, 0 + 1, none⟩)) (pv_fieldAddr he341) (by decide) ?_
              refine el_nil ?_
              refine ⟨fun _ => hC, ?_⟩
              refine al_one 13 (by kernel_rfl) rfl ?_
              refine el_storev (hS.top 0 rfl) rfl [v472] (cells_of rfl (oc (hS.rdAt (R := (sliceR intR 3)) 1 rfl))) rfl (of_decide_eq_true rfl) (all_cons (oc (hS.rdAt (R := (sliceR intR 3)) 1 rfl)) rfl) ?_
              intro w476 hS
              replace hS : Sat w00 w476 (Box b300 84 [v451, v472] :: Own (sliceR intR 3) [v472] x473 :: Box b469 3 [.int .i64 r463.1] :: Box b0 29 [v465, v466] :: Own (sliceR intR 3) [v465] r463.2.1 :: Own (sliceR (pairR (sliceR intR 3) (sliceR intR 3)) 84) [v466] r463.2.2 :: Own (sliceR intR 3) [v451] x452 :: G0) := hS
              refine el_nil ?_
              refine ⟨fun h => (nomatch (show false = true from h)), ?_⟩
              refine al_nil (by kernel_rfl) ?_
              refine hQ456 _ _ _ ?_
              refine thn_n ?_
              replace hS : Sat w00 w476 (Box b300 84 [v451, v472] :: Own (sliceR intR 3) [v472] x473 :: Box b0 29 [v465, v466] :: Own (sliceR intR 3) [v465] r463.2.1 :: Own (sliceR (pairR (sliceR intR 3) (sliceR intR 3)) 84) [v466] r463.2.2 :: Own (sliceR intR 3) [v451] x452 :: G0) := hS.rems 7 [2] rfl
              refine cw_reg ?_
              refine el_pv (v := .int .i64 x337) (pv_move he343) (by decide) ?_
              refine el_pv (v := .int .i64 x337) (pv_assign rfl) (by decide) ?_
              refine el_nil ?_
              refine hQ331 _ _ _ ?_
              refine inb_n ?_
              refine hQ327 _ _ _ ?_
              refine thn_n ?_
              replace hS : Sat w00 w476 (Own (sliceR intR 3) [v472] x473 :: Own (sliceR intR 3) [v451] x452 :: Box b300 84 [v451, v472] :: Box b0 29 [v465, v466] :: Own (sliceR intR 3) [v465] r463.2.1 :: Own (sliceR (pairR (sliceR intR 3) (sliceR intR 3)) 84) [v466] r463.2.2 :: G0) := hS.tops 6 [1, 5, 0, 2, 3, 4] rfl
              exact ⟨v465, r463.2.1, v466, r463.2.2, v451, x452, v472, x473, x337, he338, he339, he340, he341, rfl, hS, hF⟩
        · refine cw_cond_f rfl hb330 ?_
          refine cw_exit ?_
          refine hQ328 _ _ _ ?_
          refine thn_x ?_
          refine hQ327 _ _ _ ?_
          refine thn_x ?_
          replace hF := exB hF hK310
          refine hQ306 _ _ _ ?_
          refine inb_s ?_
          refine hQ304 _ _ _ ?_
          refine thn_n ?_
          refine cw_seq ?_
          refine cw_gen ?_
          intro Q477 hQ477
          refine cw_reg ?_
          refine el_pv (v := .pointer (some ⟨b0, 0, none⟩)) (pv_move he320) (by decide) ?_
          refine el_pv (v := .agg #[v316, v318]) (pv_loada (cs := [v316, v318]) he323 rfl (boxc0 (hS.boxAt 2 rfl))) (by decide) ?_
          replace hS : Sat w00 w325 (Box b0 29 [v312, v314] :: Own (sliceR intR 3) [v312] x311 :: Own (sliceR (pairR (sliceR intR 3) (sliceR intR 3)) 84) [v314] x313 :: Own (sliceR intR 3) [v316] x315 :: Own (sliceR intR 3) [v318] x317 :: Box b300 84 [v316, v318] :: G0) := hS.tops 6 [3, 4, 5, 1, 0] rfl
          replace hF := ob hF
          obtain ⟨r478, hr478, hF⟩ := hF
          refine el_call goes112 (spec_l23Put_ok hS hr478) (congrArg List.toArray (mapc rfl (mapc rfl rfl))) (by decide) ?_
          rintro _ w479 ⟨v480, v481, rfl, hS⟩
          refine ⟨_, rfl, ?_⟩
          replace hS : Sat w00 w479 (Box b0 29 [v480, v481] :: Own (sliceR intR 3) [v480] r478.2.1 :: Own (sliceR (pairR (sliceR intR 3) (sliceR intR 3)) 84) [v481] r478.2.2 :: Box b300 84 [v316, v318] :: G0) := hS
          refine el_pv (v := .int .i64 r478.1) (pv_assign rfl) (by decide) ?_
          refine el_nil ?_
          refine hQ477 _ _ _ ?_
          refine thn_n ?_
          refine cw_ret ?_
          refine fin1 rfl rfl ?_
          have hr := Option.some.inj hF
          replace hS : Sat w00 w479 (Box b0 29 [v480, v481] :: Own (sliceR intR 3) [v480] r478.2.1 :: Own (sliceR (pairR (sliceR intR 3) (sliceR intR 3)) 84) [v481] r478.2.2 :: G0) := hS.rems 4 [3] rfl
          exact ⟨v480, v481, congrArg (fun (r : Int × (List Int) × (List (List Int × List Int))) => Ending.returned (.int .i64 r.1)) hr, Eq.mp (congrArg (fun (r : Int × (List Int) × (List (List Int × List Int))) => Sat w00 w479 (Box b0 29 [v480, v481] :: Own (sliceR intR 3) [v480] r.2.1 :: Own (sliceR (pairR (sliceR intR 3) (sliceR intR 3)) 84) [v481] r.2.2 :: G0)) hr) hS⟩
theorem spec_l23Build_ok {w0 : World} {w00 : World} {G0 : List Asn} {b0 : Nat} {u0 : Value} {a0 : List Int} {u1 : Value} {a1 : List (List Int × List Int)} {u2 : Value} {a2 : List (List Int)} {a3 : Int} (ha2 : (sliceR (sliceR intR 3) 26).rd w00 [u2] a2) (hS : Sat w00 w0 (Box b0 29 [u0, u1] :: Own (sliceR intR 3) [u0] a0 :: Own (sliceR (pairR (sliceR intR 3) (sliceR intR 3)) 84) [u1] a1 :: G0)) {N : Nat} {r : Int × (List Int) × (List (List Int × List Int))} (hF : spec_l23Build N a0 a1 a2 a3 = some r) :
    Calls Try.prog 93 #[.pointer (some ⟨b0, 0, none⟩), u2, .int .i64 a3] w0 fun e w' => ∃ (q0 : Value) (q1 : Value), e = .returned (.int .i64 r.1) ∧ Sat w00 w' (Box b0 29 [q0, q1] :: Own (sliceR intR 3) [q0] r.2.1 :: Own (sliceR (pairR (sliceR intR 3) (sliceR intR 3)) 84) [q1] r.2.2 :: G0) := spec_l23Build_ok' N ha2 hS hF
set_option maxHeartbeats 4000000 in
theorem spec_l23Of_ok {w0 : World} {a0 : Int} {u1 : Value} {a1 : List (List Int)} {u2 : Value} {a2 : List Int} (ha1 : (sliceR (sliceR intR 3) 26).rd w0 [u1] a1) (ha2 : (sliceR intR 3).rd w0 [u2] a2) {N : Nat} {r : (List Int × List (List Int × List Int))} (hF : spec_l23Of N a0 a1 a2 = some r) :
    Calls Try.prog 45 #[.agg #[.int .i64 a0, u1], u2] w0 fun e w' => ∃ (q0 : Value) (q1 : Value), e = .returned (.agg #[q0, q1]) ∧ Sat w0 w' [Own (sliceR intR 3) [q0] r.1, Own (sliceR (pairR (sliceR intR 3) (sliceR intR 3)) 84) [q1] r.2] := by
  unfold spec_l23Of at hF
  refine calls_E Try.func45 rfl rfl (of_decide_eq_true rfl) ?_
  have hS := Sat.start w0
  refine cw_seq ?_
  refine cw_gen ?_
  intro Q101 hQ101
  refine cw_reg ?_
  refine el_box [.int .i64 a0, u1] rfl hS (by decide) ?_
  intro w102 b103 hS hx104
  refine el_alloc hS (by decide) ?_
  intro w106 b107 hS hx108
  refine el_nil ?_
  refine hQ101 _ _ _ ?_
  refine thn_n ?_
  refine cw_seq ?_
  refine cw_gen ?_
  intro Q110 hQ110
  refine cw_reg ?_
  refine el_buildSlice0 intR hS (by decide) ?_
  intro w111 v113 hS hx112
  refine el_pv (v := u2) (pv_move rfl) (by decide) ?_
  replace hF := ob hF
  obtain ⟨x117, hx117, hF⟩ := hF
  obtain ⟨ao118, c119, hv120, hn121, hrow122⟩ := row_ints (hS.up ha2)
  replace hS := hS.ints (xs := a2)
  refine el_append rfl (by decide) rfl (by decide) hS rfl (rfl.trans hv120) rfl hn121 hrow122 hx117 (by decide) ?_
  intro w115 v116 hS
  refine el_pv (v := .agg #[(.slice none 0 0), (.slice none 0 0)]) (pv_build [] [(.slice none 0 0), (.slice none 0 0)] rfl rfl) (by decide) ?_
  refine el_buildSlice1 [(.slice none 0 0), (.slice none 0 0)] rfl (by rfl) (by decide) rfl (by decide) hS (by decide) ?_
  intro w124 b126 hS hx125
  replace hS := hS.nil intR 3
  replace hS := hS.nil intR 3
  replace hS := hS.pair
  replace hS : Sat w0 w124 [Box b126 84 [(.slice none 0 0), (.slice none 0 0)], _, Own (sliceR intR 3) [v116] x117, Box b107 29 [(.slice none 0 0), (.slice none 0 0)], Box b103 32 [.int .i64 a0, u1]] := hS.top 1 rfl
  replace hS := hS.lit1
  refine el_pv (v := .agg #[v116, (.slice (some ⟨b126, 0, none⟩) 1 1)]) (pv_build [(0, [v116]), (1, [(.slice (some ⟨b126, 0, none⟩) 1 1)])] [v116, (.slice (some ⟨b126, 0, none⟩) 1 1)] (partc (cells_of rfl (oc (hS.rdAt (R := (sliceR intR 3)) 1 rfl))) (partc (cells_of rfl (oc (hS.rdAt (R := (sliceR (pairR (sliceR intR 3) (sliceR intR 3)) 84)) 0 rfl))) rfl)) rfl) (by decide) ?_
  refine el_alloc hS (by decide) ?_
  intro w131 b132 hS hx133
  refine el_storev (hS.top 0 rfl) rfl [v116, (.slice (some ⟨b126, 0, none⟩) 1 1)] rfl rfl (of_decide_eq_true rfl) (all_cons (oc (hS.rdAt (R := (sliceR intR 3)) 2 rfl)) (all_cons (oc (hS.rdAt (R := (sliceR (pairR (sliceR intR 3) (sliceR intR 3)) 84)) 1 rfl)) rfl)) ?_
  intro w135 hS
  replace hS : Sat w0 w135 [Box b132 29 [v116, (.slice (some ⟨b126, 0, none⟩) 1 1)], Own (sliceR (pairR (sliceR intR 3) (sliceR intR 3)) 84) [(.slice (some ⟨b126, 0, none⟩) 1 1)] ([([], [])]), Own (sliceR intR 3) [v116] x117, Box b107 29 [(.slice none 0 0), (.slice none 0 0)], Box b103 32 [.int .i64 a0, u1]] := hS
  refine el_nil ?_
  refine hQ110 _ _ _ ?_
  refine thn_n ?_
  refine cw_seq ?_
  refine cw_gen ?_
  intro Q136 hQ136
  refine cw_seq ?_
  refine cw_gen ?_
  intro Q137 hQ137
  refine cw_reg ?_
  refine el_pv (v := .pointer (some ⟨b103, 0 + 1, none⟩)) (pv_fieldAddr rfl) (by decide) ?_
  refine el_pv (v := u1) (pv_loadc rfl ((hS.boxAt 4 rfl) 1 _ rfl)) (by decide) ?_
  refine el_pv (v := .int .i64 (a1.length : Int)) (pv_len rfl ha1) (by decide) ?_
  refine el_pv (v := .bool ((a1.length : Int) == 0)) (pv_eql rfl rfl) (by decide) ?_
  refine el_nil ?_
  refine hQ137 _ _ _ ?_
  refine thn_n ?_
  replace hF := oif hF
  rcases hF with ⟨hb138, hF⟩ | ⟨hb138, hF⟩
  · refine cw_cond_t rfl hb138 ?_
    refine cw_seq ?_
    refine cw_gen ?_
    intro Q139 hQ139
    replace hS : Sat w0 w135 [Box b132 29 [v116, (.slice (some ⟨b126, 0, none⟩) 1 1)], Own (sliceR (pairR (sliceR intR 3) (sliceR intR 3)) 84) [(.slice (some ⟨b126, 0, none⟩) 1 1)] ([([], [])]), Own (sliceR intR 3) [v116] x117, Box b107 29 [(.slice none 0 0), (.slice none 0 0)]] := hS.rems 5 [4] rfl
    refine cw_reg ?_
    refine el_pv (v := .pointer (some ⟨b132, 0 + 1, none⟩)) (pv_fieldAddr rfl) (by decide) ?_
    refine el_pv (v := (.slice (some ⟨b126, 0, none⟩) 1 1)) (pv_loadc rfl ((hS.boxAt 0 rfl) 1 _ rfl)) (by decide) ?_
    refine el_pv (v := .agg #[(.slice none 0 0), (.slice none 0 0)]) (pv_build [] [(.slice none 0 0), (.slice none 0 0)] rfl rfl) (by decide) ?_
    refine el_buildSlice1 [(.slice none 0 0), (.slice none 0 0)] rfl (by rfl) (by decide) rfl (by decide) hS (by decide) ?_
    intro w140 b142 hS hx141
    replace hF := ob hF
    obtain ⟨x146, hx146, hF⟩ := hF
    have hrow147 := hS.boxRow 0 rfl
    replace hS : Sat w0 w140 [Own (sliceR (pairR (sliceR intR 3) (sliceR intR 3)) 84) [(.slice (some ⟨b126, 0, none⟩) 1 1)] ([([], [])]), Box b142 84 [(.slice none 0 0), (.slice none 0 0)], Box b132 29 [v116, (.slice (some ⟨b126, 0, none⟩) 1 1)], Own (sliceR intR 3) [v116] x117, Box b107 29 [(.slice none 0 0), (.slice none 0 0)]] := hS.top 2 rfl
    replace hS := hS.nil intR 3
    replace hS := hS.nil intR 3
    replace hS := hS.pair
    replace hS := hS.one
    refine el_append rfl (by decide) rfl (by decide) hS rfl rfl rfl (by simp) hrow147 hx146 (by decide) ?_
    intro w144 v145 hS
    refine el_pv (v := .pointer (some ⟨b132, 0 + 1, none⟩)) (pv_fieldAddr rfl) (by decide) ?_
    refine el_storev (hS.top 2 rfl) rfl [v145] (cells_of rfl (oc (hS.rdAt (R := (sliceR (pairR (sliceR intR 3) (sliceR intR 3)) 84)) 0 rfl))) rfl (of_decide_eq_true rfl) (all_cons (oc (hS.rdAt (R := (sliceR (pairR (sliceR intR 3) (sliceR intR 3)) 84)) 0 rfl)) rfl) ?_
    intro w151 hS
    replace hS : Sat w0 w151 [Box b132 29 [v116, v145], Own (sliceR (pairR (sliceR intR 3) (sliceR intR 3)) 84) [v145] x146, Box b142 84 [(.slice none 0 0), (.slice none 0 0)], Own (sliceR intR 3) [v116] x117, Box b107 29 [(.slice none 0 0), (.slice none 0 0)]] := hS
    refine el_nil ?_
    refine hQ139 _ _ _ ?_
    refine thn_n ?_
    refine cw_seq ?_
    refine cw_gen ?_
    intro Q152 hQ152
    replace hS : Sat w0 w151 [Box b132 29 [v116, v145], Own (sliceR (pairR (sliceR intR 3) (sliceR intR 3)) 84) [v145] x146, Own (sliceR intR 3) [v116] x117, Box b107 29 [(.slice none 0 0), (.slice none 0 0)]] := hS.rems 5 [2] rfl
    refine cw_reg ?_
    refine el_pv (v := .agg #[v116, v145]) (pv_loada (cs := [v116, v145]) rfl rfl (boxc0 (hS.boxAt 0 rfl))) (by decide) ?_
    refine el_storev (hS.top 3 rfl) rfl [v116, v145] rfl rfl (of_decide_eq_true rfl) (all_cons (oc (hS.rdAt (R := (sliceR intR 3)) 2 rfl)) (all_cons (oc (hS.rdAt (R := (sliceR (pairR (sliceR intR 3) (sliceR intR 3)) 84)) 1 rfl)) rfl)) ?_
    intro w153 hS
    replace hS : Sat w0 w153 [Box b107 29 [v116, v145], Box b132 29 [v116, v145], Own (sliceR (pairR (sliceR intR 3) (sliceR intR 3)) 84) [v145] x146, Own (sliceR intR 3) [v116] x117] := hS
    refine el_nil ?_
    refine hQ152 _ _ _ ?_
    refine thn_n ?_
    refine cw_ret ?_
    refine hQ136 _ _ _ ?_
    refine thn_r ?_
    refine finC (cs := [v116, v145]) rfl rfl rfl (boxc0 (hS.boxAt 0 rfl))  ?_
    replace hS : Sat w0 w153 [Own (sliceR intR 3) [v116] x117, Own (sliceR (pairR (sliceR intR 3) (sliceR intR 3)) 84) [v145] x146, Box b107 29 [v116, v145], Box b132 29 [v116, v145]] := hS.tops 4 [3, 2] rfl
    have hr := Option.some.inj hF
    exact ⟨v116, v145, congrArg (fun (r : (List Int × List (List Int × List Int))) => Ending.returned (.agg #[v116, v145])) hr, Eq.mp (congrArg (fun (r : (List Int × List (List Int × List Int))) => Sat w0 w153 [Own (sliceR intR 3) [v116] r.1, Own (sliceR (pairR (sliceR intR 3) (sliceR intR 3)) 84) [v145] r.2]) hr) (hS.keep 2)⟩
  · refine cw_cond_f rfl hb138 ?_
    refine cw_skip ?_
    refine hQ136 _ _ _ ?_
    refine thn_n ?_
    refine cw_seq ?_
    refine cw_gen ?_
    intro Q154 hQ154
    refine cw_reg ?_
    refine el_pv (v := .pointer (some ⟨b103, 0 + 1, none⟩)) (pv_fieldAddr rfl) (by decide) ?_
    refine el_pv (v := u1) (pv_loadc rfl ((hS.boxAt 4 rfl) 1 _ rfl)) (by decide) ?_
    replace hS : Sat w0 w135 [Box b132 29 [v116, (.slice (some ⟨b126, 0, none⟩) 1 1)], Own (sliceR intR 3) [v116] x117, Own (sliceR (pairR (sliceR intR 3) (sliceR intR 3)) 84) [(.slice (some ⟨b126, 0, none⟩) 1 1)] ([([], [])]), Box b107 29 [(.slice none 0 0), (.slice none 0 0)], Box b103 32 [.int .i64 a0, u1]] := hS.tops 5 [0, 2, 1] rfl
    replace hF := ob hF
    obtain ⟨r155, hr155, hF⟩ := hF
    refine el_call goes93 (spec_l23Build_ok ha1 hS hr155) (congrArg List.toArray (mapc rfl (mapc rfl (mapc rfl rfl)))) (by decide) ?_
    rintro _ w156 ⟨v157, v158, rfl, hS⟩
    refine ⟨_, rfl, ?_⟩
    replace hS : Sat w0 w156 [Box b132 29 [v157, v158], Own (sliceR intR 3) [v157] r155.2.1, Own (sliceR (pairR (sliceR intR 3) (sliceR intR 3)) 84) [v158] r155.2.2, Box b107 29 [(.slice none 0 0), (.slice none 0 0)], Box b103 32 [.int .i64 a0, u1]] := hS
    refine el_nil ?_
    refine hQ154 _ _ _ ?_
    refine thn_n ?_
    refine cw_seq ?_
    refine cw_gen ?_
    intro Q159 hQ159
    replace hS : Sat w0 w156 [Box b132 29 [v157, v158], Own (sliceR intR 3) [v157] r155.2.1, Own (sliceR (pairR (sliceR intR 3) (sliceR intR 3)) 84) [v158] r155.2.2, Box b107 29 [(.slice none 0 0), (.slice none 0 0)]] := hS.rems 5 [4] rfl
    refine cw_reg ?_
    refine el_pv (v := .agg #[v157, v158]) (pv_loada (cs := [v157, v158]) rfl rfl (boxc0 (hS.boxAt 0 rfl))) (by decide) ?_
    refine el_storev (hS.top 3 rfl) rfl [v157, v158] rfl rfl (of_decide_eq_true rfl) (all_cons (oc (hS.rdAt (R := (sliceR intR 3)) 1 rfl)) (all_cons (oc (hS.rdAt (R := (sliceR (pairR (sliceR intR 3) (sliceR intR 3)) 84)) 2 rfl)) rfl)) ?_
    intro w160 hS
    replace hS : Sat w0 w160 [Box b107 29 [v157, v158], Box b132 29 [v157, v158], Own (sliceR intR 3) [v157] r155.2.1, Own (sliceR (pairR (sliceR intR 3) (sliceR intR 3)) 84) [v158] r155.2.2] := hS
    refine el_nil ?_
    refine hQ159 _ _ _ ?_
    refine thn_n ?_
    refine cw_ret ?_
    refine finC (cs := [v157, v158]) rfl rfl rfl (boxc0 (hS.boxAt 0 rfl))  ?_
    replace hS : Sat w0 w160 [Own (sliceR intR 3) [v157] r155.2.1, Own (sliceR (pairR (sliceR intR 3) (sliceR intR 3)) 84) [v158] r155.2.2, Box b107 29 [v157, v158], Box b132 29 [v157, v158]] := hS.tops 4 [2, 3] rfl
    have hr := Option.some.inj hF
    exact ⟨v157, v158, congrArg (fun (r : (List Int × List (List Int × List Int))) => Ending.returned (.agg #[v157, v158])) hr, Eq.mp (congrArg (fun (r : (List Int × List (List Int × List Int))) => Sat w0 w160 [Own (sliceR intR 3) [v157] r.1, Own (sliceR (pairR (sliceR intR 3) (sliceR intR 3)) 84) [v158] r.2]) hr) (hS.keep 2)⟩
set_option maxHeartbeats 4000000 in
theorem spec_FactorizeRelation_ok {w0 : World} {a0 : Int} {u1 : Value} {a1 : List (List Int)} (ha1 : (sliceR (sliceR intR 3) 26).rd w0 [u1] a1) {N : Nat} {r : (List Int × List (List Int × List Int)) × Bool} (hF : spec_FactorizeRelation N a0 a1 = some r) :
    Calls Try.prog 10 #[.agg #[.int .i64 a0, u1]] w0 fun e w' => ∃ (q0 : Value) (q1 : Value), e = .returned (.tuple #[.agg #[q0, q1], .bool r.2]) ∧ Sat w0 w' [Own (sliceR intR 3) [q0] r.1.1, Own (sliceR (pairR (sliceR intR 3) (sliceR intR 3)) 84) [q1] r.1.2] := by
  unfold spec_FactorizeRelation at hF
  refine calls_E Try.func10 rfl rfl (of_decide_eq_true rfl) ?_
  have hS := Sat.start w0
  refine cw_seq ?_
  refine cw_gen ?_
  intro Q101 hQ101
  refine cw_reg ?_
  refine el_box [.int .i64 a0, u1] rfl hS (by decide) ?_
  intro w102 b103 hS hx104
  refine el_alloc hS (by decide) ?_
  intro w106 b107 hS hx108
  refine el_pv (v := .bool false) (pv_assign rfl) (by decide) ?_
  refine el_nil ?_
  refine hQ101 _ _ _ ?_
  refine thn_n ?_
  refine cw_seq ?_
  refine cw_gen ?_
  intro Q110 hQ110
  refine cw_seq ?_
  refine cw_gen ?_
  intro Q111 hQ111
  refine cw_reg ?_
  refine el_pv (v := .agg #[.int .i64 a0, u1]) (pv_loada (cs := [.int .i64 a0, u1]) rfl rfl (boxc0 (hS.boxAt 1 rfl))) (by decide) ?_
  replace hF := ob hF
  obtain ⟨r112, hr112, hF⟩ := hF
  refine el_call goes20 (spec_IsValidRelation_ok (hS.up ha1) hr112) (congrArg List.toArray (mapc rfl rfl)) (by decide) ?_
  rintro _ w113 ⟨rfl, hx114⟩
  refine ⟨_, rfl, ?_⟩
  replace hS := hS.ext hx114
  refine el_pv (v := .bool (!r112)) (pv_not rfl) (by decide) ?_
  refine el_nil ?_
  refine hQ111 _ _ _ ?_
  refine thn_n ?_
  replace hF := oif hF
  rcases hF with ⟨hb115, hF⟩ | ⟨hb115, hF⟩
  · refine cw_cond_f rfl (bnot_t hb115) ?_
    refine cw_skip ?_
    refine hQ110 _ _ _ ?_
    refine thn_n ?_
    refine cw_seq ?_
    refine cw_gen ?_
    intro Q116 hQ116
    refine cw_reg ?_
    refine el_buildSlice0 intR hS (by decide) ?_
    intro w117 v119 hS hx118
    refine el_pv (v := v119) (pv_assign rfl) (by decide) ?_
    refine el_nil ?_
    refine hQ116 _ _ _ ?_
    refine thn_n ?_
    refine cw_seq ?_
    refine cw_gen ?_
    intro Q121 hQ121
    refine cw_block ?_
    refine cw_gen ?_
    intro Q122 hQ122
    obtain ⟨s123, hL, hK124⟩ := ob hF
    refine cw_loopS (fun k e w => ∃ (v126 : Value), ∃ (x125 : List Int), e 1 = .pointer (some ⟨b103, 0, none⟩) ∧ e 2 = .pointer (some ⟨b107, 0, none⟩) ∧ e 4 = v126 ∧ Sat w0 w [Own (sliceR intR 3) [v126] x125, Box b107 29 [(.slice none 0 0), (.slice none 0 0)], Box b103 32 [.int .i64 a0, u1]] ∧ spec_FactorizeRelation_L1 N k a0 a1 [] [] x125 = some s123) N ?_ ?_ ?_
    · exact ⟨v119, [], rfl, rfl, rfl, hS, hL⟩
    · rintro e w ⟨_, _, _, _, _, _, hz⟩; exact nomatch (show none = some _ from hz)
    · rintro k e131 w130 ⟨v126, x125, he127, he128, he129, hS, hF⟩
      refine cw_gen ?_
      intro Q132 hQ132
      refine cw_seq ?_
      refine cw_gen ?_
      intro Q133 hQ133
      refine cw_seq ?_
      refine cw_gen ?_
      intro Q134 hQ134
      refine cw_reg ?_
      refine el_pv (v := v126) (pv_move he129) (by decide) ?_
      refine el_pv (v := .int .i64 (x125.length : Int)) (pv_len rfl (hS.rdAt (R := (sliceR intR 3)) 0 rfl)) (by decide) ?_
      refine el_pv (v := .pointer (some ⟨b103, 0 + 0, none⟩)) (pv_fieldAddr he127) (by decide) ?_
      refine el_pv (v := .int .i64 a0) (pv_loadc rfl ((hS.boxAt 2 rfl) 0 _ rfl)) (by decide) ?_
      refine el_pv (v := .bool (decide ((x125.length : Int) < a0))) (pv_lss rfl rfl) (by decide) ?_
      refine el_nil ?_
      refine hQ134 _ _ _ ?_
      refine thn_n ?_
      replace hF := oif hF
      rcases hF with ⟨hb135, hF⟩ | ⟨hb135, hF⟩
      · refine cw_cond_t rfl hb135 ?_
        refine cw_skip ?_
        refine hQ133 _ _ _ ?_
        refine thn_n ?_
        refine cw_block ?_
        refine cw_gen ?_
        intro Q136 hQ136
        refine cw_reg ?_
        refine el_pv (v := v126) (pv_move he129) (by decide) ?_
        refine el_pv (v := v126) (pv_move he129) (by decide) ?_
        refine el_pv (v := .int .i64 (x125.length : Int)) (pv_len rfl (hS.rdAt (R := (sliceR intR 3)) 0 rfl)) (by decide) ?_
        refine el_buildSlice1 [.int .i64 (x125.length : Int)] rfl (by rfl) (by decide) rfl (by decide) hS (by decide) ?_
        intro w137 b139 hS hx138
        replace hF := ob hF
        obtain ⟨x143, hx143, hF⟩ := hF
        have hrow144 := hS.boxRow 0 rfl
        replace hS : Sat w0 w137 [Own (sliceR intR 3) [v126] x125, Box b139 3 [.int .i64 (x125.length : Int)], Box b107 29 [(.slice none 0 0), (.slice none 0 0)], Box b103 32 [.int .i64 a0, u1]] := hS.top 1 rfl
        replace hS := hS.int (x125.length : Int)
        replace hS := hS.one
        refine el_append rfl (by decide) rfl (by decide) hS rfl rfl rfl (by simp) hrow144 hx143 (by decide) ?_
        intro w141 v142 hS
        refine el_pv (v := v142) (pv_assign rfl) (by decide) ?_
        refine el_nil ?_
        refine hQ136 _ _ _ ?_
        refine inb_n ?_
        refine hQ132 _ _ _ ?_
        refine thn_n ?_
        replace hS : Sat w0 w141 [Own (sliceR intR 3) [v142] x143, Box b107 29 [(.slice none 0 0), (.slice none 0 0)], Box b103 32 [.int .i64 a0, u1], Box b139 3 [.int .i64 (x125.length : Int)]] := hS.tops 4 [0, 2, 3] rfl
        replace hS := hS.keep 3
        exact ⟨v142, x143, he127, he128, rfl, hS, hF⟩
      · refine cw_cond_f rfl hb135 ?_
        refine cw_exit ?_
        refine hQ133 _ _ _ ?_
        refine thn_x ?_
        refine hQ132 _ _ _ ?_
        refine thn_x ?_
        replace hF := exB hF hK124
        refine hQ122 _ _ _ ?_
        refine inb_s ?_
        refine hQ121 _ _ _ ?_
        refine thn_n ?_
        refine cw_seq ?_
        refine cw_gen ?_
        intro Q146 hQ146
        refine cw_reg ?_
        refine el_pv (v := .agg #[.int .i64 a0, u1]) (pv_loada (cs := [.int .i64 a0, u1]) he127 rfl (boxc0 (hS.boxAt 2 rfl))) (by decide) ?_
        refine el_pv (v := v126) (pv_move he129) (by decide) ?_
        replace hF := ob hF
        obtain ⟨r147, hr147, hF⟩ := hF
        refine el_call goes45 (spec_l23Of_ok (hS.up ha1) (hS.rdAt (R := (sliceR intR 3)) 0 rfl) hr147) (congrArg List.toArray (mapc rfl (mapc rfl rfl))) (by decide) ?_
        rintro _ w152 ⟨v148, v149, rfl, hS'⟩
        refine ⟨_, rfl, ?_⟩
        have hx153 := hS'.below
        replace hS := hS.call2 hS'
        refine el_storev (hS.top 3 rfl) he128 [v148, v149] rfl rfl (of_decide_eq_true rfl) (all_cons (oc (hS.rdAt (R := (sliceR intR 3)) 0 rfl)) (all_cons (oc (hS.rdAt (R := (sliceR (pairR (sliceR intR 3) (sliceR intR 3)) 84)) 1 rfl)) rfl)) ?_
        intro w154 hS
        replace hS : Sat w0 w154 [Box b107 29 [v148, v149], Own (sliceR intR 3) [v148] r147.1, Own (sliceR (pairR (sliceR intR 3) (sliceR intR 3)) 84) [v149] r147.2, Own (sliceR intR 3) [v126] x125, Box b103 32 [.int .i64 a0, u1]] := hS
        refine el_pv (v := .bool true) (pv_assign rfl) (by decide) ?_
        refine el_nil ?_
        refine hQ146 _ _ _ ?_
        refine thn_n ?_
        refine cw_ret ?_
        refine finCT (cs := [v148, v149]) rfl he128 rfl (boxc0 (hS.boxAt 0 rfl)) rfl ?_
        replace hS : Sat w0 w154 [Own (sliceR intR 3) [v148] r147.1, Own (sliceR (pairR (sliceR intR 3) (sliceR intR 3)) 84) [v149] r147.2, Box b107 29 [v148, v149], Own (sliceR intR 3) [v126] x125, Box b103 32 [.int .i64 a0, u1]] := hS.tops 5 [1, 2] rfl
        have hr := Option.some.inj hF
        exact ⟨v148, v149, congrArg (fun (r : (List Int × List (List Int × List Int)) × Bool) => Ending.returned (.tuple #[.agg #[v148, v149], .bool r.2])) hr, Eq.mp (congrArg (fun (r : (List Int × List (List Int × List Int)) × Bool) => Sat w0 w154 [Own (sliceR intR 3) [v148] r.1.1, Own (sliceR (pairR (sliceR intR 3) (sliceR intR 3)) 84) [v149] r.1.2]) hr) (hS.keep 2)⟩
  · refine cw_cond_t rfl (bnot_f hb115) ?_
    refine cw_seq ?_
    refine cw_gen ?_
    intro Q155 hQ155
    replace hS : Sat w0 w113 [Box b107 29 [(.slice none 0 0), (.slice none 0 0)]] := hS.rems 2 [1] rfl
    refine cw_reg ?_
    refine el_pv (v := .agg #[(.slice none 0 0), (.slice none 0 0)]) (pv_build [] [(.slice none 0 0), (.slice none 0 0)] rfl rfl) (by decide) ?_
    refine el_storev (hS.top 0 rfl) rfl [(.slice none 0 0), (.slice none 0 0)] rfl rfl (of_decide_eq_true rfl) (all_cons rfl (all_cons rfl rfl)) ?_
    intro w156 hS
    replace hS : Sat w0 w156 [Box b107 29 [(.slice none 0 0), (.slice none 0 0)]] := hS
    refine el_pv (v := .bool false) (pv_assign rfl) (by decide) ?_
    refine el_nil ?_
    refine hQ155 _ _ _ ?_
    refine thn_n ?_
    refine cw_ret ?_
    refine hQ110 _ _ _ ?_
    refine thn_r ?_
    replace hS := hS.nil intR 3
    replace hS := hS.nil (pairR (sliceR intR 3) (sliceR intR 3)) 84
    refine finCT (cs := [(.slice none 0 0), (.slice none 0 0)]) rfl rfl rfl (boxc0 (hS.boxAt 2 rfl)) rfl ?_
    replace hS : Sat w0 w156 [Own (sliceR intR 3) [(.slice none 0 0)] [], Own (sliceR (pairR (sliceR intR 3) (sliceR intR 3)) 84) [(.slice none 0 0)] [], Box b107 29 [(.slice none 0 0), (.slice none 0 0)]] := hS.tops 3 [1, 0] rfl
    have hr := Option.some.inj hF
    exact ⟨(.slice none 0 0), (.slice none 0 0), congrArg (fun (r : (List Int × List (List Int × List Int)) × Bool) => Ending.returned (.tuple #[.agg #[(.slice none 0 0), (.slice none 0 0)], .bool r.2])) hr, Eq.mp (congrArg (fun (r : (List Int × List (List Int × List Int)) × Bool) => Sat w0 w156 [Own (sliceR intR 3) [(.slice none 0 0)] r.1.1, Own (sliceR (pairR (sliceR intR 3) (sliceR intR 3)) 84) [(.slice none 0 0)] r.1.2]) hr) (hS.keep 2)⟩
set_option maxHeartbeats 4000000 in
theorem laws_toIntSS_ok {w0 : World} {u0 : Value} {a0 : List (List Int)} (ha0 : (sliceR (sliceR intR 3) 26).rd w0 [u0] a0) {N : Nat} {r : (List (List Int))} (hF : laws_toIntSS N a0 = some r) :
    Calls Try.prog 46 #[u0] w0 fun e w' => ∃ (q0 : Value), e = .returned (q0) ∧ Sat w0 w' [Own (sliceR (sliceR intR 3) 26) [q0] r] := by
  unfold laws_toIntSS at hF
  refine calls_E Try.func46 rfl rfl (of_decide_eq_true rfl) ?_
  have hS := Sat.start w0
  refine cw_seq ?_
  refine cw_gen ?_
  intro Q101 hQ101
  refine cw_reg ?_
  refine el_pv (v := (.slice none 0 0)) (pv_assign rfl) (by decide) ?_
  refine el_nil ?_
  refine hQ101 _ _ _ ?_
  refine thn_n ?_
  refine cw_seq ?_
  refine cw_gen ?_
  intro Q102 hQ102
  refine cw_reg ?_
  refine el_pv (v := u0) (pv_move rfl) (by decide) ?_
  refine el_pv (v := .int .i64 (a0.length : Int)) (pv_len rfl ha0) (by decide) ?_
  replace hF := ob hF
  obtain ⟨x106, hx106, hF⟩ := hF
  refine el_make (R := (sliceR intR 3)) (x0 := []) rfl (by decide) rfl (fun _ => .inl ⟨rfl, rfl, rfl⟩) rfl rfl hx106 hS (by decide) ?_
  intro w103 g104 k105 hS hx107 hlx106
  refine el_pv (v := (.slice (some ⟨g104, 0, none⟩) k105 k105)) (pv_assign rfl) (by decide) ?_
  refine el_nil ?_
  refine hQ102 _ _ _ ?_
  refine thn_n ?_
  refine cw_seq ?_
  refine cw_gen ?_
  intro Q109 hQ109
  refine cw_seq ?_
  refine cw_gen ?_
  intro Q110 hQ110
  refine cw_reg ?_
  refine el_pv (v := .int .i64 0) (pv_assign rfl) (by decide) ?_
  refine el_nil ?_
  refine hQ110 _ _ _ ?_
  refine thn_n ?_
  refine cw_block ?_
  refine cw_gen ?_
  intro Q111 hQ111
  obtain ⟨s112, hL, hK113⟩ := ob hF
  refine cw_loopS (fun k e w => ∃ (v115 : Value), ∃ (x114 : List (List Int)), ∃ (x116 : Int), e 0 = u0 ∧ e 3 = v115 ∧ e 4 = .int .i64 x116 ∧ Sat w0 w [Own (sliceR (sliceR intR 3) 26) [v115] x114] ∧ laws_toIntSS_L1 N k a0 x114 x116 = some s112) N ?_ ?_ ?_
  · exact ⟨(.slice (some ⟨g104, 0, none⟩) k105 k105), x106, 0, rfl, rfl, rfl, hS, hL⟩
  · rintro e w ⟨_, _, _, _, _, _, _, hz⟩; exact nomatch (show none = some _ from hz)
  · rintro k e121 w120 ⟨v115, x114, x116, he117, he118, he119, hS, hF⟩
    refine cw_gen ?_
    intro Q122 hQ122
    refine cw_seq ?_
    refine cw_gen ?_
    intro Q123 hQ123
    refine cw_seq ?_
    refine cw_gen ?_
    intro Q124 hQ124
    refine cw_reg ?_
    refine el_pv (v := .int .i64 x116) (pv_move he119) (by decide) ?_
    refine el_pv (v := u0) (pv_move he117) (by decide) ?_
    refine el_pv (v := .int .i64 (a0.length : Int)) (pv_len rfl ha0) (by decide) ?_
    refine el_pv (v := .bool (decide (x116 < (a0.length : Int)))) (pv_lss rfl rfl) (by decide) ?_
    refine el_nil ?_
    refine hQ124 _ _ _ ?_
    refine thn_n ?_
    replace hF := oif hF
    rcases hF with ⟨hb125, hF⟩ | ⟨hb125, hF⟩
    · refine cw_cond_t rfl hb125 ?_
      refine cw_skip ?_
      refine hQ123 _ _ _ ?_
      refine thn_n ?_
      refine cw_seq ?_
      refine cw_gen ?_
      intro Q126 hQ126
      refine cw_block ?_
      refine cw_gen ?_
      intro Q127 hQ127
      refine cw_reg ?_
      refine el_pv (v := v115) (pv_move he118) (by decide) ?_
      refine el_pv (v := .int .i64 x116) (pv_move he119) (by decide) ?_
      refine el_pv (v := u0) (pv_move he117) (by decide) ?_
      refine el_pv (v := .int .i64 x116) (pv_move he119) (by decide) ?_
      replace hF := ob hF
      obtain ⟨x128, hx128, hF⟩ := hF
      refine el_index (wA := w0) rfl ha0 rfl (by decide) rfl hx128 (by decide) ?_
      intro b129 of130 c131 hr132 hm133
      obtain ⟨v134, rfl⟩ := slice_one hr132
      refine el_pv (v := v134) (pv_loadc rfl ((cells_up hS.below hm133) 0 _ rfl)) (by decide) ?_
      replace hF := ob hF
      obtain ⟨r135, hr135, hF⟩ := hF
      refine el_call goes74 (laws_toIntS_ok (hS.up hr132) hr135) (congrArg List.toArray (mapc rfl rfl)) (by decide) ?_
      rintro _ w138 ⟨v136, rfl, hS'⟩
      refine ⟨_, rfl, ?_⟩
      have hx139 := hS'.below
      replace hS := hS.call1 hS'
      replace hF := ob hF
      obtain ⟨x140, hx140, hF⟩ := hF
      replace hS : Sat w0 w138 [Own (sliceR (sliceR intR 3) 26) [v115] x114, Own (sliceR intR 3) [v136] r135] := hS.top 1 rfl
      refine el_indexO hS rfl rfl (by decide) rfl hx140 (by decide) ?_
      intro b141 of142 c143 hv146 hr144 hm145
      obtain ⟨v147, rfl⟩ := slice_one hr144
      replace hF := ob hF
      obtain ⟨x149, hx149, hF⟩ := hF
      have hoc150 : Value.oneCell' v136 = true := (oc (hS.rdAt (R := (sliceR intR 3)) 1 rfl))
      replace hS : Sat w0 w138 [Own (sliceR intR 3) [v136] r135, Own (sliceR (sliceR intR 3) 26) [v115] x114] := hS.top 1 rfl
      refine el_storeO rfl hv146 hS hx149 rfl (cells_of rfl hoc150) ?_
      intro w148 hS
      refine el_nil ?_
      refine hQ127 _ _ _ ?_
      refine inb_n ?_
      refine hQ126 _ _ _ ?_
      refine thn_n ?_
      refine cw_reg ?_
      refine el_pv (v := .int .i64 x116) (pv_move he119) (by decide) ?_
      replace hF := ob hF
      obtain ⟨x151, hx151, hF⟩ := hF
      refine el_pv (v := .int .i64 x151) (pv_add rfl rfl hx151) (by decide) ?_
      refine el_pv (v := .int .i64 x151) (pv_assign rfl) (by decide) ?_
      refine el_nil ?_
      refine hQ122 _ _ _ ?_
      refine thn_n ?_
      replace hS := hS.keep 1
      exact ⟨v115, x149, x151, he117, he118, rfl, hS, hF⟩
    · refine cw_cond_f rfl hb125 ?_
      refine cw_exit ?_
      refine hQ123 _ _ _ ?_
      refine thn_x ?_
      refine hQ122 _ _ _ ?_
      refine thn_x ?_
      replace hF := exB hF hK113
      refine hQ111 _ _ _ ?_
      refine inb_s ?_
      refine hQ109 _ _ _ ?_
      refine thn_n ?_
      refine cw_seq ?_
      refine cw_gen ?_
      intro Q152 hQ152
      refine cw_reg ?_
      refine el_pv (v := v115) (pv_move he118) (by decide) ?_
      refine el_pv (v := v115) (pv_assign rfl) (by decide) ?_
      refine el_nil ?_
      refine hQ152 _ _ _ ?_
      refine thn_n ?_
      refine cw_ret ?_
      refine fin1 rfl rfl ?_
      have hr := Option.some.inj hF
      exact ⟨v115, congrArg (fun (r : (List (List Int))) => Ending.returned (v115)) hr, Eq.mp (congrArg (fun (r : (List (List Int))) => Sat w0 w120 [Own (sliceR (sliceR intR 3) 26) [v115] r]) hr) (hS.keep 1)⟩
set_option maxHeartbeats 4000000 in
theorem laws_toRelation_ok {w0 : World} {a0 : Int} {u1 : Value} {a1 : List (List Int)} (ha1 : (sliceR (sliceR intR 3) 26).rd w0 [u1] a1) {N : Nat} {r : Int × List (List Int)} (hF : laws_toRelation N a0 a1 = some r) :
    Calls Try.prog 11 #[.agg #[.int .i64 a0, u1]] w0 fun e w' => ∃ (q0 : Value), e = .returned (.agg #[.int .i64 r.1, q0]) ∧ Sat w0 w' [Own (sliceR (sliceR intR 3) 26) [q0] r.2] := by
  unfold laws_toRelation at hF
  refine calls_E Try.func11 rfl rfl (of_decide_eq_true rfl) ?_
  have hS := Sat.start w0
  refine cw_seq ?_
  refine cw_gen ?_
  intro Q101 hQ101
  refine cw_reg ?_
  refine el_box [.int .i64 a0, u1] rfl hS (by decide) ?_
  intro w102 b103 hS hx104
  refine el_alloc hS (by decide) ?_
  intro w106 b107 hS hx108
  refine el_nil ?_
  refine hQ101 _ _ _ ?_
  refine thn_n ?_
  refine cw_seq ?_
  refine cw_gen ?_
  intro Q110 hQ110
  refine cw_reg ?_
  refine el_alloc hS (by decide) ?_
  intro w111 b112 hS hx113
  refine el_nil ?_
  refine hQ110 _ _ _ ?_
  refine thn_n ?_
  refine cw_seq ?_
  refine cw_gen ?_
  intro Q115 hQ115
  refine cw_reg ?_
  refine el_pv (v := .pointer (some ⟨b103, 0 + 0, none⟩)) (pv_fieldAddr rfl) (by decide) ?_
  refine el_pv (v := .int .i64 a0) (pv_loadc rfl ((hS.boxAt 2 rfl) 0 _ rfl)) (by decide) ?_
  refine el_pv (v := .pointer (some ⟨b112, 0 + 0, none⟩)) (pv_fieldAddr rfl) (by decide) ?_
  refine el_storev (hS.top 0 rfl) rfl [.int .i64 a0] rfl rfl (of_decide_eq_true rfl) (all_cons rfl rfl) ?_
  intro w116 hS
  replace hS : Sat w0 w116 [Box b112 32 [.int .i64 a0, (.slice none 0 0)], Box b107 32 [.int .i64 0, (.slice none 0 0)], Box b103 24 [.int .i64 a0, u1]] := hS
  refine el_nil ?_
  refine hQ115 _ _ _ ?_
  refine thn_n ?_
  refine cw_seq ?_
  refine cw_gen ?_
  intro Q117 hQ117
  refine cw_reg ?_
  refine el_pv (v := .pointer (some ⟨b103, 0 + 1, none⟩)) (pv_fieldAddr rfl) (by decide) ?_
  refine el_pv (v := u1) (pv_loadc rfl ((hS.boxAt 2 rfl) 1 _ rfl)) (by decide) ?_
  replace hF := ob hF
  obtain ⟨r118, hr118, hF⟩ := hF
  refine el_call goes46 (laws_toIntSS_ok (hS.up ha1) hr118) (congrArg List.toArray (mapc rfl rfl)) (by decide) ?_
  rintro _ w121 ⟨v119, rfl, hS'⟩
  refine ⟨_, rfl, ?_⟩
  have hx122 := hS'.below
  replace hS := hS.call1 hS'
  refine el_pv (v := .pointer (some ⟨b112, 0 + 1, none⟩)) (pv_fieldAddr rfl) (by decide) ?_
  refine el_storev (hS.top 1 rfl) rfl [v119] (cells_of rfl (oc (hS.rdAt (R := (sliceR (sliceR intR 3) 26)) 0 rfl))) rfl (of_decide_eq_true rfl) (all_cons (oc (hS.rdAt (R := (sliceR (sliceR intR 3) 26)) 0 rfl)) rfl) ?_
  intro w123 hS
  replace hS : Sat w0 w123 [Box b112 32 [.int .i64 a0, v119], Own (sliceR (sliceR intR 3) 26) [v119] r118, Box b107 32 [.int .i64 0, (.slice none 0 0)], Box b103 24 [.int .i64 a0, u1]] := hS
  refine el_nil ?_
  refine hQ117 _ _ _ ?_
  refine thn_n ?_
  refine cw_seq ?_
  refine cw_gen ?_
  intro Q124 hQ124
  replace hS : Sat w0 w123 [Box b112 32 [.int .i64 a0, v119], Own (sliceR (sliceR intR 3) 26) [v119] r118, Box b107 32 [.int .i64 0, (.slice none 0 0)]] := hS.rems 4 [3] rfl
  refine cw_reg ?_
  refine el_pv (v := .agg #[.int .i64 a0, v119]) (pv_loada (cs := [.int .i64 a0, v119]) rfl rfl (boxc0 (hS.boxAt 0 rfl))) (by decide) ?_
  refine el_storev (hS.top 2 rfl) rfl [.int .i64 a0, v119] rfl rfl (of_decide_eq_true rfl) (all_cons rfl (all_cons (oc (hS.rdAt (R := (sliceR (sliceR intR 3) 26)) 1 rfl)) rfl)) ?_
  intro w125 hS
  replace hS : Sat w0 w125 [Box b107 32 [.int .i64 a0, v119], Box b112 32 [.int .i64 a0, v119], Own (sliceR (sliceR intR 3) 26) [v119] r118] := hS
  refine el_nil ?_
  refine hQ124 _ _ _ ?_
  refine thn_n ?_
  refine cw_ret ?_
  refine finC (cs := [.int .i64 a0, v119]) rfl rfl rfl (boxc0 (hS.boxAt 0 rfl))  ?_
  replace hS : Sat w0 w125 [Own (sliceR (sliceR intR 3) 26) [v119] r118, Box b107 32 [.int .i64 a0, v119], Box b112 32 [.int .i64 a0, v119]] := hS.tops 3 [2] rfl
  have hr := Option.some.inj hF
  exact ⟨v119, congrArg (fun (r : Int × List (List Int)) => Ending.returned (.agg #[.int .i64 r.1, v119])) hr, Eq.mp (congrArg (fun (r : Int × List (List Int)) => Sat w0 w125 [Own (sliceR (sliceR intR 3) 26) [v119] r.2]) hr) (hS.keep 1)⟩
set_option maxHeartbeats 4000000 in
theorem impl_compareInts_ok {w0 : World} {a0 : Int} {a1 : Int}  {N : Nat} {r : Int} (hF : impl_compareInts N a0 a1 = some r) :
    Calls Try.prog 119 #[.int .i64 a0, .int .i64 a1] w0 fun e w' => e = .returned (.int .i64 r) ∧ Ext w0 w' := by
  unfold impl_compareInts at hF
  refine calls_E Try.func119 rfl rfl (of_decide_eq_true rfl) ?_
  have hS := Sat.start w0
  refine cw_seq ?_
  refine cw_gen ?_
  intro Q101 hQ101
  refine cw_reg ?_
  refine el_pv (v := .int .i64 0) (pv_assign rfl) (by decide) ?_
  refine el_nil ?_
  refine hQ101 _ _ _ ?_
  refine thn_n ?_
  refine cw_seq ?_
  refine cw_gen ?_
  intro Q102 hQ102
  refine cw_block ?_
  refine cw_gen ?_
  intro Q103 hQ103
  refine cw_seq ?_
  refine cw_gen ?_
  intro Q104 hQ104
  refine cw_reg ?_
  refine el_pv (v := .int .i64 a0) (pv_move rfl) (by decide) ?_
  refine el_pv (v := .int .i64 a1) (pv_move rfl) (by decide) ?_
  refine el_pv (v := .bool (decide (a0 < a1))) (pv_lss rfl rfl) (by decide) ?_
  refine el_pv (v := .bool (decide (a0 < a1))) (pv_assign rfl) (by decide) ?_
  refine el_nil ?_
  refine hQ104 _ _ _ ?_
  refine thn_n ?_
  replace hF := oif hF
  rcases hF with ⟨hb105, hF⟩ | ⟨hb105, hF⟩
  · refine cw_cond_t rfl hb105 ?_
    refine cw_seq ?_
    refine cw_gen ?_
    intro Q106 hQ106
    refine cw_reg ?_
    refine el_pv (v := .int .i64 (-1)) (pv_assign rfl) (by decide) ?_
    refine el_nil ?_
    refine hQ106 _ _ _ ?_
    refine thn_n ?_
    refine cw_ret ?_
    refine hQ103 _ _ _ ?_
    refine inb_r ?_
    refine hQ102 _ _ _ ?_
    refine thn_r ?_
    refine fin1 rfl rfl ?_
    have hr := Option.some.inj hF
    exact ⟨congrArg (fun (r : Int) => Ending.returned (.int .i64 r)) hr, hS.below⟩
  · refine cw_cond_f rfl hb105 ?_
    refine cw_seq ?_
    refine cw_gen ?_
    intro Q107 hQ107
    refine cw_reg ?_
    refine el_pv (v := .int .i64 a0) (pv_move rfl) (by decide) ?_
    refine el_pv (v := .int .i64 a1) (pv_move rfl) (by decide) ?_
    refine el_pv (v := .bool (decide (a1 < a0))) (pv_gtr rfl rfl) (by decide) ?_
    refine el_pv (v := .bool (decide (a1 < a0))) (pv_assign rfl) (by decide) ?_
    refine el_nil ?_
    refine hQ107 _ _ _ ?_
    refine thn_n ?_
    replace hF := oif hF
    rcases hF with ⟨hb108, hF⟩ | ⟨hb108, hF⟩
    · refine cw_cond_t rfl hb108 ?_
      refine cw_seq ?_
      refine cw_gen ?_
      intro Q109 hQ109
      refine cw_reg ?_
      refine el_pv (v := .int .i64 1) (pv_assign rfl) (by decide) ?_
      refine el_nil ?_
      refine hQ109 _ _ _ ?_
      refine thn_n ?_
      refine cw_ret ?_
      refine hQ103 _ _ _ ?_
      refine inb_r ?_
      refine hQ102 _ _ _ ?_
      refine thn_r ?_
      refine fin1 rfl rfl ?_
      have hr := Option.some.inj hF
      exact ⟨congrArg (fun (r : Int) => Ending.returned (.int .i64 r)) hr, hS.below⟩
    · refine cw_cond_f rfl hb108 ?_
      refine cw_skip ?_
      refine hQ103 _ _ _ ?_
      refine inb_n ?_
      refine hQ102 _ _ _ ?_
      refine thn_n ?_
      refine cw_seq ?_
      refine cw_gen ?_
      intro Q110 hQ110
      refine cw_reg ?_
      refine el_pv (v := .int .i64 0) (pv_assign rfl) (by decide) ?_
      refine el_nil ?_
      refine hQ110 _ _ _ ?_
      refine thn_n ?_
      refine cw_ret ?_
      refine fin1 rfl rfl ?_
      have hr := Option.some.inj hF
      exact ⟨congrArg (fun (r : Int) => Ending.returned (.int .i64 r)) hr, hS.below⟩
end Go.Proofs.Ytdingjlefilafaa
