/- The walks through functions of the program: each hands back what it comes to. No condition but that it comes to something. -/
import Derived.Test.YtobjjdfgnaanjaaW2
import Derived.Test.YtobjjdfgnaanjaaW3D
namespace Go.Proofs.Ytobjjdfgnaanjaa
open Go.RowKit
set_option maxRecDepth 100000
set_option maxHeartbeats 4000000 in
theorem impl_copyRows_ok {w0 : World} {u0 : Value} {a0 : List (List Int)} (ha0 : (sliceR (sliceR intR 3) 22).rd w0 [u0] a0) {N : Nat} {r : (List (List Int))} (hF : impl_copyRows N a0 = some r) :
    Calls Try.prog 83 #[u0] w0 fun e w' => ∃ q0, e = .returned (q0) ∧ Sat w0 w' [Own (sliceR (sliceR intR 3) 22) [q0] r] := by
  unfold impl_copyRows at hF
  refine calls_E Try.func83 rfl rfl (of_decide_eq_true rfl) ?_
  have hS := Sat.start w0
  refine cw_seq ?_
  refine cw_gen ?_
  intro Q101 hQ101
  refine cw_reg ?_
  refine el_pv (v := (.slice none 0 0)) (pv_assign rfl) (by decide) ?_
  refine el_nil ?_
  refine hQ101 _ _ _ ?_
  refine thn_n ?_
  refine cw_seq ?_
  refine cw_gen ?_
  intro Q102 hQ102
  refine cw_reg ?_
  refine el_pv (v := (.slice none 0 0)) (pv_assign rfl) (by decide) ?_
  refine el_nil ?_
  refine hQ102 _ _ _ ?_
  refine thn_n ?_
  refine cw_seq ?_
  refine cw_gen ?_
  intro Q103 hQ103
  refine cw_seq ?_
  refine cw_gen ?_
  intro Q104 hQ104
  refine cw_reg ?_
  refine el_pv (v := u0) (pv_move rfl) (by decide) ?_
  refine el_pv (v := .int .i64 (a0.length : Int)) (pv_len rfl ha0) (by decide) ?_
  refine el_pv (v := .int .i64 0) (pv_move rfl) (by decide) ?_
  refine el_nil ?_
  refine hQ104 _ _ _ ?_
  refine thn_n ?_
  refine cw_block ?_
  refine cw_gen ?_
  intro Q105 hQ105
  replace hS := hS.nil (sliceR intR 3) 22
  obtain ⟨s107, hL, hK108⟩ := ob hF
  refine cw_loopS (fun k e w => ∃ (v110 : Value), ∃ (x109 : List (List Int)), ∃ (x111 : Int), e 3 = v110 ∧ e 6 = u0 ∧ e 7 = .int .i64 (a0.length : Int) ∧ e 8 = .int .i64 x111 ∧ Sat w0 w [Own (sliceR (sliceR intR 3) 22) [v110] x109] ∧ impl_copyRows_L1 N k x109 a0 (a0.length : Int) x111 = some s107) N ?_ ?_ ?_
  · exact ⟨(.slice none 0 0), [], 0, rfl, rfl, rfl, rfl, hS, hL⟩
  · rintro e w ⟨_, _, _, _, _, _, _, _, hz⟩; exact nomatch (show none = some _ from hz)
  · rintro k e117 w116 ⟨v110, x109, x111, he112, he113, he114, he115, hS, hF⟩
    refine cw_gen ?_
    intro Q118 hQ118
    refine cw_seq ?_
    refine cw_gen ?_
    intro Q119 hQ119
    refine cw_reg ?_
    refine el_pv (v := .bool (decide (x111 < (a0.length : Int)))) (pv_lss he115 he114) (by decide) ?_
    refine el_nil ?_
    refine hQ119 _ _ _ ?_
    refine thn_n ?_
    refine cw_seq ?_
    refine cw_gen ?_
    intro Q120 hQ120
    replace hF := oif hF
    rcases hF with ⟨hb121, hF⟩ | ⟨hb121, hF⟩
    · refine cw_cond_t rfl hb121 ?_
      refine cw_skip ?_
      refine hQ120 _ _ _ ?_
      refine thn_n ?_
      refine cw_seq ?_
      refine cw_gen ?_
      intro Q122 hQ122
      refine cw_block ?_
      refine cw_gen ?_
      intro Q123 hQ123
      refine cw_seq ?_
      refine cw_gen ?_
      intro Q124 hQ124
      refine cw_reg ?_
      replace hF := ob hF
      obtain ⟨x125, hx125, hF⟩ := hF
      refine el_index (wA := w0) he113 ha0 rfl (by decide) he115 hx125 (by decide) ?_
      intro b126 of127 c128 hr129 hm130
      obtain ⟨v131, rfl⟩ := slice_one hr129
      refine el_pv (v := v131) (pv_loadc rfl ((cells_up hS.below hm130) 0 _ rfl)) (by decide) ?_
      refine el_pv (v := v131) (pv_assign rfl) (by decide) ?_
      refine el_nil ?_
      refine hQ124 _ _ _ ?_
      refine thn_n ?_
      refine cw_reg ?_
      refine el_pv (v := v110) (pv_move he112) (by decide) ?_
      refine el_pv (v := v131) (pv_move rfl) (by decide) ?_
      replace hF := ob hF
      obtain ⟨r132, hr132, hF⟩ := hF
      refine el_call goes93 (impl_copyInts_ok (hS.up hr129) hr132) (congrArg List.toArray (mapc rfl rfl)) (by decide) ?_
      rintro _ w135 ⟨v133, rfl, hS'⟩
      refine ⟨_, rfl, ?_⟩
      have hx136 := hS'.below
      replace hS := hS.call1 hS'
      refine el_buildSlice1 [v133] (cells_of rfl (oc (hS.rdAt (R := (sliceR intR 3)) 0 rfl))) (by rfl) (by decide) rfl (by decide) hS (by decide) ?_
      intro w137 b139 hS hx138
      replace hF := ob hF
      obtain ⟨x143, hx143, hF⟩ := hF
      have hrow144 := hS.boxRow 0 rfl
      replace hS : Sat w0 w137 [Own (sliceR (sliceR intR 3) 22) [v110] x109, Box b139 22 [v133], Own (sliceR intR 3) [v133] r132] := hS.top 2 rfl
      replace hS : Sat w0 w137 [Own (sliceR intR 3) [v133] r132, Own (sliceR (sliceR intR 3) 22) [v110] x109, Box b139 22 [v133]] := hS.top 2 rfl
      replace hS := hS.one
      refine el_append rfl (by decide) rfl (by decide) hS rfl rfl rfl (by simp) hrow144 hx143 (by decide) ?_
      intro w141 v142 hS
      refine el_pv (v := v142) (pv_assign rfl) (by decide) ?_
      refine el_nil ?_
      refine hQ123 _ _ _ ?_
      refine inb_n ?_
      refine hQ122 _ _ _ ?_
      refine thn_n ?_
      refine cw_reg ?_
      replace hF := ob hF
      obtain ⟨x146, hx146, hF⟩ := hF
      refine el_pv (v := .int .i64 x146) (pv_add he115 rfl hx146) (by decide) ?_
      refine el_pv (v := .int .i64 x146) (pv_move rfl) (by decide) ?_
      refine el_nil ?_
      refine hQ118 _ _ _ ?_
      refine thn_n ?_
      replace hS := hS.keep 1
      exact ⟨v142, x143, x146, rfl, he113, he114, rfl, hS, hF⟩
    · refine cw_cond_f rfl hb121 ?_
      refine cw_exit ?_
      refine hQ120 _ _ _ ?_
      refine thn_x ?_
      refine hQ118 _ _ _ ?_
      refine thn_x ?_
      replace hF := exB hF hK108
      refine hQ105 _ _ _ ?_
      refine inb_s ?_
      refine hQ103 _ _ _ ?_
      refine thn_n ?_
      refine cw_seq ?_
      refine cw_gen ?_
      intro Q147 hQ147
      refine cw_reg ?_
      refine el_pv (v := v110) (pv_move he112) (by decide) ?_
      refine el_pv (v := v110) (pv_assign rfl) (by decide) ?_
      refine el_nil ?_
      refine hQ147 _ _ _ ?_
      refine thn_n ?_
      refine cw_ret ?_
      refine fin1 rfl rfl ?_
      have hr := Option.some.inj hF
      exact ⟨v110, congrArg (fun (r : (List (List Int))) => Ending.returned (v110)) hr, Eq.mp (congrArg (fun (r : (List (List Int))) => Sat w0 w116 [Own (sliceR (sliceR intR 3) 22) [v110] r]) hr) (hS.keep 1)⟩
set_option maxHeartbeats 4000000 in
theorem impl_copyRelation_ok {w0 : World} {a0 : Int} {u1 : Value} {a1 : List (List Int)} (ha1 : (sliceR (sliceR intR 3) 22).rd w0 [u1] a1) {N : Nat} {r : Int × List (List Int)} (hF : impl_copyRelation N a0 a1 = some r) :
    Calls Try.prog 56 #[.agg #[.int .i64 a0, u1]] w0 fun e w' => ∃ q0, e = .returned (.agg #[.int .i64 r.1, q0]) ∧ Sat w0 w' [Own (sliceR (sliceR intR 3) 22) [q0] r.2] := by
  unfold impl_copyRelation at hF
  refine calls_E Try.func56 rfl rfl (of_decide_eq_true rfl) ?_
  have hS := Sat.start w0
  refine cw_seq ?_
  refine cw_gen ?_
  intro Q101 hQ101
  refine cw_reg ?_
  refine el_box [.int .i64 a0, u1] rfl hS (by decide) ?_
  intro w102 b103 hS hx104
  refine el_alloc hS (by decide) ?_
  intro w106 b107 hS hx108
  refine el_nil ?_
  refine hQ101 _ _ _ ?_
  refine thn_n ?_
  refine cw_seq ?_
  refine cw_gen ?_
  intro Q110 hQ110
  obtain ⟨C, hCd⟩ : ∃ C : World → Prop, ∀ w, C w ↔ ∃ G, Sat w0 w ([Box b103 40 [.int .i64 a0, u1]] ++ G) := ⟨_, fun _ => Iff.rfl⟩
  refine cw_regb [0, 1, 2, 3, 4, 5, 6] C (by kernel_rfl) ?_
  intro w111 hx112
  replace hS := hS.ext hx112
  replace hS : Sat w0 w111 [Box b103 40 [.int .i64 a0, u1], Box b107 40 [.int .i64 0, (.slice none 0 0)]] := hS.top 1 rfl
  have hC := (hCd _).2 ⟨_, hS⟩
  refine al_p (v := .pointer (some ⟨b103, 0 + 0, none⟩)) (by kernel_rfl) 0 rfl rfl (by decide) hC (by kernel_rfl) (by kernel_rfl) (sv_on rfl (fun w' hw' => by obtain ⟨_, hS⟩ := (hCd _).1 hw'; exact (pv_fieldAddr rfl))) ?_
  refine al_p (v := .int .i64 a0) (by kernel_rfl) 1 rfl rfl (by decide) hC (by kernel_rfl) (by kernel_rfl) (sv_on rfl (fun w' hw' => by obtain ⟨_, hS⟩ := (hCd _).1 hw'; exact (pv_loadc rfl ((hS.boxAt 0 rfl) 0 _ rfl)))) ?_
  refine al_p (v := .pointer (some ⟨b103, 0 + 1, none⟩)) (by kernel_rfl) 2 rfl rfl (by decide) hC (by kernel_rfl) (by kernel_rfl) (sv_on rfl (fun w' hw' => by obtain ⟨_, hS⟩ := (hCd _).1 hw'; exact (pv_fieldAddr rfl))) ?_
  refine al_p (v := u1) (by kernel_rfl) 3 rfl rfl (by decide) hC (by kernel_rfl) (by kernel_rfl) (sv_on rfl (fun w' hw' => by obtain ⟨_, hS⟩ := (hCd _).1 hw'; exact (pv_loadc rfl ((hS.boxAt 0 rfl) 1 _ rfl)))) ?_
  refine al_one 4 (by kernel_rfl) rfl ?_
  replace hF := ob hF
  obtain ⟨r113, hr113, hF⟩ := hF
  refine el_call goes83 (impl_copyRows_ok (hS.up ha1) hr113) (congrArg List.toArray (mapc rfl rfl)) (by decide) ?_
  rintro _ w116 ⟨v114, rfl, hS'⟩
  refine ⟨_, rfl, ?_⟩
  have hx117 := hS'.below
  replace hS := hS.call1 hS'
  refine el_nil ?_
  replace hS : Sat w0 w116 [Box b103 40 [.int .i64 a0, u1], Own (sliceR (sliceR intR 3) 22) [v114] r113, Box b107 40 [.int .i64 0, (.slice none 0 0)]] := hS.top 1 rfl
  have hC := (hCd _).2 ⟨_, hS⟩
  have hoc118 := oc (hS.rdAt (R := (sliceR (sliceR intR 3) 22)) 1 rfl)
  refine ⟨fun _ => hC, ?_⟩
  refine al_p (v := .agg #[.int .i64 a0, v114]) (by kernel_rfl) 5 rfl rfl (by decide) hC (by kernel_rfl) (by kernel_rfl) (sv_on rfl (fun w' hw' => by obtain ⟨_, hS⟩ := (hCd _).1 hw'; exact (pv_build [(0, [.int .i64 a0]), (1, [v114])] [.int .i64 a0, v114] (partc rfl (partc (cells_of rfl hoc118) rfl)) rfl))) ?_
  refine al_one 6 (by kernel_rfl) rfl ?_
  refine el_storev (hS.top 2 rfl) rfl [.int .i64 a0, v114] rfl rfl (of_decide_eq_true rfl) (all_cons rfl (all_cons (oc (hS.rdAt (R := (sliceR (sliceR intR 3) 22)) 1 rfl)) rfl)) ?_
  intro w119 hS
  replace hS : Sat w0 w119 [Box b107 40 [.int .i64 a0, v114], Box b103 40 [.int .i64 a0, u1], Own (sliceR (sliceR intR 3) 22) [v114] r113] := hS
  refine el_nil ?_
  replace hS : Sat w0 w119 [Box b103 40 [.int .i64 a0, u1], Box b107 40 [.int .i64 a0, v114], Own (sliceR (sliceR intR 3) 22) [v114] r113] := hS.top 1 rfl
  have hC := (hCd _).2 ⟨_, hS⟩
  refine ⟨fun _ => hC, ?_⟩
  refine al_nil (by kernel_rfl) ?_
  refine hQ110 _ _ _ ?_
  refine thn_n ?_
  refine cw_ret ?_
  refine finC (cs := [.int .i64 a0, v114]) rfl rfl rfl (boxc0 (hS.boxAt 1 rfl))  ?_
  replace hS : Sat w0 w119 [Own (sliceR (sliceR intR 3) 22) [v114] r113, Box b103 40 [.int .i64 a0, u1], Box b107 40 [.int .i64 a0, v114]] := hS.top 2 rfl
  have hr := Option.some.inj hF
  exact ⟨v114, congrArg (fun (r : Int × List (List Int)) => Ending.returned (.agg #[.int .i64 r.1, v114])) hr, Eq.mp (congrArg (fun (r : Int × List (List Int)) => Sat w0 w119 [Own (sliceR (sliceR intR 3) 22) [v114] r.2]) hr) (hS.keep 1)⟩
set_option maxHeartbeats 4000000 in
theorem impl_InvertDelta_ok {w0 : World} {a0 : ByteArray} {a1 : Int} {u2 : Value} {a2 : List (List Int)} {a3 : Int} {u4 : Value} {a4 : List (List Int)} (ha0 : a0.size ≤ 9223372036854775807) (ha2 : (sliceR (sliceR intR 3) 22).rd w0 [u2] a2) (ha4 : (sliceR (sliceR intR 3) 22).rd w0 [u4] a4) {N : Nat} {r : ByteArray × (Int × List (List Int)) × (Int × List (List Int))} (hF : impl_InvertDelta N a0 a1 a2 a3 a4 = some r) :
    Calls Try.prog 20 #[.agg #[.string a0, .int .i64 a1, u2, .int .i64 a3, u4]] w0 fun e w' => ∃ q0 q1, e = .returned (.agg #[.string r.1, .int .i64 r.2.1.1, q0, .int .i64 r.2.2.1, q1]) ∧ Sat w0 w' [Own (sliceR (sliceR intR 3) 22) [q0] r.2.1.2, Own (sliceR (sliceR intR 3) 22) [q1] r.2.2.2] ∧ r.1.size ≤ 9223372036854775807 := by
  unfold impl_InvertDelta at hF
  refine calls_E Try.func20 rfl rfl (of_decide_eq_true rfl) ?_
  have hS := Sat.start w0
  refine cw_seq ?_
  refine cw_gen ?_
  intro Q101 hQ101
  refine cw_reg ?_
  refine el_box [.string a0, .int .i64 a1, u2, .int .i64 a3, u4] rfl hS (by decide) ?_
  intro w102 b103 hS hx104
  refine el_alloc hS (by decide) ?_
  intro w106 b107 hS hx108
  refine el_nil ?_
  refine hQ101 _ _ _ ?_
  refine thn_n ?_
  refine cw_seq ?_
  refine cw_gen ?_
  intro Q110 hQ110
  obtain ⟨C, hCd⟩ : ∃ C : World → Prop, ∀ w, C w ↔ ∃ G, Sat w0 w ([Box b103 42 [.string a0, .int .i64 a1, u2, .int .i64 a3, u4]] ++ G) := ⟨_, fun _ => Iff.rfl⟩
  refine cw_regb [0, 1, 2, 3, 4, 5, 6, 7, 8, 9] C (by kernel_rfl) ?_
  intro w111 hx112
  replace hS := hS.ext hx112
  replace hS : Sat w0 w111 [Box b103 42 [.string a0, .int .i64 a1, u2, .int .i64 a3, u4], Box b107 42 [.string ByteArray.empty, .int .i64 0, (.slice none 0 0), .int .i64 0, (.slice none 0 0)]] := hS.top 1 rfl
  have hC := (hCd _).2 ⟨_, hS⟩
  refine al_p (v := .pointer (some ⟨b103, 0 + 0, none⟩)) (by kernel_rfl) 0 rfl rfl (by decide) hC (by kernel_rfl) (by kernel_rfl) (sv_on rfl (fun w' hw' => by obtain ⟨_, hS⟩ := (hCd _).1 hw'; exact (pv_fieldAddr rfl))) ?_
  refine al_p (v := .string a0) (by kernel_rfl) 1 rfl rfl (by decide) hC (by kernel_rfl) (by kernel_rfl) (sv_on rfl (fun w' hw' => by obtain ⟨_, hS⟩ := (hCd _).1 hw'; exact (pv_loadc rfl ((hS.boxAt 0 rfl) 0 _ rfl)))) ?_
  refine al_p (v := .pointer (some ⟨b103, 0 + 3, none⟩)) (by kernel_rfl) 2 rfl rfl (by decide) hC (by kernel_rfl) (by kernel_rfl) (sv_on rfl (fun w' hw' => by obtain ⟨_, hS⟩ := (hCd _).1 hw'; exact (pv_fieldAddr rfl))) ?_
  refine al_p (v := .agg #[.int .i64 a3, u4]) (by kernel_rfl) 3 rfl rfl (by decide) hC (by kernel_rfl) (by kernel_rfl) (sv_on rfl (fun w' hw' => by obtain ⟨_, hS⟩ := (hCd _).1 hw'; exact (pv_loada (cs := [.int .i64 a3, u4]) rfl rfl (boxc (hS.boxAt 0 rfl) 3 2)))) ?_
  refine al_p (v := .pointer (some ⟨b103, 0 + 1, none⟩)) (by kernel_rfl) 5 rfl rfl (by decide) hC (by kernel_rfl) (by kernel_rfl) (sv_on rfl (fun w' hw' => by obtain ⟨_, hS⟩ := (hCd _).1 hw'; exact (pv_fieldAddr rfl))) ?_
  refine al_p (v := .agg #[.int .i64 a1, u2]) (by kernel_rfl) 6 rfl rfl (by decide) hC (by kernel_rfl) (by kernel_rfl) (sv_on rfl (fun w' hw' => by obtain ⟨_, hS⟩ := (hCd _).1 hw'; exact (pv_loada (cs := [.int .i64 a1, u2]) rfl rfl (boxc (hS.boxAt 0 rfl) 1 2)))) ?_
  refine al_one 4 (by kernel_rfl) rfl ?_
  replace hF := ob hF
  obtain ⟨r113, hr113, hF⟩ := hF
  refine el_call goes56 (impl_copyRelation_ok (hS.up ha4) hr113) (congrArg List.toArray (mapc rfl rfl)) (by decide) ?_
  rintro _ w116 ⟨v114, rfl, hS'⟩
  refine ⟨_, rfl, ?_⟩
  have hx117 := hS'.below
  replace hS := hS.call1 hS'
  refine el_nil ?_
  replace hS : Sat w0 w116 [Box b103 42 [.string a0, .int .i64 a1, u2, .int .i64 a3, u4], Own (sliceR (sliceR intR 3) 22) [v114] r113.2, Box b107 42 [.string ByteArray.empty, .int .i64 0, (.slice none 0 0), .int .i64 0, (.slice none 0 0)]] := hS.top 1 rfl
  have hC := (hCd _).2 ⟨_, hS⟩
  have hoc118 := oc (hS.rdAt (R := (sliceR (sliceR intR 3) 22)) 1 rfl)
  refine ⟨fun _ => hC, ?_⟩
  refine al_one 7 (by kernel_rfl) rfl ?_
  replace hF := ob hF
  obtain ⟨r119, hr119, hF⟩ := hF
  refine el_call goes56 (impl_copyRelation_ok (hS.up ha2) hr119) (congrArg List.toArray (mapc rfl rfl)) (by decide) ?_
  rintro _ w122 ⟨v120, rfl, hS'⟩
  refine ⟨_, rfl, ?_⟩
  have hx123 := hS'.below
  replace hS := hS.call1 hS'
  refine el_nil ?_
  replace hS : Sat w0 w122 [Box b103 42 [.string a0, .int .i64 a1, u2, .int .i64 a3, u4], Own (sliceR (sliceR intR 3) 22) [v120] r119.2, Own (sliceR (sliceR intR 3) 22) [v114] r113.2, Box b107 42 [.string ByteArray.empty, .int .i64 0, (.slice none 0 0), .int .i64 0, (.slice none 0 0)]] := hS.top 1 rfl
  have hC := (hCd _).2 ⟨_, hS⟩
  have hoc124 := oc (hS.rdAt (R := (sliceR (sliceR intR 3) 22)) 1 rfl)
  refine ⟨fun _ => hC, ?_⟩
  refine al_p (v := .agg #[.string a0, .int .i64 r113.1, v114, .int .i64 r119.1, v120]) (by kernel_rfl) 8 rfl rfl (by decide) hC (by kernel_rfl) (by kernel_rfl) (sv_on rfl (fun w' hw' => by obtain ⟨_, hS⟩ := (hCd _).1 hw'; exact (pv_build [(0, [.string a0]), (1, [.int .i64 r113.1, v114]), (2, [.int .i64 r119.1, v120])] [.string a0, .int .i64 r113.1, v114, .int .i64 r119.1, v120] (partc rfl (partc rfl (partc rfl rfl))) rfl))) ?_
  refine al_one 9 (by kernel_rfl) rfl ?_
  refine el_storev (hS.top 3 rfl) rfl [.string a0, .int .i64 r113.1, v114, .int .i64 r119.1, v120] rfl rfl (of_decide_eq_true rfl) (all_cons rfl (all_cons rfl (all_cons (oc (hS.rdAt (R := (sliceR (sliceR intR 3) 22)) 2 rfl)) (all_cons rfl (all_cons (oc (hS.rdAt (R := (sliceR (sliceR intR 3) 22)) 1 rfl)) rfl))))) ?_
  intro w125 hS
  replace hS : Sat w0 w125 [Box b107 42 [.string a0, .int .i64 r113.1, v114, .int .i64 r119.1, v120], Box b103 42 [.string a0, .int .i64 a1, u2, .int .i64 a3, u4], Own (sliceR (sliceR intR 3) 22) [v120] r119.2, Own (sliceR (sliceR intR 3) 22) [v114] r113.2] := hS
  refine el_nil ?_
  replace hS : Sat w0 w125 [Box b103 42 [.string a0, .int .i64 a1, u2, .int .i64 a3, u4], Box b107 42 [.string a0, .int .i64 r113.1, v114, .int .i64 r119.1, v120], Own (sliceR (sliceR intR 3) 22) [v120] r119.2, Own (sliceR (sliceR intR 3) 22) [v114] r113.2] := hS.top 1 rfl
  have hC := (hCd _).2 ⟨_, hS⟩
  refine ⟨fun _ => hC, ?_⟩
  refine al_nil (by kernel_rfl) ?_
  refine hQ110 _ _ _ ?_
  refine thn_n ?_
  refine cw_ret ?_
  refine finC (cs := [.string a0, .int .i64 r113.1, v114, .int .i64 r119.1, v120]) rfl rfl rfl (boxc0 (hS.boxAt 1 rfl))  ?_
  replace hS : Sat w0 w125 [Own (sliceR (sliceR intR 3) 22) [v120] r119.2, Box b103 42 [.string a0, .int .i64 a1, u2, .int .i64 a3, u4], Box b107 42 [.string a0, .int .i64 r113.1, v114, .int .i64 r119.1, v120], Own (sliceR (sliceR intR 3) 22) [v114] r113.2] := hS.top 2 rfl
  replace hS : Sat w0 w125 [Own (sliceR (sliceR intR 3) 22) [v114] r113.2, Own (sliceR (sliceR intR 3) 22) [v120] r119.2, Box b103 42 [.string a0, .int .i64 a1, u2, .int .i64 a3, u4], Box b107 42 [.string a0, .int .i64 r113.1, v114, .int .i64 r119.1, v120]] := hS.top 3 rfl
  have hr := Option.some.inj hF
  exact ⟨v114, v120, congrArg (fun (r : ByteArray × (Int × List (List Int)) × (Int × List (List Int))) => Ending.returned (.agg #[.string r.1, .int .i64 r.2.1.1, v114, .int .i64 r.2.2.1, v120])) hr, Eq.mp (congrArg (fun (r : ByteArray × (Int × List (List Int)) × (Int × List (List Int))) => Sat w0 w125 [Own (sliceR (sliceR intR 3) 22) [v114] r.2.1.2, Own (sliceR (sliceR intR 3) 22) [v120] r.2.2.2]) hr) (hS.keep 2), Eq.mp (congrArg (fun (r : ByteArray × (Int × List (List Int)) × (Int × List (List Int))) => r.1.size ≤ 9223372036854775807) hr) ha0⟩
set_option maxHeartbeats 4000000 in
theorem laws_markIntS_ok {w0 : World} {w00 : World} {G0 : List Asn} {u0 : Value} {a0 : List Int} {a1 : Int} (hS : Sat w00 w0 (Own (sliceR intR 3) [u0] a0 :: G0)) {N : Nat} {r : Int × (List Int)} (hF : laws_markIntS N a0 a1 = some r) :
    Calls Try.prog 94 #[u0, .int .i64 a1] w0 fun e w' => e = .returned (.int .i64 r.1) ∧ Sat w00 w' (Own (sliceR intR 3) [u0] r.2 :: G0) := by
  unfold laws_markIntS at hF
  refine calls_E Try.func94 rfl rfl (of_decide_eq_true rfl) ?_
  refine cw_seq ?_
  refine cw_gen ?_
  intro Q101 hQ101
  refine cw_reg ?_
  refine el_pv (v := .int .i64 0) (pv_assign rfl) (by decide) ?_
  refine el_nil ?_
  refine hQ101 _ _ _ ?_
  refine thn_n ?_
  refine cw_seq ?_
  refine cw_gen ?_
  intro Q102 hQ102
  refine cw_seq ?_
  refine cw_gen ?_
  intro Q103 hQ103
  refine cw_reg ?_
  refine el_pv (v := .int .i64 0) (pv_assign rfl) (by decide) ?_
  refine el_nil ?_
  refine hQ103 _ _ _ ?_
  refine thn_n ?_
  refine cw_block ?_
  refine cw_gen ?_
  intro Q104 hQ104
  obtain ⟨s105, hL, hK106⟩ := ob hF
  refine cw_loopS (fun k e w => ∃ (x107 : List Int), ∃ (x108 : Int), ∃ (x109 : Int), e 0 = u0 ∧ e 1 = .int .i64 x108 ∧ e 5 = .int .i64 x109 ∧ Sat w00 w (Own (sliceR intR 3) [u0] x107 :: G0) ∧ laws_markIntS_L1 N k x107 x108 x109 = some s105) N ?_ ?_ ?_
  · exact ⟨a0, a1, 0, rfl, rfl, rfl, hS, hL⟩
  · rintro e w ⟨_, _, _, _, _, _, _, hz⟩; exact nomatch (show none = some _ from hz)
  · rintro k e114 w113 ⟨x107, x108, x109, he110, he111, he112, hS, hF⟩
    refine cw_gen ?_
    intro Q115 hQ115
    refine cw_seq ?_
    refine cw_gen ?_
    intro Q116 hQ116
    refine cw_seq ?_
    refine cw_gen ?_
    intro Q117 hQ117
    refine cw_reg ?_
    refine el_pv (v := .int .i64 x109) (pv_move he112) (by decide) ?_
    refine el_pv (v := u0) (pv_move he110) (by decide) ?_
    refine el_pv (v := .int .i64 (x107.length : Int)) (pv_len rfl (hS.rdAt (R := (sliceR intR 3)) 0 rfl)) (by decide) ?_
    refine el_pv (v := .bool (decide (x109 < (x107.length : Int)))) (pv_lss rfl rfl) (by decide) ?_
    refine el_nil ?_
    refine hQ117 _ _ _ ?_
    refine thn_n ?_
    replace hF := oif hF
    rcases hF with ⟨hb118, hF⟩ | ⟨hb118, hF⟩
    · refine cw_cond_t rfl hb118 ?_
      refine cw_skip ?_
      refine hQ116 _ _ _ ?_
      refine thn_n ?_
      refine cw_seq ?_
      refine cw_gen ?_
      intro Q119 hQ119
      refine cw_block ?_
      refine cw_gen ?_
      intro Q120 hQ120
      refine cw_seq ?_
      refine cw_gen ?_
      intro Q121 hQ121
      refine cw_reg ?_
      refine el_pv (v := u0) (pv_move he110) (by decide) ?_
      refine el_pv (v := .int .i64 x109) (pv_move he112) (by decide) ?_
      refine el_pv (v := .int .i64 x108) (pv_move he111) (by decide) ?_
      replace hF := ob hF
      obtain ⟨x122, hx122, hF⟩ := hF
      obtain ⟨g123, cap124, hv125⟩ := ownShape 0 hS rfl hx122
      refine el_pv (v := .pointer (some ⟨g123, x109.toNat * 1, none⟩)) (pv_indexF (v := u0) rfl hv125 rfl hx122) (by decide) ?_
      replace hF := ob hF
      obtain ⟨x127, hx127, hF⟩ := hF
      replace hS := hS.int x108
      refine el_storeO rfl hv125 hS hx127 rfl rfl ?_
      intro w126 hS
      refine el_nil ?_
      refine hQ121 _ _ _ ?_
      refine thn_n ?_
      refine cw_reg ?_
      refine el_pv (v := .int .i64 x108) (pv_move he111) (by decide) ?_
      replace hF := ob hF
      obtain ⟨x128, hx128, hF⟩ := hF
      refine el_pv (v := .int .i64 x128) (pv_add rfl rfl hx128) (by decide) ?_
      refine el_pv (v := .int .i64 x128) (pv_assign rfl) (by decide) ?_
      refine el_nil ?_
      refine hQ120 _ _ _ ?_
      refine inb_n ?_
      refine hQ119 _ _ _ ?_
      refine thn_n ?_
      refine cw_reg ?_
      refine el_pv (v := .int .i64 x109) (pv_move he112) (by decide) ?_
      replace hF := ob hF
      obtain ⟨x129, hx129, hF⟩ := hF
      refine el_pv (v := .int .i64 x129) (pv_add rfl rfl hx129) (by decide) ?_
      refine el_pv (v := .int .i64 x129) (pv_assign rfl) (by decide) ?_
      refine el_nil ?_
      refine hQ115 _ _ _ ?_
      refine thn_n ?_
      exact ⟨x127, x128, x129, he110, rfl, rfl, hS, hF⟩
    · refine cw_cond_f rfl hb118 ?_
      refine cw_exit ?_
      refine hQ116 _ _ _ ?_
      refine thn_x ?_
      refine hQ115 _ _ _ ?_
      refine thn_x ?_
      replace hF := exB hF hK106
      refine hQ104 _ _ _ ?_
      refine inb_s ?_
      refine hQ102 _ _ _ ?_
      refine thn_n ?_
      refine cw_seq ?_
      refine cw_gen ?_
      intro Q130 hQ130
      refine cw_reg ?_
      refine el_pv (v := .int .i64 x108) (pv_move he111) (by decide) ?_
      refine el_pv (v := .int .i64 x108) (pv_assign rfl) (by decide) ?_
      refine el_nil ?_
      refine hQ130 _ _ _ ?_
      refine thn_n ?_
      refine cw_ret ?_
      refine fin1 rfl rfl ?_
      have hr := Option.some.inj hF
      exact ⟨congrArg (fun (r : Int × (List Int)) => Ending.returned (.int .i64 r.1)) hr, Eq.mp (congrArg (fun (r : Int × (List Int)) => Sat w00 w113 (Own (sliceR intR 3) [u0] r.2 :: G0)) hr) hS⟩
set_option maxHeartbeats 4000000 in
theorem laws_markIntSS_ok {w0 : World} {w00 : World} {G0 : List Asn} {u0 : Value} {a0 : List (List Int)} {a1 : Int} (hS : Sat w00 w0 (Own (sliceR (sliceR intR 3) 22) [u0] a0 :: G0)) {N : Nat} {r : Int × (List (List Int))} (hF : laws_markIntSS N a0 a1 = some r) :
    Calls Try.prog 84 #[u0, .int .i64 a1] w0 fun e w' => e = .returned (.int .i64 r.1) ∧ Sat w00 w' (Own (sliceR (sliceR intR 3) 22) [u0] r.2 :: G0) := by
  unfold laws_markIntSS at hF
  refine calls_E Try.func84 rfl rfl (of_decide_eq_true rfl) ?_
  refine cw_seq ?_
  refine cw_gen ?_
  intro Q101 hQ101
  refine cw_reg ?_
  refine el_pv (v := .int .i64 0) (pv_assign rfl) (by decide) ?_
  refine el_nil ?_
  refine hQ101 _ _ _ ?_
  refine thn_n ?_
  refine cw_seq ?_
  refine cw_gen ?_
  intro Q102 hQ102
  refine cw_seq ?_
  refine cw_gen ?_
  intro Q103 hQ103
  refine cw_reg ?_
  refine el_pv (v := .int .i64 0) (pv_assign rfl) (by decide) ?_
  refine el_nil ?_
  refine hQ103 _ _ _ ?_
  refine thn_n ?_
  refine cw_block ?_
  refine cw_gen ?_
  intro Q104 hQ104
  obtain ⟨s105, hL, hK106⟩ := ob hF
  refine cw_loopS (fun k e w => ∃ (x107 : List (List Int)), ∃ (x108 : Int), ∃ (x109 : Int), e 0 = u0 ∧ e 1 = .int .i64 x108 ∧ e 5 = .int .i64 x109 ∧ Sat w00 w (Own (sliceR (sliceR intR 3) 22) [u0] x107 :: G0) ∧ laws_markIntSS_L1 N k x107 x108 x109 = some s105) N ?_ ?_ ?_
  · exact ⟨a0, a1, 0, rfl, rfl, rfl, hS, hL⟩
  · rintro e w ⟨_, _, _, _, _, _, _, hz⟩; exact nomatch (show none = some _ from hz)
  · rintro k e114 w113 ⟨x107, x108, x109, he110, he111, he112, hS, hF⟩
    refine cw_gen ?_
    intro Q115 hQ115
    refine cw_seq ?_
    refine cw_gen ?_
    intro Q116 hQ116
    refine cw_seq ?_
    refine cw_gen ?_
    intro Q117 hQ117
    refine cw_reg ?_
    refine el_pv (v := .int .i64 x109) (pv_move he112) (by decide) ?_
    refine el_pv (v := u0) (pv_move he110) (by decide) ?_
    refine el_pv (v := .int .i64 (x107.length : Int)) (pv_len rfl (hS.rdAt (R := (sliceR (sliceR intR 3) 22)) 0 rfl)) (by decide) ?_
    refine el_pv (v := .bool (decide (x109 < (x107.length : Int)))) (pv_lss rfl rfl) (by decide) ?_
    refine el_nil ?_
    refine hQ117 _ _ _ ?_
    refine thn_n ?_
    replace hF := oif hF
    rcases hF with ⟨hb118, hF⟩ | ⟨hb118, hF⟩
    · refine cw_cond_t rfl hb118 ?_
      refine cw_skip ?_
      refine hQ116 _ _ _ ?_
      refine thn_n ?_
      refine cw_seq ?_
      refine cw_gen ?_
      intro Q119 hQ119
      refine cw_block ?_
      refine cw_gen ?_
      intro Q120 hQ120
      refine cw_reg ?_
      refine el_pv (v := u0) (pv_move he110) (by decide) ?_
      refine el_pv (v := .int .i64 x109) (pv_move he112) (by decide) ?_
      replace hF := ob hF
      obtain ⟨x121, hx121, hF⟩ := hF
      refine el_indexO hS rfl rfl (by decide) rfl hx121 (by decide) ?_
      intro b122 of123 c124 hv127 hr125 hm126
      obtain ⟨v128, rfl⟩ := slice_one hr125
      refine el_pv (v := v128) (pv_loadc rfl (hm126 0 _ rfl)) (by decide) ?_
      refine el_pv (v := .int .i64 x108) (pv_move he111) (by decide) ?_
      replace hS := hS.takeOut hv127 hx121 (m := 1) rfl rfl hm126
      replace hS : Sat w00 w113 (Own (sliceR intR 3) [v128] x121 :: _ :: G0) := hS
      replace hF := ob hF
      obtain ⟨r130, hr130, hF⟩ := hF
      refine el_call goes94 (laws_markIntS_ok hS hr130) (congrArg List.toArray (mapc rfl (mapc rfl rfl))) (by decide) ?_
      rintro _ w131 ⟨rfl, hS⟩
      refine ⟨_, rfl, ?_⟩
      replace hS : Sat w00 w131 (Own (sliceR intR 3) [v128] r130.2 :: _ :: G0) := hS
      replace hF := ob hF
      obtain ⟨x132, hx132, hF⟩ := hF
      replace hS := hS.putBack hx132
      replace hS : Sat w00 w131 (Own (sliceR (sliceR intR 3) 22) [u0] x132 :: G0) := hS
      refine el_pv (v := .int .i64 r130.1) (pv_assign rfl) (by decide) ?_
      refine el_nil ?_
      refine hQ120 _ _ _ ?_
      refine inb_n ?_
      refine hQ119 _ _ _ ?_
      refine thn_n ?_
      refine cw_reg ?_
      refine el_pv (v := .int .i64 x109) (pv_move he112) (by decide) ?_
      replace hF := ob hF
      obtain ⟨x133, hx133, hF⟩ := hF
      refine el_pv (v := .int .i64 x133) (pv_add rfl rfl hx133) (by decide) ?_
      refine el_pv (v := .int .i64 x133) (pv_assign rfl) (by decide) ?_
      refine el_nil ?_
      refine hQ115 _ _ _ ?_
      refine thn_n ?_
      exact ⟨x132, r130.1, x133, he110, rfl, rfl, hS, hF⟩
    · refine cw_cond_f rfl hb118 ?_
      refine cw_exit ?_
      refine hQ116 _ _ _ ?_
      refine thn_x ?_
      refine hQ115 _ _ _ ?_
      refine thn_x ?_
      replace hF := exB hF hK106
      refine hQ104 _ _ _ ?_
      refine inb_s ?_
      refine hQ102 _ _ _ ?_
      refine thn_n ?_
      refine cw_seq ?_
      refine cw_gen ?_
      intro Q134 hQ134
      refine cw_reg ?_
      refine el_pv (v := .int .i64 x108) (pv_move he111) (by decide) ?_
      refine el_pv (v := .int .i64 x108) (pv_assign rfl) (by decide) ?_
      refine el_nil ?_
      refine hQ134 _ _ _ ?_
      refine thn_n ?_
      refine cw_ret ?_
      refine fin1 rfl rfl ?_
      have hr := Option.some.inj hF
      exact ⟨congrArg (fun (r : Int × (List (List Int))) => Ending.returned (.int .i64 r.1)) hr, Eq.mp (congrArg (fun (r : Int × (List (List Int))) => Sat w00 w113 (Own (sliceR (sliceR intR 3) 22) [u0] r.2 :: G0)) hr) hS⟩
set_option maxHeartbeats 4000000 in
theorem laws_markRelation_ok {w0 : World} {w00 : World} {G0 : List Asn} {a0 : Int} {u1 : Value} {a1 : List (List Int)} {a2 : Int} (hS : Sat w00 w0 (Own (sliceR (sliceR intR 3) 22) [u1] a1 :: G0)) {N : Nat} {r : Int × (List (List Int))} (hF : laws_markRelation N a0 a1 a2 = some r) :
    Calls Try.prog 57 #[.agg #[.int .i64 a0, u1], .int .i64 a2] w0 fun e w' => e = .returned (.int .i64 r.1) ∧ Sat w00 w' (Own (sliceR (sliceR intR 3) 22) [u1] r.2 :: G0) := by
  unfold laws_markRelation at hF
  refine calls_E Try.func57 rfl rfl (of_decide_eq_true rfl) ?_
  refine cw_seq ?_
  refine cw_gen ?_
  intro Q101 hQ101
  refine cw_reg ?_
  refine el_box [.int .i64 a0, u1] rfl hS (by decide) ?_
  intro w102 b103 hS hx104
  refine el_pv (v := .int .i64 0) (pv_assign rfl) (by decide) ?_
  refine el_nil ?_
  refine hQ101 _ _ _ ?_
  refine thn_n ?_
  refine cw_seq ?_
  refine cw_gen ?_
  intro Q106 hQ106
  refine cw_reg ?_
  refine el_pv (v := .pointer (some ⟨b103, 0 + 1, none⟩)) (pv_fieldAddr rfl) (by decide) ?_
  refine el_pv (v := u1) (pv_loadc rfl ((hS.boxAt 0 rfl) 1 _ rfl)) (by decide) ?_
  refine el_pv (v := .int .i64 a2) (pv_move rfl) (by decide) ?_
  replace hS : Sat w00 w102 (Own (sliceR (sliceR intR 3) 22) [u1] a1 :: Box b103 40 [.int .i64 a0, u1] :: G0) := hS.top 1 rfl
  replace hF := ob hF
  obtain ⟨r107, hr107, hF⟩ := hF
  refine el_call goes84 (laws_markIntSS_ok hS hr107) (congrArg List.toArray (mapc rfl (mapc rfl rfl))) (by decide) ?_
  rintro _ w108 ⟨rfl, hS⟩
  refine ⟨_, rfl, ?_⟩
  replace hS : Sat w00 w108 (Own (sliceR (sliceR intR 3) 22) [u1] r107.2 :: Box b103 40 [.int .i64 a0, u1] :: G0) := hS
  refine el_pv (v := .int .i64 r107.1) (pv_assign rfl) (by decide) ?_
  refine el_nil ?_
  refine hQ106 _ _ _ ?_
  refine thn_n ?_
  refine cw_seq ?_
  refine cw_gen ?_
  intro Q109 hQ109
  refine cw_reg ?_
  refine el_pv (v := .int .i64 r107.1) (pv_move rfl) (by decide) ?_
  refine el_pv (v := .int .i64 r107.1) (pv_assign rfl) (by decide) ?_
  refine el_nil ?_
  refine hQ109 _ _ _ ?_
  refine thn_n ?_
  refine cw_ret ?_
  refine fin1 rfl rfl ?_
  replace hS : Sat w00 w108 (Own (sliceR (sliceR intR 3) 22) [u1] r107.2 :: G0) := hS.rem 1 rfl
  have hr := Option.some.inj hF
  exact ⟨congrArg (fun (r : Int × (List (List Int))) => Ending.returned (.int .i64 r.1)) hr, Eq.mp (congrArg (fun (r : Int × (List (List Int))) => Sat w00 w108 (Own (sliceR (sliceR intR 3) 22) [u1] r.2 :: G0)) hr) hS⟩
set_option maxHeartbeats 4000000 in
theorem laws_markDelta_ok {w0 : World} {w00 : World} {G0 : List Asn} {a0 : ByteArray} {a1 : Int} {u2 : Value} {a2 : List (List Int)} {a3 : Int} {u4 : Value} {a4 : List (List Int)} {a5 : Int} (hS : Sat w00 w0 (Own (sliceR (sliceR intR 3) 22) [u2] a2 :: Own (sliceR (sliceR intR 3) 22) [u4] a4 :: G0)) {N : Nat} {r : Int × (List (List Int)) × (List (List Int))} (hF : laws_markDelta N a0 a1 a2 a3 a4 a5 = some r) :
    Calls Try.prog 21 #[.agg #[.string a0, .int .i64 a1, u2, .int .i64 a3, u4], .int .i64 a5] w0 fun e w' => e = .returned (.int .i64 r.1) ∧ Sat w00 w' (Own (sliceR (sliceR intR 3) 22) [u2] r.2.1 :: Own (sliceR (sliceR intR 3) 22) [u4] r.2.2 :: G0) := by
  unfold laws_markDelta at hF
  refine calls_E Try.func21 rfl rfl (of_decide_eq_true rfl) ?_
  refine cw_seq ?_
  refine cw_gen ?_
  intro Q101 hQ101
  refine cw_reg ?_
  refine el_box [.string a0, .int .i64 a1, u2, .int .i64 a3, u4] rfl hS (by decide) ?_
  intro w102 b103 hS hx104
  refine el_pv (v := .int .i64 0) (pv_assign rfl) (by decide) ?_
  refine el_nil ?_
  refine hQ101 _ _ _ ?_
  refine thn_n ?_
  refine cw_seq ?_
  refine cw_gen ?_
  intro Q106 hQ106
  refine cw_reg ?_
  refine el_pv (v := .pointer (some ⟨b103, 0 + 1, none⟩)) (pv_fieldAddr rfl) (by decide) ?_
  refine el_pv (v := .agg #[.int .i64 a1, u2]) (pv_loada (cs := [.int .i64 a1, u2]) rfl rfl (boxc (hS.boxAt 0 rfl) 1 2)) (by decide) ?_
  refine el_pv (v := .int .i64 a5) (pv_move rfl) (by decide) ?_
  replace hS : Sat w00 w102 (Own (sliceR (sliceR intR 3) 22) [u2] a2 :: Box b103 42 [.string a0, .int .i64 a1, u2, .int .i64 a3, u4] :: Own (sliceR (sliceR intR 3) 22) [u4] a4 :: G0) := hS.top 1 rfl
  replace hF := ob hF
  obtain ⟨r107, hr107, hF⟩ := hF
  refine el_call goes57 (laws_markRelation_ok hS hr107) (congrArg List.toArray (mapc rfl (mapc rfl rfl))) (by decide) ?_
  rintro _ w108 ⟨rfl, hS⟩
  refine ⟨_, rfl, ?_⟩
  replace hS : Sat w00 w108 (Own (sliceR (sliceR intR 3) 22) [u2] r107.2 :: Box b103 42 [.string a0, .int .i64 a1, u2, .int .i64 a3, u4] :: Own (sliceR (sliceR intR 3) 22) [u4] a4 :: G0) := hS
  refine el_pv (v := .int .i64 r107.1) (pv_assign rfl) (by decide) ?_
  refine el_nil ?_
  refine hQ106 _ _ _ ?_
  refine thn_n ?_
  refine cw_seq ?_
  refine cw_gen ?_
  intro Q109 hQ109
  refine cw_reg ?_
  refine el_pv (v := .pointer (some ⟨b103, 0 + 3, none⟩)) (pv_fieldAddr rfl) (by decide) ?_
  refine el_pv (v := .agg #[.int .i64 a3, u4]) (pv_loada (cs := [.int .i64 a3, u4]) rfl rfl (boxc (hS.boxAt 1 rfl) 3 2)) (by decide) ?_
  refine el_pv (v := .int .i64 r107.1) (pv_move rfl) (by decide) ?_
  replace hS : Sat w00 w108 (Own (sliceR (sliceR intR 3) 22) [u4] a4 :: Own (sliceR (sliceR intR 3) 22) [u2] r107.2 :: Box b103 42 [.string a0, .int .i64 a1, u2, .int .i64 a3, u4] :: G0) := hS.top 2 rfl
  replace hF := ob hF
  obtain ⟨r110, hr110, hF⟩ := hF
  refine el_call goes57 (laws_markRelation_ok hS hr110) (congrArg List.toArray (mapc rfl (mapc rfl rfl))) (by decide) ?_
  rintro _ w111 ⟨rfl, hS⟩
  refine ⟨_, rfl, ?_⟩
  replace hS : Sat w00 w111 (Own (sliceR (sliceR intR 3) 22) [u4] r110.2 :: Own (sliceR (sliceR intR 3) 22) [u2] r107.2 :: Box b103 42 [.string a0, .int .i64 a1, u2, .int .i64 a3, u4] :: G0) := hS
  refine el_pv (v := .int .i64 r110.1) (pv_assign rfl) (by decide) ?_
  refine el_nil ?_
  refine hQ109 _ _ _ ?_
  refine thn_n ?_
  refine cw_seq ?_
  refine cw_gen ?_
  intro Q112 hQ112
  refine cw_reg ?_
  refine el_pv (v := .int .i64 r110.1) (pv_move rfl) (by decide) ?_
  refine el_pv (v := .int .i64 r110.1) (pv_assign rfl) (by decide) ?_
  refine el_nil ?_
  refine hQ112 _ _ _ ?_
  refine thn_n ?_
  refine cw_ret ?_
  refine fin1 rfl rfl ?_
  replace hS : Sat w00 w111 (Own (sliceR (sliceR intR 3) 22) [u2] r107.2 :: Own (sliceR (sliceR intR 3) 22) [u4] r110.2 :: Box b103 42 [.string a0, .int .i64 a1, u2, .int .i64 a3, u4] :: G0) := hS.top 1 rfl
  replace hS : Sat w00 w111 (Own (sliceR (sliceR intR 3) 22) [u2] r107.2 :: Own (sliceR (sliceR intR 3) 22) [u4] r110.2 :: G0) := hS.rem 2 rfl
  have hr := Option.some.inj hF
  exact ⟨congrArg (fun (r : Int × (List (List Int)) × (List (List Int))) => Ending.returned (.int .i64 r.1)) hr, Eq.mp (congrArg (fun (r : Int × (List (List Int)) × (List (List Int))) => Sat w00 w111 (Own (sliceR (sliceR intR 3) 22) [u2] r.2.1 :: Own (sliceR (sliceR intR 3) 22) [u4] r.2.2 :: G0)) hr) hS⟩
set_option maxHeartbeats 4000000 in
theorem laws_heldIntS_ok {w0 : World} {u0 : Value} {a0 : List Int} {a1 : Int} (ha0 : (sliceR intR 3).rd w0 [u0] a0) {N : Nat} {r : Int} (hF : laws_heldIntS N a0 a1 = some r) :
    Calls Try.prog 95 #[u0, .int .i64 a1] w0 fun e w' => e = .returned (.int .i64 r) ∧ Ext w0 w' := by
  unfold laws_heldIntS at hF
  refine calls_E Try.func95 rfl rfl (of_decide_eq_true rfl) ?_
  have hS := Sat.start w0
  refine cw_seq ?_
  refine cw_gen ?_
  intro Q101 hQ101
  refine cw_reg ?_
  refine el_pv (v := .int .i64 0) (pv_assign rfl) (by decide) ?_
  refine el_nil ?_
  refine hQ101 _ _ _ ?_
  refine thn_n ?_
  refine cw_seq ?_
  refine cw_gen ?_
  intro Q102 hQ102
  refine cw_seq ?_
  refine cw_gen ?_
  intro Q103 hQ103
  refine cw_reg ?_
  refine el_pv (v := .int .i64 0) (pv_assign rfl) (by decide) ?_
  refine el_nil ?_
  refine hQ103 _ _ _ ?_
  refine thn_n ?_
  refine cw_block ?_
  refine cw_gen ?_
  intro Q104 hQ104
  obtain ⟨s105, hL, hK106⟩ := ob hF
  refine cw_loopS (fun k e w => ∃ (x107 : Int), ∃ (x108 : Int), e 0 = u0 ∧ e 1 = .int .i64 x107 ∧ e 5 = .int .i64 x108 ∧ Sat w0 w [] ∧ laws_heldIntS_L1 N k a0 x107 x108 = some s105) N ?_ ?_ ?_
  · exact ⟨a1, 0, rfl, rfl, rfl, hS, hL⟩
  · rintro e w ⟨_, _, _, _, _, _, hz⟩; exact nomatch (show none = some _ from hz)
  · rintro k e113 w112 ⟨x107, x108, he109, he110, he111, hS, hF⟩
    refine cw_gen ?_
    intro Q114 hQ114
    refine cw_seq ?_
    refine cw_gen ?_
    intro Q115 hQ115
    refine cw_seq ?_
    refine cw_gen ?_
    intro Q116 hQ116
    refine cw_reg ?_
    refine el_pv (v := .int .i64 x108) (pv_move he111) (by decide) ?_
    refine el_pv (v := u0) (pv_move he109) (by decide) ?_
    refine el_pv (v := .int .i64 (a0.length : Int)) (pv_len rfl ha0) (by decide) ?_
    refine el_pv (v := .bool (decide (x108 < (a0.length : Int)))) (pv_lss rfl rfl) (by decide) ?_
    refine el_nil ?_
    refine hQ116 _ _ _ ?_
    refine thn_n ?_
    replace hF := oif hF
    rcases hF with ⟨hb117, hF⟩ | ⟨hb117, hF⟩
    · refine cw_cond_t rfl hb117 ?_
      refine cw_skip ?_
      refine hQ115 _ _ _ ?_
      refine thn_n ?_
      refine cw_seq ?_
      refine cw_gen ?_
      intro Q118 hQ118
      refine cw_block ?_
      refine cw_gen ?_
      intro Q119 hQ119
      refine cw_seq ?_
      refine cw_gen ?_
      intro Q120 hQ120
      refine cw_seq ?_
      refine cw_gen ?_
      intro Q121 hQ121
      refine cw_reg ?_
      refine el_pv (v := u0) (pv_move he109) (by decide) ?_
      refine el_pv (v := .int .i64 x108) (pv_move he111) (by decide) ?_
      replace hF := ob hF
      obtain ⟨x122, hx122, hF⟩ := hF
      refine el_index (wA := w0) rfl ha0 rfl (by decide) rfl hx122 (by decide) ?_
      intro b123 of124 c125 hr126 hm127
      obtain rfl := hr126
      refine el_pv (v := .int .i64 x122) (pv_loadc rfl ((cells_up hS.below hm127) 0 _ rfl)) (by decide) ?_
      refine el_pv (v := .int .i64 x107) (pv_move he110) (by decide) ?_
      refine el_pv (v := .bool (x122 != x107)) (pv_neq rfl rfl) (by decide) ?_
      refine el_nil ?_
      refine hQ121 _ _ _ ?_
      refine thn_n ?_
      replace hF := oif hF
      rcases hF with ⟨hb128, hF⟩ | ⟨hb128, hF⟩
      · refine cw_cond_t rfl hb128 ?_
        refine cw_seq ?_
        refine cw_gen ?_
        intro Q129 hQ129
        refine cw_reg ?_
        refine el_pv (v := .int .i64 (-1)) (pv_assign rfl) (by decide) ?_
        refine el_nil ?_
        refine hQ129 _ _ _ ?_
        refine thn_n ?_
        refine cw_ret ?_
        refine hQ120 _ _ _ ?_
        refine thn_r ?_
        refine hQ119 _ _ _ ?_
        refine inb_r ?_
        refine hQ118 _ _ _ ?_
        refine thn_r ?_
        refine hQ114 _ _ _ ?_
        refine thn_r ?_
        refine hQ104 _ _ _ ?_
        refine inb_r ?_
        refine hQ102 _ _ _ ?_
        refine thn_r ?_
        replace hF := exL hF hK106
        refine fin1 rfl rfl ?_
        have hr := Option.some.inj hF
        exact ⟨congrArg (fun (r : Int) => Ending.returned (.int .i64 r)) hr, hS.below⟩
      · refine cw_cond_f rfl hb128 ?_
        refine cw_skip ?_
        refine hQ120 _ _ _ ?_
        refine thn_n ?_
        refine cw_reg ?_
        refine el_pv (v := .int .i64 x107) (pv_move he110) (by decide) ?_
        replace hF := ob hF
        obtain ⟨x130, hx130, hF⟩ := hF
        refine el_pv (v := .int .i64 x130) (pv_add rfl rfl hx130) (by decide) ?_
        refine el_pv (v := .int .i64 x130) (pv_assign rfl) (by decide) ?_
        refine el_nil ?_
        refine hQ119 _ _ _ ?_
        refine inb_n ?_
        refine hQ118 _ _ _ ?_
        refine thn_n ?_
        refine cw_reg ?_
        refine el_pv (v := .int .i64 x108) (pv_move he111) (by decide) ?_
        replace hF := ob hF
        obtain ⟨x131, hx131, hF⟩ := hF
        refine el_pv (v := .int .i64 x131) (pv_add rfl rfl hx131) (by decide) ?_
        refine el_pv (v := .int .i64 x131) (pv_assign rfl) (by decide) ?_
        refine el_nil ?_
        refine hQ114 _ _ _ ?_
        refine thn_n ?_
        replace hS := hS.keep 0
        exact ⟨x130, x131, he109, rfl, rfl, hS, hF⟩
    · refine cw_cond_f rfl hb117 ?_
      refine cw_exit ?_
      refine hQ115 _ _ _ ?_
      refine thn_x ?_
      refine hQ114 _ _ _ ?_
      refine thn_x ?_
      replace hF := exA hF hK106
      refine hQ104 _ _ _ ?_
      refine inb_s ?_
      refine hQ102 _ _ _ ?_
      refine thn_n ?_
      refine cw_seq ?_
      refine cw_gen ?_
      intro Q132 hQ132
      refine cw_reg ?_
      refine el_pv (v := .int .i64 x107) (pv_move he110) (by decide) ?_
      refine el_pv (v := .int .i64 x107) (pv_assign rfl) (by decide) ?_
      refine el_nil ?_
      refine hQ132 _ _ _ ?_
      refine thn_n ?_
      refine cw_ret ?_
      refine fin1 rfl rfl ?_
      have hr := Option.some.inj hF
      exact ⟨congrArg (fun (r : Int) => Ending.returned (.int .i64 r)) hr, hS.below⟩
set_option maxHeartbeats 4000000 in
theorem laws_heldIntSS_ok {w0 : World} {u0 : Value} {a0 : List (List Int)} {a1 : Int} (ha0 : (sliceR (sliceR intR 3) 22).rd w0 [u0] a0) {N : Nat} {r : Int} (hF : laws_heldIntSS N a0 a1 = some r) :
    Calls Try.prog 85 #[u0, .int .i64 a1] w0 fun e w' => e = .returned (.int .i64 r) ∧ Ext w0 w' := by
  unfold laws_heldIntSS at hF
  refine calls_E Try.func85 rfl rfl (of_decide_eq_true rfl) ?_
  have hS := Sat.start w0
  refine cw_seq ?_
  refine cw_gen ?_
  intro Q101 hQ101
  refine cw_reg ?_
  refine el_pv (v := .int .i64 0) (pv_assign rfl) (by decide) ?_
  refine el_nil ?_
  refine hQ101 _ _ _ ?_
  refine thn_n ?_
  refine cw_seq ?_
  refine cw_gen ?_
  intro Q102 hQ102
  refine cw_seq ?_
  refine cw_gen ?_
  intro Q103 hQ103
  refine cw_reg ?_
  refine el_pv (v := .int .i64 0) (pv_assign rfl) (by decide) ?_
  refine el_nil ?_
  refine hQ103 _ _ _ ?_
  refine thn_n ?_
  refine cw_block ?_
  refine cw_gen ?_
  intro Q104 hQ104
  obtain ⟨s105, hL, hK106⟩ := ob hF
  refine cw_loopS (fun k e w => ∃ (x107 : Int), ∃ (x108 : Int), e 0 = u0 ∧ e 1 = .int .i64 x107 ∧ e 5 = .int .i64 x108 ∧ Sat w0 w [] ∧ laws_heldIntSS_L1 N k a0 x107 x108 = some s105) N ?_ ?_ ?_
  · exact ⟨a1, 0, rfl, rfl, rfl, hS, hL⟩
  · rintro e w ⟨_, _, _, _, _, _, hz⟩; exact nomatch (show none = some _ from hz)
  · rintro k e113 w112 ⟨x107, x108, he109, he110, he111, hS, hF⟩
    refine cw_gen ?_
    intro Q114 hQ114
    refine cw_seq ?_
    refine cw_gen ?_
    intro Q115 hQ115
    refine cw_seq ?_
    refine cw_gen ?_
    intro Q116 hQ116
    refine cw_reg ?_
    refine el_pv (v := .int .i64 x108) (pv_move he111) (by decide) ?_
    refine el_pv (v := u0) (pv_move he109) (by decide) ?_
    refine el_pv (v := .int .i64 (a0.length : Int)) (pv_len rfl ha0) (by decide) ?_
    refine el_pv (v := .bool (decide (x108 < (a0.length : Int)))) (pv_lss rfl rfl) (by decide) ?_
    refine el_nil ?_
    refine hQ116 _ _ _ ?_
    refine thn_n ?_
    replace hF := oif hF
    rcases hF with ⟨hb117, hF⟩ | ⟨hb117, hF⟩
    · refine cw_cond_t rfl hb117 ?_
      refine cw_skip ?_
      refine hQ115 _ _ _ ?_
      refine thn_n ?_
      refine cw_seq ?_
      refine cw_gen ?_
      intro Q118 hQ118
      refine cw_block ?_
      refine cw_gen ?_
      intro Q119 hQ119
      refine cw_seq ?_
      refine cw_gen ?_
      intro Q120 hQ120
      refine cw_reg ?_
      refine el_pv (v := u0) (pv_move he109) (by decide) ?_
      refine el_pv (v := .int .i64 x108) (pv_move he111) (by decide) ?_
      replace hF := ob hF
      obtain ⟨x121, hx121, hF⟩ := hF
      refine el_index (wA := w0) rfl ha0 rfl (by decide) rfl hx121 (by decide) ?_
      intro b122 of123 c124 hr125 hm126
      obtain ⟨v127, rfl⟩ := slice_one hr125
      refine el_pv (v := v127) (pv_loadc rfl ((cells_up hS.below hm126) 0 _ rfl)) (by decide) ?_
      refine el_pv (v := .int .i64 x107) (pv_move he110) (by decide) ?_
      replace hF := ob hF
      obtain ⟨r128, hr128, hF⟩ := hF
      refine el_call goes95 (laws_heldIntS_ok (hS.up hr125) hr128) (congrArg List.toArray (mapc rfl (mapc rfl rfl))) (by decide) ?_
      rintro _ w129 ⟨rfl, hx130⟩
      refine ⟨_, rfl, ?_⟩
      replace hS := hS.ext hx130
      refine el_pv (v := .int .i64 r128) (pv_assign rfl) (by decide) ?_
      refine el_nil ?_
      refine hQ120 _ _ _ ?_
      refine thn_n ?_
      refine cw_seq ?_
      refine cw_gen ?_
      intro Q131 hQ131
      refine cw_reg ?_
      refine el_pv (v := .int .i64 r128) (pv_move rfl) (by decide) ?_
      refine el_pv (v := .bool (decide (r128 < 0))) (pv_lss rfl rfl) (by decide) ?_
      refine el_nil ?_
      refine hQ131 _ _ _ ?_
      refine thn_n ?_
      replace hF := oif hF
      rcases hF with ⟨hb132, hF⟩ | ⟨hb132, hF⟩
      · refine cw_cond_t rfl hb132 ?_
        refine cw_seq ?_
        refine cw_gen ?_
        intro Q133 hQ133
        refine cw_reg ?_
        refine el_pv (v := .int .i64 (-1)) (pv_assign rfl) (by decide) ?_
        refine el_nil ?_
        refine hQ133 _ _ _ ?_
        refine thn_n ?_
        refine cw_ret ?_
        refine hQ119 _ _ _ ?_
        refine inb_r ?_
        refine hQ118 _ _ _ ?_
        refine thn_r ?_
        refine hQ114 _ _ _ ?_
        refine thn_r ?_
        refine hQ104 _ _ _ ?_
        refine inb_r ?_
        refine hQ102 _ _ _ ?_
        refine thn_r ?_
        replace hF := exL hF hK106
        refine fin1 rfl rfl ?_
        have hr := Option.some.inj hF
        exact ⟨congrArg (fun (r : Int) => Ending.returned (.int .i64 r)) hr, hS.below⟩
      · refine cw_cond_f rfl hb132 ?_
        refine cw_skip ?_
        refine hQ119 _ _ _ ?_
        refine inb_n ?_
        refine hQ118 _ _ _ ?_
        refine thn_n ?_
        refine cw_reg ?_
        refine el_pv (v := .int .i64 x108) (pv_move he111) (by decide) ?_
        replace hF := ob hF
        obtain ⟨x134, hx134, hF⟩ := hF
        refine el_pv (v := .int .i64 x134) (pv_add rfl rfl hx134) (by decide) ?_
        refine el_pv (v := .int .i64 x134) (pv_assign rfl) (by decide) ?_
        refine el_nil ?_
        refine hQ114 _ _ _ ?_
        refine thn_n ?_
        replace hS := hS.keep 0
        exact ⟨r128, x134, he109, rfl, rfl, hS, hF⟩
    · refine cw_cond_f rfl hb117 ?_
      refine cw_exit ?_
      refine hQ115 _ _ _ ?_
      refine thn_x ?_
      refine hQ114 _ _ _ ?_
      refine thn_x ?_
      replace hF := exA hF hK106
      refine hQ104 _ _ _ ?_
      refine inb_s ?_
      refine hQ102 _ _ _ ?_
      refine thn_n ?_
      refine cw_seq ?_
      refine cw_gen ?_
      intro Q135 hQ135
      refine cw_reg ?_
      refine el_pv (v := .int .i64 x107) (pv_move he110) (by decide) ?_
      refine el_pv (v := .int .i64 x107) (pv_assign rfl) (by decide) ?_
      refine el_nil ?_
      refine hQ135 _ _ _ ?_
      refine thn_n ?_
      refine cw_ret ?_
      refine fin1 rfl rfl ?_
      have hr := Option.some.inj hF
      exact ⟨congrArg (fun (r : Int) => Ending.returned (.int .i64 r)) hr, hS.below⟩
set_option maxHeartbeats 4000000 in
theorem laws_heldRelation_ok {w0 : World} {a0 : Int} {u1 : Value} {a1 : List (List Int)} {a2 : Int} (ha1 : (sliceR (sliceR intR 3) 22).rd w0 [u1] a1) {N : Nat} {r : Int} (hF : laws_heldRelation N a0 a1 a2 = some r) :
    Calls Try.prog 58 #[.agg #[.int .i64 a0, u1], .int .i64 a2] w0 fun e w' => e = .returned (.int .i64 r) ∧ Ext w0 w' := by
  unfold laws_heldRelation at hF
  refine calls_E Try.func58 rfl rfl (of_decide_eq_true rfl) ?_
  have hS := Sat.start w0
  refine cw_seq ?_
  refine cw_gen ?_
  intro Q101 hQ101
  refine cw_reg ?_
  refine el_box [.int .i64 a0, u1] rfl hS (by decide) ?_
  intro w102 b103 hS hx104
  refine el_pv (v := .int .i64 0) (pv_assign rfl) (by decide) ?_
  refine el_nil ?_
  refine hQ101 _ _ _ ?_
  refine thn_n ?_
  refine cw_seq ?_
  refine cw_gen ?_
  intro Q106 hQ106
  refine cw_reg ?_
  refine el_pv (v := .pointer (some ⟨b103, 0 + 1, none⟩)) (pv_fieldAddr rfl) (by decide) ?_
  refine el_pv (v := u1) (pv_loadc rfl ((hS.boxAt 0 rfl) 1 _ rfl)) (by decide) ?_
  refine el_pv (v := .int .i64 a2) (pv_move rfl) (by decide) ?_
  replace hF := ob hF
  obtain ⟨r107, hr107, hF⟩ := hF
  refine el_call goes85 (laws_heldIntSS_ok (hS.up ha1) hr107) (congrArg List.toArray (mapc rfl (mapc rfl rfl))) (by decide) ?_
  rintro _ w108 ⟨rfl, hx109⟩
  refine ⟨_, rfl, ?_⟩
  replace hS := hS.ext hx109
  refine el_pv (v := .int .i64 r107) (pv_assign rfl) (by decide) ?_
  refine el_nil ?_
  refine hQ106 _ _ _ ?_
  refine thn_n ?_
  refine cw_seq ?_
  refine cw_gen ?_
  intro Q110 hQ110
  refine cw_seq ?_
  refine cw_gen ?_
  intro Q111 hQ111
  refine cw_reg ?_
  refine el_pv (v := .int .i64 r107) (pv_move rfl) (by decide) ?_
  refine el_pv (v := .bool (decide (r107 < 0))) (pv_lss rfl rfl) (by decide) ?_
  refine el_nil ?_
  refine hQ111 _ _ _ ?_
  refine thn_n ?_
  replace hF := oif hF
  rcases hF with ⟨hb112, hF⟩ | ⟨hb112, hF⟩
  · refine cw_cond_t rfl hb112 ?_
    refine cw_seq ?_
    refine cw_gen ?_
    intro Q113 hQ113
    refine cw_reg ?_
    refine el_pv (v := .int .i64 (-1)) (pv_assign rfl) (by decide) ?_
    refine el_nil ?_
    refine hQ113 _ _ _ ?_
    refine thn_n ?_
    refine cw_ret ?_
    refine hQ110 _ _ _ ?_
    refine thn_r ?_
    refine fin1 rfl rfl ?_
    have hr := Option.some.inj hF
    exact ⟨congrArg (fun (r : Int) => Ending.returned (.int .i64 r)) hr, hS.below⟩
  · refine cw_cond_f rfl hb112 ?_
    refine cw_skip ?_
    refine hQ110 _ _ _ ?_
    refine thn_n ?_
    refine cw_seq ?_
    refine cw_gen ?_
    intro Q114 hQ114
    refine cw_reg ?_
    refine el_pv (v := .int .i64 r107) (pv_move rfl) (by decide) ?_
    refine el_pv (v := .int .i64 r107) (pv_assign rfl) (by decide) ?_
    refine el_nil ?_
    refine hQ114 _ _ _ ?_
    refine thn_n ?_
    refine cw_ret ?_
    refine fin1 rfl rfl ?_
    have hr := Option.some.inj hF
    exact ⟨congrArg (fun (r : Int) => Ending.returned (.int .i64 r)) hr, hS.below⟩
set_option maxHeartbeats 4000000 in
theorem laws_heldDelta_ok {w0 : World} {a0 : ByteArray} {a1 : Int} {u2 : Value} {a2 : List (List Int)} {a3 : Int} {u4 : Value} {a4 : List (List Int)} {a5 : Int} (_ : a0.size ≤ 9223372036854775807) (ha2 : (sliceR (sliceR intR 3) 22).rd w0 [u2] a2) (ha4 : (sliceR (sliceR intR 3) 22).rd w0 [u4] a4) {N : Nat} {r : Int} (hF : laws_heldDelta N a0 a1 a2 a3 a4 a5 = some r) :
    Calls Try.prog 22 #[.agg #[.string a0, .int .i64 a1, u2, .int .i64 a3, u4], .int .i64 a5] w0 fun e w' => e = .returned (.int .i64 r) ∧ Ext w0 w' := by
  unfold laws_heldDelta at hF
  refine calls_E Try.func22 rfl rfl (of_decide_eq_true rfl) ?_
  have hS := Sat.start w0
  refine cw_seq ?_
  refine cw_gen ?_
  intro Q101 hQ101
  refine cw_reg ?_
  refine el_box [.string a0, .int .i64 a1, u2, .int .i64 a3, u4] rfl hS (by decide) ?_
  intro w102 b103 hS hx104
  refine el_pv (v := .int .i64 0) (pv_assign rfl) (by decide) ?_
  refine el_nil ?_
  refine hQ101 _ _ _ ?_
  refine thn_n ?_
  refine cw_seq ?_
  refine cw_gen ?_
  intro Q106 hQ106
  refine cw_reg ?_
  refine el_pv (v := .pointer (some ⟨b103, 0 + 1, none⟩)) (pv_fieldAddr rfl) (by decide) ?_
  refine el_pv (v := .agg #[.int .i64 a1, u2]) (pv_loada (cs := [.int .i64 a1, u2]) rfl rfl (boxc (hS.boxAt 0 rfl) 1 2)) (by decide) ?_
  refine el_pv (v := .int .i64 a5) (pv_move rfl) (by decide) ?_
  replace hF := ob hF
  obtain ⟨r107, hr107, hF⟩ := hF
  refine el_call goes58 (laws_heldRelation_ok (hS.up ha2) hr107) (congrArg List.toArray (mapc rfl (mapc rfl rfl))) (by decide) ?_
  rintro _ w108 ⟨rfl, hx109⟩
  refine ⟨_, rfl, ?_⟩
  replace hS := hS.ext hx109
  refine el_pv (v := .int .i64 r107) (pv_assign rfl) (by decide) ?_
  refine el_nil ?_
  refine hQ106 _ _ _ ?_
  refine thn_n ?_
  refine cw_seq ?_
  refine cw_gen ?_
  intro Q110 hQ110
  refine cw_seq ?_
  refine cw_gen ?_
  intro Q111 hQ111
  refine cw_reg ?_
  refine el_pv (v := .int .i64 r107) (pv_move rfl) (by decide) ?_
  refine el_pv (v := .bool (decide (r107 < 0))) (pv_lss rfl rfl) (by decide) ?_
  refine el_nil ?_
  refine hQ111 _ _ _ ?_
  refine thn_n ?_
  replace hF := oif hF
  rcases hF with ⟨hb112, hF⟩ | ⟨hb112, hF⟩
  · refine cw_cond_t rfl hb112 ?_
    refine cw_seq ?_
    refine cw_gen ?_
    intro Q113 hQ113
    refine cw_reg ?_
    refine el_pv (v := .int .i64 (-1)) (pv_assign rfl) (by decide) ?_
    refine el_nil ?_
    refine hQ113 _ _ _ ?_
    refine thn_n ?_
    refine cw_ret ?_
    refine hQ110 _ _ _ ?_
    refine thn_r ?_
    refine fin1 rfl rfl ?_
    have hr := Option.some.inj hF
    exact ⟨congrArg (fun (r : Int) => Ending.returned (.int .i64 r)) hr, hS.below⟩
  · refine cw_cond_f rfl hb112 ?_
    refine cw_skip ?_
    refine hQ110 _ _ _ ?_
    refine thn_n ?_
    refine cw_seq ?_
    refine cw_gen ?_
    intro Q114 hQ114
    refine cw_reg ?_
    refine el_pv (v := .pointer (some ⟨b103, 0 + 3, none⟩)) (pv_fieldAddr rfl) (by decide) ?_
    refine el_pv (v := .agg #[.int .i64 a3, u4]) (pv_loada (cs := [.int .i64 a3, u4]) rfl rfl (boxc (hS.boxAt 0 rfl) 3 2)) (by decide) ?_
    refine el_pv (v := .int .i64 r107) (pv_move rfl) (by decide) ?_
    replace hF := ob hF
    obtain ⟨r115, hr115, hF⟩ := hF
    refine el_call goes58 (laws_heldRelation_ok (hS.up ha4) hr115) (congrArg List.toArray (mapc rfl (mapc rfl rfl))) (by decide) ?_
    rintro _ w116 ⟨rfl, hx117⟩
    refine ⟨_, rfl, ?_⟩
    replace hS := hS.ext hx117
    refine el_pv (v := .int .i64 r115) (pv_assign rfl) (by decide) ?_
    refine el_nil ?_
    refine hQ114 _ _ _ ?_
    refine thn_n ?_
    refine cw_seq ?_
    refine cw_gen ?_
    intro Q118 hQ118
    refine cw_seq ?_
    refine cw_gen ?_
    intro Q119 hQ119
    refine cw_reg ?_
    refine el_pv (v := .int .i64 r115) (pv_move rfl) (by decide) ?_
    refine el_pv (v := .bool (decide (r115 < 0))) (pv_lss rfl rfl) (by decide) ?_
    refine el_nil ?_
    refine hQ119 _ _ _ ?_
    refine thn_n ?_
    replace hF := oif hF
    rcases hF with ⟨hb120, hF⟩ | ⟨hb120, hF⟩
    · refine cw_cond_t rfl hb120 ?_
      refine cw_seq ?_
      refine cw_gen ?_
      intro Q121 hQ121
      refine cw_reg ?_
      refine el_pv (v := .int .i64 (-1)) (pv_assign rfl) (by decide) ?_
      refine el_nil ?_
      refine hQ121 _ _ _ ?_
      refine thn_n ?_
      refine cw_ret ?_
      refine hQ118 _ _ _ ?_
      refine thn_r ?_
      refine fin1 rfl rfl ?_
      have hr := Option.some.inj hF
      exact ⟨congrArg (fun (r : Int) => Ending.returned (.int .i64 r)) hr, hS.below⟩
    · refine cw_cond_f rfl hb120 ?_
      refine cw_skip ?_
      refine hQ118 _ _ _ ?_
      refine thn_n ?_
      refine cw_seq ?_
      refine cw_gen ?_
      intro Q122 hQ122
      refine cw_reg ?_
      refine el_pv (v := .int .i64 r115) (pv_move rfl) (by decide) ?_
      refine el_pv (v := .int .i64 r115) (pv_assign rfl) (by decide) ?_
      refine el_nil ?_
      refine hQ122 _ _ _ ?_
      refine thn_n ?_
      refine cw_ret ?_
      refine fin1 rfl rfl ?_
      have hr := Option.some.inj hF
      exact ⟨congrArg (fun (r : Int) => Ending.returned (.int .i64 r)) hr, hS.below⟩
set_option maxHeartbeats 4000000 in
theorem laws_FnExactInvertDelta_ok {w0 : World} {a0 : ByteArray} {a1 : Int} {u2 : Value} {a2 : List (List Int)} {a3 : Int} {u4 : Value} {a4 : List (List Int)} (ha0 : a0.size ≤ 9223372036854775807) (ha2 : (sliceR (sliceR intR 3) 22).rd w0 [u2] a2) (ha4 : (sliceR (sliceR intR 3) 22).rd w0 [u4] a4) {N : Nat} {r : Bool} (hF : laws_FnExactInvertDelta N a0 a1 a2 a3 a4 = some r) :
    Calls Try.prog 5 #[.agg #[.string a0, .int .i64 a1, u2, .int .i64 a3, u4]] w0 fun e w' => e = .returned (.bool r) ∧ Ext w0 w' := by
  unfold laws_FnExactInvertDelta at hF
  refine calls_E Try.func5 rfl rfl (of_decide_eq_true rfl) ?_
  have hS := Sat.start w0
  refine cw_seq ?_
  refine cw_gen ?_
  intro Q101 hQ101
  refine cw_reg ?_
  refine el_box [.string a0, .int .i64 a1, u2, .int .i64 a3, u4] rfl hS (by decide) ?_
  intro w102 b103 hS hx104
  refine el_pv (v := .bool false) (pv_assign rfl) (by decide) ?_
  refine el_nil ?_
  refine hQ101 _ _ _ ?_
  refine thn_n ?_
  refine cw_seq ?_
  refine cw_gen ?_
  intro Q106 hQ106
  refine cw_reg ?_
  refine el_pv (v := .int .i64 1048576) (pv_assign rfl) (by decide) ?_
  refine el_nil ?_
  refine hQ106 _ _ _ ?_
  refine thn_n ?_
  refine cw_seq ?_
  refine cw_gen ?_
  intro Q107 hQ107
  refine cw_reg ?_
  refine el_pv (v := .agg #[.string a0, .int .i64 a1, u2, .int .i64 a3, u4]) (pv_loada (cs := [.string a0, .int .i64 a1, u2, .int .i64 a3, u4]) rfl rfl (boxc0 (hS.boxAt 0 rfl))) (by decide) ?_
  refine el_pv (v := .int .i64 1048576) (pv_move rfl) (by decide) ?_
  replace hF := ob hF
  obtain ⟨r108, hr108, hF⟩ := hF
  refine el_call goes14 (laws_szDelta_ok ha0 (hS.up ha2) (hS.up ha4) hr108) (congrArg List.toArray (mapc rfl (mapc rfl rfl))) (by decide) ?_
  rintro _ w109 ⟨rfl, hx110⟩
  refine ⟨_, rfl, ?_⟩
  replace hS := hS.ext hx110
  refine el_pv (v := .int .i64 r108) (pv_assign rfl) (by decide) ?_
  refine el_nil ?_
  refine hQ107 _ _ _ ?_
  refine thn_n ?_
  refine cw_seq ?_
  refine cw_gen ?_
  intro Q111 hQ111
  refine cw_seq ?_
  refine cw_gen ?_
  intro Q112 hQ112
  refine cw_reg ?_
  refine el_pv (v := .int .i64 r108) (pv_move rfl) (by decide) ?_
  refine el_pv (v := .bool (decide (r108 < 0))) (pv_lss rfl rfl) (by decide) ?_
  refine el_nil ?_
  refine hQ112 _ _ _ ?_
  refine thn_n ?_
  replace hF := oif hF
  rcases hF with ⟨hb113, hF⟩ | ⟨hb113, hF⟩
  · refine cw_cond_t rfl hb113 ?_
    refine cw_seq ?_
    refine cw_gen ?_
    intro Q114 hQ114
    refine cw_reg ?_
    refine el_pv (v := .bool true) (pv_assign rfl) (by decide) ?_
    refine el_nil ?_
    refine hQ114 _ _ _ ?_
    refine thn_n ?_
    refine cw_ret ?_
    refine hQ111 _ _ _ ?_
    refine thn_r ?_
    refine fin1 rfl rfl ?_
    have hr := Option.some.inj hF
    exact ⟨congrArg (fun (r : Bool) => Ending.returned (.bool r)) hr, hS.below⟩
  · refine cw_cond_f rfl hb113 ?_
    refine cw_skip ?_
    refine hQ111 _ _ _ ?_
    refine thn_n ?_
    refine cw_seq ?_
    refine cw_gen ?_
    intro Q115 hQ115
    refine cw_reg ?_
    refine el_pv (v := .agg #[.string a0, .int .i64 a1, u2, .int .i64 a3, u4]) (pv_loada (cs := [.string a0, .int .i64 a1, u2, .int .i64 a3, u4]) rfl rfl (boxc0 (hS.boxAt 0 rfl))) (by decide) ?_
    replace hF := ob hF
    obtain ⟨r116, hr116, hF⟩ := hF
    refine el_call goes16 (laws_toDelta_ok ha0 (hS.up ha2) (hS.up ha4) hr116) (congrArg List.toArray (mapc rfl rfl)) (by decide) ?_
    rintro _ w122 ⟨v118, v120, rfl, hS', hz117⟩
    refine ⟨_, rfl, ?_⟩
    have hx123 := hS'.below
    replace hS := hS.call2 hS'
    replace hF := ob hF
    obtain ⟨r124, hr124, hF⟩ := hF
    refine el_call goes19 (spec_InvertDelta_ok hz117 (hS.rdAt (R := (sliceR (sliceR intR 3) 22)) 0 rfl) (hS.rdAt (R := (sliceR (sliceR intR 3) 22)) 1 rfl) hr124) (congrArg List.toArray (mapc rfl rfl)) (by decide) ?_
    rintro _ w130 ⟨v126, v128, rfl, hS', hz125⟩
    refine ⟨_, rfl, ?_⟩
    have hx131 := hS'.below
    replace hS := hS.call2 hS'
    refine el_alloc hS (by decide) ?_
    intro w132 b133 hS hx134
    refine el_storev (hS.top 0 rfl) rfl [.string r124.1, .int .i64 r124.2.1.1, v126, .int .i64 r124.2.2.1, v128] rfl rfl (of_decide_eq_true rfl) (all_cons rfl (all_cons rfl (all_cons (oc (hS.rdAt (R := (sliceR (sliceR intR 3) 22)) 1 rfl)) (all_cons rfl (all_cons (oc (hS.rdAt (R := (sliceR (sliceR intR 3) 22)) 2 rfl)) rfl))))) ?_
    intro w136 hS
    replace hS : Sat w0 w136 [Box b133 42 [.string r124.1, .int .i64 r124.2.1.1, v126, .int .i64 r124.2.2.1, v128], Own (sliceR (sliceR intR 3) 22) [v126] r124.2.1.2, Own (sliceR (sliceR intR 3) 22) [v128] r124.2.2.2, Own (sliceR (sliceR intR 3) 22) [v118] r116.2.1.2, Own (sliceR (sliceR intR 3) 22) [v120] r116.2.2.2, Box b103 37 [.string a0, .int .i64 a1, u2, .int .i64 a3, u4]] := hS
    refine el_nil ?_
    refine hQ115 _ _ _ ?_
    refine thn_n ?_
    refine cw_seq ?_
    refine cw_gen ?_
    intro Q137 hQ137
    refine cw_reg ?_
    refine el_pv (v := .agg #[.string a0, .int .i64 a1, u2, .int .i64 a3, u4]) (pv_loada (cs := [.string a0, .int .i64 a1, u2, .int .i64 a3, u4]) rfl rfl (boxc0 (hS.boxAt 5 rfl))) (by decide) ?_
    replace hF := ob hF
    obtain ⟨r138, hr138, hF⟩ := hF
    refine el_call goes16 (laws_toDelta_ok ha0 (hS.up ha2) (hS.up ha4) hr138) (congrArg List.toArray (mapc rfl rfl)) (by decide) ?_
    rintro _ w144 ⟨v140, v142, rfl, hS', hz139⟩
    refine ⟨_, rfl, ?_⟩
    have hx145 := hS'.below
    replace hS := hS.call2 hS'
    refine el_alloc hS (by decide) ?_
    intro w146 b147 hS hx148
    refine el_storev (hS.top 0 rfl) rfl [.string r138.1, .int .i64 r138.2.1.1, v140, .int .i64 r138.2.2.1, v142] rfl rfl (of_decide_eq_true rfl) (all_cons rfl (all_cons rfl (all_cons (oc (hS.rdAt (R := (sliceR (sliceR intR 3) 22)) 1 rfl)) (all_cons rfl (all_cons (oc (hS.rdAt (R := (sliceR (sliceR intR 3) 22)) 2 rfl)) rfl))))) ?_
    intro w150 hS
    replace hS : Sat w0 w150 [Box b147 42 [.string r138.1, .int .i64 r138.2.1.1, v140, .int .i64 r138.2.2.1, v142], Own (sliceR (sliceR intR 3) 22) [v140] r138.2.1.2, Own (sliceR (sliceR intR 3) 22) [v142] r138.2.2.2, Box b133 42 [.string r124.1, .int .i64 r124.2.1.1, v126, .int .i64 r124.2.2.1, v128], Own (sliceR (sliceR intR 3) 22) [v126] r124.2.1.2, Own (sliceR (sliceR intR 3) 22) [v128] r124.2.2.2, Own (sliceR (sliceR intR 3) 22) [v118] r116.2.1.2, Own (sliceR (sliceR intR 3) 22) [v120] r116.2.2.2, Box b103 37 [.string a0, .int .i64 a1, u2, .int .i64 a3, u4]] := hS
    refine el_nil ?_
    refine hQ137 _ _ _ ?_
    refine thn_n ?_
    refine cw_seq ?_
    refine cw_gen ?_
    intro Q151 hQ151
    refine cw_reg ?_
    refine el_pv (v := .agg #[.string r138.1, .int .i64 r138.2.1.1, v140, .int .i64 r138.2.2.1, v142]) (pv_loada (cs := [.string r138.1, .int .i64 r138.2.1.1, v140, .int .i64 r138.2.2.1, v142]) rfl rfl (boxc0 (hS.boxAt 0 rfl))) (by decide) ?_
    replace hF := ob hF
    obtain ⟨r152, hr152, hF⟩ := hF
    refine el_call goes20 (impl_InvertDelta_ok hz139 (hS.rdAt (R := (sliceR (sliceR intR 3) 22)) 1 rfl) (hS.rdAt (R := (sliceR (sliceR intR 3) 22)) 2 rfl) hr152) (congrArg List.toArray (mapc rfl rfl)) (by decide) ?_
    rintro _ w158 ⟨v154, v156, rfl, hS', hz153⟩
    refine ⟨_, rfl, ?_⟩
    have hx159 := hS'.below
    replace hS := hS.call2 hS'
    refine el_alloc hS (by decide) ?_
    intro w160 b161 hS hx162
    refine el_storev (hS.top 0 rfl) rfl [.string r152.1, .int .i64 r152.2.1.1, v154, .int .i64 r152.2.2.1, v156] rfl rfl (of_decide_eq_true rfl) (all_cons rfl (all_cons rfl (all_cons (oc (hS.rdAt (R := (sliceR (sliceR intR 3) 22)) 1 rfl)) (all_cons rfl (all_cons (oc (hS.rdAt (R := (sliceR (sliceR intR 3) 22)) 2 rfl)) rfl))))) ?_
    intro w164 hS
    replace hS : Sat w0 w164 [Box b161 42 [.string r152.1, .int .i64 r152.2.1.1, v154, .int .i64 r152.2.2.1, v156], Own (sliceR (sliceR intR 3) 22) [v154] r152.2.1.2, Own (sliceR (sliceR intR 3) 22) [v156] r152.2.2.2, Box b147 42 [.string r138.1, .int .i64 r138.2.1.1, v140, .int .i64 r138.2.2.1, v142], Own (sliceR (sliceR intR 3) 22) [v140] r138.2.1.2, Own (sliceR (sliceR intR 3) 22) [v142] r138.2.2.2, Box b133 42 [.string r124.1, .int .i64 r124.2.1.1, v126, .int .i64 r124.2.2.1, v128], Own (sliceR (sliceR intR 3) 22) [v126] r124.2.1.2, Own (sliceR (sliceR intR 3) 22) [v128] r124.2.2.2, Own (sliceR (sliceR intR 3) 22) [v118] r116.2.1.2, Own (sliceR (sliceR intR 3) 22) [v120] r116.2.2.2, Box b103 37 [.string a0, .int .i64 a1, u2, .int .i64 a3, u4]] := hS
    refine el_nil ?_
    refine hQ151 _ _ _ ?_
    refine thn_n ?_
    refine cw_seq ?_
    refine cw_gen ?_
    intro Q165 hQ165
    refine cw_seq ?_
    refine cw_gen ?_
    intro Q166 hQ166
    refine cw_reg ?_
    refine el_pv (v := .agg #[.string r152.1, .int .i64 r152.2.1.1, v154, .int .i64 r152.2.2.1, v156]) (pv_loada (cs := [.string r152.1, .int .i64 r152.2.1.1, v154, .int .i64 r152.2.2.1, v156]) rfl rfl (boxc0 (hS.boxAt 0 rfl))) (by decide) ?_
    refine el_pv (v := .agg #[.string r124.1, .int .i64 r124.2.1.1, v126, .int .i64 r124.2.2.1, v128]) (pv_loada (cs := [.string r124.1, .int .i64 r124.2.1.1, v126, .int .i64 r124.2.2.1, v128]) rfl rfl (boxc0 (hS.boxAt 6 rfl))) (by decide) ?_
    replace hF := ob hF
    obtain ⟨r167, hr167, hF⟩ := hF
    refine el_call goes18 (laws_eqDelta_ok hz153 (hS.rdAt (R := (sliceR (sliceR intR 3) 22)) 1 rfl) (hS.rdAt (R := (sliceR (sliceR intR 3) 22)) 2 rfl) hz125 (hS.rdAt (R := (sliceR (sliceR intR 3) 22)) 7 rfl) (hS.rdAt (R := (sliceR (sliceR intR 3) 22)) 8 rfl) hr167) (congrArg List.toArray (mapc rfl (mapc rfl rfl))) (by decide) ?_
    rintro _ w168 ⟨rfl, hx169⟩
    refine ⟨_, rfl, ?_⟩
    replace hS := hS.ext hx169
    refine el_pv (v := .bool (!r167)) (pv_not rfl) (by decide) ?_
    refine el_nil ?_
    refine hQ166 _ _ _ ?_
    refine thn_n ?_
    replace hF := oif hF
    rcases hF with ⟨hb170, hF⟩ | ⟨hb170, hF⟩
    · refine cw_cond_f rfl (bnot_t hb170) ?_
      refine cw_skip ?_
      refine hQ165 _ _ _ ?_
      refine thn_n ?_
      refine cw_seq ?_
      refine cw_gen ?_
      intro Q171 hQ171
      refine cw_seq ?_
      refine cw_gen ?_
      intro Q172 hQ172
      obtain ⟨C, hCd⟩ : ∃ C : World → Prop, ∀ w, C w ↔ ∃ G, Sat w0 w ([Box b161 42 [.string r152.1, .int .i64 r152.2.1.1, v154, .int .i64 r152.2.2.1, v156], Box b147 42 [.string r138.1, .int .i64 r138.2.1.1, v140, .int .i64 r138.2.2.1, v142], Box b133 42 [.string r124.1, .int .i64 r124.2.1.1, v126, .int .i64 r124.2.2.1, v128], Box b103 37 [.string a0, .int .i64 a1, u2, .int .i64 a3, u4], Own (sliceR (sliceR intR 3) 22) [v154] r152.2.1.2, Own (sliceR (sliceR intR 3) 22) [v156] r152.2.2.2, Own (sliceR (sliceR intR 3) 22) [v140] r138.2.1.2, Own (sliceR (sliceR intR 3) 22) [v142] r138.2.2.2, Own (sliceR (sliceR intR 3) 22) [v126] r124.2.1.2, Own (sliceR (sliceR intR 3) 22) [v128] r124.2.2.2, Own (sliceR (sliceR intR 3) 22) [v118] r116.2.1.2, Own (sliceR (sliceR intR 3) 22) [v120] r116.2.2.2] ++ G) := ⟨_, fun _ => Iff.rfl⟩
      refine cw_regb [0, 1, 2, 3, 4] C (by kernel_rfl) ?_
      intro w173 hx174
      replace hS := hS.ext hx174
      replace hS : Sat w0 w173 [Own (sliceR (sliceR intR 3) 22) [v120] r116.2.2.2, Box b161 42 [.string r152.1, .int .i64 r152.2.1.1, v154, .int .i64 r152.2.2.1, v156], Own (sliceR (sliceR intR 3) 22) [v154] r152.2.1.2, Own (sliceR (sliceR intR 3) 22) [v156] r152.2.2.2, Box b147 42 [.string r138.1, .int .i64 r138.2.1.1, v140, .int .i64 r138.2.2.1, v142], Own (sliceR (sliceR intR 3) 22) [v140] r138.2.1.2, Own (sliceR (sliceR intR 3) 22) [v142] r138.2.2.2, Box b133 42 [.string r124.1, .int .i64 r124.2.1.1, v126, .int .i64 r124.2.2.1, v128], Own (sliceR (sliceR intR 3) 22) [v126] r124.2.1.2, Own (sliceR (sliceR intR 3) 22) [v128] r124.2.2.2, Own (sliceR (sliceR intR 3) 22) [v118] r116.2.1.2, Box b103 37 [.string a0, .int .i64 a1, u2, .int .i64 a3, u4]] := hS.top 10 rfl
      replace hS : Sat w0 w173 [Own (sliceR (sliceR intR 3) 22) [v118] r116.2.1.2, Own (sliceR (sliceR intR 3) 22) [v120] r116.2.2.2, Box b161 42 [.string r152.1, .int .i64 r152.2.1.1, v154, .int .i64 r152.2.2.1, v156], Own (sliceR (sliceR intR 3) 22) [v154] r152.2.1.2, Own (sliceR (sliceR intR 3) 22) [v156] r152.2.2.2, Box b147 42 [.string r138.1, .int .i64 r138.2.1.1, v140, .int .i64 r138.2.2.1, v142], Own (sliceR (sliceR intR 3) 22) [v140] r138.2.1.2, Own (sliceR (sliceR intR 3) 22) [v142] r138.2.2.2, Box b133 42 [.string r124.1, .int .i64 r124.2.1.1, v126, .int .i64 r124.2.2.1, v128], Own (sliceR (sliceR intR 3) 22) [v126] r124.2.1.2, Own (sliceR (sliceR intR 3) 22) [v128] r124.2.2.2, Box b103 37 [.string a0, .int .i64 a1, u2, .int .i64 a3, u4]] := hS.top 10 rfl
      replace hS : Sat w0 w173 [Own (sliceR (sliceR intR 3) 22) [v128] r124.2.2.2, Own (sliceR (sliceR intR 3) 22) [v118] r116.2.1.2, Own (sliceR (sliceR intR 3) 22) [v120] r116.2.2.2, Box b161 42 [.string r152.1, .int .i64 r152.2.1.1, v154, .int .i64 r152.2.2.1, v156], Own (sliceR (sliceR intR 3) 22) [v154] r152.2.1.2, Own (sliceR (sliceR intR 3) 22) [v156] r152.2.2.2, Box b147 42 [.string r138.1, .int .i64 r138.2.1.1, v140, .int .i64 r138.2.2.1, v142], Own (sliceR (sliceR intR 3) 22) [v140] r138.2.1.2, Own (sliceR (sliceR intR 3) 22) [v142] r138.2.2.2, Box b133 42 [.string r124.1, .int .i64 r124.2.1.1, v126, .int .i64 r124.2.2.1, v128], Own (sliceR (sliceR intR 3) 22) [v126] r124.2.1.2, Box b103 37 [.string a0, .int .i64 a1, u2, .int .i64 a3, u4]] := hS.top 10 rfl
      replace hS : Sat w0 w173 [Own (sliceR (sliceR intR 3) 22) [v126] r124.2.1.2, Own (sliceR (sliceR intR 3) 22) [v128] r124.2.2.2, Own (sliceR (sliceR intR 3) 22) [v118] r116.2.1.2, Own (sliceR (sliceR intR 3) 22) [v120] r116.2.2.2, Box b161 42 [.string r152.1, .int .i64 r152.2.1.1, v154, .int .i64 r152.2.2.1, v156], Own (sliceR (sliceR intR 3) 22) [v154] r152.2.1.2, Own (sliceR (sliceR intR 3) 22) [v156] r152.2.2.2, Box b147 42 [.string r138.1, .int .i64 r138.2.1.1, v140, .int .i64 r138.2.2.1, v142], Own (sliceR (sliceR intR 3) 22) [v140] r138.2.1.2, Own (sliceR (sliceR intR 3) 22) [v142] r138.2.2.2, Box b133 42 [.string r124.1, .int .i64 r124.2.1.1, v126, .int .i64 r124.2.2.1, v128], Box b103 37 [.string a0, .int .i64 a1, u2, .int .i64 a3, u4]] := hS.top 10 rfl
      replace hS : Sat w0 w173 [Own (sliceR (sliceR intR 3) 22) [v142] r138.2.2.2, Own (sliceR (sliceR intR 3) 22) [v126] r124.2.1.2, Own (sliceR (sliceR intR 3) 22) [v128] r124.2.2.2, Own (sliceR (sliceR intR 3) 22) [v118] r116.2.1.2, Own (sliceR (sliceR intR 3) 22) [v120] r116.2.2.2, Box b161 42 [.string r152.1, .int .i64 r152.2.1.1, v154, .int .i64 r152.2.2.1, v156], Own (sliceR (sliceR intR 3) 22) [v154] r152.2.1.2, Own (sliceR (sliceR intR 3) 22) [v156] r152.2.2.2, Box b147 42 [.string r138.1, .int .i64 r138.2.1.1, v140, .int .i64 r138.2.2.1, v142], Own (sliceR (sliceR intR 3) 22) [v140] r138.2.1.2, Box b133 42 [.string r124.1, .int .i64 r124.2.1.1, v126, .int .i64 r124.2.2.1, v128], Box b103 37 [.string a0, .int .i64 a1, u2, .int .i64 a3, u4]] := hS.top 9 rfl
      replace hS : Sat w0 w173 [Own (sliceR (sliceR intR 3) 22) [v140] r138.2.1.2, Own (sliceR (sliceR intR 3) 22) [v142] r138.2.2.2, Own (sliceR (sliceR intR 3) 22) [v126] r124.2.1.2, Own (sliceR (sliceR intR 3) 22) [v128] r124.2.2.2, Own (sliceR (sliceR intR 3) 22) [v118] r116.2.1.2, Own (sliceR (sliceR intR 3) 22) [v120] r116.2.2.2, Box b161 42 [.string r152.1, .int .i64 r152.2.1.1, v154, .int .i64 r152.2.2.1, v156], Own (sliceR (sliceR intR 3) 22) [v154] r152.2.1.2, Own (sliceR (sliceR intR 3) 22) [v156] r152.2.2.2, Box b147 42 [.string r138.1, .int .i64 r138.2.1.1, v140, .int .i64 r138.2.2.1, v142], Box b133 42 [.string r124.1, .int .i64 r124.2.1.1, v126, .int .i64 r124.2.2.1, v128], Box b103 37 [.string a0, .int .i64 a1, u2, .int .i64 a3, u4]] := hS.top 9 rfl
      replace hS : Sat w0 w173 [Own (sliceR (sliceR intR 3) 22) [v156] r152.2.2.2, Own (sliceR (sliceR intR 3) 22) [v140] r138.2.1.2, Own (sliceR (sliceR intR 3) 22) [v142] r138.2.2.2, Own (sliceR (sliceR intR 3) 22) [v126] r124.2.1.2, Own (sliceR (sliceR intR 3) 22) [v128] r124.2.2.2, Own (sliceR (sliceR intR 3) 22) [v118] r116.2.1.2, Own (sliceR (sliceR intR 3) 22) [v120] r116.2.2.2, Box b161 42 [.string r152.1, .int .i64 r152.2.1.1, v154, .int .i64 r152.2.2.1, v156], Own (sliceR (sliceR intR 3) 22) [v154] r152.2.1.2, Box b147 42 [.string r138.1, .int .i64 r138.2.1.1, v140, .int .i64 r138.2.2.1, v142], Box b133 42 [.string r124.1, .int .i64 r124.2.1.1, v126, .int .i64 r124.2.2.1, v128], Box b103 37 [.string a0, .int .i64 a1, u2, .int .i64 a3, u4]] := hS.top 8 rfl
      replace hS : Sat w0 w173 [Own (sliceR (sliceR intR 3) 22) [v154] r152.2.1.2, Own (sliceR (sliceR intR 3) 22) [v156] r152.2.2.2, Own (sliceR (sliceR intR 3) 22) [v140] r138.2.1.2, Own (sliceR (sliceR intR 3) 22) [v142] r138.2.2.2, Own (sliceR (sliceR intR 3) 22) [v126] r124.2.1.2, Own (sliceR (sliceR intR 3) 22) [v128] r124.2.2.2, Own (sliceR (sliceR intR 3) 22) [v118] r116.2.1.2, Own (sliceR (sliceR intR 3) 22) [v120] r116.2.2.2, Box b161 42 [.string r152.1, .int .i64 r152.2.1.1, v154, .int .i64 r152.2.2.1, v156], Box b147 42 [.string r138.1, .int .i64 r138.2.1.1, v140, .int .i64 r138.2.2.1, v142], Box b133 42 [.string r124.1, .int .i64 r124.2.1.1, v126, .int .i64 r124.2.2.1, v128], Box b103 37 [.string a0, .int .i64 a1, u2, .int .i64 a3, u4]] := hS.top 8 rfl
      replace hS : Sat w0 w173 [Box b103 37 [.string a0, .int .i64 a1, u2, .int .i64 a3, u4], Own (sliceR (sliceR intR 3) 22) [v154] r152.2.1.2, Own (sliceR (sliceR intR 3) 22) [v156] r152.2.2.2, Own (sliceR (sliceR intR 3) 22) [v140] r138.2.1.2, Own (sliceR (sliceR intR 3) 22) [v142] r138.2.2.2, Own (sliceR (sliceR intR 3) 22) [v126] r124.2.1.2, Own (sliceR (sliceR intR 3) 22) [v128] r124.2.2.2, Own (sliceR (sliceR intR 3) 22) [v118] r116.2.1.2, Own (sliceR (sliceR intR 3) 22) [v120] r116.2.2.2, Box b161 42 [.string r152.1, .int .i64 r152.2.1.1, v154, .int .i64 r152.2.2.1, v156], Box b147 42 [.string r138.1, .int .i64 r138.2.1.1, v140, .int .i64 r138.2.2.1, v142], Box b133 42 [.string r124.1, .int .i64 r124.2.1.1, v126, .int .i64 r124.2.2.1, v128]] := hS.top 11 rfl
      replace hS : Sat w0 w173 [Box b133 42 [.string r124.1, .int .i64 r124.2.1.1, v126, .int .i64 r124.2.2.1, v128], Box b103 37 [.string a0, .int .i64 a1, u2, .int .i64 a3, u4], Own (sliceR (sliceR intR 3) 22) [v154] r152.2.1.2, Own (sliceR (sliceR intR 3) 22) [v156] r152.2.2.2, Own (sliceR (sliceR intR 3) 22) [v140] r138.2.1.2, Own (sliceR (sliceR intR 3) 22) [v142] r138.2.2.2, Own (sliceR (sliceR intR 3) 22) [v126] r124.2.1.2, Own (sliceR (sliceR intR 3) 22) [v128] r124.2.2.2, Own (sliceR (sliceR intR 3) 22) [v118] r116.2.1.2, Own (sliceR (sliceR intR 3) 22) [v120] r116.2.2.2, Box b161 42 [.string r152.1, .int .i64 r152.2.1.1, v154, .int .i64 r152.2.2.1, v156], Box b147 42 [.string r138.1, .int .i64 r138.2.1.1, v140, .int .i64 r138.2.2.1, v142]] := hS.top 11 rfl
      replace hS : Sat w0 w173 [Box b147 42 [.string r138.1, .int .i64 r138.2.1.1, v140, .int .i64 r138.2.2.1, v142], Box b133 42 [.string r124.1, .int .i64 r124.2.1.1, v126, .int .i64 r124.2.2.1, v128], Box b103 37 [.string a0, .int .i64 a1, u2, .int .i64 a3, u4], Own (sliceR (sliceR intR 3) 22) [v154] r152.2.1.2, Own (sliceR (sliceR intR 3) 22) [v156] r152.2.2.2, Own (sliceR (sliceR intR 3) 22) [v140] r138.2.1.2, Own (sliceR (sliceR intR 3) 22) [v142] r138.2.2.2, Own (sliceR (sliceR intR 3) 22) [v126] r124.2.1.2, Own (sliceR (sliceR intR 3) 22) [v128] r124.2.2.2, Own (sliceR (sliceR intR 3) 22) [v118] r116.2.1.2, Own (sliceR (sliceR intR 3) 22) [v120] r116.2.2.2, Box b161 42 [.string r152.1, .int .i64 r152.2.1.1, v154, .int .i64 r152.2.2.1, v156]] := hS.top 11 rfl
      replace hS : Sat w0 w173 [Box b161 42 [.string r152.1, .int .i64 r152.2.1.1, v154, .int .i64 r152.2.2.1, v156], Box b147 42 [.string r138.1, .int .i64 r138.2.1.1, v140, .int .i64 r138.2.2.1, v142], Box b133 42 [.string r124.1, .int .i64 r124.2.1.1, v126, .int .i64 r124.2.2.1, v128], Box b103 37 [.string a0, .int .i64 a1, u2, .int .i64 a3, u4], Own (sliceR (sliceR intR 3) 22) [v154] r152.2.1.2, Own (sliceR (sliceR intR 3) 22) [v156] r152.2.2.2, Own (sliceR (sliceR intR 3) 22) [v140] r138.2.1.2, Own (sliceR (sliceR intR 3) 22) [v142] r138.2.2.2, Own (sliceR (sliceR intR 3) 22) [v126] r124.2.1.2, Own (sliceR (sliceR intR 3) 22) [v128] r124.2.2.2, Own (sliceR (sliceR intR 3) 22) [v118] r116.2.1.2, Own (sliceR (sliceR intR 3) 22) [v120] r116.2.2.2] := hS.top 11 rfl
      have hC := (hCd _).2 ⟨_, hS⟩
      refine al_p (v := .agg #[.string r138.1, .int .i64 r138.2.1.1, v140, .int .i64 r138.2.2.1, v142]) (by kernel_rfl) 0 rfl rfl (by decide) hC (by kernel_rfl) (by kernel_rfl) (sv_on rfl (fun w' hw' => by obtain ⟨_, hS⟩ := (hCd _).1 hw'; exact (pv_loada (cs := [.string r138.1, .int .i64 r138.2.1.1, v140, .int .i64 r138.2.2.1, v142]) rfl rfl (boxc0 (hS.boxAt 1 rfl))))) ?_
      refine al_p (v := .agg #[.string a0, .int .i64 a1, u2, .int .i64 a3, u4]) (by kernel_rfl) 1 rfl rfl (by decide) hC (by kernel_rfl) (by kernel_rfl) (sv_on rfl (fun w' hw' => by obtain ⟨_, hS⟩ := (hCd _).1 hw'; exact (pv_loada (cs := [.string a0, .int .i64 a1, u2, .int .i64 a3, u4]) rfl rfl (boxc0 (hS.boxAt 3 rfl))))) ?_
      refine al_one 2 (by kernel_rfl) rfl ?_
      replace hF := ob hF
      obtain ⟨r175, hr175, hF⟩ := hF
      refine el_call goes16 (laws_toDelta_ok ha0 (hS.up ha2) (hS.up ha4) hr175) (congrArg List.toArray (mapc rfl rfl)) (by decide) ?_
      rintro _ w181 ⟨v177, v179, rfl, hS', hz176⟩
      refine ⟨_, rfl, ?_⟩
      have hx182 := hS'.below
      replace hS := hS.call2 hS'
      refine el_nil ?_
      replace hS : Sat w0 w181 [Own (sliceR (sliceR intR 3) 22) [v120] r116.2.2.2, Own (sliceR (sliceR intR 3) 22) [v177] r175.2.1.2, Own (sliceR (sliceR intR 3) 22) [v179] r175.2.2.2, Box b161 42 [.string r152.1, .int .i64 r152.2.1.1, v154, .int .i64 r152.2.2.1, v156], Box b147 42 [.string r138.1, .int .i64 r138.2.1.1, v140, .int .i64 r138.2.2.1, v142], Box b133 42 [.string r124.1, .int .i64 r124.2.1.1, v126, .int .i64 r124.2.2.1, v128], Box b103 37 [.string a0, .int .i64 a1, u2, .int .i64 a3, u4], Own (sliceR (sliceR intR 3) 22) [v154] r152.2.1.2, Own (sliceR (sliceR intR 3) 22) [v156] r152.2.2.2, Own (sliceR (sliceR intR 3) 22) [v140] r138.2.1.2, Own (sliceR (sliceR intR 3) 22) [v142] r138.2.2.2, Own (sliceR (sliceR intR 3) 22) [v126] r124.2.1.2, Own (sliceR (sliceR intR 3) 22) [v128] r124.2.2.2, Own (sliceR (sliceR intR 3) 22) [v118] r116.2.1.2] := hS.top 13 rfl
      replace hS : Sat w0 w181 [Own (sliceR (sliceR intR 3) 22) [v118] r116.2.1.2, Own (sliceR (sliceR intR 3) 22) [v120] r116.2.2.2, Own (sliceR (sliceR intR 3) 22) [v177] r175.2.1.2, Own (sliceR (sliceR intR 3) 22) [v179] r175.2.2.2, Box b161 42 [.string r152.1, .int .i64 r152.2.1.1, v154, .int .i64 r152.2.2.1, v156], Box b147 42 [.string r138.1, .int .i64 r138.2.1.1, v140, .int .i64 r138.2.2.1, v142], Box b133 42 [.string r124.1, .int .i64 r124.2.1.1, v126, .int .i64 r124.2.2.1, v128], Box b103 37 [.string a0, .int .i64 a1, u2, .int .i64 a3, u4], Own (sliceR (sliceR intR 3) 22) [v154] r152.2.1.2, Own (sliceR (sliceR intR 3) 22) [v156] r152.2.2.2, Own (sliceR (sliceR intR 3) 22) [v140] r138.2.1.2, Own (sliceR (sliceR intR 3) 22) [v142] r138.2.2.2, Own (sliceR (sliceR intR 3) 22) [v126] r124.2.1.2, Own (sliceR (sliceR intR 3) 22) [v128] r124.2.2.2] := hS.top 13 rfl
      replace hS : Sat w0 w181 [Own (sliceR (sliceR intR 3) 22) [v128] r124.2.2.2, Own (sliceR (sliceR intR 3) 22) [v118] r116.2.1.2, Own (sliceR (sliceR intR 3) 22) [v120] r116.2.2.2, Own (sliceR (sliceR intR 3) 22) [v177] r175.2.1.2, Own (sliceR (sliceR intR 3) 22) [v179] r175.2.2.2, Box b161 42 [.string r152.1, .int .i64 r152.2.1.1, v154, .int .i64 r152.2.2.1, v156], Box b147 42 [.string r138.1, .int .i64 r138.2.1.1, v140, .int .i64 r138.2.2.1, v142], Box b133 42 [.string r124.1, .int .i64 r124.2.1.1, v126, .int .i64 r124.2.2.1, v128], Box b103 37 [.string a0, .int .i64 a1, u2, .int .i64 a3, u4], Own (sliceR (sliceR intR 3) 22) [v154] r152.2.1.2, Own (sliceR (sliceR intR 3) 22) [v156] r152.2.2.2, Own (sliceR (sliceR intR 3) 22) [v140] r138.2.1.2, Own (sliceR (sliceR intR 3) 22) [v142] r138.2.2.2, Own (sliceR (sliceR intR 3) 22) [v126] r124.2.1.2] := hS.top 13 rfl
      replace hS : Sat w0 w181 [Own (sliceR (sliceR intR 3) 22) [v126] r124.2.1.2, Own (sliceR (sliceR intR 3) 22) [v128] r124.2.2.2, Own (sliceR (sliceR intR 3) 22) [v118] r116.2.1.2, Own (sliceR (sliceR intR 3) 22) [v120] r116.2.2.2, Own (sliceR (sliceR intR 3) 22) [v177] r175.2.1.2, Own (sliceR (sliceR intR 3) 22) [v179] r175.2.2.2, Box b161 42 [.string r152.1, .int .i64 r152.2.1.1, v154, .int .i64 r152.2.2.1, v156], Box b147 42 [.string r138.1, .int .i64 r138.2.1.1, v140, .int .i64 r138.2.2.1, v142], Box b133 42 [.string r124.1, .int .i64 r124.2.1.1, v126, .int .i64 r124.2.2.1, v128], Box b103 37 [.string a0, .int .i64 a1, u2, .int .i64 a3, u4], Own (sliceR (sliceR intR 3) 22) [v154] r152.2.1.2, Own (sliceR (sliceR intR 3) 22) [v156] r152.2.2.2, Own (sliceR (sliceR intR 3) 22) [v140] r138.2.1.2, Own (sliceR (sliceR intR 3) 22) [v142] r138.2.2.2] := hS.top 13 rfl
      replace hS : Sat w0 w181 [Own (sliceR (sliceR intR 3) 22) [v142] r138.2.2.2, Own (sliceR (sliceR intR 3) 22) [v126] r124.2.1.2, Own (sliceR (sliceR intR 3) 22) [v128] r124.2.2.2, Own (sliceR (sliceR intR 3) 22) [v118] r116.2.1.2, Own (sliceR (sliceR intR 3) 22) [v120] r116.2.2.2, Own (sliceR (sliceR intR 3) 22) [v177] r175.2.1.2, Own (sliceR (sliceR intR 3) 22) [v179] r175.2.2.2, Box b161 42 [.string r152.1, .int .i64 r152.2.1.1, v154, .int .i64 r152.2.2.1, v156], Box b147 42 [.string r138.1, .int .i64 r138.2.1.1, v140, .int .i64 r138.2.2.1, v142], Box b133 42 [.string r124.1, .int .i64 r124.2.1.1, v126, .int .i64 r124.2.2.1, v128], Box b103 37 [.string a0, .int .i64 a1, u2, .int .i64 a3, u4], Own (sliceR (sliceR intR 3) 22) [v154] r152.2.1.2, Own (sliceR (sliceR intR 3) 22) [v156] r152.2.2.2, Own (sliceR (sliceR intR 3) 22) [v140] r138.2.1.2] := hS.top 13 rfl
      replace hS : Sat w0 w181 [Own (sliceR (sliceR intR 3) 22) [v140] r138.2.1.2, Own (sliceR (sliceR intR 3) 22) [v142] r138.2.2.2, Own (sliceR (sliceR intR 3) 22) [v126] r124.2.1.2, Own (sliceR (sliceR intR 3) 22) [v128] r124.2.2.2, Own (sliceR (sliceR intR 3) 22) [v118] r116.2.1.2, Own (sliceR (sliceR intR 3) 22) [v120] r116.2.2.2, Own (sliceR (sliceR intR 3) 22) [v177] r175.2.1.2, Own (sliceR (sliceR intR 3) 22) [v179] r175.2.2.2, Box b161 42 [.string r152.1, .int .i64 r152.2.1.1, v154, .int .i64 r152.2.2.1, v156], Box b147 42 [.string r138.1, .int .i64 r138.2.1.1, v140, .int .i64 r138.2.2.1, v142], Box b133 42 [.string r124.1, .int .i64 r124.2.1.1, v126, .int .i64 r124.2.2.1, v128], Box b103 37 [.string a0, .int .i64 a1, u2, .int .i64 a3, u4], Own (sliceR (sliceR intR 3) 22) [v154] r152.2.1.2, Own (sliceR (sliceR intR 3) 22) [v156] r152.2.2.2] := hS.top 13 rfl
      replace hS : Sat w0 w181 [Own (sliceR (sliceR intR 3) 22) [v156] r152.2.2.2, Own (sliceR (sliceR intR 3) 22) [v140] r138.2.1.2, Own (sliceR (sliceR intR 3) 22) [v142] r138.2.2.2, Own (sliceR (sliceR intR 3) 22) [v126] r124.2.1.2, Own (sliceR (sliceR intR 3) 22) [v128] r124.2.2.2, Own (sliceR (sliceR intR 3) 22) [v118] r116.2.1.2, Own (sliceR (sliceR intR 3) 22) [v120] r116.2.2.2, Own (sliceR (sliceR intR 3) 22) [v177] r175.2.1.2, Own (sliceR (sliceR intR 3) 22) [v179] r175.2.2.2, Box b161 42 [.string r152.1, .int .i64 r152.2.1.1, v154, .int .i64 r152.2.2.1, v156], Box b147 42 [.string r138.1, .int .i64 r138.2.1.1, v140, .int .i64 r138.2.2.1, v142], Box b133 42 [.string r124.1, .int .i64 r124.2.1.1, v126, .int .i64 r124.2.2.1, v128], Box b103 37 [.string a0, .int .i64 a1, u2, .int .i64 a3, u4], Own (sliceR (sliceR intR 3) 22) [v154] r152.2.1.2] := hS.top 13 rfl
      replace hS : Sat w0 w181 [Own (sliceR (sliceR intR 3) 22) [v154] r152.2.1.2, Own (sliceR (sliceR intR 3) 22) [v156] r152.2.2.2, Own (sliceR (sliceR intR 3) 22) [v140] r138.2.1.2, Own (sliceR (sliceR intR 3) 22) [v142] r138.2.2.2, Own (sliceR (sliceR intR 3) 22) [v126] r124.2.1.2, Own (sliceR (sliceR intR 3) 22) [v128] r124.2.2.2, Own (sliceR (sliceR intR 3) 22) [v118] r116.2.1.2, Own (sliceR (sliceR intR 3) 22) [v120] r116.2.2.2, Own (sliceR (sliceR intR 3) 22) [v177] r175.2.1.2, Own (sliceR (sliceR intR 3) 22) [v179] r175.2.2.2, Box b161 42 [.string r152.1, .int .i64 r152.2.1.1, v154, .int .i64 r152.2.2.1, v156], Box b147 42 [.string r138.1, .int .i64 r138.2.1.1, v140, .int .i64 r138.2.2.1, v142], Box b133 42 [.string r124.1, .int .i64 r124.2.1.1, v126, .int .i64 r124.2.2.1, v128], Box b103 37 [.string a0, .int .i64 a1, u2, .int .i64 a3, u4]] := hS.top 13 rfl
      replace hS : Sat w0 w181 [Box b103 37 [.string a0, .int .i64 a1, u2, .int .i64 a3, u4], Own (sliceR (sliceR intR 3) 22) [v154] r152.2.1.2, Own (sliceR (sliceR intR 3) 22) [v156] r152.2.2.2, Own (sliceR (sliceR intR 3) 22) [v140] r138.2.1.2, Own (sliceR (sliceR intR 3) 22) [v142] r138.2.2.2, Own (sliceR (sliceR intR 3) 22) [v126] r124.2.1.2, Own (sliceR (sliceR intR 3) 22) [v128] r124.2.2.2, Own (sliceR (sliceR intR 3) 22) [v118] r116.2.1.2, Own (sliceR (sliceR intR 3) 22) [v120] r116.2.2.2, Own (sliceR (sliceR intR 3) 22) [v177] r175.2.1.2, Own (sliceR (sliceR intR 3) 22) [v179] r175.2.2.2, Box b161 42 [.string r152.1, .int .i64 r152.2.1.1, v154, .int .i64 r152.2.2.1, v156], Box b147 42 [.string r138.1, .int .i64 r138.2.1.1, v140, .int .i64 r138.2.2.1, v142], Box b133 42 [.string r124.1, .int .i64 r124.2.1.1, v126, .int .i64 r124.2.2.1, v128]] := hS.top 13 rfl
      replace hS : Sat w0 w181 [Box b133 42 [.string r124.1, .int .i64 r124.2.1.1, v126, .int .i64 r124.2.2.1, v128], Box b103 37 [.string a0, .int .i64 a1, u2, .int .i64 a3, u4], Own (sliceR (sliceR intR 3) 22) [v154] r152.2.1.2, Own (sliceR (sliceR intR 3) 22) [v156] r152.2.2.2, Own (sliceR (sliceR intR 3) 22) [v140] r138.2.1.2, Own (sliceR (sliceR intR 3) 22) [v142] r138.2.2.2, Own (sliceR (sliceR intR 3) 22) [v126] r124.2.1.2, Own (sliceR (sliceR intR 3) 22) [v128] r124.2.2.2, Own (sliceR (sliceR intR 3) 22) [v118] r116.2.1.2, Own (sliceR (sliceR intR 3) 22) [v120] r116.2.2.2, Own (sliceR (sliceR intR 3) 22) [v177] r175.2.1.2, Own (sliceR (sliceR intR 3) 22) [v179] r175.2.2.2, Box b161 42 [.string r152.1, .int .i64 r152.2.1.1, v154, .int .i64 r152.2.2.1, v156], Box b147 42 [.string r138.1, .int .i64 r138.2.1.1, v140, .int .i64 r138.2.2.1, v142]] := hS.top 13 rfl
      replace hS : Sat w0 w181 [Box b147 42 [.string r138.1, .int .i64 r138.2.1.1, v140, .int .i64 r138.2.2.1, v142], Box b133 42 [.string r124.1, .int .i64 r124.2.1.1, v126, .int .i64 r124.2.2.1, v128], Box b103 37 [.string a0, .int .i64 a1, u2, .int .i64 a3, u4], Own (sliceR (sliceR intR 3) 22) [v154] r152.2.1.2, Own (sliceR (sliceR intR 3) 22) [v156] r152.2.2.2, Own (sliceR (sliceR intR 3) 22) [v140] r138.2.1.2, Own (sliceR (sliceR intR 3) 22) [v142] r138.2.2.2, Own (sliceR (sliceR intR 3) 22) [v126] r124.2.1.2, Own (sliceR (sliceR intR 3) 22) [v128] r124.2.2.2, Own (sliceR (sliceR intR 3) 22) [v118] r116.2.1.2, Own (sliceR (sliceR intR 3) 22) [v120] r116.2.2.2, Own (sliceR (sliceR intR 3) 22) [v177] r175.2.1.2, Own (sliceR (sliceR intR 3) 22) [v179] r175.2.2.2, Box b161 42 [.string r152.1, .int .i64 r152.2.1.1, v154, .int .i64 r152.2.2.1, v156]] := hS.top 13 rfl
      replace hS : Sat w0 w181 [Box b161 42 [.string r152.1, .int .i64 r152.2.1.1, v154, .int .i64 r152.2.2.1, v156], Box b147 42 [.string r138.1, .int .i64 r138.2.1.1, v140, .int .i64 r138.2.2.1, v142], Box b133 42 [.string r124.1, .int .i64 r124.2.1.1, v126, .int .i64 r124.2.2.1, v128], Box b103 37 [.string a0, .int .i64 a1, u2, .int .i64 a3, u4], Own (sliceR (sliceR intR 3) 22) [v154] r152.2.1.2, Own (sliceR (sliceR intR 3) 22) [v156] r152.2.2.2, Own (sliceR (sliceR intR 3) 22) [v140] r138.2.1.2, Own (sliceR (sliceR intR 3) 22) [v142] r138.2.2.2, Own (sliceR (sliceR intR 3) 22) [v126] r124.2.1.2, Own (sliceR (sliceR intR 3) 22) [v128] r124.2.2.2, Own (sliceR (sliceR intR 3) 22) [v118] r116.2.1.2, Own (sliceR (sliceR intR 3) 22) [v120] r116.2.2.2, Own (sliceR (sliceR intR 3) 22) [v177] r175.2.1.2, Own (sliceR (sliceR intR 3) 22) [v179] r175.2.2.2] := hS.top 13 rfl
      have hC := (hCd _).2 ⟨_, hS⟩
      have hoc183 := oc (hS.rdAt (R := (sliceR (sliceR intR 3) 22)) 4 rfl)
      have hoc184 := oc (hS.rdAt (R := (sliceR (sliceR intR 3) 22)) 5 rfl)
      have hoc185 := oc (hS.rdAt (R := (sliceR (sliceR intR 3) 22)) 6 rfl)
      have hoc186 := oc (hS.rdAt (R := (sliceR (sliceR intR 3) 22)) 7 rfl)
      have hoc187 := oc (hS.rdAt (R := (sliceR (sliceR intR 3) 22)) 8 rfl)
      have hoc188 := oc (hS.rdAt (R := (sliceR (sliceR intR 3) 22)) 9 rfl)
      have hoc189 := oc (hS.rdAt (R := (sliceR (sliceR intR 3) 22)) 10 rfl)
      have hoc190 := oc (hS.rdAt (R := (sliceR (sliceR intR 3) 22)) 11 rfl)
      have hoc191 := oc (hS.rdAt (R := (sliceR (sliceR intR 3) 22)) 12 rfl)
      have hoc192 := oc (hS.rdAt (R := (sliceR (sliceR intR 3) 22)) 13 rfl)
      refine ⟨fun _ => hC, ?_⟩
      refine al_one 3 (by kernel_rfl) rfl ?_
      replace hF := ob hF
      obtain ⟨r193, hr193, hF⟩ := hF
      refine el_call goes18 (laws_eqDelta_ok hz139 (hS.rdAt (R := (sliceR (sliceR intR 3) 22)) 6 rfl) (hS.rdAt (R := (sliceR (sliceR intR 3) 22)) 7 rfl) hz176 (hS.rdAt (R := (sliceR (sliceR intR 3) 22)) 12 rfl) (hS.rdAt (R := (sliceR (sliceR intR 3) 22)) 13 rfl) hr193) (congrArg List.toArray (mapc rfl (mapc rfl rfl))) (by decide) ?_
      rintro _ w194 ⟨rfl, hx195⟩
      refine ⟨_, rfl, ?_⟩
      replace hS := hS.ext hx195
      refine el_nil ?_
      replace hS : Sat w0 w194 [Own (sliceR (sliceR intR 3) 22) [v120] r116.2.2.2, Box b161 42 [.string r152.1, .int .i64 r152.2.1.1, v154, .int .i64 r152.2.2.1, v156], Box b147 42 [.string r138.1, .int .i64 r138.2.1.1, v140, .int .i64 r138.2.2.1, v142], Box b133 42 [.string r124.1, .int .i64 r124.2.1.1, v126, .int .i64 r124.2.2.1, v128], Box b103 37 [.string a0, .int .i64 a1, u2, .int .i64 a3, u4], Own (sliceR (sliceR intR 3) 22) [v154] r152.2.1.2, Own (sliceR (sliceR intR 3) 22) [v156] r152.2.2.2, Own (sliceR (sliceR intR 3) 22) [v140] r138.2.1.2, Own (sliceR (sliceR intR 3) 22) [v142] r138.2.2.2, Own (sliceR (sliceR intR 3) 22) [v126] r124.2.1.2, Own (sliceR (sliceR intR 3) 22) [v128] r124.2.2.2, Own (sliceR (sliceR intR 3) 22) [v118] r116.2.1.2, Own (sliceR (sliceR intR 3) 22) [v177] r175.2.1.2, Own (sliceR (sliceR intR 3) 22) [v179] r175.2.2.2] := hS.top 11 rfl
      replace hS : Sat w0 w194 [Own (sliceR (sliceR intR 3) 22) [v118] r116.2.1.2, Own (sliceR (sliceR intR 3) 22) [v120] r116.2.2.2, Box b161 42 [.string r152.1, .int .i64 r152.2.1.1, v154, .int .i64 r152.2.2.1, v156], Box b147 42 [.string r138.1, .int .i64 r138.2.1.1, v140, .int .i64 r138.2.2.1, v142], Box b133 42 [.string r124.1, .int .i64 r124.2.1.1, v126, .int .i64 r124.2.2.1, v128], Box b103 37 [.string a0, .int .i64 a1, u2, .int .i64 a3, u4], Own (sliceR (sliceR intR 3) 22) [v154] r152.2.1.2, Own (sliceR (sliceR intR 3) 22) [v156] r152.2.2.2, Own (sliceR (sliceR intR 3) 22) [v140] r138.2.1.2, Own (sliceR (sliceR intR 3) 22) [v142] r138.2.2.2, Own (sliceR (sliceR intR 3) 22) [v126] r124.2.1.2, Own (sliceR (sliceR intR 3) 22) [v128] r124.2.2.2, Own (sliceR (sliceR intR 3) 22) [v177] r175.2.1.2, Own (sliceR (sliceR intR 3) 22) [v179] r175.2.2.2] := hS.top 11 rfl
      replace hS : Sat w0 w194 [Own (sliceR (sliceR intR 3) 22) [v128] r124.2.2.2, Own (sliceR (sliceR intR 3) 22) [v118] r116.2.1.2, Own (sliceR (sliceR intR 3) 22) [v120] r116.2.2.2, Box b161 42 [.string r152.1, .int .i64 r152.2.1.1, v154, .int .i64 r152.2.2.1, v156], Box b147 42 [.string r138.1, .int .i64 r138.2.1.1, v140, .int .i64 r138.2.2.1, v142], Box b133 42 [.string r124.1, .int .i64 r124.2.1.1, v126, .int .i64 r124.2.2.1, v128], Box b103 37 [.string a0, .int .i64 a1, u2, .int .i64 a3, u4], Own (sliceR (sliceR intR 3) 22) [v154] r152.2.1.2, Own (sliceR (sliceR intR 3) 22) [v156] r152.2.2.2, Own (sliceR (sliceR intR 3) 22) [v140] r138.2.1.2, Own (sliceR (sliceR intR 3) 22) [v142] r138.2.2.2, Own (sliceR (sliceR intR 3) 22) [v126] r124.2.1.2, Own (sliceR (sliceR intR 3) 22) [v177] r175.2.1.2, Own (sliceR (sliceR intR 3) 22) [v179] r175.2.2.2] := hS.top 11 rfl
      replace hS : Sat w0 w194 [Own (sliceR (sliceR intR 3) 22) [v126] r124.2.1.2, Own (sliceR (sliceR intR 3) 22) [v128] r124.2.2.2, Own (sliceR (sliceR intR 3) 22) [v118] r116.2.1.2, Own (sliceR (sliceR intR 3) 22) [v120] r116.2.2.2, Box b161 42 [.string r152.1, .int .i64 r152.2.1.1, v154, .int .i64 r152.2.2.1, v156], Box b147 42 [.string r138.1, .int .i64 r138.2.1.1, v140, .int .i64 r138.2.2.1, v142], Box b133 42 [.string r124.1, .int .i64 r124.2.1.1, v126, .int .i64 r124.2.2.1, v128], Box b103 37 [.string a0, .int .i64 a1, u2, .int .i64 a3, u4], Own (sliceR (sliceR intR 3) 22) [v154] r152.2.1.2, Own (sliceR (sliceR intR 3) 22) [v156] r152.2.2.2, Own (sliceR (sliceR intR 3) 22) [v140] r138.2.1.2, Own (sliceR (sliceR intR 3) 22) [v142] r138.2.2.2, Own (sliceR (sliceR intR 3) 22) [v177] r175.2.1.2, Own (sliceR (sliceR intR 3) 22) [v179] r175.2.2.2] := hS.top 11 rfl
      replace hS : Sat w0 w194 [Own (sliceR (sliceR intR 3) 22) [v142] r138.2.2.2, Own (sliceR (sliceR intR 3) 22) [v126] r124.2.1.2, Own (sliceR (sliceR intR 3) 22) [v128] r124.2.2.2, Own (sliceR (sliceR intR 3) 22) [v118] r116.2.1.2, Own (sliceR (sliceR intR 3) 22) [v120] r116.2.2.2, Box b161 42 [.string r152.1, .int .i64 r152.2.1.1, v154, .int .i64 r152.2.2.1, v156], Box b147 42 [.string r138.1, .int .i64 r138.2.1.1, v140, .int .i64 r138.2.2.1, v142], Box b133 42 [.string r124.1, .int .i64 r124.2.1.1, v126, .int .i64 r124.2.2.1, v128], Box b103 37 [.string a0, .int .i64 a1, u2, .int .i64 a3, u4], Own (sliceR (sliceR intR 3) 22) [v154] r152.2.1.2, Own (sliceR (sliceR intR 3) 22) [v156] r152.2.2.2, Own (sliceR (sliceR intR 3) 22) [v140] r138.2.1.2, Own (sliceR (sliceR intR 3) 22) [v177] r175.2.1.2, Own (sliceR (sliceR intR 3) 22) [v179] r175.2.2.2] := hS.top 11 rfl
      replace hS : Sat w0 w194 [Own (sliceR (sliceR intR 3) 22) [v140] r138.2.1.2, Own (sliceR (sliceR intR 3) 22) [v142] r138.2.2.2, Own (sliceR (sliceR intR 3) 22) [v126] r124.2.1.2, Own (sliceR (sliceR intR 3) 22) [v128] r124.2.2.2, Own (sliceR (sliceR intR 3) 22) [v118] r116.2.1.2, Own (sliceR (sliceR intR 3) 22) [v120] r116.2.2.2, Box b161 42 [.string r152.1, .int .i64 r152.2.1.1, v154, .int .i64 r152.2.2.1, v156], Box b147 42 [.string r138.1, .int .i64 r138.2.1.1, v140, .int .i64 r138.2.2.1, v142], Box b133 42 [.string r124.1, .int .i64 r124.2.1.1, v126, .int .i64 r124.2.2.1, v128], Box b103 37 [.string a0, .int .i64 a1, u2, .int .i64 a3, u4], Own (sliceR (sliceR intR 3) 22) [v154] r152.2.1.2, Own (sliceR (sliceR intR 3) 22) [v156] r152.2.2.2, Own (sliceR (sliceR intR 3) 22) [v177] r175.2.1.2, Own (sliceR (sliceR intR 3) 22) [v179] r175.2.2.2] := hS.top 11 rfl
      replace hS : Sat w0 w194 [Own (sliceR (sliceR intR 3) 22) [v156] r152.2.2.2, Own (sliceR (sliceR intR 3) 22) [v140] r138.2.1.2, Own (sliceR (sliceR intR 3) 22) [v142] r138.2.2.2, Own (sliceR (sliceR intR 3) 22) [v126] r124.2.1.2, Own (sliceR (sliceR intR 3) 22) [v128] r124.2.2.2, Own (sliceR (sliceR intR 3) 22) [v118] r116.2.1.2, Own (sliceR (sliceR intR 3) 22) [v120] r116.2.2.2, Box b161 42 [.string r152.1, .int .i64 r152.2.1.1, v154, .int .i64 r152.2.2.1, v156], Box b147 42 [.string r138.1, .int .i64 r138.2.1.1, v140, .int .i64 r138.2.2.1, v142], Box b133 42 [.string r124.1, .int .i64 r124.2.1.1, v126, .int .i64 r124.2.2.1, v128], Box b103 37 [.string a0, .int .i64 a1, u2, .int .i64 a3, u4], Own (sliceR (sliceR intR 3) 22) [v154] r152.2.1.2, Own (sliceR (sliceR intR 3) 22) [v177] r175.2.1.2, Own (sliceR (sliceR intR 3) 22) [v179] r175.2.2.2] := hS.top 11 rfl
      replace hS : Sat w0 w194 [Own (sliceR (sliceR intR 3) 22) [v154] r152.2.1.2, Own (sliceR (sliceR intR 3) 22) [v156] r152.2.2.2, Own (sliceR (sliceR intR 3) 22) [v140] r138.2.1.2, Own (sliceR (sliceR intR 3) 22) [v142] r138.2.2.2, Own (sliceR (sliceR intR 3) 22) [v126] r124.2.1.2, Own (sliceR (sliceR intR 3) 22) [v128] r124.2.2.2, Own (sliceR (sliceR intR 3) 22) [v118] r116.2.1.2, Own (sliceR (sliceR intR 3) 22) [v120] r116.2.2.2, Box b161 42 [.string r152.1, .int .i64 r152.2.1.1, v154, .int .i64 r152.2.2.1, v156], Box b147 42 [.string r138.1, .int .i64 r138.2.1.1, v140, .int .i64 r138.2.2.1, v142], Box b133 42 [.string r124.1, .int .i64 r124.2.1.1, v126, .int .i64 r124.2.2.1, v128], Box b103 37 [.string a0, .int .i64 a1, u2, .int .i64 a3, u4], Own (sliceR (sliceR intR 3) 22) [v177] r175.2.1.2, Own (sliceR (sliceR intR 3) 22) [v179] r175.2.2.2] := hS.top 11 rfl
      replace hS : Sat w0 w194 [Box b103 37 [.string a0, .int .i64 a1, u2, .int .i64 a3, u4], Own (sliceR (sliceR intR 3) 22) [v154] r152.2.1.2, Own (sliceR (sliceR intR 3) 22) [v156] r152.2.2.2, Own (sliceR (sliceR intR 3) 22) [v140] r138.2.1.2, Own (sliceR (sliceR intR 3) 22) [v142] r138.2.2.2, Own (sliceR (sliceR intR 3) 22) [v126] r124.2.1.2, Own (sliceR (sliceR intR 3) 22) [v128] r124.2.2.2, Own (sliceR (sliceR intR 3) 22) [v118] r116.2.1.2, Own (sliceR (sliceR intR 3) 22) [v120] r116.2.2.2, Box b161 42 [.string r152.1, .int .i64 r152.2.1.1, v154, .int .i64 r152.2.2.1, v156], Box b147 42 [.string r138.1, .int .i64 r138.2.1.1, v140, .int .i64 r138.2.2.1, v142], Box b133 42 [.string r124.1, .int .i64 r124.2.1.1, v126, .int .i64 r124.2.2.1, v128], Own (sliceR (sliceR intR 3) 22) [v177] r175.2.1.2, Own (sliceR (sliceR intR 3) 22) [v179] r175.2.2.2] := hS.top 11 rfl
      replace hS : Sat w0 w194 [Box b133 42 [.string r124.1, .int .i64 r124.2.1.1, v126, .int .i64 r124.2.2.1, v128], Box b103 37 [.string a0, .int .i64 a1, u2, .int .i64 a3, u4], Own (sliceR (sliceR intR 3) 22) [v154] r152.2.1.2, Own (sliceR (sliceR intR 3) 22) [v156] r152.2.2.2, Own (sliceR (sliceR intR 3) 22) [v140] r138.2.1.2, Own (sliceR (sliceR intR 3) 22) [v142] r138.2.2.2, Own (sliceR (sliceR intR 3) 22) [v126] r124.2.1.2, Own (sliceR (sliceR intR 3) 22) [v128] r124.2.2.2, Own (sliceR (sliceR intR 3) 22) [v118] r116.2.1.2, Own (sliceR (sliceR intR 3) 22) [v120] r116.2.2.2, Box b161 42 [.string r152.1, .int .i64 r152.2.1.1, v154, .int .i64 r152.2.2.1, v156], Box b147 42 [.string r138.1, .int .i64 r138.2.1.1, v140, .int .i64 r138.2.2.1, v142], Own (sliceR (sliceR intR 3) 22) [v177] r175.2.1.2, Own (sliceR (sliceR intR 3) 22) [v179] r175.2.2.2] := hS.top 11 rfl
      replace hS : Sat w0 w194 [Box b147 42 [.string r138.1, .int .i64 r138.2.1.1, v140, .int .i64 r138.2.2.1, v142], Box b133 42 [.string r124.1, .int .i64 r124.2.1.1, v126, .int .i64 r124.2.2.1, v128], Box b103 37 [.string a0, .int .i64 a1, u2, .int .i64 a3, u4], Own (sliceR (sliceR intR 3) 22) [v154] r152.2.1.2, Own (sliceR (sliceR intR 3) 22) [v156] r152.2.2.2, Own (sliceR (sliceR intR 3) 22) [v140] r138.2.1.2, Own (sliceR (sliceR intR 3) 22) [v142] r138.2.2.2, Own (sliceR (sliceR intR 3) 22) [v126] r124.2.1.2, Own (sliceR (sliceR intR 3) 22) [v128] r124.2.2.2, Own (sliceR (sliceR intR 3) 22) [v118] r116.2.1.2, Own (sliceR (sliceR intR 3) 22) [v120] r116.2.2.2, Box b161 42 [.string r152.1, .int .i64 r152.2.1.1, v154, .int .i64 r152.2.2.1, v156], Own (sliceR (sliceR intR 3) 22) [v177] r175.2.1.2, Own (sliceR (sliceR intR 3) 22) [v179] r175.2.2.2] := hS.top 11 rfl
      replace hS : Sat w0 w194 [Box b161 42 [.string r152.1, .int .i64 r152.2.1.1, v154, .int .i64 r152.2.2.1, v156], Box b147 42 [.string r138.1, .int .i64 r138.2.1.1, v140, .int .i64 r138.2.2.1, v142], Box b133 42 [.string r124.1, .int .i64 r124.2.1.1, v126, .int .i64 r124.2.2.1, v128], Box b103 37 [.string a0, .int .i64 a1, u2, .int .i64 a3, u4], Own (sliceR (sliceR intR 3) 22) [v154] r152.2.1.2, Own (sliceR (sliceR intR 3) 22) [v156] r152.2.2.2, Own (sliceR (sliceR intR 3) 22) [v140] r138.2.1.2, Own (sliceR (sliceR intR 3) 22) [v142] r138.2.2.2, Own (sliceR (sliceR intR 3) 22) [v126] r124.2.1.2, Own (sliceR (sliceR intR 3) 22) [v128] r124.2.2.2, Own (sliceR (sliceR intR 3) 22) [v118] r116.2.1.2, Own (sliceR (sliceR intR 3) 22) [v120] r116.2.2.2, Own (sliceR (sliceR intR 3) 22) [v177] r175.2.1.2, Own (sliceR (sliceR intR 3) 22) [v179] r175.2.2.2] := hS.top 11 rfl
      have hC := (hCd _).2 ⟨_, hS⟩
      refine ⟨fun _ => hC, ?_⟩
      refine al_p (v := .bool (!r193)) (by kernel_rfl) 4 rfl rfl (by decide) hC (by kernel_rfl) (by kernel_rfl) (sv_on rfl (fun w' hw' => by obtain ⟨_, hS⟩ := (hCd _).1 hw'; exact (pv_not rfl))) ?_
      refine al_nil (by kernel_rfl) ?_
      refine hQ172 _ _ _ ?_
      refine thn_n ?_
      replace hF := oif hF
      rcases hF with ⟨hb196, hF⟩ | ⟨hb196, hF⟩
      · refine cw_cond_f rfl (bnot_t hb196) ?_
        refine cw_skip ?_
        refine hQ171 _ _ _ ?_
        refine thn_n ?_
        refine cw_seq ?_
        refine cw_gen ?_
        intro Q197 hQ197
        refine cw_reg ?_
        refine el_pv (v := .int .i64 1) (pv_assign rfl) (by decide) ?_
        refine el_nil ?_
        refine hQ197 _ _ _ ?_
        refine thn_n ?_
        refine cw_seq ?_
        refine cw_gen ?_
        intro Q198 hQ198
        refine cw_reg ?_
        refine el_pv (v := .agg #[.string r138.1, .int .i64 r138.2.1.1, v140, .int .i64 r138.2.2.1, v142]) (pv_loada (cs := [.string r138.1, .int .i64 r138.2.1.1, v140, .int .i64 r138.2.2.1, v142]) rfl rfl (boxc0 (hS.boxAt 1 rfl))) (by decide) ?_
        refine el_pv (v := .int .i64 1) (pv_move rfl) (by decide) ?_
        replace hS : Sat w0 w194 [Own (sliceR (sliceR intR 3) 22) [v142] r138.2.2.2, Box b161 42 [.string r152.1, .int .i64 r152.2.1.1, v154, .int .i64 r152.2.2.1, v156], Box b147 42 [.string r138.1, .int .i64 r138.2.1.1, v140, .int .i64 r138.2.2.1, v142], Box b133 42 [.string r124.1, .int .i64 r124.2.1.1, v126, .int .i64 r124.2.2.1, v128], Box b103 37 [.string a0, .int .i64 a1, u2, .int .i64 a3, u4], Own (sliceR (sliceR intR 3) 22) [v154] r152.2.1.2, Own (sliceR (sliceR intR 3) 22) [v156] r152.2.2.2, Own (sliceR (sliceR intR 3) 22) [v140] r138.2.1.2, Own (sliceR (sliceR intR 3) 22) [v126] r124.2.1.2, Own (sliceR (sliceR intR 3) 22) [v128] r124.2.2.2, Own (sliceR (sliceR intR 3) 22) [v118] r116.2.1.2, Own (sliceR (sliceR intR 3) 22) [v120] r116.2.2.2, Own (sliceR (sliceR intR 3) 22) [v177] r175.2.1.2, Own (sliceR (sliceR intR 3) 22) [v179] r175.2.2.2] := hS.top 7 rfl
        replace hS : Sat w0 w194 [Own (sliceR (sliceR intR 3) 22) [v140] r138.2.1.2, Own (sliceR (sliceR intR 3) 22) [v142] r138.2.2.2, Box b161 42 [.string r152.1, .int .i64 r152.2.1.1, v154, .int .i64 r152.2.2.1, v156], Box b147 42 [.string r138.1, .int .i64 r138.2.1.1, v140, .int .i64 r138.2.2.1, v142], Box b133 42 [.string r124.1, .int .i64 r124.2.1.1, v126, .int .i64 r124.2.2.1, v128], Box b103 37 [.string a0, .int .i64 a1, u2, .int .i64 a3, u4], Own (sliceR (sliceR intR 3) 22) [v154] r152.2.1.2, Own (sliceR (sliceR intR 3) 22) [v156] r152.2.2.2, Own (sliceR (sliceR intR 3) 22) [v126] r124.2.1.2, Own (sliceR (sliceR intR 3) 22) [v128] r124.2.2.2, Own (sliceR (sliceR intR 3) 22) [v118] r116.2.1.2, Own (sliceR (sliceR intR 3) 22) [v120] r116.2.2.2, Own (sliceR (sliceR intR 3) 22) [v177] r175.2.1.2, Own (sliceR (sliceR intR 3) 22) [v179] r175.2.2.2] := hS.top 7 rfl
        replace hF := ob hF
        obtain ⟨r199, hr199, hF⟩ := hF
        refine el_call goes21 (laws_markDelta_ok hS hr199) (congrArg List.toArray (mapc rfl (mapc rfl rfl))) (by decide) ?_
        rintro _ w200 ⟨rfl, hS⟩
        refine ⟨_, rfl, ?_⟩
        replace hS : Sat w0 w200 [Own (sliceR (sliceR intR 3) 22) [v140] r199.2.1, Own (sliceR (sliceR intR 3) 22) [v142] r199.2.2, Box b161 42 [.string r152.1, .int .i64 r152.2.1.1, v154, .int .i64 r152.2.2.1, v156], Box b147 42 [.string r138.1, .int .i64 r138.2.1.1, v140, .int .i64 r138.2.2.1, v142], Box b133 42 [.string r124.1, .int .i64 r124.2.1.1, v126, .int .i64 r124.2.2.1, v128], Box b103 37 [.string a0, .int .i64 a1, u2, .int .i64 a3, u4], Own (sliceR (sliceR intR 3) 22) [v154] r152.2.1.2, Own (sliceR (sliceR intR 3) 22) [v156] r152.2.2.2, Own (sliceR (sliceR intR 3) 22) [v126] r124.2.1.2, Own (sliceR (sliceR intR 3) 22) [v128] r124.2.2.2, Own (sliceR (sliceR intR 3) 22) [v118] r116.2.1.2, Own (sliceR (sliceR intR 3) 22) [v120] r116.2.2.2, Own (sliceR (sliceR intR 3) 22) [v177] r175.2.1.2, Own (sliceR (sliceR intR 3) 22) [v179] r175.2.2.2] := hS
        refine el_pv (v := .int .i64 r199.1) (pv_assign rfl) (by decide) ?_
        refine el_nil ?_
        refine hQ198 _ _ _ ?_
        refine thn_n ?_
        refine cw_seq ?_
        refine cw_gen ?_
        intro Q201 hQ201
        refine cw_seq ?_
        refine cw_gen ?_
        intro Q202 hQ202
        refine cw_reg ?_
        refine el_pv (v := .int .i64 r199.1) (pv_move rfl) (by decide) ?_
        refine el_pv (v := .bool (decide (r199.1 < 0))) (pv_lss rfl rfl) (by decide) ?_
        refine el_pv (v := .bool (decide (r199.1 < 0))) (pv_move rfl) (by decide) ?_
        replace hF := oif hF
        rcases hF with ⟨hb203, hF⟩ | ⟨hb203, hF⟩
        · refine el_off rfl hb203 rfl (by decide) ?_
          refine el_off rfl hb203 rfl (by decide) ?_
          refine el_off rfl hb203 rfl (by decide) ?_
          refine el_off rfl hb203 rfl (by decide) ?_
          refine el_pv (v := .bool true) (pv_pick_t rfl hb203 rfl) (by decide) ?_
          refine el_nil ?_
          refine hQ202 _ _ _ ?_
          refine thn_n ?_
          refine cw_cond_t rfl rfl ?_
          refine cw_seq ?_
          refine cw_gen ?_
          intro Q204 hQ204
          refine cw_reg ?_
          refine el_pv (v := .bool false) (pv_assign rfl) (by decide) ?_
          refine el_nil ?_
          refine hQ204 _ _ _ ?_
          refine thn_n ?_
          refine cw_ret ?_
          refine hQ201 _ _ _ ?_
          refine thn_r ?_
          refine fin1 rfl rfl ?_
          have hr := Option.some.inj hF
          exact ⟨congrArg (fun (r : Bool) => Ending.returned (.bool r)) hr, hS.below⟩
        · refine el_on rfl hb203 ?_
          refine el_pv (v := .agg #[.string r152.1, .int .i64 r152.2.1.1, v154, .int .i64 r152.2.2.1, v156]) (pv_loada (cs := [.string r152.1, .int .i64 r152.2.1.1, v154, .int .i64 r152.2.2.1, v156]) rfl rfl (boxc0 (hS.boxAt 2 rfl))) (by decide) ?_
          refine el_on rfl hb203 ?_
          refine el_pv (v := .agg #[.string r124.1, .int .i64 r124.2.1.1, v126, .int .i64 r124.2.2.1, v128]) (pv_loada (cs := [.string r124.1, .int .i64 r124.2.1.1, v126, .int .i64 r124.2.2.1, v128]) rfl rfl (boxc0 (hS.boxAt 4 rfl))) (by decide) ?_
          refine el_on rfl hb203 ?_
          replace hF := ob hF
          obtain ⟨r205, hr205, hF⟩ := hF
          refine el_call goes18 (laws_eqDelta_ok hz153 (hS.rdAt (R := (sliceR (sliceR intR 3) 22)) 6 rfl) (hS.rdAt (R := (sliceR (sliceR intR 3) 22)) 7 rfl) hz125 (hS.rdAt (R := (sliceR (sliceR intR 3) 22)) 8 rfl) (hS.rdAt (R := (sliceR (sliceR intR 3) 22)) 9 rfl) hr205) (congrArg List.toArray (mapc rfl (mapc rfl rfl))) (by decide) ?_
          rintro _ w206 ⟨rfl, hx207⟩
          refine ⟨_, rfl, ?_⟩
          replace hS := hS.ext hx207
          refine el_on rfl hb203 ?_
          refine el_pv (v := .bool (!r205)) (pv_not rfl) (by decide) ?_
          refine el_pv (v := .bool (!r205)) (pv_pick_f rfl hb203 rfl) (by decide) ?_
          refine el_nil ?_
          refine hQ202 _ _ _ ?_
          refine thn_n ?_
          replace hF := oif hF
          rcases hF with ⟨hb208, hF⟩ | ⟨hb208, hF⟩
          · refine cw_cond_f rfl (bnot_t hb208) ?_
            refine cw_skip ?_
            refine hQ201 _ _ _ ?_
            refine thn_n ?_
            refine cw_seq ?_
            refine cw_gen ?_
            intro Q209 hQ209
            refine cw_reg ?_
            refine el_pv (v := .int .i64 1) (pv_assign rfl) (by decide) ?_
            refine el_nil ?_
            refine hQ209 _ _ _ ?_
            refine thn_n ?_
            refine cw_seq ?_
            refine cw_gen ?_
            intro Q210 hQ210
            refine cw_reg ?_
            refine el_pv (v := .agg #[.string r152.1, .int .i64 r152.2.1.1, v154, .int .i64 r152.2.2.1, v156]) (pv_loada (cs := [.string r152.1, .int .i64 r152.2.1.1, v154, .int .i64 r152.2.2.1, v156]) rfl rfl (boxc0 (hS.boxAt 2 rfl))) (by decide) ?_
            refine el_pv (v := .int .i64 1) (pv_move rfl) (by decide) ?_
            replace hS : Sat w0 w206 [Own (sliceR (sliceR intR 3) 22) [v156] r152.2.2.2, Own (sliceR (sliceR intR 3) 22) [v140] r199.2.1, Own (sliceR (sliceR intR 3) 22) [v142] r199.2.2, Box b161 42 [.string r152.1, .int .i64 r152.2.1.1, v154, .int .i64 r152.2.2.1, v156], Box b147 42 [.string r138.1, .int .i64 r138.2.1.1, v140, .int .i64 r138.2.2.1, v142], Box b133 42 [.string r124.1, .int .i64 r124.2.1.1, v126, .int .i64 r124.2.2.1, v128], Box b103 37 [.string a0, .int .i64 a1, u2, .int .i64 a3, u4], Own (sliceR (sliceR intR 3) 22) [v154] r152.2.1.2, Own (sliceR (sliceR intR 3) 22) [v126] r124.2.1.2, Own (sliceR (sliceR intR 3) 22) [v128] r124.2.2.2, Own (sliceR (sliceR intR 3) 22) [v118] r116.2.1.2, Own (sliceR (sliceR intR 3) 22) [v120] r116.2.2.2, Own (sliceR (sliceR intR 3) 22) [v177] r175.2.1.2, Own (sliceR (sliceR intR 3) 22) [v179] r175.2.2.2] := hS.top 7 rfl
            replace hS : Sat w0 w206 [Own (sliceR (sliceR intR 3) 22) [v154] r152.2.1.2, Own (sliceR (sliceR intR 3) 22) [v156] r152.2.2.2, Own (sliceR (sliceR intR 3) 22) [v140] r199.2.1, Own (sliceR (sliceR intR 3) 22) [v142] r199.2.2, Box b161 42 [.string r152.1, .int .i64 r152.2.1.1, v154, .int .i64 r152.2.2.1, v156], Box b147 42 [.string r138.1, .int .i64 r138.2.1.1, v140, .int .i64 r138.2.2.1, v142], Box b133 42 [.string r124.1, .int .i64 r124.2.1.1, v126, .int .i64 r124.2.2.1, v128], Box b103 37 [.string a0, .int .i64 a1, u2, .int .i64 a3, u4], Own (sliceR (sliceR intR 3) 22) [v126] r124.2.1.2, Own (sliceR (sliceR intR 3) 22) [v128] r124.2.2.2, Own (sliceR (sliceR intR 3) 22) [v118] r116.2.1.2, Own (sliceR (sliceR intR 3) 22) [v120] r116.2.2.2, Own (sliceR (sliceR intR 3) 22) [v177] r175.2.1.2, Own (sliceR (sliceR intR 3) 22) [v179] r175.2.2.2] := hS.top 7 rfl
            replace hF := ob hF
            obtain ⟨r211, hr211, hF⟩ := hF
            refine el_call goes21 (laws_markDelta_ok hS hr211) (congrArg List.toArray (mapc rfl (mapc rfl rfl))) (by decide) ?_
            rintro _ w212 ⟨rfl, hS⟩
            refine ⟨_, rfl, ?_⟩
            replace hS : Sat w0 w212 [Own (sliceR (sliceR intR 3) 22) [v154] r211.2.1, Own (sliceR (sliceR intR 3) 22) [v156] r211.2.2, Own (sliceR (sliceR intR 3) 22) [v140] r199.2.1, Own (sliceR (sliceR intR 3) 22) [v142] r199.2.2, Box b161 42 [.string r152.1, .int .i64 r152.2.1.1, v154, .int .i64 r152.2.2.1, v156], Box b147 42 [.string r138.1, .int .i64 r138.2.1.1, v140, .int .i64 r138.2.2.1, v142], Box b133 42 [.string r124.1, .int .i64 r124.2.1.1, v126, .int .i64 r124.2.2.1, v128], Box b103 37 [.string a0, .int .i64 a1, u2, .int .i64 a3, u4], Own (sliceR (sliceR intR 3) 22) [v126] r124.2.1.2, Own (sliceR (sliceR intR 3) 22) [v128] r124.2.2.2, Own (sliceR (sliceR intR 3) 22) [v118] r116.2.1.2, Own (sliceR (sliceR intR 3) 22) [v120] r116.2.2.2, Own (sliceR (sliceR intR 3) 22) [v177] r175.2.1.2, Own (sliceR (sliceR intR 3) 22) [v179] r175.2.2.2] := hS
            refine el_pv (v := .int .i64 r211.1) (pv_assign rfl) (by decide) ?_
            refine el_nil ?_
            refine hQ210 _ _ _ ?_
            refine thn_n ?_
            refine cw_seq ?_
            refine cw_gen ?_
            intro Q213 hQ213
            refine cw_reg ?_
            refine el_pv (v := .int .i64 1) (pv_assign rfl) (by decide) ?_
            refine el_nil ?_
            refine hQ213 _ _ _ ?_
            refine thn_n ?_
            refine cw_seq ?_
            refine cw_gen ?_
            intro Q214 hQ214
            refine cw_reg ?_
            refine el_pv (v := .agg #[.string r152.1, .int .i64 r152.2.1.1, v154, .int .i64 r152.2.2.1, v156]) (pv_loada (cs := [.string r152.1, .int .i64 r152.2.1.1, v154, .int .i64 r152.2.2.1, v156]) rfl rfl (boxc0 (hS.boxAt 4 rfl))) (by decide) ?_
            refine el_pv (v := .int .i64 1) (pv_move rfl) (by decide) ?_
            replace hF := ob hF
            obtain ⟨r215, hr215, hF⟩ := hF
            refine el_call goes22 (laws_heldDelta_ok hz153 (hS.rdAt (R := (sliceR (sliceR intR 3) 22)) 0 rfl) (hS.rdAt (R := (sliceR (sliceR intR 3) 22)) 1 rfl) hr215) (congrArg List.toArray (mapc rfl (mapc rfl rfl))) (by decide) ?_
            rintro _ w216 ⟨rfl, hx217⟩
            refine ⟨_, rfl, ?_⟩
            replace hS := hS.ext hx217
            refine el_pv (v := .int .i64 r215) (pv_assign rfl) (by decide) ?_
            refine el_nil ?_
            refine hQ214 _ _ _ ?_
            refine thn_n ?_
            refine cw_seq ?_
            refine cw_gen ?_
            intro Q218 hQ218
            refine cw_seq ?_
            refine cw_gen ?_
            intro Q219 hQ219
            refine cw_reg ?_
            refine el_pv (v := .int .i64 r215) (pv_move rfl) (by decide) ?_
            refine el_pv (v := .bool (decide (r215 < 0))) (pv_lss rfl rfl) (by decide) ?_
            refine el_nil ?_
            refine hQ219 _ _ _ ?_
            refine thn_n ?_
            replace hF := oif hF
            rcases hF with ⟨hb220, hF⟩ | ⟨hb220, hF⟩
            · refine cw_cond_t rfl hb220 ?_
              refine cw_seq ?_
              refine cw_gen ?_
              intro Q221 hQ221
              refine cw_reg ?_
              refine el_pv (v := .bool false) (pv_assign rfl) (by decide) ?_
              refine el_nil ?_
              refine hQ221 _ _ _ ?_
              refine thn_n ?_
              refine cw_ret ?_
              refine hQ218 _ _ _ ?_
              refine thn_r ?_
              refine fin1 rfl rfl ?_
              have hr := Option.some.inj hF
              exact ⟨congrArg (fun (r : Bool) => Ending.returned (.bool r)) hr, hS.below⟩
            · refine cw_cond_f rfl hb220 ?_
              refine cw_skip ?_
              refine hQ218 _ _ _ ?_
              refine thn_n ?_
              refine cw_seq ?_
              refine cw_gen ?_
              intro Q222 hQ222
              refine cw_seq ?_
              refine cw_gen ?_
              intro Q223 hQ223
              refine cw_reg ?_
              refine el_pv (v := .int .i64 r215) (pv_move rfl) (by decide) ?_
              refine el_pv (v := .int .i64 r211.1) (pv_move rfl) (by decide) ?_
              refine el_pv (v := .bool (r215 != r211.1)) (pv_neq rfl rfl) (by decide) ?_
              refine el_nil ?_
              refine hQ223 _ _ _ ?_
              refine thn_n ?_
              replace hF := oif hF
              rcases hF with ⟨hb224, hF⟩ | ⟨hb224, hF⟩
              · refine cw_cond_t rfl hb224 ?_
                refine cw_seq ?_
                refine cw_gen ?_
                intro Q225 hQ225
                refine cw_reg ?_
                refine el_pv (v := .bool false) (pv_assign rfl) (by decide) ?_
                refine el_nil ?_
                refine hQ225 _ _ _ ?_
                refine thn_n ?_
                refine cw_ret ?_
                refine hQ222 _ _ _ ?_
                refine thn_r ?_
                refine fin1 rfl rfl ?_
                have hr := Option.some.inj hF
                exact ⟨congrArg (fun (r : Bool) => Ending.returned (.bool r)) hr, hS.below⟩
              · refine cw_cond_f rfl hb224 ?_
                refine cw_skip ?_
                refine hQ222 _ _ _ ?_
                refine thn_n ?_
                refine cw_seq ?_
                refine cw_gen ?_
                intro Q226 hQ226
                refine cw_reg ?_
                refine el_pv (v := .agg #[.string a0, .int .i64 a1, u2, .int .i64 a3, u4]) (pv_loada (cs := [.string a0, .int .i64 a1, u2, .int .i64 a3, u4]) rfl rfl (boxc0 (hS.boxAt 7 rfl))) (by decide) ?_
                replace hF := ob hF
                obtain ⟨r227, hr227, hF⟩ := hF
                refine el_call goes16 (laws_toDelta_ok ha0 (hS.up ha2) (hS.up ha4) hr227) (congrArg List.toArray (mapc rfl rfl)) (by decide) ?_
                rintro _ w233 ⟨v229, v231, rfl, hS', hz228⟩
                refine ⟨_, rfl, ?_⟩
                have hx234 := hS'.below
                replace hS := hS.call2 hS'
                replace hF := ob hF
                obtain ⟨r235, hr235, hF⟩ := hF
                refine el_call goes20 (impl_InvertDelta_ok hz228 (hS.rdAt (R := (sliceR (sliceR intR 3) 22)) 0 rfl) (hS.rdAt (R := (sliceR (sliceR intR 3) 22)) 1 rfl) hr235) (congrArg List.toArray (mapc rfl rfl)) (by decide) ?_
                rintro _ w241 ⟨v237, v239, rfl, hS', hz236⟩
                refine ⟨_, rfl, ?_⟩
                have hx242 := hS'.below
                replace hS := hS.call2 hS'
                refine el_alloc hS (by decide) ?_
                intro w243 b244 hS hx245
                refine el_storev (hS.top 0 rfl) rfl [.string r235.1, .int .i64 r235.2.1.1, v237, .int .i64 r235.2.2.1, v239] rfl rfl (of_decide_eq_true rfl) (all_cons rfl (all_cons rfl (all_cons (oc (hS.rdAt (R := (sliceR (sliceR intR 3) 22)) 1 rfl)) (all_cons rfl (all_cons (oc (hS.rdAt (R := (sliceR (sliceR intR 3) 22)) 2 rfl)) rfl))))) ?_
                intro w247 hS
                replace hS : Sat w0 w247 [Box b244 42 [.string r235.1, .int .i64 r235.2.1.1, v237, .int .i64 r235.2.2.1, v239], Own (sliceR (sliceR intR 3) 22) [v237] r235.2.1.2, Own (sliceR (sliceR intR 3) 22) [v239] r235.2.2.2, Own (sliceR (sliceR intR 3) 22) [v229] r227.2.1.2, Own (sliceR (sliceR intR 3) 22) [v231] r227.2.2.2, Own (sliceR (sliceR intR 3) 22) [v154] r211.2.1, Own (sliceR (sliceR intR 3) 22) [v156] r211.2.2, Own (sliceR (sliceR intR 3) 22) [v140] r199.2.1, Own (sliceR (sliceR intR 3) 22) [v142] r199.2.2, Box b161 42 [.string r152.1, .int .i64 r152.2.1.1, v154, .int .i64 r152.2.2.1, v156], Box b147 42 [.string r138.1, .int .i64 r138.2.1.1, v140, .int .i64 r138.2.2.1, v142], Box b133 42 [.string r124.1, .int .i64 r124.2.1.1, v126, .int .i64 r124.2.2.1, v128], Box b103 37 [.string a0, .int .i64 a1, u2, .int .i64 a3, u4], Own (sliceR (sliceR intR 3) 22) [v126] r124.2.1.2, Own (sliceR (sliceR intR 3) 22) [v128] r124.2.2.2, Own (sliceR (sliceR intR 3) 22) [v118] r116.2.1.2, Own (sliceR (sliceR intR 3) 22) [v120] r116.2.2.2, Own (sliceR (sliceR intR 3) 22) [v177] r175.2.1.2, Own (sliceR (sliceR intR 3) 22) [v179] r175.2.2.2] := hS
                refine el_nil ?_
                refine hQ226 _ _ _ ?_
                refine thn_n ?_
                refine cw_seq ?_
                refine cw_gen ?_
                intro Q248 hQ248
                refine cw_seq ?_
                refine cw_gen ?_
                intro Q249 hQ249
                refine cw_reg ?_
                refine el_pv (v := .agg #[.string r235.1, .int .i64 r235.2.1.1, v237, .int .i64 r235.2.2.1, v239]) (pv_loada (cs := [.string r235.1, .int .i64 r235.2.1.1, v237, .int .i64 r235.2.2.1, v239]) rfl rfl (boxc0 (hS.boxAt 0 rfl))) (by decide) ?_
                refine el_pv (v := .agg #[.string r124.1, .int .i64 r124.2.1.1, v126, .int .i64 r124.2.2.1, v128]) (pv_loada (cs := [.string r124.1, .int .i64 r124.2.1.1, v126, .int .i64 r124.2.2.1, v128]) rfl rfl (boxc0 (hS.boxAt 11 rfl))) (by decide) ?_
                replace hF := ob hF
                obtain ⟨r250, hr250, hF⟩ := hF
                refine el_call goes18 (laws_eqDelta_ok hz236 (hS.rdAt (R := (sliceR (sliceR intR 3) 22)) 1 rfl) (hS.rdAt (R := (sliceR (sliceR intR 3) 22)) 2 rfl) hz125 (hS.rdAt (R := (sliceR (sliceR intR 3) 22)) 13 rfl) (hS.rdAt (R := (sliceR (sliceR intR 3) 22)) 14 rfl) hr250) (congrArg List.toArray (mapc rfl (mapc rfl rfl))) (by decide) ?_
                rintro _ w251 ⟨rfl, hx252⟩
                refine ⟨_, rfl, ?_⟩
                replace hS := hS.ext hx252
                refine el_pv (v := .bool (!r250)) (pv_not rfl) (by decide) ?_
                refine el_nil ?_
                refine hQ249 _ _ _ ?_
                refine thn_n ?_
                replace hF := oif hF
                rcases hF with ⟨hb253, hF⟩ | ⟨hb253, hF⟩
                · refine cw_cond_f rfl (bnot_t hb253) ?_
                  refine cw_skip ?_
                  refine hQ248 _ _ _ ?_
                  refine thn_n ?_
                  refine cw_seq ?_
                  refine cw_gen ?_
                  intro Q254 hQ254
                  refine cw_reg ?_
                  refine el_pv (v := .int .i64 1) (pv_assign rfl) (by decide) ?_
                  refine el_nil ?_
                  refine hQ254 _ _ _ ?_
                  refine thn_n ?_
                  refine cw_seq ?_
                  refine cw_gen ?_
                  intro Q255 hQ255
                  refine cw_reg ?_
                  refine el_pv (v := .agg #[.string r152.1, .int .i64 r152.2.1.1, v154, .int .i64 r152.2.2.1, v156]) (pv_loada (cs := [.string r152.1, .int .i64 r152.2.1.1, v154, .int .i64 r152.2.2.1, v156]) rfl rfl (boxc0 (hS.boxAt 9 rfl))) (by decide) ?_
                  refine el_pv (v := .int .i64 1) (pv_move rfl) (by decide) ?_
                  replace hF := ob hF
                  obtain ⟨r256, hr256, hF⟩ := hF
                  refine el_call goes22 (laws_heldDelta_ok hz153 (hS.rdAt (R := (sliceR (sliceR intR 3) 22)) 5 rfl) (hS.rdAt (R := (sliceR (sliceR intR 3) 22)) 6 rfl) hr256) (congrArg List.toArray (mapc rfl (mapc rfl rfl))) (by decide) ?_
                  rintro _ w257 ⟨rfl, hx258⟩
                  refine ⟨_, rfl, ?_⟩
                  replace hS := hS.ext hx258
                  refine el_pv (v := .int .i64 r256) (pv_assign rfl) (by decide) ?_
                  refine el_nil ?_
                  refine hQ255 _ _ _ ?_
                  refine thn_n ?_
                  refine cw_seq ?_
                  refine cw_gen ?_
                  intro Q259 hQ259
                  refine cw_seq ?_
                  refine cw_gen ?_
                  intro Q260 hQ260
                  refine cw_reg ?_
                  refine el_pv (v := .int .i64 r256) (pv_move rfl) (by decide) ?_
                  refine el_pv (v := .bool (decide (r256 < 0))) (pv_lss rfl rfl) (by decide) ?_
                  refine el_nil ?_
                  refine hQ260 _ _ _ ?_
                  refine thn_n ?_
                  replace hF := oif hF
                  rcases hF with ⟨hb261, hF⟩ | ⟨hb261, hF⟩
                  · refine cw_cond_t rfl hb261 ?_
                    refine cw_seq ?_
                    refine cw_gen ?_
                    intro Q262 hQ262
                    refine cw_reg ?_
                    refine el_pv (v := .bool false) (pv_assign rfl) (by decide) ?_
                    refine el_nil ?_
                    refine hQ262 _ _ _ ?_
                    refine thn_n ?_
                    refine cw_ret ?_
                    refine hQ259 _ _ _ ?_
                    refine thn_r ?_
                    refine fin1 rfl rfl ?_
                    have hr := Option.some.inj hF
                    exact ⟨congrArg (fun (r : Bool) => Ending.returned (.bool r)) hr, hS.below⟩
                  · refine cw_cond_f rfl hb261 ?_
                    refine cw_skip ?_
                    refine hQ259 _ _ _ ?_
                    refine thn_n ?_
                    refine cw_seq ?_
                    refine cw_gen ?_
                    intro Q263 hQ263
                    refine cw_seq ?_
                    refine cw_gen ?_
                    intro Q264 hQ264
                    refine cw_reg ?_
                    refine el_pv (v := .int .i64 r256) (pv_move rfl) (by decide) ?_
                    refine el_pv (v := .int .i64 r211.1) (pv_move rfl) (by decide) ?_
                    refine el_pv (v := .bool (r256 != r211.1)) (pv_neq rfl rfl) (by decide) ?_
                    refine el_nil ?_
                    refine hQ264 _ _ _ ?_
                    refine thn_n ?_
                    replace hF := oif hF
                    rcases hF with ⟨hb265, hF⟩ | ⟨hb265, hF⟩
                    · refine cw_cond_t rfl hb265 ?_
                      refine cw_seq ?_
                      refine cw_gen ?_
                      intro Q266 hQ266
                      refine cw_reg ?_
                      refine el_pv (v := .bool false) (pv_assign rfl) (by decide) ?_
                      refine el_nil ?_
                      refine hQ266 _ _ _ ?_
                      refine thn_n ?_
                      refine cw_ret ?_
                      refine hQ263 _ _ _ ?_
                      refine thn_r ?_
                      refine fin1 rfl rfl ?_
                      have hr := Option.some.inj hF
                      exact ⟨congrArg (fun (r : Bool) => Ending.returned (.bool r)) hr, hS.below⟩
                    · refine cw_cond_f rfl hb265 ?_
                      refine cw_skip ?_
                      refine hQ263 _ _ _ ?_
                      refine thn_n ?_
                      refine cw_seq ?_
                      refine cw_gen ?_
                      intro Q267 hQ267
                      refine cw_reg ?_
                      refine el_pv (v := .bool true) (pv_assign rfl) (by decide) ?_
                      refine el_nil ?_
                      refine hQ267 _ _ _ ?_
                      refine thn_n ?_
                      refine cw_ret ?_
                      refine fin1 rfl rfl ?_
                      have hr := Option.some.inj hF
                      exact ⟨congrArg (fun (r : Bool) => Ending.returned (.bool r)) hr, hS.below⟩
                · refine cw_cond_t rfl (bnot_f hb253) ?_
                  refine cw_seq ?_
                  refine cw_gen ?_
                  intro Q268 hQ268
                  refine cw_reg ?_
                  refine el_pv (v := .bool false) (pv_assign rfl) (by decide) ?_
                  refine el_nil ?_
                  refine hQ268 _ _ _ ?_
                  refine thn_n ?_
                  refine cw_ret ?_
                  refine hQ248 _ _ _ ?_
                  refine thn_r ?_
                  refine fin1 rfl rfl ?_
                  have hr := Option.some.inj hF
                  exact ⟨congrArg (fun (r : Bool) => Ending.returned (.bool r)) hr, hS.below⟩
          · refine cw_cond_t rfl (bnot_f hb208) ?_
            refine cw_seq ?_
            refine cw_gen ?_
            intro Q269 hQ269
            refine cw_reg ?_
            refine el_pv (v := .bool false) (pv_assign rfl) (by decide) ?_
            refine el_nil ?_
            refine hQ269 _ _ _ ?_
            refine thn_n ?_
            refine cw_ret ?_
            refine hQ201 _ _ _ ?_
            refine thn_r ?_
            refine fin1 rfl rfl ?_
            have hr := Option.some.inj hF
            exact ⟨congrArg (fun (r : Bool) => Ending.returned (.bool r)) hr, hS.below⟩
      · refine cw_cond_t rfl (bnot_f hb196) ?_
        refine cw_seq ?_
        refine cw_gen ?_
        intro Q270 hQ270
        refine cw_reg ?_
        refine el_pv (v := .bool false) (pv_assign rfl) (by decide) ?_
        refine el_nil ?_
        refine hQ270 _ _ _ ?_
        refine thn_n ?_
        refine cw_ret ?_
        refine hQ171 _ _ _ ?_
        refine thn_r ?_
        refine fin1 rfl rfl ?_
        have hr := Option.some.inj hF
        exact ⟨congrArg (fun (r : Bool) => Ending.returned (.bool r)) hr, hS.below⟩
    · refine cw_cond_t rfl (bnot_f hb170) ?_
      refine cw_seq ?_
      refine cw_gen ?_
      intro Q271 hQ271
      refine cw_reg ?_
      refine el_pv (v := .bool false) (pv_assign rfl) (by decide) ?_
      refine el_nil ?_
      refine hQ271 _ _ _ ?_
      refine thn_n ?_
      refine cw_ret ?_
      refine hQ165 _ _ _ ?_
      refine thn_r ?_
      refine fin1 rfl rfl ?_
      have hr := Option.some.inj hF
      exact ⟨congrArg (fun (r : Bool) => Ending.returned (.bool r)) hr, hS.below⟩
end Go.Proofs.Ytobjjdfgnaanjaa
