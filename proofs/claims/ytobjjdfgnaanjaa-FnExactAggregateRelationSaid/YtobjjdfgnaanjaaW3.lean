/- The walks through functions of the program: each hands back what it comes to. No condition but that it comes to something. -/
import Derived.Test.YtobjjdfgnaanjaaW2
import Derived.Test.YtobjjdfgnaanjaaW3D
namespace Go.Proofs.Ytobjjdfgnaanjaa
open Go.RowKit
set_option maxRecDepth 100000
theorem impl_copyRows_ok {w0 : World} {u0 : Value} {a0 : List (List Int)} (ha0 : (sliceR (sliceR intR 3) 22).rd w0 [u0] a0) {N : Nat} {r : (List (List Int))} (hF : impl_copyRows N a0 = some r) :
    Calls Try.prog 83 #[u0] w0 fun e w' => ∃ q0, e = .returned (q0) ∧ Sat w0 w' [Own (sliceR (sliceR intR 3) 22) [q0] r] := by
  unfold impl_copyRows at hF
  refine calls_E Try.func83 rfl rfl (of_decide_eq_true rfl) ?_
  have hS := Sat.start w0
  refine cw_seq ?_
  refine cw_reg ?_
  refine el_pv (pv_assign rfl) (by decide) ?_
  refine el_nil ?_
  refine thn_n ?_
  refine cw_seq ?_
  refine cw_reg ?_
  refine el_pv (pv_assign rfl) (by decide) ?_
  refine el_nil ?_
  refine thn_n ?_
  refine cw_seq ?_
  refine cw_seq ?_
  refine cw_reg ?_
  refine el_pv (pv_move rfl) (by decide) ?_
  refine el_pv (pv_len rfl ha0) (by decide) ?_
  refine el_pv (pv_move rfl) (by decide) ?_
  refine el_nil ?_
  refine thn_n ?_
  refine cw_block ?_
  have hS := hS.nil (sliceR intR 3) 22
  obtain ⟨s102, hL, hK103⟩ := ob hF
  refine cw_loopS (fun k e w => ∃ (v105 : Value), ∃ (x104 : List (List Int)), ∃ (x106 : Int), e 3 = v105 ∧ e 6 = u0 ∧ e 7 = .int .i64 (a0.length : Int) ∧ e 8 = .int .i64 x106 ∧ Sat w0 w [Own (sliceR (sliceR intR 3) 22) [v105] x104] ∧ impl_copyRows_L1 N k x104 a0 (a0.length : Int) x106 = some s102) N ?_ ?_ ?_
  · exact ⟨(.slice none 0 0), [], 0, rfl, rfl, rfl, rfl, hS, hL⟩
  · rintro e w ⟨_, _, _, _, _, _, _, _, hz⟩; exact nomatch (show none = some _ from hz)
  · rintro k e112 w111 ⟨v105, x104, x106, he107, he108, he109, he110, hS, hF⟩
    refine cw_seq ?_
    refine cw_reg ?_
    refine el_pv (pv_lss he110 he109) (by decide) ?_
    refine el_nil ?_
    refine thn_n ?_
    refine cw_seq ?_
    rcases oif hF with ⟨hb113, hF⟩ | ⟨hb113, hF⟩
    · refine cw_cond_t rfl hb113 ?_
      refine cw_skip ?_
      refine thn_n ?_
      refine cw_seq ?_
      refine cw_block ?_
      refine cw_seq ?_
      refine cw_reg ?_
      obtain ⟨x114, hx114, hF⟩ := ob hF
      refine el_index (wA := w0) he108 ha0 rfl (by decide) he110 hx114 (by decide) ?_
      intro b115 of116 c117 hr118 hm119
      obtain ⟨v120, rfl⟩ := slice_one hr118
      refine el_pv (pv_loadc rfl ((cells_up hS.below hm119) 0 _ rfl)) (by decide) ?_
      refine el_pv (pv_assign rfl) (by decide) ?_
      refine el_nil ?_
      refine thn_n ?_
      refine cw_reg ?_
      refine el_pv (pv_move he107) (by decide) ?_
      refine el_pv (pv_move rfl) (by decide) ?_
      obtain ⟨r121, hr121, hF⟩ := ob hF
      refine el_call goes93 (impl_copyInts_ok (hS.up hr118) hr121) (congrArg List.toArray (mapc rfl rfl)) (by decide) ?_
      rintro _ w124 ⟨v122, rfl, hS'⟩
      refine ⟨_, rfl, ?_⟩
      have hx125 := hS'.below
      have hS := hS.call1 hS'
      refine el_buildSlice1 [v122] (cells_of rfl (oc (hS.rdAt (R := (sliceR intR 3)) 0 rfl))) (by rfl) (by decide) rfl (by decide) hS (by decide) ?_
      intro w126 b128 hS hx127
      obtain ⟨x132, hx132, hF⟩ := ob hF
      have hrow133 := hS.boxRow 0 rfl
      have hS := hS.top 2 rfl
      have hS := hS.top 2 rfl
      have hS := hS.one
      refine el_append rfl (by decide) rfl (by decide) hS rfl rfl rfl (by simp) hrow133 hx132 (by decide) ?_
      intro w130 v131 hS
      refine el_pv (pv_assign rfl) (by decide) ?_
      refine el_nil ?_
      refine inb_n ?_
      refine thn_n ?_
      refine cw_reg ?_
      obtain ⟨x135, hx135, hF⟩ := ob hF
      refine el_pv (pv_add he110 rfl hx135) (by decide) ?_
      refine el_pv (pv_move rfl) (by decide) ?_
      refine el_nil ?_
      refine thn_n ?_
      have hS := hS.keep 1
      exact ⟨v131, x132, x135, rfl, he108, he109, rfl, hS, hF⟩
    · refine cw_cond_f rfl hb113 ?_
      refine cw_exit ?_
      refine thn_x ?_
      refine thn_x ?_
      obtain rfl := Option.some.inj hF
      have hF := hK103
      refine inb_s ?_
      refine thn_n ?_
      refine cw_seq ?_
      refine cw_reg ?_
      refine el_pv (pv_move he107) (by decide) ?_
      refine el_pv (pv_assign rfl) (by decide) ?_
      refine el_nil ?_
      refine thn_n ?_
      refine cw_ret ?_
      obtain rfl := Option.some.inj hF
      refine fin1 rfl rfl ?_
      exact ⟨_, rfl, hS.keep 1⟩
theorem impl_copyRelation_ok {w0 : World} {a0 : Int} {u1 : Value} {a1 : List (List Int)} (ha1 : (sliceR (sliceR intR 3) 22).rd w0 [u1] a1) {N : Nat} {r : Int × List (List Int)} (hF : impl_copyRelation N a0 a1 = some r) :
    Calls Try.prog 56 #[.agg #[.int .i64 a0, u1]] w0 fun e w' => ∃ q0, e = .returned (.agg #[.int .i64 r.1, q0]) ∧ Sat w0 w' [Own (sliceR (sliceR intR 3) 22) [q0] r.2] := by
  unfold impl_copyRelation at hF
  refine calls_E Try.func56 rfl rfl (of_decide_eq_true rfl) ?_
  have hS := Sat.start w0
  refine cw_seq ?_
  refine cw_reg ?_
  refine el_box [.int .i64 a0, u1] rfl hS (by decide) ?_
  intro w101 b102 hS hx103
  refine el_alloc hS (by decide) ?_
  intro w105 b106 hS hx107
  refine el_nil ?_
  refine thn_n ?_
  refine cw_seq ?_
  obtain ⟨C, hCd⟩ : ∃ C : World → Prop, ∀ w, C w ↔ ∃ G, Sat w0 w ([Box b106 40 [.int .i64 0, (.slice none 0 0)], Box b102 40 [.int .i64 a0, u1]] ++ G) := ⟨_, fun _ => Iff.rfl⟩
  refine cw_regb [0, 1, 2, 3, 4, 5] C (by kernel_rfl) ?_
  intro w109 hx110
  have hS := hS.ext hx110
  have hS := hS.top 1 rfl
  have hS := hS.top 1 rfl
  have hC := (hCd _).2 ⟨_, hS⟩
  refine al_p (by kernel_rfl) 0 rfl rfl (by decide) hC (by kernel_rfl) (by kernel_rfl) (sv_on rfl (fun w' hw' => by obtain ⟨_, hS⟩ := (hCd _).1 hw'; exact (pv_fieldAddr rfl))) ?_
  refine al_p (by kernel_rfl) 1 rfl rfl (by decide) hC (by kernel_rfl) (by kernel_rfl) (sv_on rfl (fun w' hw' => by obtain ⟨_, hS⟩ := (hCd _).1 hw'; exact (pv_loadc rfl ((hS.boxAt 1 rfl) 0 _ rfl)))) ?_
  refine al_p (by kernel_rfl) 2 rfl rfl (by decide) hC (by kernel_rfl) (by kernel_rfl) (sv_on rfl (fun w' hw' => by obtain ⟨_, hS⟩ := (hCd _).1 hw'; exact (pv_fieldAddr rfl))) ?_
  refine al_p (by kernel_rfl) 3 rfl rfl (by decide) hC (by kernel_rfl) (by kernel_rfl) (sv_on rfl (fun w' hw' => by obtain ⟨_, hS⟩ := (hCd _).1 hw'; exact (pv_loadc rfl ((hS.boxAt 1 rfl) 1 _ rfl)))) ?_
  refine al_one 4 (by kernel_rfl) rfl ?_
  obtain ⟨r111, hr111, hF⟩ := ob hF
  refine el_call goes83 (impl_copyRows_ok (hS.up ha1) hr111) (congrArg List.toArray (mapc rfl rfl)) (by decide) ?_
  rintro _ w114 ⟨v112, rfl, hS'⟩
  refine ⟨_, rfl, ?_⟩
  have hx115 := hS'.below
  have hS := hS.call1 hS'
  refine el_nil ?_
  have hS := hS.top 2 rfl
  have hS := hS.top 2 rfl
  have hC := (hCd _).2 ⟨_, hS⟩
  have hoc116 := oc (hS.rdAt (R := (sliceR (sliceR intR 3) 22)) 2 rfl)
  refine ⟨fun _ => hC, ?_⟩
  refine al_p (by kernel_rfl) 5 rfl rfl (by decide) hC (by kernel_rfl) (by kernel_rfl) (sv_on rfl (fun w' hw' => by obtain ⟨_, hS⟩ := (hCd _).1 hw'; exact (pv_build [(0, [.int .i64 a0]), (1, [v112])] [.int .i64 a0, v112] (partc rfl (partc (cells_of rfl hoc116) rfl)) rfl))) ?_
  refine al_one 6 (by kernel_rfl) rfl ?_
  refine el_storev (hS.top 0 rfl) rfl [.int .i64 a0, v112] rfl rfl (of_decide_eq_true rfl) (all_cons rfl (all_cons (oc (hS.rdAt (R := (sliceR (sliceR intR 3) 22)) 2 rfl)) rfl)) ?_
  intro w117 hS
  replace hS : Sat w0 w117 (Box b106 40 [.int .i64 a0, v112] :: _) := hS
  refine el_nil ?_
  refine ⟨fun h => (nomatch (show false = true from h)), ?_⟩
  refine al_nil (by kernel_rfl) ?_
  refine thn_n ?_
  refine cw_ret ?_
  obtain rfl := Option.some.inj hF
  refine finC (cs := [.int .i64 a0, v112]) rfl rfl rfl (boxc0 (hS.boxAt 0 rfl))  ?_
  have hS := hS.top 2 rfl
  exact ⟨_, rfl, hS.keep 1⟩
theorem impl_InvertDelta_ok {w0 : World} {a0 : ByteArray} {a1 : Int} {u2 : Value} {a2 : List (List Int)} {a3 : Int} {u4 : Value} {a4 : List (List Int)} (ha2 : (sliceR (sliceR intR 3) 22).rd w0 [u2] a2) (ha4 : (sliceR (sliceR intR 3) 22).rd w0 [u4] a4) {N : Nat} {r : ByteArray × (Int × List (List Int)) × (Int × List (List Int))} (hF : impl_InvertDelta N a0 a1 a2 a3 a4 = some r) :
    Calls Try.prog 20 #[.agg #[.string a0, .int .i64 a1, u2, .int .i64 a3, u4]] w0 fun e w' => ∃ q0 q1, e = .returned (.agg #[.string r.1, .int .i64 r.2.1.1, q0, .int .i64 r.2.2.1, q1]) ∧ Sat w0 w' [Own (sliceR (sliceR intR 3) 22) [q0] r.2.1.2, Own (sliceR (sliceR intR 3) 22) [q1] r.2.2.2] := by
  unfold impl_InvertDelta at hF
  refine calls_E Try.func20 rfl rfl (of_decide_eq_true rfl) ?_
  have hS := Sat.start w0
  refine cw_seq ?_
  refine cw_reg ?_
  refine el_box [.string a0, .int .i64 a1, u2, .int .i64 a3, u4] rfl hS (by decide) ?_
  intro w101 b102 hS hx103
  refine el_alloc hS (by decide) ?_
  intro w105 b106 hS hx107
  refine el_nil ?_
  refine thn_n ?_
  refine cw_seq ?_
  obtain ⟨C, hCd⟩ : ∃ C : World → Prop, ∀ w, C w ↔ ∃ G, Sat w0 w ([Box b106 42 [.string ByteArray.empty, .int .i64 0, (.slice none 0 0), .int .i64 0, (.slice none 0 0)], Box b102 42 [.string a0, .int .i64 a1, u2, .int .i64 a3, u4]] ++ G) := ⟨_, fun _ => Iff.rfl⟩
  refine cw_regb [0, 1, 2, 3, 4, 5, 6, 7, 8] C (by kernel_rfl) ?_
  intro w109 hx110
  have hS := hS.ext hx110
  have hS := hS.top 1 rfl
  have hS := hS.top 1 rfl
  have hC := (hCd _).2 ⟨_, hS⟩
  refine al_p (by kernel_rfl) 0 rfl rfl (by decide) hC (by kernel_rfl) (by kernel_rfl) (sv_on rfl (fun w' hw' => by obtain ⟨_, hS⟩ := (hCd _).1 hw'; exact (pv_fieldAddr rfl))) ?_
  refine al_p (by kernel_rfl) 1 rfl rfl (by decide) hC (by kernel_rfl) (by kernel_rfl) (sv_on rfl (fun w' hw' => by obtain ⟨_, hS⟩ := (hCd _).1 hw'; exact (pv_loadc rfl ((hS.boxAt 1 rfl) 0 _ rfl)))) ?_
  refine al_p (by kernel_rfl) 2 rfl rfl (by decide) hC (by kernel_rfl) (by kernel_rfl) (sv_on rfl (fun w' hw' => by obtain ⟨_, hS⟩ := (hCd _).1 hw'; exact (pv_fieldAddr rfl))) ?_
  refine al_p (by kernel_rfl) 3 rfl rfl (by decide) hC (by kernel_rfl) (by kernel_rfl) (sv_on rfl (fun w' hw' => by obtain ⟨_, hS⟩ := (hCd _).1 hw'; exact (pv_loada (cs := [.int .i64 a3, u4]) rfl rfl (boxc (hS.boxAt 1 rfl) 3 2)))) ?_
  refine al_p (by kernel_rfl) 5 rfl rfl (by decide) hC (by kernel_rfl) (by kernel_rfl) (sv_on rfl (fun w' hw' => by obtain ⟨_, hS⟩ := (hCd _).1 hw'; exact (pv_fieldAddr rfl))) ?_
  refine al_p (by kernel_rfl) 6 rfl rfl (by decide) hC (by kernel_rfl) (by kernel_rfl) (sv_on rfl (fun w' hw' => by obtain ⟨_, hS⟩ := (hCd _).1 hw'; exact (pv_loada (cs := [.int .i64 a1, u2]) rfl rfl (boxc (hS.boxAt 1 rfl) 1 2)))) ?_
  refine al_one 4 (by kernel_rfl) rfl ?_
  obtain ⟨r111, hr111, hF⟩ := ob hF
  refine el_call goes56 (impl_copyRelation_ok (hS.up ha4) hr111) (congrArg List.toArray (mapc rfl rfl)) (by decide) ?_
  rintro _ w114 ⟨v112, rfl, hS'⟩
  refine ⟨_, rfl, ?_⟩
  have hx115 := hS'.below
  have hS := hS.call1 hS'
  refine el_nil ?_
  have hS := hS.top 2 rfl
  have hS := hS.top 2 rfl
  have hC := (hCd _).2 ⟨_, hS⟩
  have hoc116 := oc (hS.rdAt (R := (sliceR (sliceR intR 3) 22)) 2 rfl)
  refine ⟨fun _ => hC, ?_⟩
  refine al_one 7 (by kernel_rfl) rfl ?_
  obtain ⟨r117, hr117, hF⟩ := ob hF
  refine el_call goes56 (impl_copyRelation_ok (hS.up ha2) hr117) (congrArg List.toArray (mapc rfl rfl)) (by decide) ?_
  rintro _ w120 ⟨v118, rfl, hS'⟩
  refine ⟨_, rfl, ?_⟩
  have hx121 := hS'.below
  have hS := hS.call1 hS'
  refine el_nil ?_
  have hS := hS.top 2 rfl
  have hS := hS.top 2 rfl
  have hC := (hCd _).2 ⟨_, hS⟩
  have hoc122 := oc (hS.rdAt (R := (sliceR (sliceR intR 3) 22)) 2 rfl)
  refine ⟨fun _ => hC, ?_⟩
  refine al_p (by kernel_rfl) 8 rfl rfl (by decide) hC (by kernel_rfl) (by kernel_rfl) (sv_on rfl (fun w' hw' => by obtain ⟨_, hS⟩ := (hCd _).1 hw'; exact (pv_build [(0, [.string a0]), (1, [.int .i64 r111.1, v112]), (2, [.int .i64 r117.1, v118])] [.string a0, .int .i64 r111.1, v112, .int .i64 r117.1, v118] (partc rfl (partc rfl (partc rfl rfl))) rfl))) ?_
  refine al_one 9 (by kernel_rfl) rfl ?_
  refine el_storev (hS.top 0 rfl) rfl [.string a0, .int .i64 r111.1, v112, .int .i64 r117.1, v118] rfl rfl (of_decide_eq_true rfl) (all_cons rfl (all_cons rfl (all_cons (oc (hS.rdAt (R := (sliceR (sliceR intR 3) 22)) 3 rfl)) (all_cons rfl (all_cons (oc (hS.rdAt (R := (sliceR (sliceR intR 3) 22)) 2 rfl)) rfl))))) ?_
  intro w123 hS
  replace hS : Sat w0 w123 (Box b106 42 [.string a0, .int .i64 r111.1, v112, .int .i64 r117.1, v118] :: _) := hS
  refine el_nil ?_
  refine ⟨fun h => (nomatch (show false = true from h)), ?_⟩
  refine al_nil (by kernel_rfl) ?_
  refine thn_n ?_
  refine cw_ret ?_
  obtain rfl := Option.some.inj hF
  refine finC (cs := [.string a0, .int .i64 r111.1, v112, .int .i64 r117.1, v118]) rfl rfl rfl (boxc0 (hS.boxAt 0 rfl))  ?_
  have hS := hS.top 2 rfl
  have hS := hS.top 3 rfl
  exact ⟨_, _, rfl, hS.keep 2⟩
theorem laws_heldIntS_ok {w0 : World} {u0 : Value} {a0 : List Int} {a1 : Int} (ha0 : (sliceR intR 3).rd w0 [u0] a0) {N : Nat} {r : Int} (hF : laws_heldIntS N a0 a1 = some r) :
    Calls Try.prog 95 #[u0, .int .i64 a1] w0 fun e w' => e = .returned (.int .i64 r) ∧ Ext w0 w' := by
  unfold laws_heldIntS at hF
  refine calls_E Try.func95 rfl rfl (of_decide_eq_true rfl) ?_
  have hS := Sat.start w0
  refine cw_seq ?_
  refine cw_reg ?_
  refine el_pv (pv_assign rfl) (by decide) ?_
  refine el_nil ?_
  refine thn_n ?_
  refine cw_seq ?_
  refine cw_seq ?_
  refine cw_reg ?_
  refine el_pv (pv_assign rfl) (by decide) ?_
  refine el_nil ?_
  refine thn_n ?_
  refine cw_block ?_
  obtain ⟨s101, hL, hK102⟩ := ob hF
  refine cw_loopS (fun k e w => ∃ (x103 : Int), ∃ (x104 : Int), e 0 = u0 ∧ e 1 = .int .i64 x103 ∧ e 5 = .int .i64 x104 ∧ Sat w0 w [] ∧ laws_heldIntS_L1 N k a0 x103 x104 = some s101) N ?_ ?_ ?_
  · exact ⟨a1, 0, rfl, rfl, rfl, hS, hL⟩
  · rintro e w ⟨_, _, _, _, _, _, hz⟩; exact nomatch (show none = some _ from hz)
  · rintro k e109 w108 ⟨x103, x104, he105, he106, he107, hS, hF⟩
    refine cw_seq ?_
    refine cw_seq ?_
    refine cw_reg ?_
    refine el_pv (pv_move he107) (by decide) ?_
    refine el_pv (pv_move he105) (by decide) ?_
    refine el_pv (pv_len rfl ha0) (by decide) ?_
    refine el_pv (pv_lss rfl rfl) (by decide) ?_
    refine el_nil ?_
    refine thn_n ?_
    rcases oif hF with ⟨hb110, hF⟩ | ⟨hb110, hF⟩
    · refine cw_cond_t rfl hb110 ?_
      refine cw_skip ?_
      refine thn_n ?_
      refine cw_seq ?_
      refine cw_block ?_
      refine cw_seq ?_
      refine cw_seq ?_
      refine cw_reg ?_
      refine el_pv (pv_move he105) (by decide) ?_
      refine el_pv (pv_move he107) (by decide) ?_
      obtain ⟨x111, hx111, hF⟩ := ob hF
      refine el_index (wA := w0) rfl ha0 rfl (by decide) rfl hx111 (by decide) ?_
      intro b112 of113 c114 hr115 hm116
      obtain rfl := hr115
      refine el_pv (pv_loadc rfl ((cells_up hS.below hm116) 0 _ rfl)) (by decide) ?_
      refine el_pv (pv_move he106) (by decide) ?_
      refine el_pv (pv_neq rfl rfl) (by decide) ?_
      refine el_nil ?_
      refine thn_n ?_
      rcases oif hF with ⟨hb117, hF⟩ | ⟨hb117, hF⟩
      · refine cw_cond_t rfl hb117 ?_
        refine cw_seq ?_
        refine cw_reg ?_
        refine el_pv (pv_assign rfl) (by decide) ?_
        refine el_nil ?_
        refine thn_n ?_
        refine cw_ret ?_
        refine thn_r ?_
        refine inb_r ?_
        refine thn_r ?_
        refine thn_r ?_
        refine inb_r ?_
        refine thn_r ?_
        obtain rfl := Option.some.inj hF
        have hF := hK102
        obtain rfl := Option.some.inj hF
        refine fin1 rfl rfl ?_
        exact ⟨rfl, hS.below⟩
      · refine cw_cond_f rfl hb117 ?_
        refine cw_skip ?_
        refine thn_n ?_
        refine cw_reg ?_
        refine el_pv (pv_move he106) (by decide) ?_
        obtain ⟨x118, hx118, hF⟩ := ob hF
        refine el_pv (pv_add rfl rfl hx118) (by decide) ?_
        refine el_pv (pv_assign rfl) (by decide) ?_
        refine el_nil ?_
        refine inb_n ?_
        refine thn_n ?_
        refine cw_reg ?_
        refine el_pv (pv_move he107) (by decide) ?_
        obtain ⟨x119, hx119, hF⟩ := ob hF
        refine el_pv (pv_add rfl rfl hx119) (by decide) ?_
        refine el_pv (pv_assign rfl) (by decide) ?_
        refine el_nil ?_
        refine thn_n ?_
        have hS := hS.keep 0
        exact ⟨x118, x119, he105, rfl, rfl, hS, hF⟩
    · refine cw_cond_f rfl hb110 ?_
      refine cw_exit ?_
      refine thn_x ?_
      refine thn_x ?_
      obtain rfl := Option.some.inj hF
      have hF := hK102
      refine inb_s ?_
      refine thn_n ?_
      refine cw_seq ?_
      refine cw_reg ?_
      refine el_pv (pv_move he106) (by decide) ?_
      refine el_pv (pv_assign rfl) (by decide) ?_
      refine el_nil ?_
      refine thn_n ?_
      refine cw_ret ?_
      obtain rfl := Option.some.inj hF
      refine fin1 rfl rfl ?_
      exact ⟨rfl, hS.below⟩
theorem laws_heldIntSS_ok {w0 : World} {u0 : Value} {a0 : List (List Int)} {a1 : Int} (ha0 : (sliceR (sliceR intR 3) 22).rd w0 [u0] a0) {N : Nat} {r : Int} (hF : laws_heldIntSS N a0 a1 = some r) :
    Calls Try.prog 85 #[u0, .int .i64 a1] w0 fun e w' => e = .returned (.int .i64 r) ∧ Ext w0 w' := by
  unfold laws_heldIntSS at hF
  refine calls_E Try.func85 rfl rfl (of_decide_eq_true rfl) ?_
  have hS := Sat.start w0
  refine cw_seq ?_
  refine cw_reg ?_
  refine el_pv (pv_assign rfl) (by decide) ?_
  refine el_nil ?_
  refine thn_n ?_
  refine cw_seq ?_
  refine cw_seq ?_
  refine cw_reg ?_
  refine el_pv (pv_assign rfl) (by decide) ?_
  refine el_nil ?_
  refine thn_n ?_
  refine cw_block ?_
  obtain ⟨s101, hL, hK102⟩ := ob hF
  refine cw_loopS (fun k e w => ∃ (x103 : Int), ∃ (x104 : Int), e 0 = u0 ∧ e 1 = .int .i64 x103 ∧ e 5 = .int .i64 x104 ∧ Sat w0 w [] ∧ laws_heldIntSS_L1 N k a0 x103 x104 = some s101) N ?_ ?_ ?_
  · exact ⟨a1, 0, rfl, rfl, rfl, hS, hL⟩
  · rintro e w ⟨_, _, _, _, _, _, hz⟩; exact nomatch (show none = some _ from hz)
  · rintro k e109 w108 ⟨x103, x104, he105, he106, he107, hS, hF⟩
    refine cw_seq ?_
    refine cw_seq ?_
    refine cw_reg ?_
    refine el_pv (pv_move he107) (by decide) ?_
    refine el_pv (pv_move he105) (by decide) ?_
    refine el_pv (pv_len rfl ha0) (by decide) ?_
    refine el_pv (pv_lss rfl rfl) (by decide) ?_
    refine el_nil ?_
    refine thn_n ?_
    rcases oif hF with ⟨hb110, hF⟩ | ⟨hb110, hF⟩
    · refine cw_cond_t rfl hb110 ?_
      refine cw_skip ?_
      refine thn_n ?_
      refine cw_seq ?_
      refine cw_block ?_
      refine cw_seq ?_
      refine cw_reg ?_
      refine el_pv (pv_move he105) (by decide) ?_
      refine el_pv (pv_move he107) (by decide) ?_
      obtain ⟨x111, hx111, hF⟩ := ob hF
      refine el_index (wA := w0) rfl ha0 rfl (by decide) rfl hx111 (by decide) ?_
      intro b112 of113 c114 hr115 hm116
      obtain ⟨v117, rfl⟩ := slice_one hr115
      refine el_pv (pv_loadc rfl ((cells_up hS.below hm116) 0 _ rfl)) (by decide) ?_
      refine el_pv (pv_move he106) (by decide) ?_
      obtain ⟨r118, hr118, hF⟩ := ob hF
      refine el_call goes95 (laws_heldIntS_ok (hS.up hr115) hr118) (congrArg List.toArray (mapc rfl (mapc rfl rfl))) (by decide) ?_
      rintro _ w119 ⟨rfl, hx120⟩
      refine ⟨_, rfl, ?_⟩
      have hS := hS.ext hx120
      refine el_pv (pv_assign rfl) (by decide) ?_
      refine el_nil ?_
      refine thn_n ?_
      refine cw_seq ?_
      refine cw_reg ?_
      refine el_pv (pv_move rfl) (by decide) ?_
      refine el_pv (pv_lss rfl rfl) (by decide) ?_
      refine el_nil ?_
      refine thn_n ?_
      rcases oif hF with ⟨hb121, hF⟩ | ⟨hb121, hF⟩
      · refine cw_cond_t rfl hb121 ?_
        refine cw_seq ?_
        refine cw_reg ?_
        refine el_pv (pv_assign rfl) (by decide) ?_
        refine el_nil ?_
        refine thn_n ?_
        refine cw_ret ?_
        refine inb_r ?_
        refine thn_r ?_
        refine thn_r ?_
        refine inb_r ?_
        refine thn_r ?_
        obtain rfl := Option.some.inj hF
        have hF := hK102
        obtain rfl := Option.some.inj hF
        refine fin1 rfl rfl ?_
        exact ⟨rfl, hS.below⟩
      · refine cw_cond_f rfl hb121 ?_
        refine cw_skip ?_
        refine inb_n ?_
        refine thn_n ?_
        refine cw_reg ?_
        refine el_pv (pv_move he107) (by decide) ?_
        obtain ⟨x122, hx122, hF⟩ := ob hF
        refine el_pv (pv_add rfl rfl hx122) (by decide) ?_
        refine el_pv (pv_assign rfl) (by decide) ?_
        refine el_nil ?_
        refine thn_n ?_
        have hS := hS.keep 0
        exact ⟨r118, x122, he105, rfl, rfl, hS, hF⟩
    · refine cw_cond_f rfl hb110 ?_
      refine cw_exit ?_
      refine thn_x ?_
      refine thn_x ?_
      obtain rfl := Option.some.inj hF
      have hF := hK102
      refine inb_s ?_
      refine thn_n ?_
      refine cw_seq ?_
      refine cw_reg ?_
      refine el_pv (pv_move he106) (by decide) ?_
      refine el_pv (pv_assign rfl) (by decide) ?_
      refine el_nil ?_
      refine thn_n ?_
      refine cw_ret ?_
      obtain rfl := Option.some.inj hF
      refine fin1 rfl rfl ?_
      exact ⟨rfl, hS.below⟩
theorem laws_heldRelation_ok {w0 : World} {a0 : Int} {u1 : Value} {a1 : List (List Int)} {a2 : Int} (ha1 : (sliceR (sliceR intR 3) 22).rd w0 [u1] a1) {N : Nat} {r : Int} (hF : laws_heldRelation N a0 a1 a2 = some r) :
    Calls Try.prog 58 #[.agg #[.int .i64 a0, u1], .int .i64 a2] w0 fun e w' => e = .returned (.int .i64 r) ∧ Ext w0 w' := by
  unfold laws_heldRelation at hF
  refine calls_E Try.func58 rfl rfl (of_decide_eq_true rfl) ?_
  have hS := Sat.start w0
  refine cw_seq ?_
  refine cw_reg ?_
  refine el_box [.int .i64 a0, u1] rfl hS (by decide) ?_
  intro w101 b102 hS hx103
  refine el_pv (pv_assign rfl) (by decide) ?_
  refine el_nil ?_
  refine thn_n ?_
  refine cw_seq ?_
  refine cw_reg ?_
  refine el_pv (pv_fieldAddr rfl) (by decide) ?_
  refine el_pv (pv_loadc rfl ((hS.boxAt 0 rfl) 1 _ rfl)) (by decide) ?_
  refine el_pv (pv_move rfl) (by decide) ?_
  obtain ⟨r105, hr105, hF⟩ := ob hF
  refine el_call goes85 (laws_heldIntSS_ok (hS.up ha1) hr105) (congrArg List.toArray (mapc rfl (mapc rfl rfl))) (by decide) ?_
  rintro _ w106 ⟨rfl, hx107⟩
  refine ⟨_, rfl, ?_⟩
  have hS := hS.ext hx107
  refine el_pv (pv_assign rfl) (by decide) ?_
  refine el_nil ?_
  refine thn_n ?_
  refine cw_seq ?_
  refine cw_seq ?_
  refine cw_reg ?_
  refine el_pv (pv_move rfl) (by decide) ?_
  refine el_pv (pv_lss rfl rfl) (by decide) ?_
  refine el_nil ?_
  refine thn_n ?_
  rcases oif hF with ⟨hb108, hF⟩ | ⟨hb108, hF⟩
  · refine cw_cond_t rfl hb108 ?_
    refine cw_seq ?_
    refine cw_reg ?_
    refine el_pv (pv_assign rfl) (by decide) ?_
    refine el_nil ?_
    refine thn_n ?_
    refine cw_ret ?_
    refine thn_r ?_
    obtain rfl := Option.some.inj hF
    refine fin1 rfl rfl ?_
    exact ⟨rfl, hS.below⟩
  · refine cw_cond_f rfl hb108 ?_
    refine cw_skip ?_
    refine thn_n ?_
    refine cw_seq ?_
    refine cw_reg ?_
    refine el_pv (pv_move rfl) (by decide) ?_
    refine el_pv (pv_assign rfl) (by decide) ?_
    refine el_nil ?_
    refine thn_n ?_
    refine cw_ret ?_
    obtain rfl := Option.some.inj hF
    refine fin1 rfl rfl ?_
    exact ⟨rfl, hS.below⟩
theorem laws_heldDelta_ok {w0 : World} {a0 : ByteArray} {a1 : Int} {u2 : Value} {a2 : List (List Int)} {a3 : Int} {u4 : Value} {a4 : List (List Int)} {a5 : Int} (ha2 : (sliceR (sliceR intR 3) 22).rd w0 [u2] a2) (ha4 : (sliceR (sliceR intR 3) 22).rd w0 [u4] a4) {N : Nat} {r : Int} (hF : laws_heldDelta N a0 a1 a2 a3 a4 a5 = some r) :
    Calls Try.prog 22 #[.agg #[.string a0, .int .i64 a1, u2, .int .i64 a3, u4], .int .i64 a5] w0 fun e w' => e = .returned (.int .i64 r) ∧ Ext w0 w' := by
  unfold laws_heldDelta at hF
  refine calls_E Try.func22 rfl rfl (of_decide_eq_true rfl) ?_
  have hS := Sat.start w0
  refine cw_seq ?_
  refine cw_reg ?_
  refine el_box [.string a0, .int .i64 a1, u2, .int .i64 a3, u4] rfl hS (by decide) ?_
  intro w101 b102 hS hx103
  refine el_pv (pv_assign rfl) (by decide) ?_
  refine el_nil ?_
  refine thn_n ?_
  refine cw_seq ?_
  refine cw_reg ?_
  refine el_pv (pv_fieldAddr rfl) (by decide) ?_
  refine el_pv (pv_loada (cs := [.int .i64 a1, u2]) rfl rfl (boxc (hS.boxAt 0 rfl) 1 2)) (by decide) ?_
  refine el_pv (pv_move rfl) (by decide) ?_
  obtain ⟨r105, hr105, hF⟩ := ob hF
  refine el_call goes58 (laws_heldRelation_ok (hS.up ha2) hr105) (congrArg List.toArray (mapc rfl (mapc rfl rfl))) (by decide) ?_
  rintro _ w106 ⟨rfl, hx107⟩
  refine ⟨_, rfl, ?_⟩
  have hS := hS.ext hx107
  refine el_pv (pv_assign rfl) (by decide) ?_
  refine el_nil ?_
  refine thn_n ?_
  refine cw_seq ?_
  refine cw_seq ?_
  refine cw_reg ?_
  refine el_pv (pv_move rfl) (by decide) ?_
  refine el_pv (pv_lss rfl rfl) (by decide) ?_
  refine el_nil ?_
  refine thn_n ?_
  rcases oif hF with ⟨hb108, hF⟩ | ⟨hb108, hF⟩
  · refine cw_cond_t rfl hb108 ?_
    refine cw_seq ?_
    refine cw_reg ?_
    refine el_pv (pv_assign rfl) (by decide) ?_
    refine el_nil ?_
    refine thn_n ?_
    refine cw_ret ?_
    refine thn_r ?_
    obtain rfl := Option.some.inj hF
    refine fin1 rfl rfl ?_
    exact ⟨rfl, hS.below⟩
  · refine cw_cond_f rfl hb108 ?_
    refine cw_skip ?_
    refine thn_n ?_
    refine cw_seq ?_
    refine cw_reg ?_
    refine el_pv (pv_fieldAddr rfl) (by decide) ?_
    refine el_pv (pv_loada (cs := [.int .i64 a3, u4]) rfl rfl (boxc (hS.boxAt 0 rfl) 3 2)) (by decide) ?_
    refine el_pv (pv_move rfl) (by decide) ?_
    obtain ⟨r109, hr109, hF⟩ := ob hF
    refine el_call goes58 (laws_heldRelation_ok (hS.up ha4) hr109) (congrArg List.toArray (mapc rfl (mapc rfl rfl))) (by decide) ?_
    rintro _ w110 ⟨rfl, hx111⟩
    refine ⟨_, rfl, ?_⟩
    have hS := hS.ext hx111
    refine el_pv (pv_assign rfl) (by decide) ?_
    refine el_nil ?_
    refine thn_n ?_
    refine cw_seq ?_
    refine cw_seq ?_
    refine cw_reg ?_
    refine el_pv (pv_move rfl) (by decide) ?_
    refine el_pv (pv_lss rfl rfl) (by decide) ?_
    refine el_nil ?_
    refine thn_n ?_
    rcases oif hF with ⟨hb112, hF⟩ | ⟨hb112, hF⟩
    · refine cw_cond_t rfl hb112 ?_
      refine cw_seq ?_
      refine cw_reg ?_
      refine el_pv (pv_assign rfl) (by decide) ?_
      refine el_nil ?_
      refine thn_n ?_
      refine cw_ret ?_
      refine thn_r ?_
      obtain rfl := Option.some.inj hF
      refine fin1 rfl rfl ?_
      exact ⟨rfl, hS.below⟩
    · refine cw_cond_f rfl hb112 ?_
      refine cw_skip ?_
      refine thn_n ?_
      refine cw_seq ?_
      refine cw_reg ?_
      refine el_pv (pv_move rfl) (by decide) ?_
      refine el_pv (pv_assign rfl) (by decide) ?_
      refine el_nil ?_
      refine thn_n ?_
      refine cw_ret ?_
      obtain rfl := Option.some.inj hF
      refine fin1 rfl rfl ?_
      exact ⟨rfl, hS.below⟩
theorem spec_l1In_ok {w0 : World} {a0 : Int} {a1 : Int} {a2 : Int}  {N : Nat} {r : Bool} (hF : spec_l1In N a0 a1 a2 = some r) :
    Calls Try.prog 62 #[.int .i64 a0, .int .i64 a1, .int .i64 a2] w0 fun e w' => e = .returned (.bool r) ∧ Ext w0 w' := by
  unfold spec_l1In at hF
  refine calls_E Try.func62 rfl rfl (of_decide_eq_true rfl) ?_
  have hS := Sat.start w0
  refine cw_seq ?_
  refine cw_reg ?_
  refine el_pv (pv_assign rfl) (by decide) ?_
  refine el_nil ?_
  refine thn_n ?_
  refine cw_seq ?_
  refine cw_reg ?_
  refine el_pv (pv_move rfl) (by decide) ?_
  refine el_pv (pv_move rfl) (by decide) ?_
  refine el_pv (pv_geq rfl rfl) (by decide) ?_
  refine el_pv (pv_move rfl) (by decide) ?_
  rcases oif hF with ⟨hb101, hF⟩ | ⟨hb101, hF⟩
  · refine el_on rfl hb101 ?_
    refine el_pv (pv_move rfl) (by decide) ?_
    refine el_on rfl hb101 ?_
    refine el_pv (pv_move rfl) (by decide) ?_
    refine el_on rfl hb101 ?_
    refine el_pv (pv_leq rfl rfl) (by decide) ?_
    refine el_pv (pv_pick_t rfl hb101 rfl) (by decide) ?_
    refine el_pv (pv_assign rfl) (by decide) ?_
    refine el_nil ?_
    refine thn_n ?_
    refine cw_ret ?_
    obtain rfl := Option.some.inj hF
    refine fin1 rfl rfl ?_
    exact ⟨rfl, hS.below⟩
  · refine el_off rfl hb101 rfl (by decide) ?_
    refine el_off rfl hb101 rfl (by decide) ?_
    refine el_off rfl hb101 rfl (by decide) ?_
    refine el_pv (pv_pick_f rfl hb101 rfl) (by decide) ?_
    refine el_pv (pv_assign rfl) (by decide) ?_
    refine el_nil ?_
    refine thn_n ?_
    refine cw_ret ?_
    obtain rfl := Option.some.inj hF
    refine fin1 rfl rfl ?_
    exact ⟨rfl, hS.below⟩
theorem spec_l7Find_ok {w0 : World} {u0 : Value} {a0 : List Int} {a1 : Int} (ha0 : (sliceR intR 3).rd w0 [u0] a0) {N : Nat} {r : Int} (hF : spec_l7Find N a0 a1 = some r) :
    Calls Try.prog 86 #[u0, .int .i64 a1] w0 fun e w' => e = .returned (.int .i64 r) ∧ Ext w0 w' := by
  unfold spec_l7Find at hF
  refine calls_E Try.func86 rfl rfl (of_decide_eq_true rfl) ?_
  have hS := Sat.start w0
  refine cw_seq ?_
  refine cw_reg ?_
  refine el_pv (pv_assign rfl) (by decide) ?_
  refine el_nil ?_
  refine thn_n ?_
  refine cw_seq ?_
  refine cw_seq ?_
  refine cw_reg ?_
  refine el_pv (pv_assign rfl) (by decide) ?_
  refine el_nil ?_
  refine thn_n ?_
  refine cw_block ?_
  obtain ⟨s101, hL, hK102⟩ := ob hF
  refine cw_loopS (fun k e w => ∃ (x103 : Int), e 0 = u0 ∧ e 1 = .int .i64 a1 ∧ e 5 = .int .i64 x103 ∧ Sat w0 w [] ∧ spec_l7Find_L1 N k a0 a1 x103 = some s101) N ?_ ?_ ?_
  · exact ⟨0, rfl, rfl, rfl, hS, hL⟩
  · rintro e w ⟨_, _, _, _, _, hz⟩; exact nomatch (show none = some _ from hz)
  · rintro k e108 w107 ⟨x103, he104, he105, he106, hS, hF⟩
    refine cw_seq ?_
    refine cw_seq ?_
    refine cw_reg ?_
    refine el_pv (pv_move he106) (by decide) ?_
    refine el_pv (pv_move he104) (by decide) ?_
    refine el_pv (pv_len rfl ha0) (by decide) ?_
    refine el_pv (pv_lss rfl rfl) (by decide) ?_
    refine el_nil ?_
    refine thn_n ?_
    rcases oif hF with ⟨hb109, hF⟩ | ⟨hb109, hF⟩
    · refine cw_cond_t rfl hb109 ?_
      refine cw_skip ?_
      refine thn_n ?_
      refine cw_seq ?_
      refine cw_block ?_
      refine cw_seq ?_
      refine cw_reg ?_
      refine el_pv (pv_move he104) (by decide) ?_
      refine el_pv (pv_move he106) (by decide) ?_
      obtain ⟨x110, hx110, hF⟩ := ob hF
      refine el_index (wA := w0) rfl ha0 rfl (by decide) rfl hx110 (by decide) ?_
      intro b111 of112 c113 hr114 hm115
      obtain rfl := hr114
      refine el_pv (pv_loadc rfl ((cells_up hS.below hm115) 0 _ rfl)) (by decide) ?_
      refine el_pv (pv_move he105) (by decide) ?_
      refine el_pv (pv_eql rfl rfl) (by decide) ?_
      refine el_nil ?_
      refine thn_n ?_
      rcases oif hF with ⟨hb116, hF⟩ | ⟨hb116, hF⟩
      · refine cw_cond_t rfl hb116 ?_
        refine cw_seq ?_
        refine cw_reg ?_
        refine el_pv (pv_move he106) (by decide) ?_
        refine el_pv (pv_assign rfl) (by decide) ?_
        refine el_nil ?_
        refine thn_n ?_
        refine cw_ret ?_
        refine inb_r ?_
        refine thn_r ?_
        refine thn_r ?_
        refine inb_r ?_
        refine thn_r ?_
        obtain rfl := Option.some.inj hF
        have hF := hK102
        obtain rfl := Option.some.inj hF
        refine fin1 rfl rfl ?_
        exact ⟨rfl, hS.below⟩
      · refine cw_cond_f rfl hb116 ?_
        refine cw_skip ?_
        refine inb_n ?_
        refine thn_n ?_
        refine cw_reg ?_
        refine el_pv (pv_move he106) (by decide) ?_
        obtain ⟨x117, hx117, hF⟩ := ob hF
        refine el_pv (pv_add rfl rfl hx117) (by decide) ?_
        refine el_pv (pv_assign rfl) (by decide) ?_
        refine el_nil ?_
        refine thn_n ?_
        have hS := hS.keep 0
        exact ⟨x117, he104, he105, rfl, hS, hF⟩
    · refine cw_cond_f rfl hb109 ?_
      refine cw_exit ?_
      refine thn_x ?_
      refine thn_x ?_
      obtain rfl := Option.some.inj hF
      have hF := hK102
      refine inb_s ?_
      refine thn_n ?_
      refine cw_seq ?_
      refine cw_reg ?_
      refine el_pv (pv_assign rfl) (by decide) ?_
      refine el_nil ?_
      refine thn_n ?_
      refine cw_ret ?_
      obtain rfl := Option.some.inj hF
      refine fin1 rfl rfl ?_
      exact ⟨rfl, hS.below⟩
theorem spec_IsPermutation_ok {w0 : World} {u0 : Value} {a0 : List Int} (ha0 : (sliceR intR 3).rd w0 [u0] a0) {N : Nat} {r : Bool} (hF : spec_IsPermutation N a0 = some r) :
    Calls Try.prog 59 #[u0] w0 fun e w' => e = .returned (.bool r) ∧ Ext w0 w' := by
  unfold spec_IsPermutation at hF
  refine calls_E Try.func59 rfl rfl (of_decide_eq_true rfl) ?_
  have hS := Sat.start w0
  refine cw_seq ?_
  refine cw_reg ?_
  refine el_pv (pv_assign rfl) (by decide) ?_
  refine el_nil ?_
  refine thn_n ?_
  refine cw_seq ?_
  refine cw_seq ?_
  refine cw_reg ?_
  refine el_pv (pv_assign rfl) (by decide) ?_
  refine el_nil ?_
  refine thn_n ?_
  refine cw_block ?_
  obtain ⟨s101, hL, hK102⟩ := ob hF
  refine cw_loopS (fun k e w => ∃ (x103 : Int), e 0 = u0 ∧ e 3 = .int .i64 x103 ∧ Sat w0 w [] ∧ spec_IsPermutation_L1 N k a0 x103 = some s101) N ?_ ?_ ?_
  · exact ⟨0, rfl, rfl, hS, hL⟩
  · rintro e w ⟨_, _, _, _, hz⟩; exact nomatch (show none = some _ from hz)
  · rintro k e107 w106 ⟨x103, he104, he105, hS, hF⟩
    refine cw_seq ?_
    refine cw_seq ?_
    refine cw_reg ?_
    refine el_pv (pv_move he105) (by decide) ?_
    refine el_pv (pv_move he104) (by decide) ?_
    refine el_pv (pv_len rfl ha0) (by decide) ?_
    refine el_pv (pv_lss rfl rfl) (by decide) ?_
    refine el_nil ?_
    refine thn_n ?_
    rcases oif hF with ⟨hb108, hF⟩ | ⟨hb108, hF⟩
    · refine cw_cond_t rfl hb108 ?_
      refine cw_skip ?_
      refine thn_n ?_
      refine cw_seq ?_
      refine cw_block ?_
      refine cw_seq ?_
      refine cw_regq (by kernel_rfl) (by kernel_rfl) ?_
      refine ql_pv (pv_move he104) (by decide) ?_
      refine ql_pv (pv_move he105) (by decide) ?_
      obtain ⟨x109, hx109, hF⟩ := ob hF
      refine ql_index (wA := w0) rfl ha0 rfl (by decide) rfl hx109 (by decide) ?_
      intro b110 of111 c112 hr113 hm114
      obtain rfl := hr113
      refine ql_pv (pv_loadc rfl ((cells_up hS.below hm114) 0 _ rfl)) (by decide) ?_
      refine ql_pv (pv_move he104) (by decide) ?_
      refine ql_pv (pv_len rfl ha0) (by decide) ?_
      obtain ⟨x115, hx115, hF⟩ := ob hF
      refine ql_pv (pv_sub rfl rfl hx115) (by decide) ?_
      obtain ⟨r116, hr116, hF⟩ := ob hF
      refine ql_call (.bool r116) goes62 (fun w' hw' => spec_l1In_ok hr116) (congrArg List.toArray (mapc rfl (mapc rfl (mapc rfl rfl)))) (by decide) ?_
      refine ql_pv (pv_not rfl) (by decide) ?_
      refine ql_pv (pv_move rfl) (by decide) ?_
      rcases oif hF with ⟨hb117, hF⟩ | ⟨hb117, hF⟩
      · refine ql_on rfl (bnot_t hb117) ?_
        refine ql_pv (pv_move he104) (by decide) ?_
        refine ql_on rfl (bnot_t hb117) ?_
        refine ql_pv (pv_move he105) (by decide) ?_
        refine ql_on rfl (bnot_t hb117) ?_
        obtain ⟨x118, hx118, hF⟩ := ob hF
        refine ql_slice (wA := w0) rfl rfl ha0 (.inr ⟨rfl, rfl⟩) (.inl (congrArg some rfl)) hx118 (by decide) ?_
        intro v119 hr120
        refine ql_on rfl (bnot_t hb117) ?_
        refine ql_pv (pv_move he104) (by decide) ?_
        refine ql_on rfl (bnot_t hb117) ?_
        refine ql_pv (pv_move he105) (by decide) ?_
        refine ql_on rfl (bnot_t hb117) ?_
        obtain ⟨x121, hx121, hF⟩ := ob hF
        refine ql_index (wA := w0) rfl ha0 rfl (by decide) rfl hx121 (by decide) ?_
        intro b122 of123 c124 hr125 hm126
        obtain rfl := hr125
        refine ql_on rfl (bnot_t hb117) ?_
        refine ql_pv (pv_loadc rfl ((cells_up hS.below hm126) 0 _ rfl)) (by decide) ?_
        refine ql_on rfl (bnot_t hb117) ?_
        obtain ⟨r127, hr127, hF⟩ := ob hF
        refine ql_call (.int .i64 r127) goes86 (fun w' hw' => spec_l7Find_ok (rd_up (hS.up hr120) hw') hr127) (congrArg List.toArray (mapc rfl (mapc rfl rfl))) (by decide) ?_
        refine ql_on rfl (bnot_t hb117) ?_
        refine ql_pv (pv_geq rfl rfl) (by decide) ?_
        refine ql_pv (pv_pick_f rfl (bnot_t hb117) rfl) (by decide) ?_
        refine ql_nil ?_
        intro w128 hx129
        have hS := hS.ext hx129
        refine thn_n ?_
        rcases oif hF with ⟨hb130, hF⟩ | ⟨hb130, hF⟩
        · refine cw_cond_t rfl hb130 ?_
          refine cw_seq ?_
          refine cw_reg ?_
          refine el_pv (pv_assign rfl) (by decide) ?_
          refine el_nil ?_
          refine thn_n ?_
          refine cw_ret ?_
          refine inb_r ?_
          refine thn_r ?_
          refine thn_r ?_
          refine inb_r ?_
          refine thn_r ?_
          obtain rfl := Option.some.inj hF
          have hF := hK102
          obtain rfl := Option.some.inj hF
          refine fin1 rfl rfl ?_
          exact ⟨rfl, hS.below⟩
        · refine cw_cond_f rfl hb130 ?_
          refine cw_skip ?_
          refine inb_n ?_
          refine thn_n ?_
          refine cw_reg ?_
          refine el_pv (pv_move he105) (by decide) ?_
          obtain ⟨x131, hx131, hF⟩ := ob hF
          refine el_pv (pv_add rfl rfl hx131) (by decide) ?_
          refine el_pv (pv_assign rfl) (by decide) ?_
          refine el_nil ?_
          refine thn_n ?_
          have hS := hS.keep 0
          exact ⟨x131, he104, rfl, hS, hF⟩
      · refine ql_off rfl (bnot_f hb117) rfl (by decide) ?_
        refine ql_off rfl (bnot_f hb117) rfl (by decide) ?_
        refine ql_off rfl (bnot_f hb117) rfl (by decide) ?_
        refine ql_off rfl (bnot_f hb117) rfl (by decide) ?_
        refine ql_off rfl (bnot_f hb117) rfl (by decide) ?_
        refine ql_off rfl (bnot_f hb117) rfl (by decide) ?_
        refine ql_off rfl (bnot_f hb117) rfl (by decide) ?_
        refine ql_off rfl (bnot_f hb117) rfl (by decide) ?_
        refine ql_off rfl (bnot_f hb117) rfl (by decide) ?_
        refine ql_pv (pv_pick_t rfl (bnot_f hb117) rfl) (by decide) ?_
        refine ql_nil ?_
        intro w132 hx133
        have hS := hS.ext hx133
        refine thn_n ?_
        refine cw_cond_t rfl rfl ?_
        refine cw_seq ?_
        refine cw_reg ?_
        refine el_pv (pv_assign rfl) (by decide) ?_
        refine el_nil ?_
        refine thn_n ?_
        refine cw_ret ?_
        refine inb_r ?_
        refine thn_r ?_
        refine thn_r ?_
        refine inb_r ?_
        refine thn_r ?_
        obtain rfl := Option.some.inj hF
        have hF := hK102
        obtain rfl := Option.some.inj hF
        refine fin1 rfl rfl ?_
        exact ⟨rfl, hS.below⟩
    · refine cw_cond_f rfl hb108 ?_
      refine cw_exit ?_
      refine thn_x ?_
      refine thn_x ?_
      obtain rfl := Option.some.inj hF
      have hF := hK102
      refine inb_s ?_
      refine thn_n ?_
      refine cw_seq ?_
      refine cw_reg ?_
      refine el_pv (pv_move he104) (by decide) ?_
      refine el_pv (pv_len rfl ha0) (by decide) ?_
      refine el_pv (pv_leq rfl rfl) (by decide) ?_
      refine el_pv (pv_assign rfl) (by decide) ?_
      refine el_nil ?_
      refine thn_n ?_
      refine cw_ret ?_
      obtain rfl := Option.some.inj hF
      refine fin1 rfl rfl ?_
      exact ⟨rfl, hS.below⟩
theorem spec_IsStrictlyAscending_ok {w0 : World} {u0 : Value} {a0 : List Int} (ha0 : (sliceR intR 3).rd w0 [u0] a0) {N : Nat} {r : Bool} (hF : spec_IsStrictlyAscending N a0 = some r) :
    Calls Try.prog 60 #[u0] w0 fun e w' => e = .returned (.bool r) ∧ Ext w0 w' := by
  unfold spec_IsStrictlyAscending at hF
  refine calls_E Try.func60 rfl rfl (of_decide_eq_true rfl) ?_
  have hS := Sat.start w0
  refine cw_seq ?_
  refine cw_reg ?_
  refine el_pv (pv_assign rfl) (by decide) ?_
  refine el_nil ?_
  refine thn_n ?_
  refine cw_seq ?_
  refine cw_seq ?_
  refine cw_reg ?_
  refine el_pv (pv_assign rfl) (by decide) ?_
  refine el_nil ?_
  refine thn_n ?_
  refine cw_block ?_
  obtain ⟨s101, hL, hK102⟩ := ob hF
  refine cw_loopS (fun k e w => ∃ (x103 : Int), e 0 = u0 ∧ e 3 = .int .i64 x103 ∧ Sat w0 w [] ∧ spec_IsStrictlyAscending_L1 N k a0 x103 = some s101) N ?_ ?_ ?_
  · exact ⟨1, rfl, rfl, hS, hL⟩
  · rintro e w ⟨_, _, _, _, hz⟩; exact nomatch (show none = some _ from hz)
  · rintro k e107 w106 ⟨x103, he104, he105, hS, hF⟩
    refine cw_seq ?_
    refine cw_seq ?_
    refine cw_reg ?_
    refine el_pv (pv_move he105) (by decide) ?_
    refine el_pv (pv_move he104) (by decide) ?_
    refine el_pv (pv_len rfl ha0) (by decide) ?_
    refine el_pv (pv_lss rfl rfl) (by decide) ?_
    refine el_nil ?_
    refine thn_n ?_
    rcases oif hF with ⟨hb108, hF⟩ | ⟨hb108, hF⟩
    · refine cw_cond_t rfl hb108 ?_
      refine cw_skip ?_
      refine thn_n ?_
      refine cw_seq ?_
      refine cw_block ?_
      refine cw_seq ?_
      refine cw_regq (by kernel_rfl) (by kernel_rfl) ?_
      refine ql_pv (pv_move he104) (by decide) ?_
      refine ql_pv (pv_move he105) (by decide) ?_
      obtain ⟨x109, hx109, hF⟩ := ob hF
      refine ql_index (wA := w0) rfl ha0 rfl (by decide) rfl hx109 (by decide) ?_
      intro b110 of111 c112 hr113 hm114
      obtain rfl := hr113
      refine ql_pv (pv_loadc rfl ((cells_up hS.below hm114) 0 _ rfl)) (by decide) ?_
      refine ql_pv (pv_move he104) (by decide) ?_
      refine ql_pv (pv_move he105) (by decide) ?_
      obtain ⟨x115, hx115, hF⟩ := ob hF
      refine ql_pv (pv_sub rfl rfl hx115) (by decide) ?_
      obtain ⟨x116, hx116, hF⟩ := ob hF
      refine ql_index (wA := w0) rfl ha0 rfl (by decide) rfl hx116 (by decide) ?_
      intro b117 of118 c119 hr120 hm121
      obtain rfl := hr120
      refine ql_pv (pv_loadc rfl ((cells_up hS.below hm121) 0 _ rfl)) (by decide) ?_
      refine ql_pv (pv_leq rfl rfl) (by decide) ?_
      refine ql_nil ?_
      intro w122 hx123
      have hS := hS.ext hx123
      refine thn_n ?_
      rcases oif hF with ⟨hb124, hF⟩ | ⟨hb124, hF⟩
      · refine cw_cond_t rfl hb124 ?_
        refine cw_seq ?_
        refine cw_reg ?_
        refine el_pv (pv_assign rfl) (by decide) ?_
        refine el_nil ?_
        refine thn_n ?_
        refine cw_ret ?_
        refine inb_r ?_
        refine thn_r ?_
        refine thn_r ?_
        refine inb_r ?_
        refine thn_r ?_
        obtain rfl := Option.some.inj hF
        have hF := hK102
        obtain rfl := Option.some.inj hF
        refine fin1 rfl rfl ?_
        exact ⟨rfl, hS.below⟩
      · refine cw_cond_f rfl hb124 ?_
        refine cw_skip ?_
        refine inb_n ?_
        refine thn_n ?_
        refine cw_reg ?_
        refine el_pv (pv_move he105) (by decide) ?_
        obtain ⟨x125, hx125, hF⟩ := ob hF
        refine el_pv (pv_add rfl rfl hx125) (by decide) ?_
        refine el_pv (pv_assign rfl) (by decide) ?_
        refine el_nil ?_
        refine thn_n ?_
        have hS := hS.keep 0
        exact ⟨x125, he104, rfl, hS, hF⟩
    · refine cw_cond_f rfl hb108 ?_
      refine cw_exit ?_
      refine thn_x ?_
      refine thn_x ?_
      obtain rfl := Option.some.inj hF
      have hF := hK102
      refine inb_s ?_
      refine thn_n ?_
      refine cw_seq ?_
      refine cw_reg ?_
      refine el_pv (pv_assign rfl) (by decide) ?_
      refine el_nil ?_
      refine thn_n ?_
      refine cw_ret ?_
      obtain rfl := Option.some.inj hF
      refine fin1 rfl rfl ?_
      exact ⟨rfl, hS.below⟩
theorem spec_AreValidValues_ok {w0 : World} {u0 : Value} {a0 : List Int} (ha0 : (sliceR intR 3).rd w0 [u0] a0) {N : Nat} {r : Bool} (hF : spec_AreValidValues N a0 = some r) :
    Calls Try.prog 61 #[u0] w0 fun e w' => e = .returned (.bool r) ∧ Ext w0 w' := by
  unfold spec_AreValidValues at hF
  refine calls_E Try.func61 rfl rfl (of_decide_eq_true rfl) ?_
  have hS := Sat.start w0
  refine cw_seq ?_
  refine cw_reg ?_
  refine el_pv (pv_assign rfl) (by decide) ?_
  refine el_nil ?_
  refine thn_n ?_
  refine cw_seq ?_
  refine cw_seq ?_
  refine cw_reg ?_
  refine el_pv (pv_assign rfl) (by decide) ?_
  refine el_nil ?_
  refine thn_n ?_
  refine cw_block ?_
  obtain ⟨s101, hL, hK102⟩ := ob hF
  refine cw_loopS (fun k e w => ∃ (x103 : Int), e 0 = u0 ∧ e 3 = .int .i64 x103 ∧ Sat w0 w [] ∧ spec_AreValidValues_L1 N k a0 x103 = some s101) N ?_ ?_ ?_
  · exact ⟨0, rfl, rfl, hS, hL⟩
  · rintro e w ⟨_, _, _, _, hz⟩; exact nomatch (show none = some _ from hz)
  · rintro k e107 w106 ⟨x103, he104, he105, hS, hF⟩
    refine cw_seq ?_
    refine cw_seq ?_
    refine cw_reg ?_
    refine el_pv (pv_move he105) (by decide) ?_
    refine el_pv (pv_move he104) (by decide) ?_
    refine el_pv (pv_len rfl ha0) (by decide) ?_
    refine el_pv (pv_lss rfl rfl) (by decide) ?_
    refine el_nil ?_
    refine thn_n ?_
    rcases oif hF with ⟨hb108, hF⟩ | ⟨hb108, hF⟩
    · refine cw_cond_t rfl hb108 ?_
      refine cw_skip ?_
      refine thn_n ?_
      refine cw_seq ?_
      refine cw_block ?_
      refine cw_seq ?_
      refine cw_reg ?_
      refine el_pv (pv_move he104) (by decide) ?_
      refine el_pv (pv_move he105) (by decide) ?_
      obtain ⟨x109, hx109, hF⟩ := ob hF
      refine el_index (wA := w0) rfl ha0 rfl (by decide) rfl hx109 (by decide) ?_
      intro b110 of111 c112 hr113 hm114
      obtain rfl := hr113
      refine el_pv (pv_loadc rfl ((cells_up hS.below hm114) 0 _ rfl)) (by decide) ?_
      obtain ⟨r115, hr115, hF⟩ := ob hF
      refine el_call goes62 (spec_l1In_ok hr115) (congrArg List.toArray (mapc rfl (mapc rfl (mapc rfl rfl)))) (by decide) ?_
      rintro _ w116 ⟨rfl, hx117⟩
      refine ⟨_, rfl, ?_⟩
      have hS := hS.ext hx117
      refine el_pv (pv_not rfl) (by decide) ?_
      refine el_nil ?_
      refine thn_n ?_
      rcases oif hF with ⟨hb118, hF⟩ | ⟨hb118, hF⟩
      · refine cw_cond_f rfl (bnot_t hb118) ?_
        refine cw_skip ?_
        refine inb_n ?_
        refine thn_n ?_
        refine cw_reg ?_
        refine el_pv (pv_move he105) (by decide) ?_
        obtain ⟨x119, hx119, hF⟩ := ob hF
        refine el_pv (pv_add rfl rfl hx119) (by decide) ?_
        refine el_pv (pv_assign rfl) (by decide) ?_
        refine el_nil ?_
        refine thn_n ?_
        have hS := hS.keep 0
        exact ⟨x119, he104, rfl, hS, hF⟩
      · refine cw_cond_t rfl (bnot_f hb118) ?_
        refine cw_seq ?_
        refine cw_reg ?_
        refine el_pv (pv_assign rfl) (by decide) ?_
        refine el_nil ?_
        refine thn_n ?_
        refine cw_ret ?_
        refine inb_r ?_
        refine thn_r ?_
        refine thn_r ?_
        refine inb_r ?_
        refine thn_r ?_
        obtain rfl := Option.some.inj hF
        have hF := hK102
        obtain rfl := Option.some.inj hF
        refine fin1 rfl rfl ?_
        exact ⟨rfl, hS.below⟩
    · refine cw_cond_f rfl hb108 ?_
      refine cw_exit ?_
      refine thn_x ?_
      refine thn_x ?_
      obtain rfl := Option.some.inj hF
      have hF := hK102
      refine inb_s ?_
      refine thn_n ?_
      refine cw_seq ?_
      refine cw_reg ?_
      refine el_pv (pv_assign rfl) (by decide) ?_
      refine el_nil ?_
      refine thn_n ?_
      refine cw_ret ?_
      obtain rfl := Option.some.inj hF
      refine fin1 rfl rfl ?_
      exact ⟨rfl, hS.below⟩
end Go.Proofs.Ytobjjdfgnaanjaa
