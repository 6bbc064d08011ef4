/- The walks through functions of the program: each hands back what it comes to. No condition but that it comes to something. -/
import Derived.Test.YtobjjdfgnaanjaaW1
import Derived.Test.YtobjjdfgnaanjaaW2D
namespace Go.Proofs.Ytobjjdfgnaanjaa
open Go.RowKit
set_option maxRecDepth 100000
theorem laws_toRelation_ok {w0 : World} {a0 : Int} {u1 : Value} {a1 : List (List Int)} (ha1 : (sliceR (sliceR intR 3) 22).rd w0 [u1] a1) {N : Nat} {r : Int × List (List Int)} (hF : laws_toRelation N a0 a1 = some r) :
    Calls Try.prog 27 #[.agg #[.int .i64 a0, u1]] w0 fun e w' => ∃ q0, e = .returned (.agg #[.int .i64 r.1, q0]) ∧ Sat w0 w' [Own (sliceR (sliceR intR 3) 22) [q0] r.2] := by
  unfold laws_toRelation at hF
  refine calls_E Try.func27 rfl rfl (of_decide_eq_true rfl) ?_
  have hS := Sat.start w0
  refine cw_seq ?_
  refine cw_reg ?_
  refine el_box [.int .i64 a0, u1] rfl hS (by decide) ?_
  intro w101 b102 hS hx103
  refine el_alloc hS (by decide) ?_
  intro w105 b106 hS hx107
  refine el_nil ?_
  refine thn_n ?_
  refine cw_seq ?_
  refine cw_reg ?_
  refine el_alloc hS (by decide) ?_
  intro w109 b110 hS hx111
  refine el_nil ?_
  refine thn_n ?_
  refine cw_seq ?_
  refine cw_reg ?_
  refine el_pv (pv_fieldAddr rfl) (by decide) ?_
  refine el_pv (pv_loadc rfl ((hS.boxAt 2 rfl) 0 _ rfl)) (by decide) ?_
  refine el_pv (pv_fieldAddr rfl) (by decide) ?_
  refine el_storev (hS.top 0 rfl) rfl [.int .i64 a0] rfl rfl (of_decide_eq_true rfl) (all_cons rfl rfl) ?_
  intro w113 hS
  replace hS : Sat w0 w113 (Box b110 40 [.int .i64 a0, (.slice none 0 0)] :: _) := hS
  refine el_nil ?_
  refine thn_n ?_
  refine cw_seq ?_
  refine cw_reg ?_
  refine el_pv (pv_fieldAddr rfl) (by decide) ?_
  refine el_pv (pv_loadc rfl ((hS.boxAt 2 rfl) 1 _ rfl)) (by decide) ?_
  obtain ⟨r114, hr114, hF⟩ := ob hF
  refine el_call goes69 (laws_toIntSS_ok (hS.up ha1) hr114) (congrArg List.toArray (mapc rfl rfl)) (by decide) ?_
  rintro _ w117 ⟨v115, rfl, hS'⟩
  refine ⟨_, rfl, ?_⟩
  have hx118 := hS'.below
  have hS := hS.call1 hS'
  refine el_pv (pv_fieldAddr rfl) (by decide) ?_
  refine el_storev (hS.top 1 rfl) rfl [v115] (cells_of rfl (oc (hS.rdAt (R := (sliceR (sliceR intR 3) 22)) 0 rfl))) rfl (of_decide_eq_true rfl) (all_cons (oc (hS.rdAt (R := (sliceR (sliceR intR 3) 22)) 0 rfl)) rfl) ?_
  intro w119 hS
  replace hS : Sat w0 w119 (Box b110 40 [.int .i64 a0, v115] :: _) := hS
  refine el_nil ?_
  refine thn_n ?_
  refine cw_seq ?_
  refine cw_reg ?_
  refine el_pv (pv_loada (cs := [.int .i64 a0, v115]) rfl rfl (boxc0 (hS.boxAt 0 rfl))) (by decide) ?_
  refine el_storev (hS.top 2 rfl) rfl [.int .i64 a0, v115] rfl rfl (of_decide_eq_true rfl) (all_cons rfl (all_cons (oc (hS.rdAt (R := (sliceR (sliceR intR 3) 22)) 1 rfl)) rfl)) ?_
  intro w120 hS
  replace hS : Sat w0 w120 (Box b106 40 [.int .i64 a0, v115] :: _) := hS
  refine el_nil ?_
  refine thn_n ?_
  refine cw_ret ?_
  obtain rfl := Option.some.inj hF
  refine finC (cs := [.int .i64 a0, v115]) rfl rfl rfl (boxc0 (hS.boxAt 0 rfl))  ?_
  have hS := hS.top 2 rfl
  exact ⟨_, rfl, hS.keep 1⟩
theorem laws_toDelta_ok {w0 : World} {a0 : ByteArray} {a1 : Int} {u2 : Value} {a2 : List (List Int)} {a3 : Int} {u4 : Value} {a4 : List (List Int)} (ha2 : (sliceR (sliceR intR 3) 22).rd w0 [u2] a2) (ha4 : (sliceR (sliceR intR 3) 22).rd w0 [u4] a4) {N : Nat} {r : ByteArray × (Int × List (List Int)) × (Int × List (List Int))} (hF : laws_toDelta N a0 a1 a2 a3 a4 = some r) :
    Calls Try.prog 16 #[.agg #[.string a0, .int .i64 a1, u2, .int .i64 a3, u4]] w0 fun e w' => ∃ q0 q1, e = .returned (.agg #[.string r.1, .int .i64 r.2.1.1, q0, .int .i64 r.2.2.1, q1]) ∧ Sat w0 w' [Own (sliceR (sliceR intR 3) 22) [q0] r.2.1.2, Own (sliceR (sliceR intR 3) 22) [q1] r.2.2.2] := by
  unfold laws_toDelta at hF
  refine calls_E Try.func16 rfl rfl (of_decide_eq_true rfl) ?_
  have hS := Sat.start w0
  refine cw_seq ?_
  refine cw_reg ?_
  refine el_box [.string a0, .int .i64 a1, u2, .int .i64 a3, u4] rfl hS (by decide) ?_
  intro w101 b102 hS hx103
  refine el_alloc hS (by decide) ?_
  intro w105 b106 hS hx107
  refine el_nil ?_
  refine thn_n ?_
  refine cw_seq ?_
  refine cw_reg ?_
  refine el_alloc hS (by decide) ?_
  intro w109 b110 hS hx111
  refine el_nil ?_
  refine thn_n ?_
  refine cw_seq ?_
  refine cw_reg ?_
  refine el_pv (pv_fieldAddr rfl) (by decide) ?_
  refine el_pv (pv_loadc rfl ((hS.boxAt 2 rfl) 0 _ rfl)) (by decide) ?_
  refine el_pv (pv_fieldAddr rfl) (by decide) ?_
  refine el_storev (hS.top 0 rfl) rfl [.string a0] rfl rfl (of_decide_eq_true rfl) (all_cons rfl rfl) ?_
  intro w113 hS
  replace hS : Sat w0 w113 (Box b110 42 [.string a0, .int .i64 0, (.slice none 0 0), .int .i64 0, (.slice none 0 0)] :: _) := hS
  refine el_nil ?_
  refine thn_n ?_
  refine cw_seq ?_
  refine cw_reg ?_
  refine el_pv (pv_fieldAddr rfl) (by decide) ?_
  refine el_pv (pv_loada (cs := [.int .i64 a1, u2]) rfl rfl (boxc (hS.boxAt 2 rfl) 1 2)) (by decide) ?_
  obtain ⟨r114, hr114, hF⟩ := ob hF
  refine el_call goes27 (laws_toRelation_ok (hS.up ha2) hr114) (congrArg List.toArray (mapc rfl rfl)) (by decide) ?_
  rintro _ w117 ⟨v115, rfl, hS'⟩
  refine ⟨_, rfl, ?_⟩
  have hx118 := hS'.below
  have hS := hS.call1 hS'
  refine el_pv (pv_fieldAddr rfl) (by decide) ?_
  refine el_storev (hS.top 1 rfl) rfl [.int .i64 r114.1, v115] rfl rfl (of_decide_eq_true rfl) (all_cons rfl (all_cons (oc (hS.rdAt (R := (sliceR (sliceR intR 3) 22)) 0 rfl)) rfl)) ?_
  intro w119 hS
  replace hS : Sat w0 w119 (Box b110 42 [.string a0, .int .i64 r114.1, v115, .int .i64 0, (.slice none 0 0)] :: _) := hS
  refine el_nil ?_
  refine thn_n ?_
  refine cw_seq ?_
  refine cw_reg ?_
  refine el_pv (pv_fieldAddr rfl) (by decide) ?_
  refine el_pv (pv_loada (cs := [.int .i64 a3, u4]) rfl rfl (boxc (hS.boxAt 3 rfl) 3 2)) (by decide) ?_
  obtain ⟨r120, hr120, hF⟩ := ob hF
  refine el_call goes27 (laws_toRelation_ok (hS.up ha4) hr120) (congrArg List.toArray (mapc rfl rfl)) (by decide) ?_
  rintro _ w123 ⟨v121, rfl, hS'⟩
  refine ⟨_, rfl, ?_⟩
  have hx124 := hS'.below
  have hS := hS.call1 hS'
  refine el_pv (pv_fieldAddr rfl) (by decide) ?_
  refine el_storev (hS.top 1 rfl) rfl [.int .i64 r120.1, v121] rfl rfl (of_decide_eq_true rfl) (all_cons rfl (all_cons (oc (hS.rdAt (R := (sliceR (sliceR intR 3) 22)) 0 rfl)) rfl)) ?_
  intro w125 hS
  replace hS : Sat w0 w125 (Box b110 42 [.string a0, .int .i64 r114.1, v115, .int .i64 r120.1, v121] :: _) := hS
  refine el_nil ?_
  refine thn_n ?_
  refine cw_seq ?_
  refine cw_reg ?_
  refine el_pv (pv_loada (cs := [.string a0, .int .i64 r114.1, v115, .int .i64 r120.1, v121]) rfl rfl (boxc0 (hS.boxAt 0 rfl))) (by decide) ?_
  refine el_storev (hS.top 3 rfl) rfl [.string a0, .int .i64 r114.1, v115, .int .i64 r120.1, v121] rfl rfl (of_decide_eq_true rfl) (all_cons rfl (all_cons rfl (all_cons (oc (hS.rdAt (R := (sliceR (sliceR intR 3) 22)) 2 rfl)) (all_cons rfl (all_cons (oc (hS.rdAt (R := (sliceR (sliceR intR 3) 22)) 1 rfl)) rfl))))) ?_
  intro w126 hS
  replace hS : Sat w0 w126 (Box b106 42 [.string a0, .int .i64 r114.1, v115, .int .i64 r120.1, v121] :: _) := hS
  refine el_nil ?_
  refine thn_n ?_
  refine cw_ret ?_
  obtain rfl := Option.some.inj hF
  refine finC (cs := [.string a0, .int .i64 r114.1, v115, .int .i64 r120.1, v121]) rfl rfl rfl (boxc0 (hS.boxAt 0 rfl))  ?_
  have hS := hS.top 2 rfl
  have hS := hS.top 3 rfl
  exact ⟨_, _, rfl, hS.keep 2⟩
theorem impl_sameRows_ok {w0 : World} {u0 : Value} {a0 : List (List Int)} {u1 : Value} {a1 : List (List Int)} (ha0 : (sliceR (sliceR intR 3) 22).rd w0 [u0] a0) (ha1 : (sliceR (sliceR intR 3) 22).rd w0 [u1] a1) {N : Nat} {r : Bool} (hF : impl_sameRows N a0 a1 = some r) :
    Calls Try.prog 82 #[u0, u1] w0 fun e w' => e = .returned (.bool r) ∧ Ext w0 w' := by
  unfold impl_sameRows at hF
  refine calls_E Try.func82 rfl rfl (of_decide_eq_true rfl) ?_
  have hS := Sat.start w0
  refine cw_seq ?_
  refine cw_reg ?_
  refine el_pv (pv_assign rfl) (by decide) ?_
  refine el_nil ?_
  refine thn_n ?_
  refine cw_seq ?_
  refine cw_seq ?_
  refine cw_reg ?_
  refine el_pv (pv_move rfl) (by decide) ?_
  refine el_pv (pv_len rfl ha0) (by decide) ?_
  refine el_pv (pv_move rfl) (by decide) ?_
  refine el_pv (pv_len rfl ha1) (by decide) ?_
  refine el_pv (pv_neq rfl rfl) (by decide) ?_
  refine el_nil ?_
  refine thn_n ?_
  rcases oif hF with ⟨hb101, hF⟩ | ⟨hb101, hF⟩
  · refine cw_cond_t rfl hb101 ?_
    refine cw_seq ?_
    refine cw_reg ?_
    refine el_pv (pv_assign rfl) (by decide) ?_
    refine el_nil ?_
    refine thn_n ?_
    refine cw_ret ?_
    refine thn_r ?_
    obtain rfl := Option.some.inj hF
    refine fin1 rfl rfl ?_
    exact ⟨rfl, hS.below⟩
  · refine cw_cond_f rfl hb101 ?_
    refine cw_skip ?_
    refine thn_n ?_
    refine cw_seq ?_
    refine cw_seq ?_
    refine cw_reg ?_
    refine el_pv (pv_move rfl) (by decide) ?_
    refine el_pv (pv_len rfl ha0) (by decide) ?_
    refine el_pv (pv_move rfl) (by decide) ?_
    refine el_nil ?_
    refine thn_n ?_
    refine cw_block ?_
    obtain ⟨s102, hL, hK103⟩ := ob hF
    refine cw_loopS (fun k e w => ∃ (x104 : Int), e 0 = u0 ∧ e 1 = u1 ∧ e 12 = .int .i64 (a0.length : Int) ∧ e 13 = .int .i64 x104 ∧ Sat w0 w [] ∧ impl_sameRows_L1 N k a0 a1 (a0.length : Int) x104 = some s102) N ?_ ?_ ?_
    · exact ⟨0, rfl, rfl, rfl, rfl, hS, hL⟩
    · rintro e w ⟨_, _, _, _, _, _, hz⟩; exact nomatch (show none = some _ from hz)
    · rintro k e110 w109 ⟨x104, he105, he106, he107, he108, hS, hF⟩
      refine cw_seq ?_
      refine cw_reg ?_
      refine el_pv (pv_lss he108 he107) (by decide) ?_
      refine el_nil ?_
      refine thn_n ?_
      refine cw_seq ?_
      rcases oif hF with ⟨hb111, hF⟩ | ⟨hb111, hF⟩
      · refine cw_cond_t rfl hb111 ?_
        refine cw_skip ?_
        refine thn_n ?_
        refine cw_seq ?_
        refine cw_block ?_
        refine cw_seq ?_
        refine cw_reg ?_
        refine el_pv (pv_move he108) (by decide) ?_
        refine el_pv (pv_assign rfl) (by decide) ?_
        refine el_nil ?_
        refine thn_n ?_
        refine cw_seq ?_
        refine cw_regq (by kernel_rfl) (by kernel_rfl) ?_
        refine ql_pv (pv_move he105) (by decide) ?_
        refine ql_pv (pv_move rfl) (by decide) ?_
        obtain ⟨x112, hx112, hF⟩ := ob hF
        refine ql_index (wA := w0) rfl ha0 rfl (by decide) rfl hx112 (by decide) ?_
        intro b113 of114 c115 hr116 hm117
        obtain ⟨v118, rfl⟩ := slice_one hr116
        refine ql_pv (pv_loadc rfl ((cells_up hS.below hm117) 0 _ rfl)) (by decide) ?_
        refine ql_pv (pv_move he106) (by decide) ?_
        refine ql_pv (pv_move rfl) (by decide) ?_
        obtain ⟨x119, hx119, hF⟩ := ob hF
        refine ql_index (wA := w0) rfl ha1 rfl (by decide) rfl hx119 (by decide) ?_
        intro b120 of121 c122 hr123 hm124
        obtain ⟨v125, rfl⟩ := slice_one hr123
        refine ql_pv (pv_loadc rfl ((cells_up hS.below hm124) 0 _ rfl)) (by decide) ?_
        obtain ⟨r126, hr126, hF⟩ := ob hF
        refine ql_call (.bool r126) goes49 (fun w' hw' => impl_sameInts_ok (rd_up (hS.up hr116) hw') (rd_up (hS.up hr123) hw') hr126) (congrArg List.toArray (mapc rfl (mapc rfl rfl))) (by decide) ?_
        refine ql_pv (pv_not rfl) (by decide) ?_
        refine ql_nil ?_
        intro w127 hx128
        have hS := hS.ext hx128
        refine thn_n ?_
        rcases oif hF with ⟨hb129, hF⟩ | ⟨hb129, hF⟩
        · refine cw_cond_f rfl (bnot_t hb129) ?_
          refine cw_skip ?_
          refine inb_n ?_
          refine thn_n ?_
          refine cw_reg ?_
          obtain ⟨x130, hx130, hF⟩ := ob hF
          refine el_pv (pv_add he108 rfl hx130) (by decide) ?_
          refine el_pv (pv_move rfl) (by decide) ?_
          refine el_nil ?_
          refine thn_n ?_
          have hS := hS.keep 0
          exact ⟨x130, he105, he106, he107, rfl, hS, hF⟩
        · refine cw_cond_t rfl (bnot_f hb129) ?_
          refine cw_seq ?_
          refine cw_reg ?_
          refine el_pv (pv_assign rfl) (by decide) ?_
          refine el_nil ?_
          refine thn_n ?_
          refine cw_ret ?_
          refine inb_r ?_
          refine thn_r ?_
          refine thn_r ?_
          refine inb_r ?_
          refine thn_r ?_
          obtain rfl := Option.some.inj hF
          have hF := hK103
          obtain rfl := Option.some.inj hF
          refine fin1 rfl rfl ?_
          exact ⟨rfl, hS.below⟩
      · refine cw_cond_f rfl hb111 ?_
        refine cw_exit ?_
        refine thn_x ?_
        refine thn_x ?_
        obtain rfl := Option.some.inj hF
        have hF := hK103
        refine inb_s ?_
        refine thn_n ?_
        refine cw_seq ?_
        refine cw_reg ?_
        refine el_pv (pv_assign rfl) (by decide) ?_
        refine el_nil ?_
        refine thn_n ?_
        refine cw_ret ?_
        obtain rfl := Option.some.inj hF
        refine fin1 rfl rfl ?_
        exact ⟨rfl, hS.below⟩
theorem impl_EqualRelations_ok {w0 : World} {a0 : Int} {u1 : Value} {a1 : List (List Int)} {a2 : Int} {u3 : Value} {a3 : List (List Int)} (ha1 : (sliceR (sliceR intR 3) 22).rd w0 [u1] a1) (ha3 : (sliceR (sliceR intR 3) 22).rd w0 [u3] a3) {N : Nat} {r : Bool} (hF : impl_EqualRelations N a0 a1 a2 a3 = some r) :
    Calls Try.prog 54 #[.agg #[.int .i64 a0, u1], .agg #[.int .i64 a2, u3]] w0 fun e w' => e = .returned (.bool r) ∧ Ext w0 w' := by
  unfold impl_EqualRelations at hF
  refine calls_E Try.func54 rfl rfl (of_decide_eq_true rfl) ?_
  have hS := Sat.start w0
  refine cw_seq ?_
  refine cw_reg ?_
  refine el_box [.int .i64 a0, u1] rfl hS (by decide) ?_
  intro w101 b102 hS hx103
  refine el_box [.int .i64 a2, u3] rfl hS (by decide) ?_
  intro w105 b106 hS hx107
  refine el_pv (pv_assign rfl) (by decide) ?_
  refine el_nil ?_
  refine thn_n ?_
  refine cw_seq ?_
  refine cw_reg ?_
  refine el_pv (pv_fieldAddr rfl) (by decide) ?_
  refine el_pv (pv_loadc rfl ((hS.boxAt 1 rfl) 0 _ rfl)) (by decide) ?_
  refine el_pv (pv_fieldAddr rfl) (by decide) ?_
  refine el_pv (pv_loadc rfl ((hS.boxAt 0 rfl) 0 _ rfl)) (by decide) ?_
  refine el_pv (pv_eql rfl rfl) (by decide) ?_
  refine el_pv (pv_move rfl) (by decide) ?_
  rcases oif hF with ⟨hb109, hF⟩ | ⟨hb109, hF⟩
  · refine el_on rfl hb109 ?_
    refine el_pv (pv_fieldAddr rfl) (by decide) ?_
    refine el_on rfl hb109 ?_
    refine el_pv (pv_loadc rfl ((hS.boxAt 1 rfl) 1 _ rfl)) (by decide) ?_
    refine el_on rfl hb109 ?_
    refine el_pv (pv_fieldAddr rfl) (by decide) ?_
    refine el_on rfl hb109 ?_
    refine el_pv (pv_loadc rfl ((hS.boxAt 0 rfl) 1 _ rfl)) (by decide) ?_
    refine el_on rfl hb109 ?_
    obtain ⟨r110, hr110, hF⟩ := ob hF
    refine el_call goes82 (impl_sameRows_ok (hS.up ha1) (hS.up ha3) hr110) (congrArg List.toArray (mapc rfl (mapc rfl rfl))) (by decide) ?_
    rintro _ w111 ⟨rfl, hx112⟩
    refine ⟨_, rfl, ?_⟩
    have hS := hS.ext hx112
    refine el_pv (pv_pick_t rfl hb109 rfl) (by decide) ?_
    refine el_pv (pv_assign rfl) (by decide) ?_
    refine el_nil ?_
    refine thn_n ?_
    refine cw_ret ?_
    obtain rfl := Option.some.inj hF
    refine fin1 rfl rfl ?_
    exact ⟨rfl, hS.below⟩
  · refine el_off rfl hb109 rfl (by decide) ?_
    refine el_off rfl hb109 rfl (by decide) ?_
    refine el_off rfl hb109 rfl (by decide) ?_
    refine el_off rfl hb109 rfl (by decide) ?_
    refine el_off rfl hb109 rfl (by decide) ?_
    refine el_pv (pv_pick_f rfl hb109 rfl) (by decide) ?_
    refine el_pv (pv_assign rfl) (by decide) ?_
    refine el_nil ?_
    refine thn_n ?_
    refine cw_ret ?_
    obtain rfl := Option.some.inj hF
    refine fin1 rfl rfl ?_
    exact ⟨rfl, hS.below⟩
theorem impl_EqualDeltas_ok {w0 : World} {a0 : ByteArray} {a1 : Int} {u2 : Value} {a2 : List (List Int)} {a3 : Int} {u4 : Value} {a4 : List (List Int)} {a5 : ByteArray} {a6 : Int} {u7 : Value} {a7 : List (List Int)} {a8 : Int} {u9 : Value} {a9 : List (List Int)} (ha2 : (sliceR (sliceR intR 3) 22).rd w0 [u2] a2) (ha4 : (sliceR (sliceR intR 3) 22).rd w0 [u4] a4) (ha7 : (sliceR (sliceR intR 3) 22).rd w0 [u7] a7) (ha9 : (sliceR (sliceR intR 3) 22).rd w0 [u9] a9) {N : Nat} {r : Bool} (hF : impl_EqualDeltas N a0 a1 a2 a3 a4 a5 a6 a7 a8 a9 = some r) :
    Calls Try.prog 17 #[.agg #[.string a0, .int .i64 a1, u2, .int .i64 a3, u4], .agg #[.string a5, .int .i64 a6, u7, .int .i64 a8, u9]] w0 fun e w' => e = .returned (.bool r) ∧ Ext w0 w' := by
  unfold impl_EqualDeltas at hF
  refine calls_E Try.func17 rfl rfl (of_decide_eq_true rfl) ?_
  have hS := Sat.start w0
  refine cw_seq ?_
  refine cw_reg ?_
  refine el_box [.string a0, .int .i64 a1, u2, .int .i64 a3, u4] rfl hS (by decide) ?_
  intro w101 b102 hS hx103
  refine el_box [.string a5, .int .i64 a6, u7, .int .i64 a8, u9] rfl hS (by decide) ?_
  intro w105 b106 hS hx107
  refine el_pv (pv_assign rfl) (by decide) ?_
  refine el_nil ?_
  refine thn_n ?_
  refine cw_seq ?_
  refine cw_reg ?_
  refine el_pv (pv_fieldAddr rfl) (by decide) ?_
  refine el_pv (pv_loadc rfl ((hS.boxAt 1 rfl) 0 _ rfl)) (by decide) ?_
  refine el_pv (pv_fieldAddr rfl) (by decide) ?_
  refine el_pv (pv_loadc rfl ((hS.boxAt 0 rfl) 0 _ rfl)) (by decide) ?_
  refine el_pv (pv_eqlS rfl rfl) (by decide) ?_
  refine el_pv (pv_move rfl) (by decide) ?_
  rcases oif hF with ⟨hb109, hF⟩ | ⟨hb109, hF⟩
  · refine el_on rfl hb109 ?_
    refine el_pv (pv_fieldAddr rfl) (by decide) ?_
    refine el_on rfl hb109 ?_
    refine el_pv (pv_loada (cs := [.int .i64 a1, u2]) rfl rfl (boxc (hS.boxAt 1 rfl) 1 2)) (by decide) ?_
    refine el_on rfl hb109 ?_
    refine el_pv (pv_fieldAddr rfl) (by decide) ?_
    refine el_on rfl hb109 ?_
    refine el_pv (pv_loada (cs := [.int .i64 a6, u7]) rfl rfl (boxc (hS.boxAt 0 rfl) 1 2)) (by decide) ?_
    refine el_on rfl hb109 ?_
    obtain ⟨r110, hr110, hF⟩ := ob hF
    refine el_call goes54 (impl_EqualRelations_ok (hS.up ha2) (hS.up ha7) hr110) (congrArg List.toArray (mapc rfl (mapc rfl rfl))) (by decide) ?_
    rintro _ w111 ⟨rfl, hx112⟩
    refine ⟨_, rfl, ?_⟩
    have hS := hS.ext hx112
    refine el_pv (pv_pick_t rfl hb109 rfl) (by decide) ?_
    refine el_pv (pv_move rfl) (by decide) ?_
    rcases oif hF with ⟨hb113, hF⟩ | ⟨hb113, hF⟩
    · refine el_on rfl hb113 ?_
      refine el_pv (pv_fieldAddr rfl) (by decide) ?_
      refine el_on rfl hb113 ?_
      refine el_pv (pv_loada (cs := [.int .i64 a3, u4]) rfl rfl (boxc (hS.boxAt 1 rfl) 3 2)) (by decide) ?_
      refine el_on rfl hb113 ?_
      refine el_pv (pv_fieldAddr rfl) (by decide) ?_
      refine el_on rfl hb113 ?_
      refine el_pv (pv_loada (cs := [.int .i64 a8, u9]) rfl rfl (boxc (hS.boxAt 0 rfl) 3 2)) (by decide) ?_
      refine el_on rfl hb113 ?_
      obtain ⟨r114, hr114, hF⟩ := ob hF
      refine el_call goes54 (impl_EqualRelations_ok (hS.up ha4) (hS.up ha9) hr114) (congrArg List.toArray (mapc rfl (mapc rfl rfl))) (by decide) ?_
      rintro _ w115 ⟨rfl, hx116⟩
      refine ⟨_, rfl, ?_⟩
      have hS := hS.ext hx116
      refine el_pv (pv_pick_t rfl hb113 rfl) (by decide) ?_
      refine el_pv (pv_assign rfl) (by decide) ?_
      refine el_nil ?_
      refine thn_n ?_
      refine cw_ret ?_
      obtain rfl := Option.some.inj hF
      refine fin1 rfl rfl ?_
      exact ⟨rfl, hS.below⟩
    · refine el_off rfl hb113 rfl (by decide) ?_
      refine el_off rfl hb113 rfl (by decide) ?_
      refine el_off rfl hb113 rfl (by decide) ?_
      refine el_off rfl hb113 rfl (by decide) ?_
      refine el_off rfl hb113 rfl (by decide) ?_
      refine el_pv (pv_pick_f rfl hb113 rfl) (by decide) ?_
      refine el_pv (pv_assign rfl) (by decide) ?_
      refine el_nil ?_
      refine thn_n ?_
      refine cw_ret ?_
      obtain rfl := Option.some.inj hF
      refine fin1 rfl rfl ?_
      exact ⟨rfl, hS.below⟩
  · refine el_off rfl hb109 rfl (by decide) ?_
    refine el_off rfl hb109 rfl (by decide) ?_
    refine el_off rfl hb109 rfl (by decide) ?_
    refine el_off rfl hb109 rfl (by decide) ?_
    refine el_off rfl hb109 rfl (by decide) ?_
    refine el_pv (pv_pick_f rfl hb109 rfl) (by decide) ?_
    refine el_pv (pv_move rfl) (by decide) ?_
    refine el_off rfl rfl rfl (by decide) ?_
    refine el_off rfl rfl rfl (by decide) ?_
    refine el_off rfl rfl rfl (by decide) ?_
    refine el_off rfl rfl rfl (by decide) ?_
    refine el_off rfl rfl rfl (by decide) ?_
    refine el_pv (pv_pick_f rfl rfl rfl) (by decide) ?_
    refine el_pv (pv_assign rfl) (by decide) ?_
    refine el_nil ?_
    refine thn_n ?_
    refine cw_ret ?_
    obtain rfl := Option.some.inj hF
    refine fin1 rfl rfl ?_
    exact ⟨rfl, hS.below⟩
theorem laws_eqIntSS_ok {w0 : World} {u0 : Value} {a0 : List (List Int)} {u1 : Value} {a1 : List (List Int)} (ha0 : (sliceR (sliceR intR 3) 22).rd w0 [u0] a0) (ha1 : (sliceR (sliceR intR 3) 22).rd w0 [u1] a1) {N : Nat} {r : Bool} (hF : laws_eqIntSS N a0 a1 = some r) :
    Calls Try.prog 72 #[u0, u1] w0 fun e w' => e = .returned (.bool r) ∧ Ext w0 w' := by
  unfold laws_eqIntSS at hF
  refine calls_E Try.func72 rfl rfl (of_decide_eq_true rfl) ?_
  have hS := Sat.start w0
  refine cw_seq ?_
  refine cw_reg ?_
  refine el_pv (pv_assign rfl) (by decide) ?_
  refine el_nil ?_
  refine thn_n ?_
  refine cw_seq ?_
  refine cw_seq ?_
  refine cw_reg ?_
  refine el_pv (pv_move rfl) (by decide) ?_
  refine el_pv (pv_len rfl ha0) (by decide) ?_
  refine el_pv (pv_move rfl) (by decide) ?_
  refine el_pv (pv_len rfl ha1) (by decide) ?_
  refine el_pv (pv_neq rfl rfl) (by decide) ?_
  refine el_nil ?_
  refine thn_n ?_
  rcases oif hF with ⟨hb101, hF⟩ | ⟨hb101, hF⟩
  · refine cw_cond_t rfl hb101 ?_
    refine cw_seq ?_
    refine cw_reg ?_
    refine el_pv (pv_assign rfl) (by decide) ?_
    refine el_nil ?_
    refine thn_n ?_
    refine cw_ret ?_
    refine thn_r ?_
    obtain rfl := Option.some.inj hF
    refine fin1 rfl rfl ?_
    exact ⟨rfl, hS.below⟩
  · refine cw_cond_f rfl hb101 ?_
    refine cw_skip ?_
    refine thn_n ?_
    refine cw_seq ?_
    refine cw_seq ?_
    refine cw_reg ?_
    refine el_pv (pv_assign rfl) (by decide) ?_
    refine el_nil ?_
    refine thn_n ?_
    refine cw_block ?_
    obtain ⟨s102, hL, hK103⟩ := ob hF
    refine cw_loopS (fun k e w => ∃ (x104 : Int), e 0 = u0 ∧ e 1 = u1 ∧ e 5 = .int .i64 x104 ∧ Sat w0 w [] ∧ laws_eqIntSS_L1 N k a0 a1 x104 = some s102) N ?_ ?_ ?_
    · exact ⟨0, rfl, rfl, rfl, hS, hL⟩
    · rintro e w ⟨_, _, _, _, _, hz⟩; exact nomatch (show none = some _ from hz)
    · rintro k e109 w108 ⟨x104, he105, he106, he107, hS, hF⟩
      refine cw_seq ?_
      refine cw_seq ?_
      refine cw_reg ?_
      refine el_pv (pv_move he107) (by decide) ?_
      refine el_pv (pv_move he105) (by decide) ?_
      refine el_pv (pv_len rfl ha0) (by decide) ?_
      refine el_pv (pv_lss rfl rfl) (by decide) ?_
      refine el_nil ?_
      refine thn_n ?_
      rcases oif hF with ⟨hb110, hF⟩ | ⟨hb110, hF⟩
      · refine cw_cond_t rfl hb110 ?_
        refine cw_skip ?_
        refine thn_n ?_
        refine cw_seq ?_
        refine cw_block ?_
        refine cw_seq ?_
        refine cw_regq (by kernel_rfl) (by kernel_rfl) ?_
        refine ql_pv (pv_move he105) (by decide) ?_
        refine ql_pv (pv_move he107) (by decide) ?_
        obtain ⟨x111, hx111, hF⟩ := ob hF
        refine ql_index (wA := w0) rfl ha0 rfl (by decide) rfl hx111 (by decide) ?_
        intro b112 of113 c114 hr115 hm116
        obtain ⟨v117, rfl⟩ := slice_one hr115
        refine ql_pv (pv_loadc rfl ((cells_up hS.below hm116) 0 _ rfl)) (by decide) ?_
        refine ql_pv (pv_move he106) (by decide) ?_
        refine ql_pv (pv_move he107) (by decide) ?_
        obtain ⟨x118, hx118, hF⟩ := ob hF
        refine ql_index (wA := w0) rfl ha1 rfl (by decide) rfl hx118 (by decide) ?_
        intro b119 of120 c121 hr122 hm123
        obtain ⟨v124, rfl⟩ := slice_one hr122
        refine ql_pv (pv_loadc rfl ((cells_up hS.below hm123) 0 _ rfl)) (by decide) ?_
        obtain ⟨r125, hr125, hF⟩ := ob hF
        refine ql_call (.bool r125) goes51 (fun w' hw' => laws_eqIntS_ok (rd_up (hS.up hr115) hw') (rd_up (hS.up hr122) hw') hr125) (congrArg List.toArray (mapc rfl (mapc rfl rfl))) (by decide) ?_
        refine ql_pv (pv_not rfl) (by decide) ?_
        refine ql_nil ?_
        intro w126 hx127
        have hS := hS.ext hx127
        refine thn_n ?_
        rcases oif hF with ⟨hb128, hF⟩ | ⟨hb128, hF⟩
        · refine cw_cond_f rfl (bnot_t hb128) ?_
          refine cw_skip ?_
          refine inb_n ?_
          refine thn_n ?_
          refine cw_reg ?_
          refine el_pv (pv_move he107) (by decide) ?_
          obtain ⟨x129, hx129, hF⟩ := ob hF
          refine el_pv (pv_add rfl rfl hx129) (by decide) ?_
          refine el_pv (pv_assign rfl) (by decide) ?_
          refine el_nil ?_
          refine thn_n ?_
          have hS := hS.keep 0
          exact ⟨x129, he105, he106, rfl, hS, hF⟩
        · refine cw_cond_t rfl (bnot_f hb128) ?_
          refine cw_seq ?_
          refine cw_reg ?_
          refine el_pv (pv_assign rfl) (by decide) ?_
          refine el_nil ?_
          refine thn_n ?_
          refine cw_ret ?_
          refine inb_r ?_
          refine thn_r ?_
          refine thn_r ?_
          refine inb_r ?_
          refine thn_r ?_
          obtain rfl := Option.some.inj hF
          have hF := hK103
          obtain rfl := Option.some.inj hF
          refine fin1 rfl rfl ?_
          exact ⟨rfl, hS.below⟩
      · refine cw_cond_f rfl hb110 ?_
        refine cw_exit ?_
        refine thn_x ?_
        refine thn_x ?_
        obtain rfl := Option.some.inj hF
        have hF := hK103
        refine inb_s ?_
        refine thn_n ?_
        refine cw_seq ?_
        refine cw_reg ?_
        refine el_pv (pv_assign rfl) (by decide) ?_
        refine el_nil ?_
        refine thn_n ?_
        refine cw_ret ?_
        obtain rfl := Option.some.inj hF
        refine fin1 rfl rfl ?_
        exact ⟨rfl, hS.below⟩
theorem laws_eqRelation_ok {w0 : World} {a0 : Int} {u1 : Value} {a1 : List (List Int)} {a2 : Int} {u3 : Value} {a3 : List (List Int)} (ha1 : (sliceR (sliceR intR 3) 22).rd w0 [u1] a1) (ha3 : (sliceR (sliceR intR 3) 22).rd w0 [u3] a3) {N : Nat} {r : Bool} (hF : laws_eqRelation N a0 a1 a2 a3 = some r) :
    Calls Try.prog 29 #[.agg #[.int .i64 a0, u1], .agg #[.int .i64 a2, u3]] w0 fun e w' => e = .returned (.bool r) ∧ Ext w0 w' := by
  unfold laws_eqRelation at hF
  refine calls_E Try.func29 rfl rfl (of_decide_eq_true rfl) ?_
  have hS := Sat.start w0
  refine cw_seq ?_
  refine cw_reg ?_
  refine el_box [.int .i64 a0, u1] rfl hS (by decide) ?_
  intro w101 b102 hS hx103
  refine el_box [.int .i64 a2, u3] rfl hS (by decide) ?_
  intro w105 b106 hS hx107
  refine el_pv (pv_assign rfl) (by decide) ?_
  refine el_nil ?_
  refine thn_n ?_
  refine cw_seq ?_
  refine cw_seq ?_
  refine cw_reg ?_
  refine el_pv (pv_fieldAddr rfl) (by decide) ?_
  refine el_pv (pv_loadc rfl ((hS.boxAt 1 rfl) 0 _ rfl)) (by decide) ?_
  refine el_pv (pv_fieldAddr rfl) (by decide) ?_
  refine el_pv (pv_loadc rfl ((hS.boxAt 0 rfl) 0 _ rfl)) (by decide) ?_
  refine el_pv (pv_neq rfl rfl) (by decide) ?_
  refine el_nil ?_
  refine thn_n ?_
  rcases oif hF with ⟨hb109, hF⟩ | ⟨hb109, hF⟩
  · refine cw_cond_t rfl hb109 ?_
    refine cw_seq ?_
    refine cw_reg ?_
    refine el_pv (pv_assign rfl) (by decide) ?_
    refine el_nil ?_
    refine thn_n ?_
    refine cw_ret ?_
    refine thn_r ?_
    obtain rfl := Option.some.inj hF
    refine fin1 rfl rfl ?_
    exact ⟨rfl, hS.below⟩
  · refine cw_cond_f rfl hb109 ?_
    refine cw_skip ?_
    refine thn_n ?_
    refine cw_seq ?_
    refine cw_seq ?_
    refine cw_reg ?_
    refine el_pv (pv_fieldAddr rfl) (by decide) ?_
    refine el_pv (pv_loadc rfl ((hS.boxAt 1 rfl) 1 _ rfl)) (by decide) ?_
    refine el_pv (pv_fieldAddr rfl) (by decide) ?_
    refine el_pv (pv_loadc rfl ((hS.boxAt 0 rfl) 1 _ rfl)) (by decide) ?_
    obtain ⟨r110, hr110, hF⟩ := ob hF
    refine el_call goes72 (laws_eqIntSS_ok (hS.up ha1) (hS.up ha3) hr110) (congrArg List.toArray (mapc rfl (mapc rfl rfl))) (by decide) ?_
    rintro _ w111 ⟨rfl, hx112⟩
    refine ⟨_, rfl, ?_⟩
    have hS := hS.ext hx112
    refine el_pv (pv_not rfl) (by decide) ?_
    refine el_nil ?_
    refine thn_n ?_
    rcases oif hF with ⟨hb113, hF⟩ | ⟨hb113, hF⟩
    · refine cw_cond_f rfl (bnot_t hb113) ?_
      refine cw_skip ?_
      refine thn_n ?_
      refine cw_seq ?_
      refine cw_reg ?_
      refine el_pv (pv_assign rfl) (by decide) ?_
      refine el_nil ?_
      refine thn_n ?_
      refine cw_ret ?_
      obtain rfl := Option.some.inj hF
      refine fin1 rfl rfl ?_
      exact ⟨rfl, hS.below⟩
    · refine cw_cond_t rfl (bnot_f hb113) ?_
      refine cw_seq ?_
      refine cw_reg ?_
      refine el_pv (pv_assign rfl) (by decide) ?_
      refine el_nil ?_
      refine thn_n ?_
      refine cw_ret ?_
      refine thn_r ?_
      obtain rfl := Option.some.inj hF
      refine fin1 rfl rfl ?_
      exact ⟨rfl, hS.below⟩
theorem laws_eqDelta_ok {w0 : World} {a0 : ByteArray} {a1 : Int} {u2 : Value} {a2 : List (List Int)} {a3 : Int} {u4 : Value} {a4 : List (List Int)} {a5 : ByteArray} {a6 : Int} {u7 : Value} {a7 : List (List Int)} {a8 : Int} {u9 : Value} {a9 : List (List Int)} (ha2 : (sliceR (sliceR intR 3) 22).rd w0 [u2] a2) (ha4 : (sliceR (sliceR intR 3) 22).rd w0 [u4] a4) (ha7 : (sliceR (sliceR intR 3) 22).rd w0 [u7] a7) (ha9 : (sliceR (sliceR intR 3) 22).rd w0 [u9] a9) {N : Nat} {r : Bool} (hF : laws_eqDelta N a0 a1 a2 a3 a4 a5 a6 a7 a8 a9 = some r) :
    Calls Try.prog 18 #[.agg #[.string a0, .int .i64 a1, u2, .int .i64 a3, u4], .agg #[.string a5, .int .i64 a6, u7, .int .i64 a8, u9]] w0 fun e w' => e = .returned (.bool r) ∧ Ext w0 w' := by
  unfold laws_eqDelta at hF
  refine calls_E Try.func18 rfl rfl (of_decide_eq_true rfl) ?_
  have hS := Sat.start w0
  refine cw_seq ?_
  refine cw_reg ?_
  refine el_box [.string a0, .int .i64 a1, u2, .int .i64 a3, u4] rfl hS (by decide) ?_
  intro w101 b102 hS hx103
  refine el_box [.string a5, .int .i64 a6, u7, .int .i64 a8, u9] rfl hS (by decide) ?_
  intro w105 b106 hS hx107
  refine el_pv (pv_assign rfl) (by decide) ?_
  refine el_nil ?_
  refine thn_n ?_
  refine cw_seq ?_
  refine cw_seq ?_
  refine cw_reg ?_
  refine el_pv (pv_fieldAddr rfl) (by decide) ?_
  refine el_pv (pv_loadc rfl ((hS.boxAt 1 rfl) 0 _ rfl)) (by decide) ?_
  refine el_pv (pv_fieldAddr rfl) (by decide) ?_
  refine el_pv (pv_loadc rfl ((hS.boxAt 0 rfl) 0 _ rfl)) (by decide) ?_
  refine el_pv (pv_neqS rfl rfl) (by decide) ?_
  refine el_nil ?_
  refine thn_n ?_
  rcases oif hF with ⟨hb109, hF⟩ | ⟨hb109, hF⟩
  · refine cw_cond_f rfl (bnot_t hb109) ?_
    refine cw_skip ?_
    refine thn_n ?_
    refine cw_seq ?_
    refine cw_seq ?_
    refine cw_reg ?_
    refine el_pv (pv_fieldAddr rfl) (by decide) ?_
    refine el_pv (pv_loada (cs := [.int .i64 a1, u2]) rfl rfl (boxc (hS.boxAt 1 rfl) 1 2)) (by decide) ?_
    refine el_pv (pv_fieldAddr rfl) (by decide) ?_
    refine el_pv (pv_loada (cs := [.int .i64 a6, u7]) rfl rfl (boxc (hS.boxAt 0 rfl) 1 2)) (by decide) ?_
    obtain ⟨r110, hr110, hF⟩ := ob hF
    refine el_call goes29 (laws_eqRelation_ok (hS.up ha2) (hS.up ha7) hr110) (congrArg List.toArray (mapc rfl (mapc rfl rfl))) (by decide) ?_
    rintro _ w111 ⟨rfl, hx112⟩
    refine ⟨_, rfl, ?_⟩
    have hS := hS.ext hx112
    refine el_pv (pv_not rfl) (by decide) ?_
    refine el_nil ?_
    refine thn_n ?_
    rcases oif hF with ⟨hb113, hF⟩ | ⟨hb113, hF⟩
    · refine cw_cond_f rfl (bnot_t hb113) ?_
      refine cw_skip ?_
      refine thn_n ?_
      refine cw_seq ?_
      refine cw_seq ?_
      refine cw_reg ?_
      refine el_pv (pv_fieldAddr rfl) (by decide) ?_
      refine el_pv (pv_loada (cs := [.int .i64 a3, u4]) rfl rfl (boxc (hS.boxAt 1 rfl) 3 2)) (by decide) ?_
      refine el_pv (pv_fieldAddr rfl) (by decide) ?_
      refine el_pv (pv_loada (cs := [.int .i64 a8, u9]) rfl rfl (boxc (hS.boxAt 0 rfl) 3 2)) (by decide) ?_
      obtain ⟨r114, hr114, hF⟩ := ob hF
      refine el_call goes29 (laws_eqRelation_ok (hS.up ha4) (hS.up ha9) hr114) (congrArg List.toArray (mapc rfl (mapc rfl rfl))) (by decide) ?_
      rintro _ w115 ⟨rfl, hx116⟩
      refine ⟨_, rfl, ?_⟩
      have hS := hS.ext hx116
      refine el_pv (pv_not rfl) (by decide) ?_
      refine el_nil ?_
      refine thn_n ?_
      rcases oif hF with ⟨hb117, hF⟩ | ⟨hb117, hF⟩
      · refine cw_cond_f rfl (bnot_t hb117) ?_
        refine cw_skip ?_
        refine thn_n ?_
        refine cw_seq ?_
        refine cw_reg ?_
        refine el_pv (pv_assign rfl) (by decide) ?_
        refine el_nil ?_
        refine thn_n ?_
        refine cw_ret ?_
        obtain rfl := Option.some.inj hF
        refine fin1 rfl rfl ?_
        exact ⟨rfl, hS.below⟩
      · refine cw_cond_t rfl (bnot_f hb117) ?_
        refine cw_seq ?_
        refine cw_reg ?_
        refine el_pv (pv_assign rfl) (by decide) ?_
        refine el_nil ?_
        refine thn_n ?_
        refine cw_ret ?_
        refine thn_r ?_
        obtain rfl := Option.some.inj hF
        refine fin1 rfl rfl ?_
        exact ⟨rfl, hS.below⟩
    · refine cw_cond_t rfl (bnot_f hb113) ?_
      refine cw_seq ?_
      refine cw_reg ?_
      refine el_pv (pv_assign rfl) (by decide) ?_
      refine el_nil ?_
      refine thn_n ?_
      refine cw_ret ?_
      refine thn_r ?_
      obtain rfl := Option.some.inj hF
      refine fin1 rfl rfl ?_
      exact ⟨rfl, hS.below⟩
  · refine cw_cond_t rfl (bnot_f hb109) ?_
    refine cw_seq ?_
    refine cw_reg ?_
    refine el_pv (pv_assign rfl) (by decide) ?_
    refine el_nil ?_
    refine thn_n ?_
    refine cw_ret ?_
    refine thn_r ?_
    obtain rfl := Option.some.inj hF
    refine fin1 rfl rfl ?_
    exact ⟨rfl, hS.below⟩
theorem laws_FnExactEqualDeltas_ok {w0 : World} {a0 : ByteArray} {a1 : Int} {u2 : Value} {a2 : List (List Int)} {a3 : Int} {u4 : Value} {a4 : List (List Int)} {a5 : ByteArray} {a6 : Int} {u7 : Value} {a7 : List (List Int)} {a8 : Int} {u9 : Value} {a9 : List (List Int)} (ha2 : (sliceR (sliceR intR 3) 22).rd w0 [u2] a2) (ha4 : (sliceR (sliceR intR 3) 22).rd w0 [u4] a4) (ha7 : (sliceR (sliceR intR 3) 22).rd w0 [u7] a7) (ha9 : (sliceR (sliceR intR 3) 22).rd w0 [u9] a9) {N : Nat} {r : Bool} (hF : laws_FnExactEqualDeltas N a0 a1 a2 a3 a4 a5 a6 a7 a8 a9 = some r) :
    Calls Try.prog 4 #[.agg #[.string a0, .int .i64 a1, u2, .int .i64 a3, u4], .agg #[.string a5, .int .i64 a6, u7, .int .i64 a8, u9]] w0 fun e w' => e = .returned (.bool r) ∧ Ext w0 w' := by
  unfold laws_FnExactEqualDeltas at hF
  refine calls_E Try.func4 rfl rfl (of_decide_eq_true rfl) ?_
  have hS := Sat.start w0
  refine cw_seq ?_
  refine cw_reg ?_
  refine el_box [.string a0, .int .i64 a1, u2, .int .i64 a3, u4] rfl hS (by decide) ?_
  intro w101 b102 hS hx103
  refine el_box [.string a5, .int .i64 a6, u7, .int .i64 a8, u9] rfl hS (by decide) ?_
  intro w105 b106 hS hx107
  refine el_pv (pv_assign rfl) (by decide) ?_
  refine el_nil ?_
  refine thn_n ?_
  refine cw_seq ?_
  refine cw_reg ?_
  refine el_pv (pv_assign rfl) (by decide) ?_
  refine el_nil ?_
  refine thn_n ?_
  refine cw_seq ?_
  refine cw_reg ?_
  refine el_pv (pv_loada (cs := [.string a0, .int .i64 a1, u2, .int .i64 a3, u4]) rfl rfl (boxc0 (hS.boxAt 1 rfl))) (by decide) ?_
  refine el_pv (pv_move rfl) (by decide) ?_
  obtain ⟨r109, hr109, hF⟩ := ob hF
  refine el_call goes14 (laws_szDelta_ok (hS.up ha2) (hS.up ha4) hr109) (congrArg List.toArray (mapc rfl (mapc rfl rfl))) (by decide) ?_
  rintro _ w110 ⟨rfl, hx111⟩
  refine ⟨_, rfl, ?_⟩
  have hS := hS.ext hx111
  refine el_pv (pv_assign rfl) (by decide) ?_
  refine el_nil ?_
  refine thn_n ?_
  refine cw_seq ?_
  refine cw_seq ?_
  refine cw_reg ?_
  refine el_pv (pv_move rfl) (by decide) ?_
  refine el_pv (pv_lss rfl rfl) (by decide) ?_
  refine el_nil ?_
  refine thn_n ?_
  rcases oif hF with ⟨hb112, hF⟩ | ⟨hb112, hF⟩
  · refine cw_cond_t rfl hb112 ?_
    refine cw_seq ?_
    refine cw_reg ?_
    refine el_pv (pv_assign rfl) (by decide) ?_
    refine el_nil ?_
    refine thn_n ?_
    refine cw_ret ?_
    refine thn_r ?_
    obtain rfl := Option.some.inj hF
    refine fin1 rfl rfl ?_
    exact ⟨rfl, hS.below⟩
  · refine cw_cond_f rfl hb112 ?_
    refine cw_skip ?_
    refine thn_n ?_
    refine cw_seq ?_
    refine cw_reg ?_
    refine el_pv (pv_loada (cs := [.string a5, .int .i64 a6, u7, .int .i64 a8, u9]) rfl rfl (boxc0 (hS.boxAt 0 rfl))) (by decide) ?_
    refine el_pv (pv_move rfl) (by decide) ?_
    obtain ⟨r113, hr113, hF⟩ := ob hF
    refine el_call goes14 (laws_szDelta_ok (hS.up ha7) (hS.up ha9) hr113) (congrArg List.toArray (mapc rfl (mapc rfl rfl))) (by decide) ?_
    rintro _ w114 ⟨rfl, hx115⟩
    refine ⟨_, rfl, ?_⟩
    have hS := hS.ext hx115
    refine el_pv (pv_assign rfl) (by decide) ?_
    refine el_nil ?_
    refine thn_n ?_
    refine cw_seq ?_
    refine cw_seq ?_
    refine cw_reg ?_
    refine el_pv (pv_move rfl) (by decide) ?_
    refine el_pv (pv_lss rfl rfl) (by decide) ?_
    refine el_nil ?_
    refine thn_n ?_
    rcases oif hF with ⟨hb116, hF⟩ | ⟨hb116, hF⟩
    · refine cw_cond_t rfl hb116 ?_
      refine cw_seq ?_
      refine cw_reg ?_
      refine el_pv (pv_assign rfl) (by decide) ?_
      refine el_nil ?_
      refine thn_n ?_
      refine cw_ret ?_
      refine thn_r ?_
      obtain rfl := Option.some.inj hF
      refine fin1 rfl rfl ?_
      exact ⟨rfl, hS.below⟩
    · refine cw_cond_f rfl hb116 ?_
      refine cw_skip ?_
      refine thn_n ?_
      refine cw_seq ?_
      obtain ⟨C, hCd⟩ : ∃ C : World → Prop, ∀ w, C w ↔ ∃ G, Sat w0 w ([Box b106 37 [.string a5, .int .i64 a6, u7, .int .i64 a8, u9], Box b102 37 [.string a0, .int .i64 a1, u2, .int .i64 a3, u4]] ++ G) := ⟨_, fun _ => Iff.rfl⟩
      refine cw_regb [0, 1, 2, 3, 4, 5] C (by kernel_rfl) ?_
      intro w117 hx118
      have hS := hS.ext hx118
      have hS := hS.top 1 rfl
      have hS := hS.top 1 rfl
      have hC := (hCd _).2 ⟨_, hS⟩
      refine al_p (by kernel_rfl) 0 rfl rfl (by decide) hC (by kernel_rfl) (by kernel_rfl) (sv_on rfl (fun w' hw' => by obtain ⟨_, hS⟩ := (hCd _).1 hw'; exact (pv_loada (cs := [.string a0, .int .i64 a1, u2, .int .i64 a3, u4]) rfl rfl (boxc0 (hS.boxAt 1 rfl))))) ?_
      refine al_p (by kernel_rfl) 2 rfl rfl (by decide) hC (by kernel_rfl) (by kernel_rfl) (sv_on rfl (fun w' hw' => by obtain ⟨_, hS⟩ := (hCd _).1 hw'; exact (pv_loada (cs := [.string a5, .int .i64 a6, u7, .int .i64 a8, u9]) rfl rfl (boxc0 (hS.boxAt 0 rfl))))) ?_
      refine al_one 1 (by kernel_rfl) rfl ?_
      obtain ⟨r119, hr119, hF⟩ := ob hF
      refine el_call goes16 (laws_toDelta_ok (hS.up ha2) (hS.up ha4) hr119) (congrArg List.toArray (mapc rfl rfl)) (by decide) ?_
      rintro _ w124 ⟨v120, v122, rfl, hS'⟩
      refine ⟨_, rfl, ?_⟩
      have hx125 := hS'.below
      have hS := hS.call2 hS'
      refine el_nil ?_
      have hS := hS.top 3 rfl
      have hS := hS.top 3 rfl
      have hC := (hCd _).2 ⟨_, hS⟩
      have hoc126 := oc (hS.rdAt (R := (sliceR (sliceR intR 3) 22)) 2 rfl)
      have hoc127 := oc (hS.rdAt (R := (sliceR (sliceR intR 3) 22)) 3 rfl)
      refine ⟨fun _ => hC, ?_⟩
      refine al_one 3 (by kernel_rfl) rfl ?_
      obtain ⟨r128, hr128, hF⟩ := ob hF
      refine el_call goes16 (laws_toDelta_ok (hS.up ha7) (hS.up ha9) hr128) (congrArg List.toArray (mapc rfl rfl)) (by decide) ?_
      rintro _ w133 ⟨v129, v131, rfl, hS'⟩
      refine ⟨_, rfl, ?_⟩
      have hx134 := hS'.below
      have hS := hS.call2 hS'
      refine el_nil ?_
      have hS := hS.top 3 rfl
      have hS := hS.top 3 rfl
      have hC := (hCd _).2 ⟨_, hS⟩
      have hoc135 := oc (hS.rdAt (R := (sliceR (sliceR intR 3) 22)) 2 rfl)
      have hoc136 := oc (hS.rdAt (R := (sliceR (sliceR intR 3) 22)) 3 rfl)
      refine ⟨fun _ => hC, ?_⟩
      refine al_one 4 (by kernel_rfl) rfl ?_
      obtain ⟨r137, hr137, hF⟩ := ob hF
      refine el_call goes15 (spec_EqualDeltas_ok (hS.rdAt (R := (sliceR (sliceR intR 3) 22)) 4 rfl) (hS.rdAt (R := (sliceR (sliceR intR 3) 22)) 5 rfl) (hS.rdAt (R := (sliceR (sliceR intR 3) 22)) 2 rfl) (hS.rdAt (R := (sliceR (sliceR intR 3) 22)) 3 rfl) hr137) (congrArg List.toArray (mapc rfl (mapc rfl rfl))) (by decide) ?_
      rintro _ w138 ⟨rfl, hx139⟩
      refine ⟨_, rfl, ?_⟩
      have hS := hS.ext hx139
      refine el_nil ?_
      have hS := hS.top 1 rfl
      have hS := hS.top 1 rfl
      have hC := (hCd _).2 ⟨_, hS⟩
      refine ⟨fun _ => hC, ?_⟩
      refine al_p (by kernel_rfl) 5 rfl rfl (by decide) hC (by kernel_rfl) (by kernel_rfl) (sv_on rfl (fun w' hw' => by obtain ⟨_, hS⟩ := (hCd _).1 hw'; exact (pv_assign rfl))) ?_
      refine al_nil (by kernel_rfl) ?_
      refine thn_n ?_
      refine cw_seq ?_
      refine cw_reg ?_
      refine el_pv (pv_loada (cs := [.string a0, .int .i64 a1, u2, .int .i64 a3, u4]) rfl rfl (boxc0 (hS.boxAt 1 rfl))) (by decide) ?_
      obtain ⟨r140, hr140, hF⟩ := ob hF
      refine el_call goes16 (laws_toDelta_ok (hS.up ha2) (hS.up ha4) hr140) (congrArg List.toArray (mapc rfl rfl)) (by decide) ?_
      rintro _ w145 ⟨v141, v143, rfl, hS'⟩
      refine ⟨_, rfl, ?_⟩
      have hx146 := hS'.below
      have hS := hS.call2 hS'
      refine el_alloc hS (by decide) ?_
      intro w147 b148 hS hx149
      refine el_storev (hS.top 0 rfl) rfl [.string r140.1, .int .i64 r140.2.1.1, v141, .int .i64 r140.2.2.1, v143] rfl rfl (of_decide_eq_true rfl) (all_cons rfl (all_cons rfl (all_cons (oc (hS.rdAt (R := (sliceR (sliceR intR 3) 22)) 1 rfl)) (all_cons rfl (all_cons (oc (hS.rdAt (R := (sliceR (sliceR intR 3) 22)) 2 rfl)) rfl))))) ?_
      intro w151 hS
      replace hS : Sat w0 w151 (Box b148 42 [.string r140.1, .int .i64 r140.2.1.1, v141, .int .i64 r140.2.2.1, v143] :: _) := hS
      refine el_nil ?_
      refine thn_n ?_
      refine cw_seq ?_
      refine cw_reg ?_
      refine el_pv (pv_loada (cs := [.string a5, .int .i64 a6, u7, .int .i64 a8, u9]) rfl rfl (boxc0 (hS.boxAt 3 rfl))) (by decide) ?_
      obtain ⟨r152, hr152, hF⟩ := ob hF
      refine el_call goes16 (laws_toDelta_ok (hS.up ha7) (hS.up ha9) hr152) (congrArg List.toArray (mapc rfl rfl)) (by decide) ?_
      rintro _ w157 ⟨v153, v155, rfl, hS'⟩
      refine ⟨_, rfl, ?_⟩
      have hx158 := hS'.below
      have hS := hS.call2 hS'
      refine el_alloc hS (by decide) ?_
      intro w159 b160 hS hx161
      refine el_storev (hS.top 0 rfl) rfl [.string r152.1, .int .i64 r152.2.1.1, v153, .int .i64 r152.2.2.1, v155] rfl rfl (of_decide_eq_true rfl) (all_cons rfl (all_cons rfl (all_cons (oc (hS.rdAt (R := (sliceR (sliceR intR 3) 22)) 1 rfl)) (all_cons rfl (all_cons (oc (hS.rdAt (R := (sliceR (sliceR intR 3) 22)) 2 rfl)) rfl))))) ?_
      intro w163 hS
      replace hS : Sat w0 w163 (Box b160 42 [.string r152.1, .int .i64 r152.2.1.1, v153, .int .i64 r152.2.2.1, v155] :: _) := hS
      refine el_nil ?_
      refine thn_n ?_
      refine cw_seq ?_
      refine cw_reg ?_
      refine el_pv (pv_loada (cs := [.string r140.1, .int .i64 r140.2.1.1, v141, .int .i64 r140.2.2.1, v143]) rfl rfl (boxc0 (hS.boxAt 3 rfl))) (by decide) ?_
      refine el_pv (pv_loada (cs := [.string r152.1, .int .i64 r152.2.1.1, v153, .int .i64 r152.2.2.1, v155]) rfl rfl (boxc0 (hS.boxAt 0 rfl))) (by decide) ?_
      obtain ⟨r164, hr164, hF⟩ := ob hF
      refine el_call goes17 (impl_EqualDeltas_ok (hS.rdAt (R := (sliceR (sliceR intR 3) 22)) 4 rfl) (hS.rdAt (R := (sliceR (sliceR intR 3) 22)) 5 rfl) (hS.rdAt (R := (sliceR (sliceR intR 3) 22)) 1 rfl) (hS.rdAt (R := (sliceR (sliceR intR 3) 22)) 2 rfl) hr164) (congrArg List.toArray (mapc rfl (mapc rfl rfl))) (by decide) ?_
      rintro _ w165 ⟨rfl, hx166⟩
      refine ⟨_, rfl, ?_⟩
      have hS := hS.ext hx166
      refine el_pv (pv_assign rfl) (by decide) ?_
      refine el_nil ?_
      refine thn_n ?_
      refine cw_seq ?_
      refine cw_seq ?_
      refine cw_reg ?_
      refine el_pv (pv_move rfl) (by decide) ?_
      refine el_pv (pv_move rfl) (by decide) ?_
      refine el_pv (pv_neqB Try.underlying4 rfl rfl) (by decide) ?_
      refine el_nil ?_
      refine thn_n ?_
      rcases oif hF with ⟨hb167, hF⟩ | ⟨hb167, hF⟩
      · refine cw_cond_t rfl hb167 ?_
        refine cw_seq ?_
        refine cw_reg ?_
        refine el_pv (pv_assign rfl) (by decide) ?_
        refine el_nil ?_
        refine thn_n ?_
        refine cw_ret ?_
        refine thn_r ?_
        obtain rfl := Option.some.inj hF
        refine fin1 rfl rfl ?_
        exact ⟨rfl, hS.below⟩
      · refine cw_cond_f rfl hb167 ?_
        refine cw_skip ?_
        refine thn_n ?_
        refine cw_seq ?_
        refine cw_seq ?_
        obtain ⟨C, hCd⟩ : ∃ C : World → Prop, ∀ w, C w ↔ ∃ G, Sat w0 w ([Box b160 42 [.string r152.1, .int .i64 r152.2.1.1, v153, .int .i64 r152.2.2.1, v155], Box b148 42 [.string r140.1, .int .i64 r140.2.1.1, v141, .int .i64 r140.2.2.1, v143], Box b106 37 [.string a5, .int .i64 a6, u7, .int .i64 a8, u9], Box b102 37 [.string a0, .int .i64 a1, u2, .int .i64 a3, u4]] ++ G) := ⟨_, fun _ => Iff.rfl⟩
        refine cw_regb [0, 1, 2, 3, 4] C (by kernel_rfl) ?_
        intro w168 hx169
        have hS := hS.ext hx169
        have hS := hS.top 7 rfl
        have hS := hS.top 7 rfl
        have hS := hS.top 5 rfl
        have hS := hS.top 3 rfl
        have hC := (hCd _).2 ⟨_, hS⟩
        refine al_p (by kernel_rfl) 0 rfl rfl (by decide) hC (by kernel_rfl) (by kernel_rfl) (sv_on rfl (fun w' hw' => by obtain ⟨_, hS⟩ := (hCd _).1 hw'; exact (pv_loada (cs := [.string r140.1, .int .i64 r140.2.1.1, v141, .int .i64 r140.2.2.1, v143]) rfl rfl (boxc0 (hS.boxAt 1 rfl))))) ?_
        refine al_p (by kernel_rfl) 1 rfl rfl (by decide) hC (by kernel_rfl) (by kernel_rfl) (sv_on rfl (fun w' hw' => by obtain ⟨_, hS⟩ := (hCd _).1 hw'; exact (pv_loada (cs := [.string a0, .int .i64 a1, u2, .int .i64 a3, u4]) rfl rfl (boxc0 (hS.boxAt 3 rfl))))) ?_
        refine al_one 2 (by kernel_rfl) rfl ?_
        obtain ⟨r170, hr170, hF⟩ := ob hF
        refine el_call goes16 (laws_toDelta_ok (hS.up ha2) (hS.up ha4) hr170) (congrArg List.toArray (mapc rfl rfl)) (by decide) ?_
        rintro _ w175 ⟨v171, v173, rfl, hS'⟩
        refine ⟨_, rfl, ?_⟩
        have hx176 := hS'.below
        have hS := hS.call2 hS'
        refine el_nil ?_
        have hS := hS.top 5 rfl
        have hS := hS.top 5 rfl
        have hS := hS.top 5 rfl
        have hS := hS.top 5 rfl
        have hC := (hCd _).2 ⟨_, hS⟩
        have hoc177 := oc (hS.rdAt (R := (sliceR (sliceR intR 3) 22)) 4 rfl)
        have hoc178 := oc (hS.rdAt (R := (sliceR (sliceR intR 3) 22)) 5 rfl)
        have hoc179 := oc (hS.rdAt (R := (sliceR (sliceR intR 3) 22)) 6 rfl)
        have hoc180 := oc (hS.rdAt (R := (sliceR (sliceR intR 3) 22)) 7 rfl)
        have hoc181 := oc (hS.rdAt (R := (sliceR (sliceR intR 3) 22)) 8 rfl)
        have hoc182 := oc (hS.rdAt (R := (sliceR (sliceR intR 3) 22)) 9 rfl)
        have hoc183 := oc (hS.rdAt (R := (sliceR (sliceR intR 3) 22)) 10 rfl)
        have hoc184 := oc (hS.rdAt (R := (sliceR (sliceR intR 3) 22)) 11 rfl)
        have hoc185 := oc (hS.rdAt (R := (sliceR (sliceR intR 3) 22)) 12 rfl)
        have hoc186 := oc (hS.rdAt (R := (sliceR (sliceR intR 3) 22)) 13 rfl)
        refine ⟨fun _ => hC, ?_⟩
        refine al_one 3 (by kernel_rfl) rfl ?_
        obtain ⟨r187, hr187, hF⟩ := ob hF
        refine el_call goes18 (laws_eqDelta_ok (hS.rdAt (R := (sliceR (sliceR intR 3) 22)) 8 rfl) (hS.rdAt (R := (sliceR (sliceR intR 3) 22)) 9 rfl) (hS.rdAt (R := (sliceR (sliceR intR 3) 22)) 4 rfl) (hS.rdAt (R := (sliceR (sliceR intR 3) 22)) 5 rfl) hr187) (congrArg List.toArray (mapc rfl (mapc rfl rfl))) (by decide) ?_
        rintro _ w188 ⟨rfl, hx189⟩
        refine ⟨_, rfl, ?_⟩
        have hS := hS.ext hx189
        refine el_nil ?_
        have hS := hS.top 3 rfl
        have hS := hS.top 3 rfl
        have hS := hS.top 3 rfl
        have hS := hS.top 3 rfl
        have hC := (hCd _).2 ⟨_, hS⟩
        refine ⟨fun _ => hC, ?_⟩
        refine al_p (by kernel_rfl) 4 rfl rfl (by decide) hC (by kernel_rfl) (by kernel_rfl) (sv_on rfl (fun w' hw' => by obtain ⟨_, hS⟩ := (hCd _).1 hw'; exact (pv_not rfl))) ?_
        refine al_nil (by kernel_rfl) ?_
        refine thn_n ?_
        rcases oif hF with ⟨hb190, hF⟩ | ⟨hb190, hF⟩
        · refine cw_cond_f rfl (bnot_t hb190) ?_
          refine cw_skip ?_
          refine thn_n ?_
          refine cw_seq ?_
          refine cw_seq ?_
          obtain ⟨C, hCd⟩ : ∃ C : World → Prop, ∀ w, C w ↔ ∃ G, Sat w0 w ([Box b160 42 [.string r152.1, .int .i64 r152.2.1.1, v153, .int .i64 r152.2.2.1, v155], Box b148 42 [.string r140.1, .int .i64 r140.2.1.1, v141, .int .i64 r140.2.2.1, v143], Box b106 37 [.string a5, .int .i64 a6, u7, .int .i64 a8, u9], Box b102 37 [.string a0, .int .i64 a1, u2, .int .i64 a3, u4]] ++ G) := ⟨_, fun _ => Iff.rfl⟩
          refine cw_regb [0, 1, 2, 3, 4] C (by kernel_rfl) ?_
          intro w191 hx192
          have hS := hS.ext hx192
          have hS := hS.top 3 rfl
          have hS := hS.top 3 rfl
          have hS := hS.top 3 rfl
          have hS := hS.top 3 rfl
          have hC := (hCd _).2 ⟨_, hS⟩
          refine al_p (by kernel_rfl) 0 rfl rfl (by decide) hC (by kernel_rfl) (by kernel_rfl) (sv_on rfl (fun w' hw' => by obtain ⟨_, hS⟩ := (hCd _).1 hw'; exact (pv_loada (cs := [.string r152.1, .int .i64 r152.2.1.1, v153, .int .i64 r152.2.2.1, v155]) rfl rfl (boxc0 (hS.boxAt 0 rfl))))) ?_
          refine al_p (by kernel_rfl) 1 rfl rfl (by decide) hC (by kernel_rfl) (by kernel_rfl) (sv_on rfl (fun w' hw' => by obtain ⟨_, hS⟩ := (hCd _).1 hw'; exact (pv_loada (cs := [.string a5, .int .i64 a6, u7, .int .i64 a8, u9]) rfl rfl (boxc0 (hS.boxAt 2 rfl))))) ?_
          refine al_one 2 (by kernel_rfl) rfl ?_
          obtain ⟨r193, hr193, hF⟩ := ob hF
          refine el_call goes16 (laws_toDelta_ok (hS.up ha7) (hS.up ha9) hr193) (congrArg List.toArray (mapc rfl rfl)) (by decide) ?_
          rintro _ w198 ⟨v194, v196, rfl, hS'⟩
          refine ⟨_, rfl, ?_⟩
          have hx199 := hS'.below
          have hS := hS.call2 hS'
          refine el_nil ?_
          have hS := hS.top 5 rfl
          have hS := hS.top 5 rfl
          have hS := hS.top 5 rfl
          have hS := hS.top 5 rfl
          have hC := (hCd _).2 ⟨_, hS⟩
          have hoc200 := oc (hS.rdAt (R := (sliceR (sliceR intR 3) 22)) 4 rfl)
          have hoc201 := oc (hS.rdAt (R := (sliceR (sliceR intR 3) 22)) 5 rfl)
          have hoc202 := oc (hS.rdAt (R := (sliceR (sliceR intR 3) 22)) 6 rfl)
          have hoc203 := oc (hS.rdAt (R := (sliceR (sliceR intR 3) 22)) 7 rfl)
          have hoc204 := oc (hS.rdAt (R := (sliceR (sliceR intR 3) 22)) 8 rfl)
          have hoc205 := oc (hS.rdAt (R := (sliceR (sliceR intR 3) 22)) 9 rfl)
          have hoc206 := oc (hS.rdAt (R := (sliceR (sliceR intR 3) 22)) 10 rfl)
          have hoc207 := oc (hS.rdAt (R := (sliceR (sliceR intR 3) 22)) 11 rfl)
          have hoc208 := oc (hS.rdAt (R := (sliceR (sliceR intR 3) 22)) 12 rfl)
          have hoc209 := oc (hS.rdAt (R := (sliceR (sliceR intR 3) 22)) 13 rfl)
          have hoc210 := oc (hS.rdAt (R := (sliceR (sliceR intR 3) 22)) 14 rfl)
          have hoc211 := oc (hS.rdAt (R := (sliceR (sliceR intR 3) 22)) 15 rfl)
          refine ⟨fun _ => hC, ?_⟩
          refine al_one 3 (by kernel_rfl) rfl ?_
          obtain ⟨r212, hr212, hF⟩ := ob hF
          refine el_call goes18 (laws_eqDelta_ok (hS.rdAt (R := (sliceR (sliceR intR 3) 22)) 8 rfl) (hS.rdAt (R := (sliceR (sliceR intR 3) 22)) 9 rfl) (hS.rdAt (R := (sliceR (sliceR intR 3) 22)) 4 rfl) (hS.rdAt (R := (sliceR (sliceR intR 3) 22)) 5 rfl) hr212) (congrArg List.toArray (mapc rfl (mapc rfl rfl))) (by decide) ?_
          rintro _ w213 ⟨rfl, hx214⟩
          refine ⟨_, rfl, ?_⟩
          have hS := hS.ext hx214
          refine el_nil ?_
          have hS := hS.top 3 rfl
          have hS := hS.top 3 rfl
          have hS := hS.top 3 rfl
          have hS := hS.top 3 rfl
          have hC := (hCd _).2 ⟨_, hS⟩
          refine ⟨fun _ => hC, ?_⟩
          refine al_p (by kernel_rfl) 4 rfl rfl (by decide) hC (by kernel_rfl) (by kernel_rfl) (sv_on rfl (fun w' hw' => by obtain ⟨_, hS⟩ := (hCd _).1 hw'; exact (pv_not rfl))) ?_
          refine al_nil (by kernel_rfl) ?_
          refine thn_n ?_
          rcases oif hF with ⟨hb215, hF⟩ | ⟨hb215, hF⟩
          · refine cw_cond_f rfl (bnot_t hb215) ?_
            refine cw_skip ?_
            refine thn_n ?_
            refine cw_seq ?_
            refine cw_reg ?_
            refine el_pv (pv_assign rfl) (by decide) ?_
            refine el_nil ?_
            refine thn_n ?_
            refine cw_ret ?_
            obtain rfl := Option.some.inj hF
            refine fin1 rfl rfl ?_
            exact ⟨rfl, hS.below⟩
          · refine cw_cond_t rfl (bnot_f hb215) ?_
            refine cw_seq ?_
            refine cw_reg ?_
            refine el_pv (pv_assign rfl) (by decide) ?_
            refine el_nil ?_
            refine thn_n ?_
            refine cw_ret ?_
            refine thn_r ?_
            obtain rfl := Option.some.inj hF
            refine fin1 rfl rfl ?_
            exact ⟨rfl, hS.below⟩
        · refine cw_cond_t rfl (bnot_f hb190) ?_
          refine cw_seq ?_
          refine cw_reg ?_
          refine el_pv (pv_assign rfl) (by decide) ?_
          refine el_nil ?_
          refine thn_n ?_
          refine cw_ret ?_
          refine thn_r ?_
          obtain rfl := Option.some.inj hF
          refine fin1 rfl rfl ?_
          exact ⟨rfl, hS.below⟩
theorem spec_l5Copy_ok {w0 : World} {a0 : Int} {u1 : Value} {a1 : List (List Int)} (ha1 : (sliceR (sliceR intR 3) 22).rd w0 [u1] a1) {N : Nat} {r : Int × List (List Int)} (hF : spec_l5Copy N a0 a1 = some r) :
    Calls Try.prog 55 #[.agg #[.int .i64 a0, u1]] w0 fun e w' => ∃ q0, e = .returned (.agg #[.int .i64 r.1, q0]) ∧ Sat w0 w' [Own (sliceR (sliceR intR 3) 22) [q0] r.2] := by
  unfold spec_l5Copy at hF
  refine calls_E Try.func55 rfl rfl (of_decide_eq_true rfl) ?_
  have hS := Sat.start w0
  refine cw_seq ?_
  refine cw_reg ?_
  refine el_box [.int .i64 a0, u1] rfl hS (by decide) ?_
  intro w101 b102 hS hx103
  refine el_alloc hS (by decide) ?_
  intro w105 b106 hS hx107
  refine el_nil ?_
  refine thn_n ?_
  refine cw_seq ?_
  refine cw_reg ?_
  refine el_pv (pv_fieldAddr rfl) (by decide) ?_
  refine el_pv (pv_loadc rfl ((hS.boxAt 1 rfl) 0 _ rfl)) (by decide) ?_
  refine el_pv (pv_build [(0, [.int .i64 a0])] [.int .i64 a0, (.slice none 0 0)] (partc rfl rfl) rfl) (by decide) ?_
  refine el_alloc hS (by decide) ?_
  intro w109 b110 hS hx111
  refine el_storev (hS.top 0 rfl) rfl [.int .i64 a0, (.slice none 0 0)] rfl rfl (of_decide_eq_true rfl) (all_cons rfl (all_cons rfl rfl)) ?_
  intro w113 hS
  replace hS : Sat w0 w113 (Box b110 40 [.int .i64 a0, (.slice none 0 0)] :: _) := hS
  refine el_nil ?_
  refine thn_n ?_
  refine cw_seq ?_
  refine cw_seq ?_
  refine cw_reg ?_
  refine el_pv (pv_assign rfl) (by decide) ?_
  refine el_nil ?_
  refine thn_n ?_
  refine cw_block ?_
  have hS := hS.nil (sliceR intR 3) 22
  obtain ⟨s115, hL, hK116⟩ := ob hF
  refine cw_loopS (fun k e w => ∃ (v118 : Value), ∃ (x117 : List (List Int)), ∃ (x119 : Int), e 1 = .pointer (some ⟨b102, 0, none⟩) ∧ e 2 = .pointer (some ⟨b106, 0, none⟩) ∧ e 3 = .pointer (some ⟨b110, 0, none⟩) ∧ e 4 = .int .i64 x119 ∧ Sat w0 w [Own (sliceR (sliceR intR 3) 22) [v118] x117, Box b110 40 [.int .i64 a0, v118], Box b106 40 [.int .i64 0, (.slice none 0 0)], Box b102 40 [.int .i64 a0, u1]] ∧ spec_l5Copy_L1 N k a0 a1 0 [] a0 x117 x119 = some s115) N ?_ ?_ ?_
  · exact ⟨(.slice none 0 0), [], 0, rfl, rfl, rfl, rfl, hS, hL⟩
  · rintro e w ⟨_, _, _, _, _, _, _, _, hz⟩; exact nomatch (show none = some _ from hz)
  · rintro k e125 w124 ⟨v118, x117, x119, he120, he121, he122, he123, hS, hF⟩
    refine cw_seq ?_
    refine cw_seq ?_
    refine cw_reg ?_
    refine el_pv (pv_move he123) (by decide) ?_
    refine el_pv (pv_fieldAddr he120) (by decide) ?_
    refine el_pv (pv_loadc rfl ((hS.boxAt 3 rfl) 1 _ rfl)) (by decide) ?_
    refine el_pv (pv_len rfl ha1) (by decide) ?_
    refine el_pv (pv_lss rfl rfl) (by decide) ?_
    refine el_nil ?_
    refine thn_n ?_
    rcases oif hF with ⟨hb126, hF⟩ | ⟨hb126, hF⟩
    · refine cw_cond_t rfl hb126 ?_
      refine cw_skip ?_
      refine thn_n ?_
      refine cw_seq ?_
      refine cw_block ?_
      obtain ⟨C, hCd⟩ : ∃ C : World → Prop, ∀ w, C w ↔ ∃ G, Sat w0 w ([Box b110 40 [.int .i64 a0, v118], Box b106 40 [.int .i64 0, (.slice none 0 0)], Box b102 40 [.int .i64 a0, u1]] ++ G) := ⟨_, fun _ => Iff.rfl⟩
      refine cw_regb [0, 1, 2, 3, 4, 5, 6, 7, 8, 9, 10, 11] C (by kernel_rfl) ?_
      intro w127 hx128
      have hS := hS.ext hx128
      have hS := hS.top 3 rfl
      have hS := hS.top 3 rfl
      have hS := hS.top 3 rfl
      have hC := (hCd _).2 ⟨_, hS⟩
      refine al_p (by kernel_rfl) 0 rfl rfl (by decide) hC (by kernel_rfl) (by kernel_rfl) (sv_on rfl (fun w' hw' => by obtain ⟨_, hS⟩ := (hCd _).1 hw'; exact (pv_fieldAddr he122))) ?_
      refine al_p (by kernel_rfl) 1 rfl rfl (by decide) hC (by kernel_rfl) (by kernel_rfl) (sv_on rfl (fun w' hw' => by obtain ⟨_, hS⟩ := (hCd _).1 hw'; exact (pv_loadc rfl ((hS.boxAt 0 rfl) 1 _ rfl)))) ?_
      refine al_p (by kernel_rfl) 3 rfl rfl (by decide) hC (by kernel_rfl) (by kernel_rfl) (sv_on rfl (fun w' hw' => by obtain ⟨_, hS⟩ := (hCd _).1 hw'; exact (pv_fieldAddr he120))) ?_
      refine al_p (by kernel_rfl) 4 rfl rfl (by decide) hC (by kernel_rfl) (by kernel_rfl) (sv_on rfl (fun w' hw' => by obtain ⟨_, hS⟩ := (hCd _).1 hw'; exact (pv_loadc rfl ((hS.boxAt 2 rfl) 1 _ rfl)))) ?_
      refine al_p (by kernel_rfl) 5 rfl rfl (by decide) hC (by kernel_rfl) (by kernel_rfl) (sv_on rfl (fun w' hw' => by obtain ⟨_, hS⟩ := (hCd _).1 hw'; exact (pv_move he123))) ?_
      obtain ⟨x129, hx129, hF⟩ := ob hF
      refine al_index (wA := w0) (by kernel_rfl) 6 rfl hC (by kernel_rfl) (by kernel_rfl) rfl ha1 rfl (by decide) rfl hx129 (by decide) ?_
      intro b130 of131 c132 hr133 hm134
      obtain ⟨v135, rfl⟩ := slice_one hr133
      refine al_p (by kernel_rfl) 7 rfl rfl (by decide) hC (by kernel_rfl) (by kernel_rfl) (sv_on rfl (fun w' hw' => by obtain ⟨_, hS⟩ := (hCd _).1 hw'; exact (pv_loadc rfl ((cells_up hS.below hm134) 0 _ rfl)))) ?_
      refine al_one 2 (by kernel_rfl) rfl ?_
      refine el_buildSlice0 intR hS (by decide) ?_
      intro w136 v138 hS hx137
      refine el_nil ?_
      have hS := hS.top 3 rfl
      have hS := hS.top 3 rfl
      have hS := hS.top 3 rfl
      have hC := (hCd _).2 ⟨_, hS⟩
      have hoc140 := oc (hS.rdAt (R := (sliceR intR 3)) 3 rfl)
      have hoc141 := oc (hS.rdAt (R := (sliceR (sliceR intR 3) 22)) 4 rfl)
      refine ⟨fun _ => hC, ?_⟩
      refine al_one 8 (by kernel_rfl) rfl ?_
      obtain ⟨x144, hx144, hF⟩ := ob hF
      obtain ⟨ao145, c146, hv147, hn148, hrow149⟩ := row_ints (hS.up hr133)
      have hS := hS.top 3 rfl
      have hS := hS.ints (xs := x129)
      refine el_append rfl (by decide) rfl (by decide) hS rfl (rfl.trans hv147) rfl hn148 hrow149 hx144 (by decide) ?_
      intro w142 v143 hS
      refine el_nil ?_
      have hS := hS.top 3 rfl
      have hS := hS.top 3 rfl
      have hS := hS.top 3 rfl
      have hC := (hCd _).2 ⟨_, hS⟩
      have hoc151 := oc (hS.rdAt (R := (sliceR intR 3)) 3 rfl)
      refine ⟨fun _ => hC, ?_⟩
      refine al_one 9 (by kernel_rfl) rfl ?_
      refine el_buildSlice1 [v143] (cells_of rfl (oc (hS.rdAt (R := (sliceR intR 3)) 3 rfl))) (by rfl) (by decide) rfl (by decide) hS (by decide) ?_
      intro w152 b154 hS hx153
      refine el_nil ?_
      have hS := hS.top 3 rfl
      have hS := hS.top 3 rfl
      have hS := hS.top 3 rfl
      have hC := (hCd _).2 ⟨_, hS⟩
      refine ⟨fun _ => hC, ?_⟩
      refine al_one 10 (by kernel_rfl) rfl ?_
      obtain ⟨x158, hx158, hF⟩ := ob hF
      have hrow159 := hS.boxRow 3 rfl
      have hS := hS.top 5 rfl
      have hS := hS.top 5 rfl
      have hS := hS.one
      refine el_append rfl (by decide) rfl (by decide) hS rfl rfl rfl (by simp) hrow159 hx158 (by decide) ?_
      intro w156 v157 hS
      refine el_nil ?_
      have hS := hS.top 3 rfl
      have hS := hS.top 3 rfl
      have hS := hS.top 3 rfl
      have hC := (hCd _).2 ⟨_, hS⟩
      have hoc161 := oc (hS.rdAt (R := (sliceR (sliceR intR 3) 22)) 3 rfl)
      refine ⟨fun _ => hC, ?_⟩
      refine al_p (by kernel_rfl) 11 rfl rfl (by decide) hC (by kernel_rfl) (by kernel_rfl) (sv_on rfl (fun w' hw' => by obtain ⟨_, hS⟩ := (hCd _).1 hw'; exact (pv_fieldAddr he122))) ?_
      refine al_one 12 (by kernel_rfl) rfl ?_
      refine el_storev (hS.top 0 rfl) rfl [v157] (cells_of rfl (oc (hS.rdAt (R := (sliceR (sliceR intR 3) 22)) 3 rfl))) rfl (of_decide_eq_true rfl) (all_cons (oc (hS.rdAt (R := (sliceR (sliceR intR 3) 22)) 3 rfl)) rfl) ?_
      intro w162 hS
      replace hS : Sat w0 w162 (Box b110 40 [.int .i64 a0, v157] :: _) := hS
      refine el_nil ?_
      refine ⟨fun h => (nomatch (show false = true from h)), ?_⟩
      refine al_nil (by kernel_rfl) ?_
      refine inb_n ?_
      refine thn_n ?_
      refine cw_reg ?_
      refine el_pv (pv_move he123) (by decide) ?_
      obtain ⟨x163, hx163, hF⟩ := ob hF
      refine el_pv (pv_add rfl rfl hx163) (by decide) ?_
      refine el_pv (pv_assign rfl) (by decide) ?_
      refine el_nil ?_
      refine thn_n ?_
      have hS := hS.top 2 rfl
      have hS := hS.top 2 rfl
      have hS := hS.top 2 rfl
      have hS := hS.top 3 rfl
      have hS := hS.keep 4
      exact ⟨v157, x158, x163, he120, he121, he122, rfl, hS, hF⟩
    · refine cw_cond_f rfl hb126 ?_
      refine cw_exit ?_
      refine thn_x ?_
      refine thn_x ?_
      obtain rfl := Option.some.inj hF
      have hF := hK116
      refine inb_s ?_
      refine thn_n ?_
      refine cw_seq ?_
      refine cw_reg ?_
      refine el_pv (pv_loada (cs := [.int .i64 a0, v118]) he122 rfl (boxc0 (hS.boxAt 1 rfl))) (by decide) ?_
      refine el_storev (hS.top 2 rfl) he121 [.int .i64 a0, v118] rfl rfl (of_decide_eq_true rfl) (all_cons rfl (all_cons (oc (hS.rdAt (R := (sliceR (sliceR intR 3) 22)) 0 rfl)) rfl)) ?_
      intro w164 hS
      replace hS : Sat w0 w164 (Box b106 40 [.int .i64 a0, v118] :: _) := hS
      refine el_nil ?_
      refine thn_n ?_
      refine cw_ret ?_
      obtain rfl := Option.some.inj hF
      refine finC (cs := [.int .i64 a0, v118]) rfl he121 rfl (boxc0 (hS.boxAt 0 rfl))  ?_
      have hS := hS.top 1 rfl
      exact ⟨_, rfl, hS.keep 1⟩
theorem spec_InvertDelta_ok {w0 : World} {a0 : ByteArray} {a1 : Int} {u2 : Value} {a2 : List (List Int)} {a3 : Int} {u4 : Value} {a4 : List (List Int)} (ha2 : (sliceR (sliceR intR 3) 22).rd w0 [u2] a2) (ha4 : (sliceR (sliceR intR 3) 22).rd w0 [u4] a4) {N : Nat} {r : ByteArray × (Int × List (List Int)) × (Int × List (List Int))} (hF : spec_InvertDelta N a0 a1 a2 a3 a4 = some r) :
    Calls Try.prog 19 #[.agg #[.string a0, .int .i64 a1, u2, .int .i64 a3, u4]] w0 fun e w' => ∃ q0 q1, e = .returned (.agg #[.string r.1, .int .i64 r.2.1.1, q0, .int .i64 r.2.2.1, q1]) ∧ Sat w0 w' [Own (sliceR (sliceR intR 3) 22) [q0] r.2.1.2, Own (sliceR (sliceR intR 3) 22) [q1] r.2.2.2] := by
  unfold spec_InvertDelta at hF
  refine calls_E Try.func19 rfl rfl (of_decide_eq_true rfl) ?_
  have hS := Sat.start w0
  refine cw_seq ?_
  refine cw_reg ?_
  refine el_box [.string a0, .int .i64 a1, u2, .int .i64 a3, u4] rfl hS (by decide) ?_
  intro w101 b102 hS hx103
  refine el_alloc hS (by decide) ?_
  intro w105 b106 hS hx107
  refine el_nil ?_
  refine thn_n ?_
  refine cw_seq ?_
  refine cw_reg ?_
  refine el_pv (pv_fieldAddr rfl) (by decide) ?_
  refine el_pv (pv_loada (cs := [.int .i64 a3, u4]) rfl rfl (boxc (hS.boxAt 1 rfl) 3 2)) (by decide) ?_
  obtain ⟨r109, hr109, hF⟩ := ob hF
  refine el_call goes55 (spec_l5Copy_ok (hS.up ha4) hr109) (congrArg List.toArray (mapc rfl rfl)) (by decide) ?_
  rintro _ w112 ⟨v110, rfl, hS'⟩
  refine ⟨_, rfl, ?_⟩
  have hx113 := hS'.below
  have hS := hS.call1 hS'
  refine el_alloc hS (by decide) ?_
  intro w114 b115 hS hx116
  refine el_storev (hS.top 0 rfl) rfl [.int .i64 r109.1, v110] rfl rfl (of_decide_eq_true rfl) (all_cons rfl (all_cons (oc (hS.rdAt (R := (sliceR (sliceR intR 3) 22)) 1 rfl)) rfl)) ?_
  intro w118 hS
  replace hS : Sat w0 w118 (Box b115 40 [.int .i64 r109.1, v110] :: _) := hS
  refine el_nil ?_
  refine thn_n ?_
  refine cw_seq ?_
  refine cw_reg ?_
  refine el_pv (pv_fieldAddr rfl) (by decide) ?_
  refine el_pv (pv_loada (cs := [.int .i64 a1, u2]) rfl rfl (boxc (hS.boxAt 3 rfl) 1 2)) (by decide) ?_
  obtain ⟨r119, hr119, hF⟩ := ob hF
  refine el_call goes55 (spec_l5Copy_ok (hS.up ha2) hr119) (congrArg List.toArray (mapc rfl rfl)) (by decide) ?_
  rintro _ w122 ⟨v120, rfl, hS'⟩
  refine ⟨_, rfl, ?_⟩
  have hx123 := hS'.below
  have hS := hS.call1 hS'
  refine el_alloc hS (by decide) ?_
  intro w124 b125 hS hx126
  refine el_storev (hS.top 0 rfl) rfl [.int .i64 r119.1, v120] rfl rfl (of_decide_eq_true rfl) (all_cons rfl (all_cons (oc (hS.rdAt (R := (sliceR (sliceR intR 3) 22)) 1 rfl)) rfl)) ?_
  intro w128 hS
  replace hS : Sat w0 w128 (Box b125 40 [.int .i64 r119.1, v120] :: _) := hS
  refine el_nil ?_
  refine thn_n ?_
  refine cw_seq ?_
  refine cw_reg ?_
  refine el_pv (pv_fieldAddr rfl) (by decide) ?_
  refine el_pv (pv_loadc rfl ((hS.boxAt 5 rfl) 0 _ rfl)) (by decide) ?_
  refine el_pv (pv_loada (cs := [.int .i64 r109.1, v110]) rfl rfl (boxc0 (hS.boxAt 2 rfl))) (by decide) ?_
  refine el_pv (pv_loada (cs := [.int .i64 r119.1, v120]) rfl rfl (boxc0 (hS.boxAt 0 rfl))) (by decide) ?_
  refine el_pv (pv_build [(0, [.string a0]), (1, [.int .i64 r109.1, v110]), (2, [.int .i64 r119.1, v120])] [.string a0, .int .i64 r109.1, v110, .int .i64 r119.1, v120] (partc rfl (partc rfl (partc rfl rfl))) rfl) (by decide) ?_
  refine el_storev (hS.top 4 rfl) rfl [.string a0, .int .i64 r109.1, v110, .int .i64 r119.1, v120] rfl rfl (of_decide_eq_true rfl) (all_cons rfl (all_cons rfl (all_cons (oc (hS.rdAt (R := (sliceR (sliceR intR 3) 22)) 3 rfl)) (all_cons rfl (all_cons (oc (hS.rdAt (R := (sliceR (sliceR intR 3) 22)) 1 rfl)) rfl))))) ?_
  intro w129 hS
  replace hS : Sat w0 w129 (Box b106 42 [.string a0, .int .i64 r109.1, v110, .int .i64 r119.1, v120] :: _) := hS
  refine el_nil ?_
  refine thn_n ?_
  refine cw_ret ?_
  obtain rfl := Option.some.inj hF
  refine finC (cs := [.string a0, .int .i64 r109.1, v110, .int .i64 r119.1, v120]) rfl rfl rfl (boxc0 (hS.boxAt 0 rfl))  ?_
  have hS := hS.top 2 rfl
  have hS := hS.top 4 rfl
  exact ⟨_, _, rfl, hS.keep 2⟩
theorem impl_copyInts_ok {w0 : World} {u0 : Value} {a0 : List Int} (ha0 : (sliceR intR 3).rd w0 [u0] a0) {N : Nat} {r : (List Int)} (hF : impl_copyInts N a0 = some r) :
    Calls Try.prog 93 #[u0] w0 fun e w' => ∃ q0, e = .returned (q0) ∧ Sat w0 w' [Own (sliceR intR 3) [q0] r] := by
  unfold impl_copyInts at hF
  refine calls_E Try.func93 rfl rfl (of_decide_eq_true rfl) ?_
  have hS := Sat.start w0
  refine cw_seq ?_
  refine cw_reg ?_
  refine el_pv (pv_assign rfl) (by decide) ?_
  refine el_nil ?_
  refine thn_n ?_
  refine cw_seq ?_
  refine cw_reg ?_
  refine el_buildSlice0 intR hS (by decide) ?_
  intro w101 v103 hS hx102
  refine el_pv (pv_move rfl) (by decide) ?_
  obtain ⟨x107, hx107, hF⟩ := ob hF
  obtain ⟨ao108, c109, hv110, hn111, hrow112⟩ := row_ints (hS.up ha0)
  have hS := hS.ints (xs := a0)
  refine el_append rfl (by decide) rfl (by decide) hS rfl (rfl.trans hv110) rfl hn111 hrow112 hx107 (by decide) ?_
  intro w105 v106 hS
  refine el_pv (pv_assign rfl) (by decide) ?_
  refine el_nil ?_
  refine thn_n ?_
  refine cw_ret ?_
  obtain rfl := Option.some.inj hF
  refine fin1 rfl rfl ?_
  exact ⟨_, rfl, hS.keep 1⟩
end Go.Proofs.Ytobjjdfgnaanjaa
