/- The Go law FnExactEqualFactorizations returns true for all its arguments: the walk. No condition. -/
import Derived.Test.YtobjjdfgnaanjaaFEq
namespace Go.Proofs.Ytobjjdfgnaanjaa
open Go.RowKit

set_option maxHeartbeats 2000000 in
theorem walk_EqualFactorizations {w : World} {p0v0 : Value} {p0x0 : List Int} {p0v1 : Value} {p0x1 : List (List Int × List Int)} {p1v0 : Value} {p1x0 : List Int} {p1v1 : Value} {p1x1 : List (List Int × List Int)} (p0h0 : (rIntS).rd w [p0v0] p0x0) (p0h1 : (rFactorNodeS).rd w [p0v1] p0x1) (p1h0 : (rIntS).rd w [p1v0] p1x0) (p1h1 : (rFactorNodeS).rd w [p1v1] p1x1) :
    Calls Try.prog 3 #[.agg #[p0v0, p0v1], .agg #[p1v0, p1v1]] w fun e w' => e = .returned (.bool true) ∧ Ext w w' := by
  have hS := Sat.start w
  go_enter Try.func3, Try.ntmps3
  go_wp2_with (first | (refine wpl_box (cs := [p0v0, p0v1]) rfl rfl rfl hS ?_; clear hS; intro w1 bA0 hS hx1) | (refine wpl_box (cs := [p1v0, p1v1]) rfl rfl rfl hS ?_; clear hS; intro w1 bA1 hS hx1) | (refine wpl_load1 rfl rfl hS rfl (by rfl) ?_) | (refine wpl_loadn rfl rfl hS rfl (by rfl) (by rfl) ?_))
  refine (szFactorization_ok p0h0 p0h1 hS.below _ (by omega) (by omega)).mono ?_
  rintro e w2 ⟨r0, rfl, hx2, hr1, hr2⟩
  replace hS := hS.ext hx2
  by_cases hneg : r0 < 0
  · go_wp2_with (first | (refine wpl_load1 rfl rfl hS rfl (by rfl) ?_) | (refine wpl_loadn rfl rfl hS rfl (by rfl) (by rfl) ?_))
    go_ret
    exact ⟨rfl, hS.below⟩
  have hr3 := hr2 (by omega)
  have Hb0 := Lib.hid (show sizeFactorization (p0x0, p0x1) ≤ 1048576 by omega)
  have hp0 : 0 ≤ r0 := by omega
  have hq0 : r0 ≤ 1048576 := by omega
  clear hr1 hr2 hr3 hneg
  go_wp2_with (first | (refine wpl_load1 rfl rfl hS rfl (by rfl) ?_) | (refine wpl_loadn rfl rfl hS rfl (by rfl) (by rfl) ?_))
  refine (szFactorization_ok p1h0 p1h1 hS.below _ (by omega) (by omega)).mono ?_
  rintro e w2 ⟨r1, rfl, hx2, hr1, hr2⟩
  replace hS := hS.ext hx2
  by_cases hneg : r1 < 0
  · go_wp2_with (first | (refine wpl_load1 rfl rfl hS rfl (by rfl) ?_) | (refine wpl_loadn rfl rfl hS rfl (by rfl) (by rfl) ?_))
    go_ret
    exact ⟨rfl, hS.below⟩
  have hr3 := hr2 (by omega)
  have Hb1 := Lib.hid (show sizeFactorization (p1x0, p1x1) ≤ 1048576 by omega)
  have hp1 : 0 ≤ r1 := by omega
  have hq1 : r1 ≤ 1048576 := by omega
  clear hr1 hr2 hr3 hneg
  go_wp2_with (first | (refine wpl_load1 rfl rfl hS rfl (by rfl) ?_) | (refine wpl_loadn rfl rfl hS rfl (by rfl) (by rfl) ?_))
  have hSd := hS.ext (Below.drew (Ext.refl _))
  go_region_held3 (fun W => W.cell? ⟨bA0, 0, none⟩ = some (p0v0) ∧ W.cell? ⟨bA0, 1, none⟩ = some (p0v1) ∧ W.cell? ⟨bA1, 0, none⟩ = some (p1v0) ∧ W.cell? ⟨bA1, 1, none⟩ = some (p1v1))
    (first | exact ⟨hSd.boxCell 0 _ rfl, hSd.boxCell 1 _ rfl, hSd.boxCell 0 _ rfl, hSd.boxCell 1 _ rfl⟩ | exact ⟨hT0.boxCell 0 _ rfl, hT0.boxCell 1 _ rfl, hT0.boxCell 0 _ rfl, hT0.boxCell 1 _ rfl⟩ | exact ⟨hT1.boxCell 0 _ rfl, hT1.boxCell 1 _ rfl, hT1.boxCell 0 _ rfl, hT1.boxCell 1 _ rfl⟩ | exact ⟨hTz.boxCell 0 _ rfl, hTz.boxCell 1 _ rfl, hTz.boxCell 0 _ rfl, hTz.boxCell 1 _ rfl⟩)
    (first | (go_at_call_of 11 (p0v0); refine (toFactorization_ok p0h0 p0h1 hSd.below Hb0.out).mono ?_; rintro e w9 ⟨u0_0, u0_1, rfl, hS8⟩; have hT0 := hSd.call2 hS8; clear hS8)
           | (go_at_call_of 11 (p1v0); refine (toFactorization_ok p1h0 p1h1 hT0.below Hb1.out).mono ?_; rintro e w9 ⟨u1_0, u1_1, rfl, hS8⟩; have hT1 := hT0.call2 hS8; clear hS8)
           | (go_at_call 10; refine (EqualFactorizations_spec hT1.read hT1.read hT1.read hT1.read (Ext.refl _) (Ext.refl _) ).mono ?_; rintro e wa ⟨rfl, hxa⟩; have hTz := hT1.ext hxa))
  replace hS := hTz
  clear hTz hSd hT0 hT1
  go_wp2_with (first | (refine wpl_load1 rfl rfl hS rfl (by rfl) ?_) | (refine wpl_loadn rfl rfl hS rfl (by rfl) (by rfl) ?_))
  refine (toFactorization_ok p0h0 p0h1 hS.below Hb0.out).mono ?_
  rintro e w5 ⟨y0_0, y0_1, rfl, hS2⟩
  replace hS := hS.call2 hS2
  clear hS2
  have o0_0 : y0_0.oneCell' = true := hS.oneCell
  have o0_1 : y0_1.oneCell' = true := hS.oneCell
  go_wp2_with (first | (refine wpl_load1 rfl rfl hS rfl (by rfl) ?_) | (refine wpl_loadn rfl rfl hS rfl (by rfl) (by rfl) ?_) | (refine wpl_alloc rfl rfl hS ?_; clear hS; intro w6 bX0 hS hx6) | (refine wpl_storev rfl rfl hS rfl [y0_0, y0_1] rfl (by rfl) (by simp) (by simp [oc_int, oc_str, o0_0, o0_1]) ?_; clear hS; intro w3 hS; simp only [List.take, List.drop, List.nil_append, List.cons_append, Nat.reduceAdd] at hS))
  refine (toFactorization_ok p1h0 p1h1 hS.below Hb1.out).mono ?_
  rintro e w5 ⟨y1_0, y1_1, rfl, hS2⟩
  replace hS := hS.call2 hS2
  clear hS2
  have o1_0 : y1_0.oneCell' = true := hS.oneCell
  have o1_1 : y1_1.oneCell' = true := hS.oneCell
  go_wp2_with (first | (refine wpl_load1 rfl rfl hS rfl (by rfl) ?_) | (refine wpl_loadn rfl rfl hS rfl (by rfl) (by rfl) ?_) | (refine wpl_alloc rfl rfl hS ?_; clear hS; intro w6 bX1 hS hx6) | (refine wpl_storev rfl rfl hS rfl [y1_0, y1_1] rfl (by rfl) (by simp) (by simp [oc_int, oc_str, o1_0, o1_1]) ?_; clear hS; intro w3 hS; simp only [List.take, List.drop, List.nil_append, List.cons_append, Nat.reduceAdd] at hS))
  refine (EqualFactorizations_impl hS.read hS.read hS.read hS.read (Ext.refl _) (Ext.refl _) ).mono ?_
  rintro e w7 ⟨rfl, hx4⟩
  replace hS := hS.ext hx4
  clear hx4
  go_wp2_with (first | (refine wpl_load1 rfl rfl hS rfl (by rfl) ?_) | (refine wpl_loadn rfl rfl hS rfl (by rfl) (by rfl) ?_))
  have hSd := hS.ext (Below.drew (Ext.refl _))
  have hEd := hSd.below
  go_region_held3 (fun W => W.cell? ⟨bX0, 0, none⟩ = some (y0_0) ∧ W.cell? ⟨bX0, 1, none⟩ = some (y0_1) ∧ W.cell? ⟨bA0, 0, none⟩ = some (p0v0) ∧ W.cell? ⟨bA0, 1, none⟩ = some (p0v1))
    (first | exact ⟨hSd.boxCell 0 _ rfl, hSd.boxCell 1 _ rfl, hSd.boxCell 0 _ rfl, hSd.boxCell 1 _ rfl⟩ | exact ⟨hS9.boxCell 0 _ rfl, hS9.boxCell 1 _ rfl, hS9.boxCell 0 _ rfl, hS9.boxCell 1 _ rfl⟩ | exact ⟨hSa.boxCell 0 _ rfl, hSa.boxCell 1 _ rfl, hSa.boxCell 0 _ rfl, hSa.boxCell 1 _ rfl⟩)
    (first | (go_at_call 11; refine (toFactorization_ok p0h0 p0h1 hEd Hb0.out).mono ?_; rintro e w9 ⟨z0, z1, rfl, hS8⟩; have hS9 := hSd.call2 hS8; clear hS8)
           | (go_at_call 13; refine (eqFactorization_ok   hS9.read hS9.read hS9.read hS9.read (Ext.refl _) (Ext.refl _)).mono ?_; rintro e wa ⟨rfl, hxa⟩; have hSa := hS9.ext hxa))
  replace hS := hSa
  clear hSa hS9 hSd hEd
  go_wp2_with (first | (refine wpl_load1 rfl rfl hS rfl (by rfl) ?_) | (refine wpl_loadn rfl rfl hS rfl (by rfl) (by rfl) ?_))
  have hSd := hS.ext (Below.drew (Ext.refl _))
  have hEd := hSd.below
  go_region_held3 (fun W => W.cell? ⟨bX1, 0, none⟩ = some (y1_0) ∧ W.cell? ⟨bX1, 1, none⟩ = some (y1_1) ∧ W.cell? ⟨bA1, 0, none⟩ = some (p1v0) ∧ W.cell? ⟨bA1, 1, none⟩ = some (p1v1))
    (first | exact ⟨hSd.boxCell 0 _ rfl, hSd.boxCell 1 _ rfl, hSd.boxCell 0 _ rfl, hSd.boxCell 1 _ rfl⟩ | exact ⟨hS9.boxCell 0 _ rfl, hS9.boxCell 1 _ rfl, hS9.boxCell 0 _ rfl, hS9.boxCell 1 _ rfl⟩ | exact ⟨hSa.boxCell 0 _ rfl, hSa.boxCell 1 _ rfl, hSa.boxCell 0 _ rfl, hSa.boxCell 1 _ rfl⟩)
    (first | (go_at_call 11; refine (toFactorization_ok p1h0 p1h1 hEd Hb1.out).mono ?_; rintro e w9 ⟨z0, z1, rfl, hS8⟩; have hS9 := hSd.call2 hS8; clear hS8)
           | (go_at_call 13; refine (eqFactorization_ok   hS9.read hS9.read hS9.read hS9.read (Ext.refl _) (Ext.refl _)).mono ?_; rintro e wa ⟨rfl, hxa⟩; have hSa := hS9.ext hxa))
  go_wp2
  go_ret
  exact ⟨rfl, hSa.below⟩
end Go.Proofs.Ytobjjdfgnaanjaa
