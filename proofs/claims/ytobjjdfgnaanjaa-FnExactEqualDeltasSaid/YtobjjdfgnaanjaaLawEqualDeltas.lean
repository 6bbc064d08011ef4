/- The Go law FnExactEqualDeltas returns true for all its arguments: the walk. No condition. -/
import Derived.Test.YtobjjdfgnaanjaaREq
namespace Go.Proofs.Ytobjjdfgnaanjaa
open Go.RowKit

set_option maxHeartbeats 2000000 in
theorem walk_EqualDeltas {w : World} {p0s0 : ByteArray} {p0n1 : Int} {p0v2 : Value} {p0x2 : List (List Int)} {p0n3 : Int} {p0v4 : Value} {p0x4 : List (List Int)} {p1s0 : ByteArray} {p1n1 : Int} {p1v2 : Value} {p1x2 : List (List Int)} {p1n3 : Int} {p1v4 : Value} {p1x4 : List (List Int)} (p0z0 : p0s0.size ≤ 9223372036854775807) (p0h2 : (rIntSS).rd w [p0v2] p0x2) (p0h4 : (rIntSS).rd w [p0v4] p0x4) (p1z0 : p1s0.size ≤ 9223372036854775807) (p1h2 : (rIntSS).rd w [p1v2] p1x2) (p1h4 : (rIntSS).rd w [p1v4] p1x4) :
    Calls Try.prog 4 #[.agg #[.string p0s0, .int .i64 p0n1, p0v2, .int .i64 p0n3, p0v4], .agg #[.string p1s0, .int .i64 p1n1, p1v2, .int .i64 p1n3, p1v4]] w fun e w' => e = .returned (.bool true) ∧ Ext w w' := by
  have hS := Sat.start w
  go_enter Try.func4, Try.ntmps4
  go_wp2_with (first | (refine wpl_box (cs := [.string p0s0, .int .i64 p0n1, p0v2, .int .i64 p0n3, p0v4]) rfl rfl rfl hS ?_; clear hS; intro w1 bA0 hS hx1) | (refine wpl_box (cs := [.string p1s0, .int .i64 p1n1, p1v2, .int .i64 p1n3, p1v4]) rfl rfl rfl hS ?_; clear hS; intro w1 bA1 hS hx1) | (refine wpl_load1 rfl rfl hS rfl (by rfl) ?_) | (refine wpl_loadn rfl rfl hS rfl (by rfl) (by rfl) ?_))
  refine (szDelta_ok p0s0 p0n1 p0n3 p0h2 p0h4 p0z0 hS.below _ (by omega) (by omega)).mono ?_
  rintro e w2 ⟨r0, rfl, hx2, hr1, hr2⟩
  replace hS := hS.ext hx2
  by_cases hneg : r0 < 0
  · go_wp2_with (first | (refine wpl_load1 rfl rfl hS rfl (by rfl) ?_) | (refine wpl_loadn rfl rfl hS rfl (by rfl) (by rfl) ?_))
    go_ret
    exact ⟨rfl, hS.below⟩
  have hr3 := hr2 (by omega)
  have Hb0 := Lib.hid (show sizeDelta (p0s0, (p0n1, p0x2), (p0n3, p0x4)) ≤ 1048576 by omega)
  have hp0 : 0 ≤ r0 := by omega
  have hq0 : r0 ≤ 1048576 := by omega
  clear hr1 hr2 hr3 hneg
  go_wp2_with (first | (refine wpl_load1 rfl rfl hS rfl (by rfl) ?_) | (refine wpl_loadn rfl rfl hS rfl (by rfl) (by rfl) ?_))
  refine (szDelta_ok p1s0 p1n1 p1n3 p1h2 p1h4 p1z0 hS.below _ (by omega) (by omega)).mono ?_
  rintro e w2 ⟨r1, rfl, hx2, hr1, hr2⟩
  replace hS := hS.ext hx2
  by_cases hneg : r1 < 0
  · go_wp2_with (first | (refine wpl_load1 rfl rfl hS rfl (by rfl) ?_) | (refine wpl_loadn rfl rfl hS rfl (by rfl) (by rfl) ?_))
    go_ret
    exact ⟨rfl, hS.below⟩
  have hr3 := hr2 (by omega)
  have Hb1 := Lib.hid (show sizeDelta (p1s0, (p1n1, p1x2), (p1n3, p1x4)) ≤ 1048576 by omega)
  have hp1 : 0 ≤ r1 := by omega
  have hq1 : r1 ≤ 1048576 := by omega
  clear hr1 hr2 hr3 hneg
  go_wp2_with (first | (refine wpl_load1 rfl rfl hS rfl (by rfl) ?_) | (refine wpl_loadn rfl rfl hS rfl (by rfl) (by rfl) ?_))
  have hSd := hS.ext (Below.drew (Ext.refl _))
  go_region_held3 (fun W => W.cell? ⟨bA0, 0, none⟩ = some (.string p0s0) ∧ W.cell? ⟨bA0, 1, none⟩ = some (.int .i64 p0n1) ∧ W.cell? ⟨bA0, 2, none⟩ = some (p0v2) ∧ W.cell? ⟨bA0, 3, none⟩ = some (.int .i64 p0n3) ∧ W.cell? ⟨bA0, 4, none⟩ = some (p0v4) ∧ W.cell? ⟨bA1, 0, none⟩ = some (.string p1s0) ∧ W.cell? ⟨bA1, 1, none⟩ = some (.int .i64 p1n1) ∧ W.cell? ⟨bA1, 2, none⟩ = some (p1v2) ∧ W.cell? ⟨bA1, 3, none⟩ = some (.int .i64 p1n3) ∧ W.cell? ⟨bA1, 4, none⟩ = some (p1v4))
    (first | exact ⟨hSd.boxCell 0 _ rfl, hSd.boxCell 1 _ rfl, hSd.boxCell 2 _ rfl, hSd.boxCell 3 _ rfl, hSd.boxCell 4 _ rfl, hSd.boxCell 0 _ rfl, hSd.boxCell 1 _ rfl, hSd.boxCell 2 _ rfl, hSd.boxCell 3 _ rfl, hSd.boxCell 4 _ rfl⟩ | exact ⟨hT0.boxCell 0 _ rfl, hT0.boxCell 1 _ rfl, hT0.boxCell 2 _ rfl, hT0.boxCell 3 _ rfl, hT0.boxCell 4 _ rfl, hT0.boxCell 0 _ rfl, hT0.boxCell 1 _ rfl, hT0.boxCell 2 _ rfl, hT0.boxCell 3 _ rfl, hT0.boxCell 4 _ rfl⟩ | exact ⟨hT1.boxCell 0 _ rfl, hT1.boxCell 1 _ rfl, hT1.boxCell 2 _ rfl, hT1.boxCell 3 _ rfl, hT1.boxCell 4 _ rfl, hT1.boxCell 0 _ rfl, hT1.boxCell 1 _ rfl, hT1.boxCell 2 _ rfl, hT1.boxCell 3 _ rfl, hT1.boxCell 4 _ rfl⟩ | exact ⟨hTz.boxCell 0 _ rfl, hTz.boxCell 1 _ rfl, hTz.boxCell 2 _ rfl, hTz.boxCell 3 _ rfl, hTz.boxCell 4 _ rfl, hTz.boxCell 0 _ rfl, hTz.boxCell 1 _ rfl, hTz.boxCell 2 _ rfl, hTz.boxCell 3 _ rfl, hTz.boxCell 4 _ rfl⟩)
    (first | (go_at_call_of 16 (p0v2); refine (toDelta_ok p0s0 p0n1 p0n3 p0h2 p0h4 p0z0 hSd.below Hb0.out).mono ?_; rintro e w9 ⟨u0_2, u0_4, rfl, hS8⟩; have hT0 := hSd.call2 hS8; clear hS8)
           | (go_at_call_of 16 (p1v2); refine (toDelta_ok p1s0 p1n1 p1n3 p1h2 p1h4 p1z0 hT0.below Hb1.out).mono ?_; rintro e w9 ⟨u1_2, u1_4, rfl, hS8⟩; have hT1 := hT0.call2 hS8; clear hS8)
           | (go_at_call 15; refine (EqualDeltas_spec hT1.read hT1.read hT1.read hT1.read (Ext.refl _) (Ext.refl _) ).mono ?_; rintro e wa ⟨rfl, hxa⟩; have hTz := hT1.ext hxa))
  replace hS := hTz
  clear hTz hSd hT0 hT1
  go_wp2_with (first | (refine wpl_load1 rfl rfl hS rfl (by rfl) ?_) | (refine wpl_loadn rfl rfl hS rfl (by rfl) (by rfl) ?_))
  refine (toDelta_ok p0s0 p0n1 p0n3 p0h2 p0h4 p0z0 hS.below Hb0.out).mono ?_
  rintro e w5 ⟨y0_2, y0_4, rfl, hS2⟩
  replace hS := hS.call2 hS2
  clear hS2
  have o0_2 : y0_2.oneCell' = true := hS.oneCell
  have o0_4 : y0_4.oneCell' = true := hS.oneCell
  go_wp2_with (first | (refine wpl_load1 rfl rfl hS rfl (by rfl) ?_) | (refine wpl_loadn rfl rfl hS rfl (by rfl) (by rfl) ?_) | (refine wpl_alloc rfl rfl hS ?_; clear hS; intro w6 bX0 hS hx6) | (refine wpl_storev rfl rfl hS rfl [.string p0s0, .int .i64 p0n1, y0_2, .int .i64 p0n3, y0_4] rfl (by rfl) (by simp) (by simp [oc_int, oc_str, o0_2, o0_4]) ?_; clear hS; intro w3 hS; simp only [List.take, List.drop, List.nil_append, List.cons_append, Nat.reduceAdd] at hS))
  refine (toDelta_ok p1s0 p1n1 p1n3 p1h2 p1h4 p1z0 hS.below Hb1.out).mono ?_
  rintro e w5 ⟨y1_2, y1_4, rfl, hS2⟩
  replace hS := hS.call2 hS2
  clear hS2
  have o1_2 : y1_2.oneCell' = true := hS.oneCell
  have o1_4 : y1_4.oneCell' = true := hS.oneCell
  go_wp2_with (first | (refine wpl_load1 rfl rfl hS rfl (by rfl) ?_) | (refine wpl_loadn rfl rfl hS rfl (by rfl) (by rfl) ?_) | (refine wpl_alloc rfl rfl hS ?_; clear hS; intro w6 bX1 hS hx6) | (refine wpl_storev rfl rfl hS rfl [.string p1s0, .int .i64 p1n1, y1_2, .int .i64 p1n3, y1_4] rfl (by rfl) (by simp) (by simp [oc_int, oc_str, o1_2, o1_4]) ?_; clear hS; intro w3 hS; simp only [List.take, List.drop, List.nil_append, List.cons_append, Nat.reduceAdd] at hS))
  refine (EqualDeltas_impl hS.read hS.read hS.read hS.read (Ext.refl _) (Ext.refl _) ).mono ?_
  rintro e w7 ⟨rfl, hx4⟩
  replace hS := hS.ext hx4
  clear hx4
  go_wp2_with (first | (refine wpl_load1 rfl rfl hS rfl (by rfl) ?_) | (refine wpl_loadn rfl rfl hS rfl (by rfl) (by rfl) ?_))
  have hSd := hS.ext (Below.drew (Ext.refl _))
  have hEd := hSd.below
  go_region_held3 (fun W => W.cell? ⟨bX0, 0, none⟩ = some (.string p0s0) ∧ W.cell? ⟨bX0, 1, none⟩ = some (.int .i64 p0n1) ∧ W.cell? ⟨bX0, 2, none⟩ = some (y0_2) ∧ W.cell? ⟨bX0, 3, none⟩ = some (.int .i64 p0n3) ∧ W.cell? ⟨bX0, 4, none⟩ = some (y0_4) ∧ W.cell? ⟨bA0, 0, none⟩ = some (.string p0s0) ∧ W.cell? ⟨bA0, 1, none⟩ = some (.int .i64 p0n1) ∧ W.cell? ⟨bA0, 2, none⟩ = some (p0v2) ∧ W.cell? ⟨bA0, 3, none⟩ = some (.int .i64 p0n3) ∧ W.cell? ⟨bA0, 4, none⟩ = some (p0v4))
    (first | exact ⟨hSd.boxCell 0 _ rfl, hSd.boxCell 1 _ rfl, hSd.boxCell 2 _ rfl, hSd.boxCell 3 _ rfl, hSd.boxCell 4 _ rfl, hSd.boxCell 0 _ rfl, hSd.boxCell 1 _ rfl, hSd.boxCell 2 _ rfl, hSd.boxCell 3 _ rfl, hSd.boxCell 4 _ rfl⟩ | exact ⟨hS9.boxCell 0 _ rfl, hS9.boxCell 1 _ rfl, hS9.boxCell 2 _ rfl, hS9.boxCell 3 _ rfl, hS9.boxCell 4 _ rfl, hS9.boxCell 0 _ rfl, hS9.boxCell 1 _ rfl, hS9.boxCell 2 _ rfl, hS9.boxCell 3 _ rfl, hS9.boxCell 4 _ rfl⟩ | exact ⟨hSa.boxCell 0 _ rfl, hSa.boxCell 1 _ rfl, hSa.boxCell 2 _ rfl, hSa.boxCell 3 _ rfl, hSa.boxCell 4 _ rfl, hSa.boxCell 0 _ rfl, hSa.boxCell 1 _ rfl, hSa.boxCell 2 _ rfl, hSa.boxCell 3 _ rfl, hSa.boxCell 4 _ rfl⟩)
    (first | (go_at_call 16; refine (toDelta_ok p0s0 p0n1 p0n3 p0h2 p0h4 p0z0 hEd Hb0.out).mono ?_; rintro e w9 ⟨z2, z4, rfl, hS8⟩; have hS9 := hSd.call2 hS8; clear hS8)
           | (go_at_call 18; refine (eqDelta_ok p0s0 p0n1 p0n3 p0s0 p0n1 p0n3 hS9.read hS9.read hS9.read hS9.read (Ext.refl _) (Ext.refl _)).mono ?_; rintro e wa ⟨rfl, hxa⟩; have hSa := hS9.ext hxa))
  replace hS := hSa
  clear hSa hS9 hSd hEd
  go_wp2_with (first | (refine wpl_load1 rfl rfl hS rfl (by rfl) ?_) | (refine wpl_loadn rfl rfl hS rfl (by rfl) (by rfl) ?_))
  have hSd := hS.ext (Below.drew (Ext.refl _))
  have hEd := hSd.below
  go_region_held3 (fun W => W.cell? ⟨bX1, 0, none⟩ = some (.string p1s0) ∧ W.cell? ⟨bX1, 1, none⟩ = some (.int .i64 p1n1) ∧ W.cell? ⟨bX1, 2, none⟩ = some (y1_2) ∧ W.cell? ⟨bX1, 3, none⟩ = some (.int .i64 p1n3) ∧ W.cell? ⟨bX1, 4, none⟩ = some (y1_4) ∧ W.cell? ⟨bA1, 0, none⟩ = some (.string p1s0) ∧ W.cell? ⟨bA1, 1, none⟩ = some (.int .i64 p1n1) ∧ W.cell? ⟨bA1, 2, none⟩ = some (p1v2) ∧ W.cell? ⟨bA1, 3, none⟩ = some (.int .i64 p1n3) ∧ W.cell? ⟨bA1, 4, none⟩ = some (p1v4))
    (first | exact ⟨hSd.boxCell 0 _ rfl, hSd.boxCell 1 _ rfl, hSd.boxCell 2 _ rfl, hSd.boxCell 3 _ rfl, hSd.boxCell 4 _ rfl, hSd.boxCell 0 _ rfl, hSd.boxCell 1 _ rfl, hSd.boxCell 2 _ rfl, hSd.boxCell 3 _ rfl, hSd.boxCell 4 _ rfl⟩ | exact ⟨hS9.boxCell 0 _ rfl, hS9.boxCell 1 _ rfl, hS9.boxCell 2 _ rfl, hS9.boxCell 3 _ rfl, hS9.boxCell 4 _ rfl, hS9.boxCell 0 _ rfl, hS9.boxCell 1 _ rfl, hS9.boxCell 2 _ rfl, hS9.boxCell 3 _ rfl, hS9.boxCell 4 _ rfl⟩ | exact ⟨hSa.boxCell 0 _ rfl, hSa.boxCell 1 _ rfl, hSa.boxCell 2 _ rfl, hSa.boxCell 3 _ rfl, hSa.boxCell 4 _ rfl, hSa.boxCell 0 _ rfl, hSa.boxCell 1 _ rfl, hSa.boxCell 2 _ rfl, hSa.boxCell 3 _ rfl, hSa.boxCell 4 _ rfl⟩)
    (first | (go_at_call 16; refine (toDelta_ok p1s0 p1n1 p1n3 p1h2 p1h4 p1z0 hEd Hb1.out).mono ?_; rintro e w9 ⟨z2, z4, rfl, hS8⟩; have hS9 := hSd.call2 hS8; clear hS8)
           | (go_at_call 18; refine (eqDelta_ok p1s0 p1n1 p1n3 p1s0 p1n1 p1n3 hS9.read hS9.read hS9.read hS9.read (Ext.refl _) (Ext.refl _)).mono ?_; rintro e wa ⟨rfl, hxa⟩; have hSa := hS9.ext hxa))
  go_wp2
  go_ret
  exact ⟨rfl, hSa.below⟩
end Go.Proofs.Ytobjjdfgnaanjaa
