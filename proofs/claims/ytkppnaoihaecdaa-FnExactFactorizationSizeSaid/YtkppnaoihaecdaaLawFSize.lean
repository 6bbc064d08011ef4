/- The Go law FnExactFactorizationSize returns true for all its arguments. No condition. -/
import Derived.Test.YtkppnaoihaecdaaFSize
namespace Go.Proofs.Ytkppnaoihaecdaa
open Go.RowKit

set_option maxHeartbeats 1000000 in
theorem walk_FactorizationSize {w : World} {v0 v1 : Value} {x : List Int × List (List Int × List Int)} (h0 : rIntS.rd w [v0] x.1) (h1 : rFactorNodeS.rd w [v1] x.2) :
    Calls Try.prog 9 #[.agg #[v0, v1]] w fun e w' => e = .returned (.bool true) ∧ Ext w w' := by
  have hS := Sat.start w
  go_enter Try.func9, Try.ntmps9
  go_wp2_with (first | (refine wpl_box (cs := [v0, v1]) rfl rfl rfl hS ?_; clear hS; intro w1 bA hS hx1) | (refine wpl_load1 rfl rfl hS rfl (by rfl) ?_) | (refine wpl_loadn rfl rfl hS rfl (by rfl) (by rfl) ?_))
  refine (szFactorization_ok h0 h1 hS.below _ (by omega) (by omega)).mono ?_
  rintro e w2 ⟨r, rfl, hx2, hr1, hr2⟩
  replace hS := hS.ext hx2
  by_cases hneg : r < 0
  · go_wp2_with (first | (refine wpl_load1 rfl rfl hS rfl (by rfl) ?_) | (refine wpl_loadn rfl rfl hS rfl (by rfl) (by rfl) ?_))
    go_ret
    exact ⟨rfl, hS.below⟩
  have Hb := Lib.hid (show sizeFactorization (x.1, x.2) ≤ 1048576 by have := hr2 (by omega); omega)
  clear hr1 hr2
  go_wp2_with (first | (refine wpl_load1 rfl rfl hS rfl (by rfl) ?_) | (refine wpl_loadn rfl rfl hS rfl (by rfl) (by rfl) ?_))
  refine (toFactorization_ok h0 h1 hS.below Hb.out).mono ?_
  rintro e w3 ⟨u0, u1, rfl, hS2⟩
  replace hS := hS.call2 hS2
  clear hS2
  go_wp2_with (first | (refine wpl_load1 rfl rfl hS rfl (by rfl) ?_) | (refine wpl_loadn rfl rfl hS rfl (by rfl) (by rfl) ?_))
  refine (FactorizationSize_spec (wA := w3) (x0 := x.1) hS.read (Ext.refl _) Hb.out).mono ?_
  rintro e w4 ⟨rfl, hx4⟩
  replace hS := hS.ext hx4
  go_wp2_with (first | (refine wpl_load1 rfl rfl hS rfl (by rfl) ?_) | (refine wpl_loadn rfl rfl hS rfl (by rfl) (by rfl) ?_))
  refine (toFactorization_ok h0 h1 hS.below Hb.out).mono ?_
  rintro e w5 ⟨y0, y1, rfl, hS2⟩
  replace hS := hS.call2 hS2
  clear hS2
  have o0 : y0.oneCell' = true := hS.oneCell
  have o1 : y1.oneCell' = true := hS.oneCell
  go_wp2_with (first | (refine wpl_load1 rfl rfl hS rfl (by rfl) ?_) | (refine wpl_loadn rfl rfl hS rfl (by rfl) (by rfl) ?_) | (refine wpl_alloc rfl rfl hS ?_; clear hS; intro w6 bX hS hx6) | (refine wpl_storev rfl rfl hS rfl [y0, y1] rfl (by rfl) (by simp) (by simp [oc_int, oc_str, o0, o1]) ?_; clear hS; intro w3 hS; simp only [List.take, List.drop, List.nil_append, List.cons_append, Nat.reduceAdd] at hS))
  refine (FactorizationSize_impl (x0 := x.1) hS.read (Ext.refl _) Hb.out).mono ?_
  rintro e w7 ⟨rfl, hx7⟩
  replace hS := hS.ext hx7
  go_wp2_with (first | (refine wpl_load1 rfl rfl hS rfl (by rfl) ?_) | (refine wpl_loadn rfl rfl hS rfl (by rfl) (by rfl) ?_))
  have hSd := hS.ext (Below.drew (Ext.refl _))
  have hEd := hSd.below
  go_region_held3 (fun W => W.cell? ⟨bX, 0, none⟩ = some y0 ∧ W.cell? ⟨bX, 1, none⟩ = some y1 ∧ W.cell? ⟨bA, 0, none⟩ = some v0 ∧ W.cell? ⟨bA, 1, none⟩ = some v1)
    (first | exact ⟨hSd.boxCell 0 _ rfl, hSd.boxCell 1 _ rfl, hSd.boxCell 0 _ rfl, hSd.boxCell 1 _ rfl⟩ | exact ⟨hS9.boxCell 0 _ rfl, hS9.boxCell 1 _ rfl, hS9.boxCell 0 _ rfl, hS9.boxCell 1 _ rfl⟩ | exact ⟨hSa.boxCell 0 _ rfl, hSa.boxCell 1 _ rfl, hSa.boxCell 0 _ rfl, hSa.boxCell 1 _ rfl⟩)
    (first | (go_at_call 24; refine (toFactorization_ok h0 h1 hEd Hb.out).mono ?_; rintro e w9 ⟨z0, z1, rfl, hS8⟩; have hS9 := hSd.call2 hS8; clear hS8)
           | (go_at_call 26; refine (eqFactorization_ok hS9.read hS9.read hS9.read hS9.read (Ext.refl _) (Ext.refl _)).mono ?_; rintro e wa ⟨rfl, hxa⟩; have hSa := hS9.ext hxa))
  go_wp2
  go_ret
  exact ⟨rfl, hSa.below⟩
end Go.Proofs.Ytkppnaoihaecdaa
