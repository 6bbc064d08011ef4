/- The Go law FnExactIsWithinSeekBound returns true for all its arguments, and each argument reads as it did. No condition. -/
import Derived.Test.YtkpeabpdiffjhaaZ
import Derived.Test.YtkpeabpdiffjhaaLFnExactIsWithinSeekBound
import Derived.Test.YtkpeabpdiffjhaaW4
namespace Go.Proofs.Ytkpeabpdiffjhaa.fnExactIsWithinSeekBound
open Go.ChangeShapes Go.WideShapes Go.ChangeAt Go.RowKit

set_option maxRecDepth 100000 in
theorem lifted (os : Os) (started : os.Started) (H : Type) (enc : TypeId × Value → H) :
    ReturnsInHanded {} Try.checked os 4 .any (Rows.fnExactIsWithinSeekBoundSpec.pre6 enc Try.prog Try.f4 Rows.fnExactIsWithinSeekBoundRow.domain false) (Rows.fnExactIsWithinSeekBoundSpec.post enc Try.prog Try.f4 false true false false) := by
  refine returnsInHanded_of_change (C := Try.checked) own_knob started (by kernel_rfl) Try.func4
    (ChangeSpec.witness6 (enc := enc) (C := Try.checked) false ⟨#[], #[.agg #[.int .i64 0, .slice none 0 0, .slice none 0 0], .slice none 0 0, .slice none 0 0, .int .i64 0], []⟩ 8 (by kernel_rfl) (by kernel_rfl) (by kernel_rfl) (by kernel_rfl)) ?_
  intro W base args ds gs before hval0 hW hcnd _
  have hval : ∀ (j : Nat) t v, Try.f4.params[j]? = some t → args[j]? = some v → Value.okWide Try.prog W .any base t v := hval0
  have hW' := hW
  obtain ⟨p, q, hA0, hV, rfl, hfz, hnd⟩ := hW
  have hA : DataW.TrodAll enc Try.prog W 0 (fun _ => true) true Try.f4.params.toList args.toList ds p := hA0
  rw [Try.params4] at hA hval
  obtain ⟨v0, vs0, d0, ds0, p0, q0, hargs, rfl, rfl, h0, r0⟩ := trodAll_cons hA
  obtain ⟨v1, vs1, d1, ds1, p1, q1, rfl, rfl, rfl, h1, r1⟩ := trodAll_cons r0
  obtain ⟨v2, vs2, d2, ds2, p2, q2, rfl, rfl, rfl, h2, r2⟩ := trodAll_cons r1
  obtain ⟨v3, vs3, d3, ds3, p3, q3, rfl, rfl, rfl, h3, r3⟩ := trodAll_cons r2
  obtain ⟨rfl, rfl, rfl⟩ := trodAll_nil r3
  obtain rfl : args = #[v0, v1, v2, v3] := by cases args; simp_all
  obtain ⟨rfl, rfl⟩ := trodVars_none hV
  clear hA0 hval0
  simp only [List.append_nil] at hW'
  have hlt0 : ∀ x ∈ p0, x.block < W.heap.size := fun x hx => by have := hW'.lt x (by simp [hx]); simpa using this
  have hlt1 : ∀ x ∈ p1, x.block < W.heap.size := fun x hx => by have := hW'.lt x (by simp [hx]); simpa using this
  have hlt2 : ∀ x ∈ p2, x.block < W.heap.size := fun x hx => by have := hW'.lt x (by simp [hx]); simpa using this
  have hlt3 : ∀ x ∈ p3, x.block < W.heap.size := fun x hx => by have := hW'.lt x (by simp [hx]); simpa using this
  have k0 := h0
  obtain ⟨cs0, rfl, hsz0⟩ := okWide_struct Try.underlying25 (hval 0 25 v0 rfl rfl)
  have hsn0 : cs0.size = 3 := hsz0.trans (by kernel_rfl)
  obtain ⟨c0_0, c0_1, c0_2, rfl⟩ := arr3 hsn0
  obtain ⟨fuel0, hf0⟩ := h0
  obtain ⟨y0, hy0⟩ := opens25 enc W 0 (fun _ => true) true fuel0 _ _ hf0
  have hb0 := rdp25 hy0
  have hy0a := (pair_cells hy0).1
  have hy0b := (pair_cells hy0).2
  obtain rfl : c0_0 = .int .i64 y0.1 := int_cell hy0a
  have hy0ba := (pair_cells hy0b).1
  have hy0bb := (pair_cells hy0b).2
  have e0_1 : (sliceR (pairR strR (sliceR intR 3)) 113).rd W [c0_1] y0.2.1 := hy0ba
  have e0_2 : (sliceR intR 3).rd W [c0_2] y0.2.2 := hy0bb
  have k1 := h1
  obtain ⟨ao1, len1, cap1, rfl⟩ := okWide_slice Try.underlying23 (hval 1 23 v1 rfl rfl)
  obtain ⟨fuel1, hf1⟩ := h1
  obtain ⟨y1, hF1⟩ := opensF23 enc W 0 (fun _ => true) true fuel1 _ _ hf1
  obtain ⟨hy1, hr1⟩ := slice_F hF1
  have k2 := h2
  obtain ⟨ao2, len2, cap2, rfl⟩ := okWide_slice Try.underlying34 (hval 2 34 v2 rfl rfl)
  obtain ⟨fuel2, hf2⟩ := h2
  obtain ⟨y2, hy2⟩ := opens34 enc W 0 (fun _ => true) true fuel2 _ _ hf2
  have k3 := h3
  obtain ⟨a3, rfl, rfl, rfl, w3⟩ := open_int Try.underlying3 (hval 3 3 v3 rfl rfl) h3
  refine (laws_FnExactIsWithinSeekBound_ok e0_1 e0_2 hy1 hy2 (law_FnExactIsWithinSeekBound (N := 1073742848) (Nat.le_refl _) hb0 (rdp23 hy1) hr1 (rdp34 hy2) (wf64 w3))).mono fun e W' ⟨he, hg⟩ => ?_
  subst he
  exact ⟨_, rfl, _, _, _, [], _, [], hW', trodAll_cons_mk (shut_bool Try.underlying4 _) trodAll_mk0, (trodAll_cons_mk (Below.trod laid_out (by kernel_rfl) (of_decide_eq_true (by kernel_rfl)) k0 hg hlt0) (trodAll_cons_mk (Below.trod laid_out (by kernel_rfl) (of_decide_eq_true (by kernel_rfl)) k1 hg hlt1) (trodAll_cons_mk (Below.trod laid_out (by kernel_rfl) (of_decide_eq_true (by kernel_rfl)) k2 hg hlt2) (trodAll_cons_mk (shut_int Try.underlying3 w3) trodAll_mk0)))), rfl, hg.frame _, fun h => by cases h⟩

theorem over : Rows.fnExactIsWithinSeekBoundRow.holds Try.pinned (OpenSpec.ofChange Rows.fnExactIsWithinSeekBoundSpec) :=
  OpenClaim.holds_of_wide 4 Try.f4 rfl rfl rfl rfl rfl rfl rfl ⟨rfl, rfl, rfl, rfl, rfl⟩ rfl rfl rfl rfl rfl (by kernel_rfl) Try.func4 (by kernel_rfl)
    (of_decide_eq_true (by kernel_rfl)) (by unfold Func.isWrapper; first | (rw [if_pos (by decide +kernel)]; kernel_rfl) | (rw [if_neg (by decide +kernel)]; exact ⟨rfl, rfl⟩))
    (fun os started H enc _ => lifted os started H enc)

/-- The statement. -/
theorem proved : Rows.FnExactIsWithinSeekBoundSaid := over
#print axioms proved
end Go.Proofs.Ytkpeabpdiffjhaa.fnExactIsWithinSeekBound
