/- The Go law FnExactIsValidDelta returns true for all its arguments, and each argument reads as it did. No condition. -/
import Derived.Test.YtnanddmadghnnaaZ
import Derived.Test.YtnanddmadghnnaaLFnExactIsValidDelta
import Derived.Test.YtnanddmadghnnaaW5
namespace Go.Proofs.Ytnanddmadghnnaa.fnExactIsValidDelta
open Go.ChangeShapes Go.WideShapes Go.ChangeAt Go.RowKit

set_option maxRecDepth 100000 in
theorem lifted (os : Os) (started : os.Started) (H : Type) (enc : TypeId × Value → H) :
    ReturnsInHanded {} Try.checked os 4 .any (Rows.fnExactIsValidDeltaSpec.pre6 enc Try.prog Try.f4 Rows.fnExactIsValidDeltaRow.domain false) (Rows.fnExactIsValidDeltaSpec.post enc Try.prog Try.f4 false true false false) := by
  refine returnsInHanded_of_change (C := Try.checked) own_knob started (by kernel_rfl) Try.func4
    (ChangeSpec.witness6 (enc := enc) (C := Try.checked) false ⟨#[], #[.agg #[.slice none 0 0], .agg #[.string ByteArray.empty, .int .i64 0, .slice none 0 0, .int .i64 0, .slice none 0 0]], []⟩ 8 (by kernel_rfl) (by kernel_rfl) (by kernel_rfl) (by kernel_rfl)) ?_
  intro W base args ds gs before hval0 hW hcnd _
  have hval : ∀ (j : Nat) t v, Try.f4.params[j]? = some t → args[j]? = some v → Value.okWide Try.prog W .any base t v := hval0
  have hW' := hW
  obtain ⟨p, q, hA0, hV, rfl, hfz, hnd⟩ := hW
  have hA : DataW.TrodAll enc Try.prog W 0 (fun _ => true) true Try.f4.params.toList args.toList ds p := hA0
  rw [Try.params4] at hA hval
  obtain ⟨v0, vs0, d0, ds0, p0, q0, hargs, rfl, rfl, h0, r0⟩ := trodAll_cons hA
  obtain ⟨v1, vs1, d1, ds1, p1, q1, rfl, rfl, rfl, h1, r1⟩ := trodAll_cons r0
  obtain ⟨rfl, rfl, rfl⟩ := trodAll_nil r1
  obtain rfl : args = #[v0, v1] := by cases args; simp_all
  obtain ⟨rfl, rfl⟩ := trodVars_none hV
  clear hA0 hval0
  simp only [List.append_nil] at hW'
  have hlt0 : ∀ x ∈ p0, x.block < W.heap.size := fun x hx => by have := hW'.lt x (by simp [hx]); simpa using this
  have hlt1 : ∀ x ∈ p1, x.block < W.heap.size := fun x hx => by have := hW'.lt x (by simp [hx]); simpa using this
  have k0 := h0
  obtain ⟨cs0, rfl, hsz0⟩ := okWide_struct Try.underlying34 (hval 0 34 v0 rfl rfl)
  have hsn0 : cs0.size = 1 := hsz0.trans (by kernel_rfl)
  obtain ⟨c0_0, rfl⟩ := arr1 hsn0
  obtain ⟨fuel0, hf0⟩ := h0
  obtain ⟨y0, hy0⟩ := opens34 enc W 0 (fun _ => true) true fuel0 _ _ hf0
  have hb0 := rdp34 hy0
  have e0_0 : (sliceR (pairR strR (pairR intR (sliceR (sliceR intR 3) 24))) 76).rd W [c0_0] y0 := hy0
  have k1 := h1
  obtain ⟨cs1, rfl, hsz1⟩ := okWide_struct Try.underlying38 (hval 1 38 v1 rfl rfl)
  have hsn1 : cs1.size = 5 := hsz1.trans (by kernel_rfl)
  obtain ⟨c1_0, c1_1, c1_2, c1_3, c1_4, rfl⟩ := arr5 hsn1
  obtain ⟨fuel1, hf1⟩ := h1
  obtain ⟨y1, hy1⟩ := opens38 enc W 0 (fun _ => true) true fuel1 _ _ hf1
  have hb1 := rdp38 hy1
  have hy1a := (pair_cells hy1).1
  have hy1b := (pair_cells hy1).2
  obtain rfl : c1_0 = .string y1.1 := (str_cell hy1a).1
  have hy1ba := (pair_cells hy1b).1
  have hy1bb := (pair_cells hy1b).2
  have hy1baa := (pair_cells hy1ba).1
  have hy1bab := (pair_cells hy1ba).2
  obtain rfl : c1_1 = .int .i64 y1.2.1.1 := int_cell hy1baa
  have e1_2 : (sliceR (sliceR intR 3) 24).rd W [c1_2] y1.2.1.2 := hy1bab
  have hy1bba := (pair_cells hy1bb).1
  have hy1bbb := (pair_cells hy1bb).2
  obtain rfl : c1_3 = .int .i64 y1.2.2.1 := int_cell hy1bba
  have e1_4 : (sliceR (sliceR intR 3) 24).rd W [c1_4] y1.2.2.2 := hy1bbb
  refine (laws_FnExactIsValidDelta_ok e0_0 (str_cell hy1a).2 e1_2 e1_4 (law_FnExactIsValidDelta (N := 1073741824) (Nat.le_refl _) hb0 hb1)).mono fun e W' ⟨he, hg⟩ => ?_
  subst he
  exact ⟨_, rfl, _, _, _, [], _, [], hW', trodAll_cons_mk (shut_bool Try.underlying4 _) trodAll_mk0, (trodAll_cons_mk (Below.trod laid_out (by kernel_rfl) (of_decide_eq_true (by kernel_rfl)) k0 hg hlt0) (trodAll_cons_mk (Below.trod laid_out (by kernel_rfl) (of_decide_eq_true (by kernel_rfl)) k1 hg hlt1) trodAll_mk0)), rfl, hg.frame _, fun h => by cases h⟩

theorem over : Rows.fnExactIsValidDeltaRow.holds Try.pinned (OpenSpec.ofChange Rows.fnExactIsValidDeltaSpec) :=
  OpenClaim.holds_of_wide 4 Try.f4 rfl rfl rfl rfl rfl rfl rfl ⟨rfl, rfl, rfl, rfl, rfl⟩ rfl rfl rfl rfl rfl (by kernel_rfl) Try.func4 (by kernel_rfl)
    (of_decide_eq_true (by kernel_rfl)) (by unfold Func.isWrapper; first | (rw [if_pos (by decide +kernel)]; kernel_rfl) | (rw [if_neg (by decide +kernel)]; exact ⟨rfl, rfl⟩))
    (fun os started H enc _ => lifted os started H enc)

/-- The statement. -/
theorem proved : Rows.FnExactIsValidDeltaSaid := over
#print axioms proved
end Go.Proofs.Ytnanddmadghnnaa.fnExactIsValidDelta
