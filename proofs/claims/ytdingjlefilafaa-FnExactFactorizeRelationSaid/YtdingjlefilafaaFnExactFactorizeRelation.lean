/- The Go law FnExactFactorizeRelation returns true for all its arguments, and each argument reads as it did. No condition. -/
import Derived.Test.YtdingjlefilafaaZ
import Derived.Test.YtdingjlefilafaaLFnExactFactorizeRelation
import Derived.Test.YtdingjlefilafaaW5
namespace Go.Proofs.Ytdingjlefilafaa.fnExactFactorizeRelation
open Go.ChangeShapes Go.WideShapes Go.ChangeAt Go.RowKit

set_option maxRecDepth 100000 in
theorem lifted (os : Os) (started : os.Started) (H : Type) (enc : TypeId × Value → H) :
    ReturnsInHanded {} Try.checked os 3 .any (Rows.fnExactFactorizeRelationSpec.pre6 enc Try.prog Try.f3 Rows.fnExactFactorizeRelationRow.domain false) (Rows.fnExactFactorizeRelationSpec.post enc Try.prog Try.f3 false true false false) := by
  refine returnsInHanded_of_change (C := Try.checked) own_knob started (by kernel_rfl) Try.func3
    (ChangeSpec.witness6 (enc := enc) (C := Try.checked) false ⟨#[], #[.agg #[.int .i64 0, .slice none 0 0]], []⟩ 8 (by kernel_rfl) (by kernel_rfl) (by kernel_rfl) (by kernel_rfl)) ?_
  intro W base args ds gs before hval0 hW hcnd _
  have hval : ∀ (j : Nat) t v, Try.f3.params[j]? = some t → args[j]? = some v → Value.okWide Try.prog W .any base t v := hval0
  have hW' := hW
  obtain ⟨p, q, hA0, hV, rfl, hfz, hnd⟩ := hW
  have hA : DataW.TrodAll enc Try.prog W 0 (fun _ => true) true Try.f3.params.toList args.toList ds p := hA0
  rw [Try.params3] at hA hval
  obtain ⟨v0, vs0, d0, ds0, p0, q0, hargs, rfl, rfl, h0, r0⟩ := trodAll_cons hA
  obtain ⟨rfl, rfl, rfl⟩ := trodAll_nil r0
  obtain rfl : args = #[v0] := by cases args; simp_all
  obtain ⟨rfl, rfl⟩ := trodVars_none hV
  clear hA0 hval0
  simp only [List.append_nil] at hW'
  have hlt0 : ∀ x ∈ p0, x.block < W.heap.size := fun x hx => by have := hW'.lt x (by simp [hx]); simpa using this
  have k0 := h0
  obtain ⟨cs0, rfl, hsz0⟩ := okWide_struct Try.underlying24 (hval 0 24 v0 rfl rfl)
  have hsn0 : cs0.size = 2 := hsz0.trans (by kernel_rfl)
  obtain ⟨c0_0, c0_1, rfl⟩ := arr2 hsn0
  obtain ⟨fuel0, hf0⟩ := h0
  obtain ⟨y0, hy0⟩ := opens24 enc W 0 (fun _ => true) true fuel0 _ _ hf0
  have hb0 := rdp24 hy0
  have hy0a := (pair_cells hy0).1
  have hy0b := (pair_cells hy0).2
  obtain rfl : c0_0 = .int .i64 y0.1 := int_cell hy0a
  have e0_1 : (sliceR (sliceR intR 3) 26).rd W [c0_1] y0.2 := hy0b
  refine (laws_FnExactFactorizeRelation_ok e0_1 (law_FnExactFactorizeRelation (N := 1073742848) (Nat.le_refl _) hb0)).mono fun e W' ⟨he, hg⟩ => ?_
  subst he
  exact ⟨_, rfl, _, _, _, [], _, [], hW', trodAll_cons_mk (shut_bool Try.underlying4 _) trodAll_mk0, (trodAll_cons_mk (Below.trod laid_out (by kernel_rfl) (of_decide_eq_true (by kernel_rfl)) k0 hg hlt0) trodAll_mk0), rfl, hg.frame _, fun h => by cases h⟩

theorem over : Rows.fnExactFactorizeRelationRow.holds Try.pinned (OpenSpec.ofChange Rows.fnExactFactorizeRelationSpec) :=
  OpenClaim.holds_of_wide 3 Try.f3 rfl rfl rfl rfl rfl rfl rfl ⟨rfl, rfl, rfl, rfl, rfl⟩ rfl rfl rfl rfl rfl (by kernel_rfl) Try.func3 (by kernel_rfl)
    (of_decide_eq_true (by kernel_rfl)) (by unfold Func.isWrapper; first | (rw [if_pos (by decide +kernel)]; kernel_rfl) | (rw [if_neg (by decide +kernel)]; exact ⟨rfl, rfl⟩))
    (fun os started H enc _ => lifted os started H enc)

/-- The statement. -/
theorem proved : Rows.FnExactFactorizeRelationSaid := over
#print axioms proved
end Go.Proofs.Ytdingjlefilafaa.fnExactFactorizeRelation
