/- The Go law FnExactAggregateRelation returns true for all its arguments, and each argument reads as it did. No condition. -/
import Derived.Test.YtobjjdfgnaanjaaZ
import Derived.Test.YtobjjdfgnaanjaaLFnExactAggregateRelation
import Derived.Test.YtobjjdfgnaanjaaW6
namespace Go.Proofs.Ytobjjdfgnaanjaa.fnExactAggregateRelation
open Go.ChangeShapes Go.WideShapes Go.ChangeAt Go.RowKit

set_option maxRecDepth 100000 in
theorem lifted (os : Os) (started : os.Started) (H : Type) (enc : TypeId × Value → H) :
    ReturnsInHanded {} Try.checked os 7 .any (Rows.fnExactAggregateRelationSpec.pre6 enc Try.prog Try.f7 Rows.fnExactAggregateRelationRow.domain false) (Rows.fnExactAggregateRelationSpec.post enc Try.prog Try.f7 false true false false) := by
  refine returnsInHanded_of_change (C := Try.checked) own_knob started (by kernel_rfl) Try.func7
    (ChangeSpec.witness6 (enc := enc) (C := Try.checked) false ⟨#[], #[.int .i64 0, .agg #[.int .i64 0, .slice none 0 0]], []⟩ 8 (by kernel_rfl) (by kernel_rfl) (by kernel_rfl) (by kernel_rfl)) ?_
  intro W base args ds gs before hval0 hW hcnd _
  have hval : ∀ (j : Nat) t v, Try.f7.params[j]? = some t → args[j]? = some v → Value.okWide Try.prog W .any base t v := hval0
  have hW' := hW
  obtain ⟨p, q, hA0, hV, rfl, hfz, hnd⟩ := hW
  have hA : DataW.TrodAll enc Try.prog W 0 (fun _ => true) true Try.f7.params.toList args.toList ds p := hA0
  rw [Try.params7] at hA hval
  obtain ⟨v0, vs0, d0, ds0, p0, q0, hargs, rfl, rfl, h0, r0⟩ := trodAll_cons hA
  obtain ⟨v1, vs1, d1, ds1, p1, q1, rfl, rfl, rfl, h1, r1⟩ := trodAll_cons r0
  obtain ⟨rfl, rfl, rfl⟩ := trodAll_nil r1
  obtain rfl : args = #[v0, v1] := by cases args; simp_all
  obtain ⟨rfl, rfl⟩ := trodVars_none hV
  clear hA0 hval0
  simp only [List.append_nil] at hW'
  have hlt0 : ∀ x ∈ p0, x.block < W.heap.size := fun x hx => by have := hW'.lt x (by simp [hx]); simpa using this
  have hlt1 : ∀ x ∈ p1, x.block < W.heap.size := fun x hx => by have := hW'.lt x (by simp [hx]); simpa using this
  have k0 := h0
  obtain ⟨a0, rfl, rfl, rfl, w0⟩ := open_int Try.underlying3 (hval 0 3 v0 rfl rfl) h0
  have k1 := h1
  obtain ⟨cs1, rfl, hsz1⟩ := okWide_struct Try.underlying35 (hval 1 35 v1 rfl rfl)
  have hsn1 : cs1.size = 2 := hsz1.trans (by kernel_rfl)
  obtain ⟨c1_0, c1_1, rfl⟩ := arr2 hsn1
  obtain ⟨fuel1, hf1⟩ := h1
  obtain ⟨y1, hy1⟩ := opens35 enc W 0 (fun _ => true) true fuel1 _ _ hf1
  have hb1 := rdp35 hy1
  have hy1a := (pair_cells hy1).1
  have hy1b := (pair_cells hy1).2
  obtain rfl : c1_0 = .int .i64 y1.1 := int_cell hy1a
  have e1_1 : (sliceR (sliceR intR 3) 22).rd W [c1_1] y1.2 := hy1b
  refine (laws_FnExactAggregateRelation_ok e1_1 (law_FnExactAggregateRelation (N := 1073741824) (Nat.le_refl _) hb1)).mono fun e W' ⟨he, hg⟩ => ?_
  subst he
  exact ⟨_, rfl, _, _, _, [], _, [], hW', trodAll_cons_mk (shut_bool Try.underlying4 _) trodAll_mk0, (trodAll_cons_mk (shut_int Try.underlying3 w0) (trodAll_cons_mk (Below.trod laid_out (by kernel_rfl) (of_decide_eq_true (by kernel_rfl)) k1 hg hlt1) trodAll_mk0)), rfl, hg.frame _, fun h => by cases h⟩

theorem over : Rows.fnExactAggregateRelationRow.holds Try.pinned (OpenSpec.ofChange Rows.fnExactAggregateRelationSpec) :=
  OpenClaim.holds_of_wide 7 Try.f7 rfl rfl rfl rfl rfl rfl rfl ⟨rfl, rfl, rfl, rfl, rfl⟩ rfl rfl rfl rfl rfl (by kernel_rfl) Try.func7 (by kernel_rfl)
    (of_decide_eq_true (by kernel_rfl)) (by unfold Func.isWrapper; first | (rw [if_pos (by decide +kernel)]; kernel_rfl) | (rw [if_neg (by decide +kernel)]; exact ⟨rfl, rfl⟩))
    (fun os started H enc _ => lifted os started H enc)

/-- The statement. -/
theorem proved : Rows.FnExactAggregateRelationSaid := over
#print axioms proved
end Go.Proofs.Ytobjjdfgnaanjaa.fnExactAggregateRelation
