/- The Go law FnExactSeekBound returns true for all its arguments, and each argument reads as it did. No condition. -/
import Derived.Test.YtkpeabpdiffjhaaZ
import Derived.Test.YtkpeabpdiffjhaaLFnExactSeekBound
import Derived.Test.YtkpeabpdiffjhaaW2
namespace Go.Proofs.Ytkpeabpdiffjhaa.fnExactSeekBound
open Go.ChangeShapes Go.WideShapes Go.ChangeAt Go.RowKit

set_option maxRecDepth 100000 in
theorem lifted (os : Os) (started : os.Started) (H : Type) (enc : TypeId × Value → H) :
    ReturnsInHanded {} Try.checked os 3 .any (Rows.fnExactSeekBoundSpec.pre6 enc Try.prog Try.f3 Rows.fnExactSeekBoundRow.domain false) (Rows.fnExactSeekBoundSpec.post enc Try.prog Try.f3 false true false false) := by
  refine returnsInHanded_of_change (C := Try.checked) own_knob started (by kernel_rfl) Try.func3
    (ChangeSpec.witness6 (enc := enc) (C := Try.checked) false ⟨#[], #[.agg #[.int .i64 0, .slice none 0 0, .slice none 0 0], .int .i64 0], []⟩ 8 (by kernel_rfl) (by kernel_rfl) (by kernel_rfl) (by kernel_rfl)) ?_
  intro W base args ds gs before hval0 hW hcnd _
  have hval : ∀ (j : Nat) t v, Try.f3.params[j]? = some t → args[j]? = some v → Value.okWide Try.prog W .any base t v := hval0
  have hW' := hW
  obtain ⟨p, q, hA0, hV, rfl, hfz, hnd⟩ := hW
  have hA : DataW.TrodAll enc Try.prog W 0 (fun _ => true) true Try.f3.params.toList args.toList ds p := hA0
  rw [Try.params3] at hA hval
  obtain ⟨v0, vs0, d0, ds0, p0, q0, hargs, rfl, rfl, h0, r0⟩ := trodAll_cons hA
  obtain ⟨v1, vs1, d1, ds1, p1, q1, rfl, rfl, rfl, h1, r1⟩ := trodAll_cons r0
  obtain ⟨rfl, rfl, rfl⟩ := trodAll_nil r1
  obtain rfl : args = #[v0, v1] := by cases args; simp_all
  obtain ⟨rfl, rfl⟩ := trodVars_none hV
  clear hA0 hval0
  simp only [List.append_nil] at hW'
  have hlt0 : ∀ x ∈ p0, x.block < W.heap.size := fun x hx => by have := hW'.lt x (by simp [hx]); simpa using this
  have hlt1 : ∀ x ∈ p1, x.block < W.heap.size := fun x hx => by have := hW'.lt x (by simp [hx]); simpa using this
  have k0 := h0
  obtain ⟨cs0, rfl, hsz0⟩ := okWide_struct Try.underlying25 (hval 0 25 v0 rfl rfl)
  have hsn0 : cs0.size = 3 := hsz0.trans (by kernel_rfl)
  obtain ⟨c0_0, c0_1, c0_2, rfl⟩ := arr3 hsn0
  obtain ⟨fuel0, hf0⟩ := h0
  obtain ⟨y0, hy0⟩ := opens25 enc W 0 (fun _ => true) true fuel0 _ _ hf0
  have hb0 := rdp25 hy0
  have hy0a := (pair_cells hy0).1
  have hy0b := (pair_cells hy0).2
  obtain rfl : c0_0 = .int .i64 y0.1 := int_cell hy0a
  have hy0ba := (pair_cells hy0b).1
  have hy0bb := (pair_cells hy0b).2
  have e0_1 : (sliceR (pairR strR (sliceR intR 3)) 113).rd W [c0_1] y0.2.1 := hy0ba
  have e0_2 : (sliceR intR 3).rd W [c0_2] y0.2.2 := hy0bb
  have k1 := h1
  obtain ⟨a1, rfl, rfl, rfl, w1⟩ := open_int Try.underlying3 (hval 1 3 v1 rfl rfl) h1
  refine (laws_FnExactSeekBound_ok e0_1 e0_2 (law_FnExactSeekBound (N := 1073741824) (Nat.le_refl _) hb0)).mono fun e W' ⟨he, hg⟩ => ?_
  subst he
  exact ⟨_, rfl, _, _, _, [], _, [], hW', trodAll_cons_mk (shut_bool Try.underlying4 _) trodAll_mk0, (trodAll_cons_mk (Below.trod laid_out (by kernel_rfl) (of_decide_eq_true (by kernel_rfl)) k0 hg hlt0) (trodAll_cons_mk (shut_int Try.underlying3 w1) trodAll_mk0)), rfl, hg.frame _, fun h => by cases h⟩

theorem over : Rows.fnExactSeekBoundRow.holds Try.pinned (OpenSpec.ofChange Rows.fnExactSeekBoundSpec) :=
  OpenClaim.holds_of_wide 3 Try.f3 rfl rfl rfl rfl rfl rfl rfl ⟨rfl, rfl, rfl, rfl, rfl⟩ rfl rfl rfl rfl rfl (by kernel_rfl) Try.func3 (by kernel_rfl)
    (of_decide_eq_true (by kernel_rfl)) (by unfold Func.isWrapper; first | (rw [if_pos (by decide +kernel)]; kernel_rfl) | (rw [if_neg (by decide +kernel)]; exact ⟨rfl, rfl⟩))
    (fun os started H enc _ => lifted os started H enc)

/-- The statement. -/
theorem proved : Rows.FnExactSeekBoundSaid := over
#print axioms proved
end Go.Proofs.Ytkpeabpdiffjhaa.fnExactSeekBound
