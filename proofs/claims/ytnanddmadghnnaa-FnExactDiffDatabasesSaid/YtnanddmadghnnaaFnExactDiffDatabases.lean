/- The Go law FnExactDiffDatabases returns true for all its arguments, and each argument reads as it did. No condition. -/
import Derived.Test.YtnanddmadghnnaaZ
import Derived.Test.YtnanddmadghnnaaLFnExactDiffDatabases
import Derived.Test.YtnanddmadghnnaaW6
namespace Go.Proofs.Ytnanddmadghnnaa.fnExactDiffDatabases
open Go.ChangeShapes Go.WideShapes Go.ChangeAt Go.RowKit

set_option maxRecDepth 100000 in
theorem lifted (os : Os) (started : os.Started) (H : Type) (enc : TypeId × Value → H) :
    ReturnsInHanded {} Try.checked os 5 .any (Rows.fnExactDiffDatabasesSpec.pre6 enc Try.prog Try.f5 Rows.fnExactDiffDatabasesRow.domain false) (Rows.fnExactDiffDatabasesSpec.post enc Try.prog Try.f5 false true false false) := by
  refine returnsInHanded_of_change (C := Try.checked) own_knob started (by kernel_rfl) Try.func5
    (ChangeSpec.witness6 (enc := enc) (C := Try.checked) false ⟨#[], #[.agg #[.slice none 0 0], .agg #[.slice none 0 0], .string ByteArray.empty], []⟩ 8 (by kernel_rfl) (by kernel_rfl) (by kernel_rfl) (by kernel_rfl)) ?_
  intro W base args ds gs before hval0 hW hcnd _
  have hval : ∀ (j : Nat) t v, Try.f5.params[j]? = some t → args[j]? = some v → Value.okWide Try.prog W .any base t v := hval0
  have hW' := hW
  obtain ⟨p, q, hA0, hV, rfl, hfz, hnd⟩ := hW
  have hA : DataW.TrodAll enc Try.prog W 0 (fun _ => true) true Try.f5.params.toList args.toList ds p := hA0
  rw [Try.params5] at hA hval
  obtain ⟨v0, vs0, d0, ds0, p0, q0, hargs, rfl, rfl, h0, r0⟩ := trodAll_cons hA
  obtain ⟨v1, vs1, d1, ds1, p1, q1, rfl, rfl, rfl, h1, r1⟩ := trodAll_cons r0
  obtain ⟨v2, vs2, d2, ds2, p2, q2, rfl, rfl, rfl, h2, r2⟩ := trodAll_cons r1
  obtain ⟨rfl, rfl, rfl⟩ := trodAll_nil r2
  obtain rfl : args = #[v0, v1, v2] := by cases args; simp_all
  obtain ⟨rfl, rfl⟩ := trodVars_none hV
  clear hA0 hval0
  simp only [List.append_nil] at hW'
  have hlt0 : ∀ x ∈ p0, x.block < W.heap.size := fun x hx => by have := hW'.lt x (by simp [hx]); simpa using this
  have hlt1 : ∀ x ∈ p1, x.block < W.heap.size := fun x hx => by have := hW'.lt x (by simp [hx]); simpa using this
  have hlt2 : ∀ x ∈ p2, x.block < W.heap.size := fun x hx => by have := hW'.lt x (by simp [hx]); simpa using this
  have k0 := h0
  obtain ⟨cs0, rfl, hsz0⟩ := okWide_struct Try.underlying34 (hval 0 34 v0 rfl rfl)
  have hsn0 : cs0.size = 1 := hsz0.trans (by kernel_rfl)
  obtain ⟨c0_0, rfl⟩ := arr1 hsn0
  obtain ⟨fuel0, hf0⟩ := h0
  obtain ⟨y0, hy0⟩ := opens34 enc W 0 (fun _ => true) true fuel0 _ _ hf0
  have hb0 := rdp34 hy0
  have e0_0 : (sliceR (pairR strR (pairR intR (sliceR (sliceR intR 3) 24))) 76).rd W [c0_0] y0 := hy0
  have k1 := h1
  obtain ⟨cs1, rfl, hsz1⟩ := okWide_struct Try.underlying34 (hval 1 34 v1 rfl rfl)
  have hsn1 : cs1.size = 1 := hsz1.trans (by kernel_rfl)
  obtain ⟨c1_0, rfl⟩ := arr1 hsn1
  obtain ⟨fuel1, hf1⟩ := h1
  obtain ⟨y1, hy1⟩ := opens34 enc W 0 (fun _ => true) true fuel1 _ _ hf1
  have hb1 := rdp34 hy1
  have e1_0 : (sliceR (pairR strR (pairR intR (sliceR (sliceR intR 3) 24))) 76).rd W [c1_0] y1 := hy1
  have k2 := h2
  obtain ⟨s2, rfl, rfl, rfl, z2⟩ := open_string Try.underlying9 (hval 2 9 v2 rfl rfl) h2
  replace z2 : s2.size ≤ 9223372036854775807 := by unfold maxLen at z2; omega
  refine (laws_FnExactDiffDatabases_ok e0_0 e1_0 z2 (law_FnExactDiffDatabases (N := 1073741824) (Nat.le_refl _) hb0 hb1 z2)).mono fun e W' ⟨he, hg⟩ => ?_
  subst he
  exact ⟨_, rfl, _, _, _, [], _, [], hW', trodAll_cons_mk (shut_bool Try.underlying4 _) trodAll_mk0, (trodAll_cons_mk (Below.trod laid_out (by kernel_rfl) (of_decide_eq_true (by kernel_rfl)) k0 hg hlt0) (trodAll_cons_mk (Below.trod laid_out (by kernel_rfl) (of_decide_eq_true (by kernel_rfl)) k1 hg hlt1) (trodAll_cons_mk (shut_string Try.underlying9 z2) trodAll_mk0))), rfl, hg.frame _, fun h => by cases h⟩

theorem over : Rows.fnExactDiffDatabasesRow.holds Try.pinned (OpenSpec.ofChange Rows.fnExactDiffDatabasesSpec) :=
  OpenClaim.holds_of_wide 5 Try.f5 rfl rfl rfl rfl rfl rfl rfl ⟨rfl, rfl, rfl, rfl, rfl⟩ rfl rfl rfl rfl rfl (by kernel_rfl) Try.func5 (by kernel_rfl)
    (of_decide_eq_true (by kernel_rfl)) (by unfold Func.isWrapper; first | (rw [if_pos (by decide +kernel)]; kernel_rfl) | (rw [if_neg (by decide +kernel)]; exact ⟨rfl, rfl⟩))
    (fun os started H enc _ => lifted os started H enc)

/-- The statement. -/
theorem proved : Rows.FnExactDiffDatabasesSaid := over
#print axioms proved
end Go.Proofs.Ytnanddmadghnnaa.fnExactDiffDatabases
