/- What the form reads of the laws' types, my readings read; and what reads so is no longer than memory. -/
import Derived.Test.YtdingjlefilafaaO
import Derived.Test.YtdingjlefilafaaG
namespace Go.Proofs.Ytdingjlefilafaa
open Go.RowKit Go.ChangeShapes Go.WideShapes Go.ChangeAt
theorem own_knob : ownKnob Try.prog.godebug = none := by kernel_rfl
theorem laid_out : laidOutB Try.prog = true := by kernel_rfl
theorem rdp_slice {α : Type} {R : Rep α} {E : TypeId} {p : α → Prop} (h : ∀ {w : World} {cs : List Value} {x : α}, R.rd w cs x → p x) {w : World} {cs : List Value} {xs : List α} (hr : (sliceR R E).rd w cs xs) : AllL p 9223372036854775807 xs := by
  obtain ⟨ao, cap, ccs, rfl, h1, h2, h3, h4, h5⟩ := hr
  refine ⟨by unfold maxLen at h2; omega, fun x hx => ?_⟩
  obtain ⟨j, hj, rfl⟩ := List.getElem_of_mem hx
  obtain ⟨ec, h6, _⟩ := rdL_at h4 j hj
  exact h h6
theorem rdp_str {w : World} {cs : List Value} {x : ByteArray} (hr : strR.rd w cs x) : x.size ≤ 9223372036854775807 := hr.2
theorem rdp_pair {α β : Type} {R : Rep α} {S : Rep β} {w : World} {cs : List Value} {x : α × β} (h : (pairR R S).rd w cs x) : (∃ c, R.rd w c x.1) ∧ ∃ c, S.rd w c x.2 := by
  obtain ⟨c1, c2, _, h1, h2⟩ := h; exact ⟨⟨c1, h1⟩, c2, h2⟩
theorem opens3 : Opens Try.prog intR 3 := opens_int Try.underlying3
theorem opens26 : Opens Try.prog (sliceR intR 3) 26 := opens_slice Try.underlying26 (by kernel_rfl) (by decide) opens3
theorem rdp26 {w : World} {cs : List Value} {x : List Int} (h : (sliceR intR 3).rd w cs x) : (AllL (fun _ => True) 9223372036854775807) x := rdp_slice (fun _ => trivial) h
theorem opens22 : Opens Try.prog (sliceR (sliceR intR 3) 26) 22 := opens_slice Try.underlying22 (by kernel_rfl) (by decide) opens26
theorem rdp22 {w : World} {cs : List Value} {x : List (List Int)} (h : (sliceR (sliceR intR 3) 26).rd w cs x) : (AllL (AllL (fun _ => True) 9223372036854775807) 9223372036854775807) x := rdp_slice rdp26 h
theorem opens24 : Opens Try.prog (pairR intR (sliceR (sliceR intR 3) 26)) 24 := by
  intro H enc w base spare held fuel cs x h
  obtain ⟨xs, n, _, _, hl, hxl, hf⟩ := DataW.trod_struct Try.underlying24 h
  have hl2 : cs.length = 2 := hl.trans (by kernel_rfl)
  obtain ⟨y0, k0⟩ := opens_field opens3 (i := 0) (by rw [hxl]; decide) (hf 0 _ rfl)
  have m0 : (intR).rd w ((cs.drop 0).take (Try.prog.cellsOf 3)) y0 := k0
  rw [show Try.prog.cellsOf 3 = 1 by kernel_rfl] at m0
  obtain ⟨y1, k1⟩ := opens_field opens22 (i := 1) (by rw [hxl]; decide) (hf 1 _ rfl)
  have m1 : ((sliceR (sliceR intR 3) 26)).rd w ((cs.drop 1).take (Try.prog.cellsOf 22)) y1 := k1
  rw [show Try.prog.cellsOf 22 = 1 by kernel_rfl] at m1
  rw [List.take_of_length_le (by simp; omega)] at m1
  exact ⟨(y0, y1), (rd_pair 1 (by simpa [List.drop_drop] using m0) (by simpa [List.drop_drop] using m1))⟩
theorem rdp24 {w : World} {cs : List Value} {x : Int × List (List Int)} (h : (pairR intR (sliceR (sliceR intR 3) 26)).rd w cs x) : (fun x => (AllL (AllL (fun _ => True) 9223372036854775807) 9223372036854775807) x.2) x := by
  obtain ⟨⟨_, a0⟩, _, b0⟩ := rdp_pair h
  exact rdp22 b0
theorem opens113 : Opens Try.prog (pairR (sliceR intR 3) (sliceR intR 3)) 113 := by
  intro H enc w base spare held fuel cs x h
  obtain ⟨xs, n, _, _, hl, hxl, hf⟩ := DataW.trod_struct Try.underlying113 h
  have hl2 : cs.length = 2 := hl.trans (by kernel_rfl)
  obtain ⟨y0, k0⟩ := opens_field opens26 (i := 0) (by rw [hxl]; decide) (hf 0 _ rfl)
  have m0 : ((sliceR intR 3)).rd w ((cs.drop 0).take (Try.prog.cellsOf 26)) y0 := k0
  rw [show Try.prog.cellsOf 26 = 1 by kernel_rfl] at m0
  obtain ⟨y1, k1⟩ := opens_field opens26 (i := 1) (by rw [hxl]; decide) (hf 1 _ rfl)
  have m1 : ((sliceR intR 3)).rd w ((cs.drop 1).take (Try.prog.cellsOf 26)) y1 := k1
  rw [show Try.prog.cellsOf 26 = 1 by kernel_rfl] at m1
  rw [List.take_of_length_le (by simp; omega)] at m1
  exact ⟨(y0, y1), (rd_pair 1 (by simpa [List.drop_drop] using m0) (by simpa [List.drop_drop] using m1))⟩
theorem rdp113 {w : World} {cs : List Value} {x : List Int × List Int} (h : (pairR (sliceR intR 3) (sliceR intR 3)).rd w cs x) : (fun x => (AllL (fun _ => True) 9223372036854775807) x.1 ∧ (AllL (fun _ => True) 9223372036854775807) x.2) x := by
  obtain ⟨⟨_, a0⟩, _, b0⟩ := rdp_pair h
  exact ⟨rdp26 a0, rdp26 b0⟩
theorem opens47 : Opens Try.prog (sliceR (pairR (sliceR intR 3) (sliceR intR 3)) 113) 47 := opens_slice Try.underlying47 (by kernel_rfl) (by decide) opens113
theorem rdp47 {w : World} {cs : List Value} {x : List (List Int × List Int)} (h : (sliceR (pairR (sliceR intR 3) (sliceR intR 3)) 113).rd w cs x) : (AllL (fun x => (AllL (fun _ => True) 9223372036854775807) x.1 ∧ (AllL (fun _ => True) 9223372036854775807) x.2) 9223372036854775807) x := rdp_slice rdp113 h
theorem opens49 : Opens Try.prog (pairR (sliceR intR 3) (sliceR (pairR (sliceR intR 3) (sliceR intR 3)) 113)) 49 := by
  intro H enc w base spare held fuel cs x h
  obtain ⟨xs, n, _, _, hl, hxl, hf⟩ := DataW.trod_struct Try.underlying49 h
  have hl2 : cs.length = 2 := hl.trans (by kernel_rfl)
  obtain ⟨y0, k0⟩ := opens_field opens26 (i := 0) (by rw [hxl]; decide) (hf 0 _ rfl)
  have m0 : ((sliceR intR 3)).rd w ((cs.drop 0).take (Try.prog.cellsOf 26)) y0 := k0
  rw [show Try.prog.cellsOf 26 = 1 by kernel_rfl] at m0
  obtain ⟨y1, k1⟩ := opens_field opens47 (i := 1) (by rw [hxl]; decide) (hf 1 _ rfl)
  have m1 : ((sliceR (pairR (sliceR intR 3) (sliceR intR 3)) 113)).rd w ((cs.drop 1).take (Try.prog.cellsOf 47)) y1 := k1
  rw [show Try.prog.cellsOf 47 = 1 by kernel_rfl] at m1
  rw [List.take_of_length_le (by simp; omega)] at m1
  exact ⟨(y0, y1), (rd_pair 1 (by simpa [List.drop_drop] using m0) (by simpa [List.drop_drop] using m1))⟩
theorem rdp49 {w : World} {cs : List Value} {x : List Int × List (List Int × List Int)} (h : (pairR (sliceR intR 3) (sliceR (pairR (sliceR intR 3) (sliceR intR 3)) 113)).rd w cs x) : (fun x => (AllL (fun _ => True) 9223372036854775807) x.1 ∧ (AllL (fun x => (AllL (fun _ => True) 9223372036854775807) x.1 ∧ (AllL (fun _ => True) 9223372036854775807) x.2) 9223372036854775807) x.2) x := by
  obtain ⟨⟨_, a0⟩, _, b0⟩ := rdp_pair h
  exact ⟨rdp26 a0, rdp47 b0⟩
end Go.Proofs.Ytdingjlefilafaa
