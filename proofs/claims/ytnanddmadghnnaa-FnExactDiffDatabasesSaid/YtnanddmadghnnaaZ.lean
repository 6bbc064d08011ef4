/- What the form reads of the laws' types, my readings read; and what reads so is no longer than memory. -/
import Derived.Test.YtnanddmadghnnaaO
import Derived.Test.YtnanddmadghnnaaG
namespace Go.Proofs.Ytnanddmadghnnaa
open Go.RowKit Go.ChangeShapes Go.WideShapes Go.ChangeAt
theorem own_knob : ownKnob Try.prog.godebug = none := by kernel_rfl
theorem laid_out : laidOutB Try.prog = true := by kernel_rfl
theorem rdp_slice {α : Type} {R : Rep α} {E : TypeId} {p : α → Prop} (h : ∀ {w : World} {cs : List Value} {x : α}, R.rd w cs x → p x) {w : World} {cs : List Value} {xs : List α} (hr : (sliceR R E).rd w cs xs) : AllL p 9223372036854775807 xs := by
  obtain ⟨ao, cap, ccs, rfl, h1, h2, h3, h4, h5⟩ := hr
  refine ⟨by unfold maxLen at h2; omega, fun x hx => ?_⟩
  obtain ⟨j, hj, rfl⟩ := List.getElem_of_mem hx
  obtain ⟨ec, h6, _⟩ := rdL_at h4 j hj
  exact h h6
theorem rdp_str {w : World} {cs : List Value} {x : ByteArray} (hr : strR.rd w cs x) : x.size ≤ 9223372036854775807 := hr.2
theorem rdp_pair {α β : Type} {R : Rep α} {S : Rep β} {w : World} {cs : List Value} {x : α × β} (h : (pairR R S).rd w cs x) : (∃ c, R.rd w c x.1) ∧ ∃ c, S.rd w c x.2 := by
  obtain ⟨c1, c2, _, h1, h2⟩ := h; exact ⟨⟨c1, h1⟩, c2, h2⟩
theorem opens3 : Opens Try.prog intR 3 := opens_int Try.underlying3
theorem opens24 : Opens Try.prog (sliceR intR 3) 24 := opens_slice Try.underlying24 (by kernel_rfl) (by decide) opens3
theorem rdp24 {w : World} {cs : List Value} {x : List Int} (h : (sliceR intR 3).rd w cs x) : (AllL (fun _ => True) 9223372036854775807) x := rdp_slice (fun _ => trivial) h
theorem opens22 : Opens Try.prog (sliceR (sliceR intR 3) 24) 22 := opens_slice Try.underlying22 (by kernel_rfl) (by decide) opens24
theorem rdp22 {w : World} {cs : List Value} {x : List (List Int)} (h : (sliceR (sliceR intR 3) 24).rd w cs x) : (AllL (AllL (fun _ => True) 9223372036854775807) 9223372036854775807) x := rdp_slice rdp24 h
theorem opens9 : Opens Try.prog strR 9 := opens_str Try.underlying9
theorem opens36 : Opens Try.prog (pairR intR (sliceR (sliceR intR 3) 24)) 36 := by
  intro H enc w base spare held fuel cs x h
  obtain ⟨xs, n, _, _, hl, hxl, hf⟩ := DataW.trod_struct Try.underlying36 h
  have hl2 : cs.length = 2 := hl.trans (by kernel_rfl)
  obtain ⟨y0, k0⟩ := opens_field opens3 (i := 0) (by rw [hxl]; decide) (hf 0 _ rfl)
  have m0 : (intR).rd w ((cs.drop 0).take (Try.prog.cellsOf 3)) y0 := k0
  rw [show Try.prog.cellsOf 3 = 1 by kernel_rfl] at m0
  obtain ⟨y1, k1⟩ := opens_field opens22 (i := 1) (by rw [hxl]; decide) (hf 1 _ rfl)
  have m1 : ((sliceR (sliceR intR 3) 24)).rd w ((cs.drop 1).take (Try.prog.cellsOf 22)) y1 := k1
  rw [show Try.prog.cellsOf 22 = 1 by kernel_rfl] at m1
  rw [List.take_of_length_le (by simp; omega)] at m1
  exact ⟨(y0, y1), (rd_pair 1 (by simpa [List.drop_drop] using m0) (by simpa [List.drop_drop] using m1))⟩
theorem rdp36 {w : World} {cs : List Value} {x : Int × List (List Int)} (h : (pairR intR (sliceR (sliceR intR 3) 24)).rd w cs x) : (fun x => (AllL (AllL (fun _ => True) 9223372036854775807) 9223372036854775807) x.2) x := by
  obtain ⟨⟨_, a0⟩, _, b0⟩ := rdp_pair h
  exact rdp22 b0
theorem opens76 : Opens Try.prog (pairR strR (pairR intR (sliceR (sliceR intR 3) 24))) 76 := by
  intro H enc w base spare held fuel cs x h
  obtain ⟨xs, n, _, _, hl, hxl, hf⟩ := DataW.trod_struct Try.underlying76 h
  have hl2 : cs.length = 3 := hl.trans (by kernel_rfl)
  obtain ⟨y0, k0⟩ := opens_field opens9 (i := 0) (by rw [hxl]; decide) (hf 0 _ rfl)
  have m0 : (strR).rd w ((cs.drop 0).take (Try.prog.cellsOf 9)) y0 := k0
  rw [show Try.prog.cellsOf 9 = 1 by kernel_rfl] at m0
  obtain ⟨y1, k1⟩ := opens_field opens36 (i := 1) (by rw [hxl]; decide) (hf 1 _ rfl)
  have m1 : ((pairR intR (sliceR (sliceR intR 3) 24))).rd w ((cs.drop 1).take (Try.prog.cellsOf 36)) y1 := k1
  rw [show Try.prog.cellsOf 36 = 2 by kernel_rfl] at m1
  rw [List.take_of_length_le (by simp; omega)] at m1
  exact ⟨(y0, y1), (rd_pair 1 (by simpa [List.drop_drop] using m0) (by simpa [List.drop_drop] using m1))⟩
theorem rdp76 {w : World} {cs : List Value} {x : ByteArray × (Int × List (List Int))} (h : (pairR strR (pairR intR (sliceR (sliceR intR 3) 24))).rd w cs x) : (fun x => (fun s => s.size ≤ 9223372036854775807) x.1 ∧ (fun x => (AllL (AllL (fun _ => True) 9223372036854775807) 9223372036854775807) x.2) x.2) x := by
  obtain ⟨⟨_, a0⟩, _, b0⟩ := rdp_pair h
  exact ⟨rdp_str a0, rdp36 b0⟩
theorem opens32 : Opens Try.prog (sliceR (pairR strR (pairR intR (sliceR (sliceR intR 3) 24))) 76) 32 := opens_slice Try.underlying32 (by kernel_rfl) (by decide) opens76
theorem rdp32 {w : World} {cs : List Value} {x : List (ByteArray × (Int × List (List Int)))} (h : (sliceR (pairR strR (pairR intR (sliceR (sliceR intR 3) 24))) 76).rd w cs x) : (AllL (fun x => (fun s => s.size ≤ 9223372036854775807) x.1 ∧ (fun x => (AllL (AllL (fun _ => True) 9223372036854775807) 9223372036854775807) x.2) x.2) 9223372036854775807) x := rdp_slice rdp76 h
theorem opens34 : Opens Try.prog (sliceR (pairR strR (pairR intR (sliceR (sliceR intR 3) 24))) 76) 34 := by
  intro H enc w base spare held fuel cs x h
  obtain ⟨xs, n, _, _, hl, hxl, hf⟩ := DataW.trod_struct Try.underlying34 h
  have hl2 : cs.length = 1 := hl.trans (by kernel_rfl)
  obtain ⟨y0, k0⟩ := opens_field opens32 (i := 0) (by rw [hxl]; decide) (hf 0 _ rfl)
  have m0 : ((sliceR (pairR strR (pairR intR (sliceR (sliceR intR 3) 24))) 76)).rd w ((cs.drop 0).take (Try.prog.cellsOf 32)) y0 := k0
  rw [show Try.prog.cellsOf 32 = 1 by kernel_rfl] at m0
  rw [List.take_of_length_le (by simp; omega)] at m0
  exact ⟨y0, (by simpa [List.drop_drop] using m0)⟩
theorem rdp34 {w : World} {cs : List Value} {x : List (ByteArray × (Int × List (List Int)))} (h : (sliceR (pairR strR (pairR intR (sliceR (sliceR intR 3) 24))) 76).rd w cs x) : (fun x => (AllL (fun x => (fun s => s.size ≤ 9223372036854775807) x.1 ∧ (fun x => (AllL (AllL (fun _ => True) 9223372036854775807) 9223372036854775807) x.2) x.2) 9223372036854775807) x) x := by
  exact rdp32 h
theorem opens38 : Opens Try.prog (pairR strR (pairR (pairR intR (sliceR (sliceR intR 3) 24)) (pairR intR (sliceR (sliceR intR 3) 24)))) 38 := by
  intro H enc w base spare held fuel cs x h
  obtain ⟨xs, n, _, _, hl, hxl, hf⟩ := DataW.trod_struct Try.underlying38 h
  have hl2 : cs.length = 5 := hl.trans (by kernel_rfl)
  obtain ⟨y0, k0⟩ := opens_field opens9 (i := 0) (by rw [hxl]; decide) (hf 0 _ rfl)
  have m0 : (strR).rd w ((cs.drop 0).take (Try.prog.cellsOf 9)) y0 := k0
  rw [show Try.prog.cellsOf 9 = 1 by kernel_rfl] at m0
  obtain ⟨y1, k1⟩ := opens_field opens36 (i := 1) (by rw [hxl]; decide) (hf 1 _ rfl)
  have m1 : ((pairR intR (sliceR (sliceR intR 3) 24))).rd w ((cs.drop 1).take (Try.prog.cellsOf 36)) y1 := k1
  rw [show Try.prog.cellsOf 36 = 2 by kernel_rfl] at m1
  obtain ⟨y2, k2⟩ := opens_field opens36 (i := 2) (by rw [hxl]; decide) (hf 2 _ rfl)
  have m2 : ((pairR intR (sliceR (sliceR intR 3) 24))).rd w ((cs.drop 3).take (Try.prog.cellsOf 36)) y2 := k2
  rw [show Try.prog.cellsOf 36 = 2 by kernel_rfl] at m2
  rw [List.take_of_length_le (by simp; omega)] at m2
  exact ⟨(y0, y1, y2), (rd_pair 1 (by simpa [List.drop_drop] using m0) (rd_pair 2 (by simpa [List.drop_drop] using m1) (by simpa [List.drop_drop] using m2)))⟩
theorem rdp38 {w : World} {cs : List Value} {x : ByteArray × (Int × List (List Int)) × (Int × List (List Int))} (h : (pairR strR (pairR (pairR intR (sliceR (sliceR intR 3) 24)) (pairR intR (sliceR (sliceR intR 3) 24)))).rd w cs x) : (fun x => (fun s => s.size ≤ 9223372036854775807) x.1 ∧ (fun x => (AllL (AllL (fun _ => True) 9223372036854775807) 9223372036854775807) x.2) x.2.1 ∧ (fun x => (AllL (AllL (fun _ => True) 9223372036854775807) 9223372036854775807) x.2) x.2.2) x := by
  obtain ⟨⟨_, a0⟩, _, b0⟩ := rdp_pair h
  obtain ⟨⟨_, a1⟩, _, b1⟩ := rdp_pair b0
  exact ⟨rdp_str a0, rdp36 a1, rdp36 b1⟩
end Go.Proofs.Ytnanddmadghnnaa
