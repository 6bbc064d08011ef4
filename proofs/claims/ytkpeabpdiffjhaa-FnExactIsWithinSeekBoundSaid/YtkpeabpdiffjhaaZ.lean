/- What the form reads of the laws' types, my readings read; and what reads so is no longer than memory. -/
import Derived.Test.YtkpeabpdiffjhaaO
import Derived.Test.YtkpeabpdiffjhaaG
namespace Go.Proofs.Ytkpeabpdiffjhaa
open Go.RowKit Go.ChangeShapes Go.WideShapes Go.ChangeAt
theorem own_knob : ownKnob Try.prog.godebug = none := by kernel_rfl
theorem laid_out : laidOutB Try.prog = true := by kernel_rfl
theorem rdp_slice {α : Type} {R : Rep α} {E : TypeId} {p : α → Prop} (h : ∀ {w : World} {cs : List Value} {x : α}, R.rd w cs x → p x) {w : World} {cs : List Value} {xs : List α} (hr : (sliceR R E).rd w cs xs) : AllL p 9223372036854775807 xs := by
  obtain ⟨ao, cap, ccs, rfl, h1, h2, h3, h4, h5⟩ := hr
  refine ⟨by unfold maxLen at h2; omega, fun x hx => ?_⟩
  obtain ⟨j, hj, rfl⟩ := List.getElem_of_mem hx
  obtain ⟨ec, h6, _⟩ := rdL_at h4 j hj
  exact h h6
theorem rdp_str {w : World} {cs : List Value} {x : ByteArray} (hr : strR.rd w cs x) : x.size ≤ 9223372036854775807 := hr.2
theorem rdp_pair {α β : Type} {R : Rep α} {S : Rep β} {w : World} {cs : List Value} {x : α × β} (h : (pairR R S).rd w cs x) : (∃ c, R.rd w c x.1) ∧ ∃ c, S.rd w c x.2 := by
  obtain ⟨c1, c2, _, h1, h2⟩ := h; exact ⟨⟨c1, h1⟩, c2, h2⟩
theorem opens3 : Opens Try.prog intR 3 := opens_int Try.underlying3
theorem opens9 : Opens Try.prog strR 9 := opens_str Try.underlying9
theorem opens23 : Opens Try.prog (sliceR intR 3) 23 := opens_slice Try.underlying23 (by kernel_rfl) (by decide) opens3
theorem opensF23 : Opens Try.prog (sliceR intF 3) 23 := opens_slice Try.underlying23 (by kernel_rfl) (by decide) (opens_intF Try.underlying3)
theorem rdp23 {w : World} {cs : List Value} {x : List Int} (h : (sliceR intR 3).rd w cs x) : (AllL (fun _ => True) 9223372036854775807) x := rdp_slice (fun _ => trivial) h
theorem opens113 : Opens Try.prog (pairR strR (sliceR intR 3)) 113 := by
  intro H enc w base spare held fuel cs x h
  obtain ⟨xs, n, _, _, hl, hxl, hf⟩ := DataW.trod_struct Try.underlying113 h
  have hl2 : cs.length = 2 := hl.trans (by kernel_rfl)
  obtain ⟨y0, k0⟩ := opens_field opens9 (i := 0) (by rw [hxl]; decide) (hf 0 _ rfl)
  have m0 : (strR).rd w ((cs.drop 0).take (Try.prog.cellsOf 9)) y0 := k0
  rw [show Try.prog.cellsOf 9 = 1 by kernel_rfl] at m0
  obtain ⟨y1, k1⟩ := opens_field opens23 (i := 1) (by rw [hxl]; decide) (hf 1 _ rfl)
  have m1 : ((sliceR intR 3)).rd w ((cs.drop 1).take (Try.prog.cellsOf 23)) y1 := k1
  rw [show Try.prog.cellsOf 23 = 1 by kernel_rfl] at m1
  rw [List.take_of_length_le (by simp; omega)] at m1
  exact ⟨(y0, y1), (rd_pair 1 (by simpa [List.drop_drop] using m0) (by simpa [List.drop_drop] using m1))⟩
theorem rdp113 {w : World} {cs : List Value} {x : ByteArray × List Int} (h : (pairR strR (sliceR intR 3)).rd w cs x) : (fun x => (fun s => s.size ≤ 9223372036854775807) x.1 ∧ (AllL (fun _ => True) 9223372036854775807) x.2) x := by
  obtain ⟨⟨_, a0⟩, _, b0⟩ := rdp_pair h
  exact ⟨rdp_str a0, rdp23 b0⟩
theorem opens22 : Opens Try.prog (sliceR (pairR strR (sliceR intR 3)) 113) 22 := opens_slice Try.underlying22 (by kernel_rfl) (by decide) opens113
theorem rdp22 {w : World} {cs : List Value} {x : List (ByteArray × List Int)} (h : (sliceR (pairR strR (sliceR intR 3)) 113).rd w cs x) : (AllL (fun x => (fun s => s.size ≤ 9223372036854775807) x.1 ∧ (AllL (fun _ => True) 9223372036854775807) x.2) 9223372036854775807) x := rdp_slice rdp113 h
theorem opens25 : Opens Try.prog (pairR intR (pairR (sliceR (pairR strR (sliceR intR 3)) 113) (sliceR intR 3))) 25 := by
  intro H enc w base spare held fuel cs x h
  obtain ⟨xs, n, _, _, hl, hxl, hf⟩ := DataW.trod_struct Try.underlying25 h
  have hl2 : cs.length = 3 := hl.trans (by kernel_rfl)
  obtain ⟨y0, k0⟩ := opens_field opens3 (i := 0) (by rw [hxl]; decide) (hf 0 _ rfl)
  have m0 : (intR).rd w ((cs.drop 0).take (Try.prog.cellsOf 3)) y0 := k0
  rw [show Try.prog.cellsOf 3 = 1 by kernel_rfl] at m0
  obtain ⟨y1, k1⟩ := opens_field opens22 (i := 1) (by rw [hxl]; decide) (hf 1 _ rfl)
  have m1 : ((sliceR (pairR strR (sliceR intR 3)) 113)).rd w ((cs.drop 1).take (Try.prog.cellsOf 22)) y1 := k1
  rw [show Try.prog.cellsOf 22 = 1 by kernel_rfl] at m1
  obtain ⟨y2, k2⟩ := opens_field opens23 (i := 2) (by rw [hxl]; decide) (hf 2 _ rfl)
  have m2 : ((sliceR intR 3)).rd w ((cs.drop 2).take (Try.prog.cellsOf 23)) y2 := k2
  rw [show Try.prog.cellsOf 23 = 1 by kernel_rfl] at m2
  rw [List.take_of_length_le (by simp; omega)] at m2
  exact ⟨(y0, y1, y2), (rd_pair 1 (by simpa [List.drop_drop] using m0) (rd_pair 1 (by simpa [List.drop_drop] using m1) (by simpa [List.drop_drop] using m2)))⟩
theorem rdp25 {w : World} {cs : List Value} {x : Int × List (ByteArray × List Int) × List Int} (h : (pairR intR (pairR (sliceR (pairR strR (sliceR intR 3)) 113) (sliceR intR 3))).rd w cs x) : (fun x => (AllL (fun x => (fun s => s.size ≤ 9223372036854775807) x.1 ∧ (AllL (fun _ => True) 9223372036854775807) x.2) 9223372036854775807) x.2.1 ∧ (AllL (fun _ => True) 9223372036854775807) x.2.2) x := by
  obtain ⟨⟨_, a0⟩, _, b0⟩ := rdp_pair h
  obtain ⟨⟨_, a1⟩, _, b1⟩ := rdp_pair b0
  exact ⟨rdp22 a1, rdp23 b1⟩
theorem opens85 : Opens Try.prog (pairR intR intR) 85 := by
  intro H enc w base spare held fuel cs x h
  obtain ⟨xs, n, _, _, hl, hxl, hf⟩ := DataW.trod_struct Try.underlying85 h
  have hl2 : cs.length = 2 := hl.trans (by kernel_rfl)
  obtain ⟨y0, k0⟩ := opens_field opens3 (i := 0) (by rw [hxl]; decide) (hf 0 _ rfl)
  have m0 : (intR).rd w ((cs.drop 0).take (Try.prog.cellsOf 3)) y0 := k0
  rw [show Try.prog.cellsOf 3 = 1 by kernel_rfl] at m0
  obtain ⟨y1, k1⟩ := opens_field opens3 (i := 1) (by rw [hxl]; decide) (hf 1 _ rfl)
  have m1 : (intR).rd w ((cs.drop 1).take (Try.prog.cellsOf 3)) y1 := k1
  rw [show Try.prog.cellsOf 3 = 1 by kernel_rfl] at m1
  rw [List.take_of_length_le (by simp; omega)] at m1
  exact ⟨(y0, y1), (rd_pair 1 (by simpa [List.drop_drop] using m0) (by simpa [List.drop_drop] using m1))⟩
theorem rdp85 {w : World} {cs : List Value} {x : Int × Int} (h : (pairR intR intR).rd w cs x) : (fun x => True) x := by
  obtain ⟨⟨_, a0⟩, _, b0⟩ := rdp_pair h
  exact trivial
theorem opens34 : Opens Try.prog (sliceR (pairR intR intR) 85) 34 := opens_slice Try.underlying34 (by kernel_rfl) (by decide) opens85
theorem rdp34 {w : World} {cs : List Value} {x : List (Int × Int)} (h : (sliceR (pairR intR intR) 85).rd w cs x) : (AllL (fun x => True) 9223372036854775807) x := rdp_slice rdp85 h
theorem opens60 : Opens Try.prog (sliceR (sliceR intR 3) 23) 60 := opens_slice Try.underlying60 (by kernel_rfl) (by decide) opens23
theorem rdp60 {w : World} {cs : List Value} {x : List (List Int)} (h : (sliceR (sliceR intR 3) 23).rd w cs x) : (AllL (AllL (fun _ => True) 9223372036854775807) 9223372036854775807) x := rdp_slice rdp23 h
theorem opens126 : Opens Try.prog (pairR intR (sliceR (sliceR intR 3) 23)) 126 := by
  intro H enc w base spare held fuel cs x h
  obtain ⟨xs, n, _, _, hl, hxl, hf⟩ := DataW.trod_struct Try.underlying126 h
  have hl2 : cs.length = 2 := hl.trans (by kernel_rfl)
  obtain ⟨y0, k0⟩ := opens_field opens3 (i := 0) (by rw [hxl]; decide) (hf 0 _ rfl)
  have m0 : (intR).rd w ((cs.drop 0).take (Try.prog.cellsOf 3)) y0 := k0
  rw [show Try.prog.cellsOf 3 = 1 by kernel_rfl] at m0
  obtain ⟨y1, k1⟩ := opens_field opens60 (i := 1) (by rw [hxl]; decide) (hf 1 _ rfl)
  have m1 : ((sliceR (sliceR intR 3) 23)).rd w ((cs.drop 1).take (Try.prog.cellsOf 60)) y1 := k1
  rw [show Try.prog.cellsOf 60 = 1 by kernel_rfl] at m1
  rw [List.take_of_length_le (by simp; omega)] at m1
  exact ⟨(y0, y1), (rd_pair 1 (by simpa [List.drop_drop] using m0) (by simpa [List.drop_drop] using m1))⟩
theorem rdp126 {w : World} {cs : List Value} {x : Int × List (List Int)} (h : (pairR intR (sliceR (sliceR intR 3) 23)).rd w cs x) : (fun x => (AllL (AllL (fun _ => True) 9223372036854775807) 9223372036854775807) x.2) x := by
  obtain ⟨⟨_, a0⟩, _, b0⟩ := rdp_pair h
  exact rdp60 b0
theorem opens128 : Opens Try.prog (pairR strR (pairR intR (sliceR (sliceR intR 3) 23))) 128 := by
  intro H enc w base spare held fuel cs x h
  obtain ⟨xs, n, _, _, hl, hxl, hf⟩ := DataW.trod_struct Try.underlying128 h
  have hl2 : cs.length = 3 := hl.trans (by kernel_rfl)
  obtain ⟨y0, k0⟩ := opens_field opens9 (i := 0) (by rw [hxl]; decide) (hf 0 _ rfl)
  have m0 : (strR).rd w ((cs.drop 0).take (Try.prog.cellsOf 9)) y0 := k0
  rw [show Try.prog.cellsOf 9 = 1 by kernel_rfl] at m0
  obtain ⟨y1, k1⟩ := opens_field opens126 (i := 1) (by rw [hxl]; decide) (hf 1 _ rfl)
  have m1 : ((pairR intR (sliceR (sliceR intR 3) 23))).rd w ((cs.drop 1).take (Try.prog.cellsOf 126)) y1 := k1
  rw [show Try.prog.cellsOf 126 = 2 by kernel_rfl] at m1
  rw [List.take_of_length_le (by simp; omega)] at m1
  exact ⟨(y0, y1), (rd_pair 1 (by simpa [List.drop_drop] using m0) (by simpa [List.drop_drop] using m1))⟩
theorem rdp128 {w : World} {cs : List Value} {x : ByteArray × (Int × List (List Int))} (h : (pairR strR (pairR intR (sliceR (sliceR intR 3) 23))).rd w cs x) : (fun x => (fun s => s.size ≤ 9223372036854775807) x.1 ∧ (fun x => (AllL (AllL (fun _ => True) 9223372036854775807) 9223372036854775807) x.2) x.2) x := by
  obtain ⟨⟨_, a0⟩, _, b0⟩ := rdp_pair h
  exact ⟨rdp_str a0, rdp126 b0⟩
theorem opens43 : Opens Try.prog (sliceR (pairR strR (pairR intR (sliceR (sliceR intR 3) 23))) 128) 43 := opens_slice Try.underlying43 (by kernel_rfl) (by decide) opens128
theorem rdp43 {w : World} {cs : List Value} {x : List (ByteArray × (Int × List (List Int)))} (h : (sliceR (pairR strR (pairR intR (sliceR (sliceR intR 3) 23))) 128).rd w cs x) : (AllL (fun x => (fun s => s.size ≤ 9223372036854775807) x.1 ∧ (fun x => (AllL (AllL (fun _ => True) 9223372036854775807) 9223372036854775807) x.2) x.2) 9223372036854775807) x := rdp_slice rdp128 h
theorem opens45 : Opens Try.prog (sliceR (pairR strR (pairR intR (sliceR (sliceR intR 3) 23))) 128) 45 := by
  intro H enc w base spare held fuel cs x h
  obtain ⟨xs, n, _, _, hl, hxl, hf⟩ := DataW.trod_struct Try.underlying45 h
  have hl2 : cs.length = 1 := hl.trans (by kernel_rfl)
  obtain ⟨y0, k0⟩ := opens_field opens43 (i := 0) (by rw [hxl]; decide) (hf 0 _ rfl)
  have m0 : ((sliceR (pairR strR (pairR intR (sliceR (sliceR intR 3) 23))) 128)).rd w ((cs.drop 0).take (Try.prog.cellsOf 43)) y0 := k0
  rw [show Try.prog.cellsOf 43 = 1 by kernel_rfl] at m0
  rw [List.take_of_length_le (by simp; omega)] at m0
  exact ⟨y0, (by simpa [List.drop_drop] using m0)⟩
theorem rdp45 {w : World} {cs : List Value} {x : List (ByteArray × (Int × List (List Int)))} (h : (sliceR (pairR strR (pairR intR (sliceR (sliceR intR 3) 23))) 128).rd w cs x) : (fun x => (AllL (fun x => (fun s => s.size ≤ 9223372036854775807) x.1 ∧ (fun x => (AllL (AllL (fun _ => True) 9223372036854775807) 9223372036854775807) x.2) x.2) 9223372036854775807) x) x := by
  exact rdp43 h
end Go.Proofs.Ytkpeabpdiffjhaa
