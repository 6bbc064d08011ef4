/- What the form reads of the laws' types, my readings read. Written by a program (gen_open.py). -/
import Derived.Test.YtobjjdfgnaanjaaOpen
namespace Go.Proofs.Ytobjjdfgnaanjaa
open Go.RowKit Go.ChangeShapes Go.WideShapes Go.ChangeAt
theorem opensLInt : Opens Try.prog intR 3 := opens_int Try.underlying3
theorem opensLStr : Opens Try.prog strR 9 := opens_str Try.underlying9
theorem own_knob : ownKnob Try.prog.godebug = none := by kernel_rfl
theorem laid_out : laidOutB Try.prog = true := by kernel_rfl
theorem opensLIntS : Opens Try.prog rIntS 22 := opens_slice Try.underlying22 (by kernel_rfl) (by decide) opensLInt
theorem opensLIntSS : Opens Try.prog rIntSS 33 := opens_slice Try.underlying33 (by kernel_rfl) (by decide) opensLIntS
theorem opensLFactorNode : Opens Try.prog rFactorNode 89 := by
  intro H enc w base spare held fuel cs x h
  obtain ⟨xs, n, _, _, hl, hxl, hf⟩ := DataW.trod_struct Try.underlying89 h
  have hl2 : cs.length = 2 := hl.trans (by kernel_rfl)
  obtain ⟨y0, k0⟩ := opens_field opensLIntS (i := 0) (by rw [hxl]; decide) (hf 0 _ rfl)
  have m0 : (rIntS).rd w ((cs.drop 0).take (Try.prog.cellsOf 22)) y0 := k0
  rw [show Try.prog.cellsOf 22 = 1 by kernel_rfl] at m0
  obtain ⟨y1, k1⟩ := opens_field opensLIntS (i := 1) (by rw [hxl]; decide) (hf 1 _ rfl)
  have m1 : (rIntS).rd w ((cs.drop 1).take (Try.prog.cellsOf 22)) y1 := k1
  rw [show Try.prog.cellsOf 22 = 1 by kernel_rfl] at m1
  rw [List.take_of_length_le (by simp; omega)] at m1
  exact ⟨(y0, y1), (rd_pair 1 (by simpa [List.drop_drop] using m0) (by simpa [List.drop_drop] using m1))⟩
theorem opensLFactorNodeS : Opens Try.prog rFactorNodeS 23 := opens_slice Try.underlying23 (by kernel_rfl) (by decide) opensLFactorNode
theorem opensLFactorization : Opens Try.prog rFactorization 25 := by
  intro H enc w base spare held fuel cs x h
  obtain ⟨xs, n, _, _, hl, hxl, hf⟩ := DataW.trod_struct Try.underlying25 h
  have hl2 : cs.length = 2 := hl.trans (by kernel_rfl)
  obtain ⟨y0, k0⟩ := opens_field opensLIntS (i := 0) (by rw [hxl]; decide) (hf 0 _ rfl)
  have m0 : (rIntS).rd w ((cs.drop 0).take (Try.prog.cellsOf 22)) y0 := k0
  rw [show Try.prog.cellsOf 22 = 1 by kernel_rfl] at m0
  obtain ⟨y1, k1⟩ := opens_field opensLFactorNodeS (i := 1) (by rw [hxl]; decide) (hf 1 _ rfl)
  have m1 : (rFactorNodeS).rd w ((cs.drop 1).take (Try.prog.cellsOf 23)) y1 := k1
  rw [show Try.prog.cellsOf 23 = 1 by kernel_rfl] at m1
  rw [List.take_of_length_le (by simp; omega)] at m1
  exact ⟨(y0, y1), (rd_pair 1 (by simpa [List.drop_drop] using m0) (by simpa [List.drop_drop] using m1))⟩
theorem opensLRelation : Opens Try.prog rRelation 35 := by
  intro H enc w base spare held fuel cs x h
  obtain ⟨xs, n, _, _, hl, hxl, hf⟩ := DataW.trod_struct Try.underlying35 h
  have hl2 : cs.length = 2 := hl.trans (by kernel_rfl)
  obtain ⟨y0, k0⟩ := opens_field opensLInt (i := 0) (by rw [hxl]; decide) (hf 0 _ rfl)
  have m0 : (intR).rd w ((cs.drop 0).take (Try.prog.cellsOf 3)) y0 := k0
  rw [show Try.prog.cellsOf 3 = 1 by kernel_rfl] at m0
  obtain ⟨y1, k1⟩ := opens_field opensLIntSS (i := 1) (by rw [hxl]; decide) (hf 1 _ rfl)
  have m1 : (rIntSS).rd w ((cs.drop 1).take (Try.prog.cellsOf 33)) y1 := k1
  rw [show Try.prog.cellsOf 33 = 1 by kernel_rfl] at m1
  rw [List.take_of_length_le (by simp; omega)] at m1
  exact ⟨(y0, y1), (rd_pair 1 (by simpa [List.drop_drop] using m0) (by simpa [List.drop_drop] using m1))⟩
theorem opensLDelta : Opens Try.prog rDelta 37 := by
  intro H enc w base spare held fuel cs x h
  obtain ⟨xs, n, _, _, hl, hxl, hf⟩ := DataW.trod_struct Try.underlying37 h
  have hl2 : cs.length = 5 := hl.trans (by kernel_rfl)
  obtain ⟨y0, k0⟩ := opens_field opensLStr (i := 0) (by rw [hxl]; decide) (hf 0 _ rfl)
  have m0 : (strR).rd w ((cs.drop 0).take (Try.prog.cellsOf 9)) y0 := k0
  rw [show Try.prog.cellsOf 9 = 1 by kernel_rfl] at m0
  obtain ⟨y1, k1⟩ := opens_field opensLRelation (i := 1) (by rw [hxl]; decide) (hf 1 _ rfl)
  have m1 : (rRelation).rd w ((cs.drop 1).take (Try.prog.cellsOf 35)) y1 := k1
  rw [show Try.prog.cellsOf 35 = 2 by kernel_rfl] at m1
  obtain ⟨y2, k2⟩ := opens_field opensLRelation (i := 2) (by rw [hxl]; decide) (hf 2 _ rfl)
  have m2 : (rRelation).rd w ((cs.drop 3).take (Try.prog.cellsOf 35)) y2 := k2
  rw [show Try.prog.cellsOf 35 = 2 by kernel_rfl] at m2
  rw [List.take_of_length_le (by simp; omega)] at m2
  exact ⟨(y0, y1, y2), (rd_pair 1 (by simpa [List.drop_drop] using m0) (rd_pair 2 (by simpa [List.drop_drop] using m1) (by simpa [List.drop_drop] using m2)))⟩
end Go.Proofs.Ytobjjdfgnaanjaa
