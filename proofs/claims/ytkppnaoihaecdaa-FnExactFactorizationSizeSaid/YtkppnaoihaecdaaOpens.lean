/- What the form reads of the laws' types, my readings read. Written by a program (gen_open.py). -/
import Derived.Test.YtkppnaoihaecdaaOpen
namespace Go.Proofs.Ytkppnaoihaecdaa
open Go.RowKit Go.ChangeShapes Go.WideShapes Go.ChangeAt
theorem opensLInt : Opens Try.prog intR 3 := opens_int Try.underlying3
theorem opensLStr : Opens Try.prog strR 9 := opens_str Try.underlying9
theorem own_knob : ownKnob Try.prog.godebug = none := by kernel_rfl
theorem laid_out : laidOutB Try.prog = true := by kernel_rfl
theorem opensLIntS : Opens Try.prog rIntS 26 := opens_slice Try.underlying26 (by kernel_rfl) (by decide) opensLInt
theorem opensLFactorNode : Opens Try.prog rFactorNode 48 := by
  intro H enc w base spare held fuel cs x h
  obtain ⟨xs, n, _, _, hl, hxl, hf⟩ := DataW.trod_struct Try.underlying48 h
  have hl2 : cs.length = 2 := hl.trans (by kernel_rfl)
  obtain ⟨y0, k0⟩ := opens_field opensLIntS (i := 0) (by rw [hxl]; decide) (hf 0 _ rfl)
  have m0 : (rIntS).rd w ((cs.drop 0).take (Try.prog.cellsOf 26)) y0 := k0
  rw [show Try.prog.cellsOf 26 = 1 by kernel_rfl] at m0
  obtain ⟨y1, k1⟩ := opens_field opensLIntS (i := 1) (by rw [hxl]; decide) (hf 1 _ rfl)
  have m1 : (rIntS).rd w ((cs.drop 1).take (Try.prog.cellsOf 26)) y1 := k1
  rw [show Try.prog.cellsOf 26 = 1 by kernel_rfl] at m1
  rw [List.take_of_length_le (by simp; omega)] at m1
  exact ⟨(y0, y1), (rd_pair 1 (by simpa [List.drop_drop] using m0) (by simpa [List.drop_drop] using m1))⟩
theorem opensLFactorNodeS : Opens Try.prog rFactorNodeS 27 := opens_slice Try.underlying27 (by kernel_rfl) (by decide) opensLFactorNode
theorem opensLFactorization : Opens Try.prog rFactorization 29 := by
  intro H enc w base spare held fuel cs x h
  obtain ⟨xs, n, _, _, hl, hxl, hf⟩ := DataW.trod_struct Try.underlying29 h
  have hl2 : cs.length = 2 := hl.trans (by kernel_rfl)
  obtain ⟨y0, k0⟩ := opens_field opensLIntS (i := 0) (by rw [hxl]; decide) (hf 0 _ rfl)
  have m0 : (rIntS).rd w ((cs.drop 0).take (Try.prog.cellsOf 26)) y0 := k0
  rw [show Try.prog.cellsOf 26 = 1 by kernel_rfl] at m0
  obtain ⟨y1, k1⟩ := opens_field opensLFactorNodeS (i := 1) (by rw [hxl]; decide) (hf 1 _ rfl)
  have m1 : (rFactorNodeS).rd w ((cs.drop 1).take (Try.prog.cellsOf 27)) y1 := k1
  rw [show Try.prog.cellsOf 27 = 1 by kernel_rfl] at m1
  rw [List.take_of_length_le (by simp; omega)] at m1
  exact ⟨(y0, y1), (rd_pair 1 (by simpa [List.drop_drop] using m0) (by simpa [List.drop_drop] using m1))⟩
end Go.Proofs.Ytkppnaoihaecdaa
