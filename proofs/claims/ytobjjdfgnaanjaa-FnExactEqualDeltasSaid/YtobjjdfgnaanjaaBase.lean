/- How the program's types of data read, and lemmas that open a slice at an element. -/
import Derived.Test.YtobjjdfgnaanjaaTypes
import Derived.Deep.QuietTactic
import Derived.BigQuiet
import Derived.Deep.RegionHeld3
namespace Go.Proofs.Ytobjjdfgnaanjaa
open Go.RowKit

abbrev intsR : Rep (List Int) := sliceR intR 3
abbrev rowsR : Rep (List (List Int)) := sliceR intsR 22

theorem rd_len_le {α : Type} {R : Rep α} {E : TypeId} {w : World} {cs : List Value} {xs : List α} (h : (sliceR R E).rd w cs xs) : xs.length ≤ 9223372036854775807 := by
  obtain ⟨_, cap, _, _, h1, h2, _⟩ := h
  unfold maxLen at h2; omega
theorem ret_bool {a b : Bool} (h : a = b) : Ending.returned (.bool a) = .returned (.bool b) := by rw [h]
theorem ret_int {k : IntKind} {a b : Int} (h : a = b) : Ending.returned (.int k a) = .returned (.int k b) := by rw [h]
theorem cell_up {w w' : World} {p : Addr} {c : Value} (hE : Ext w w') (h : w.cell? p = some c) : w'.cell? p = some c := by rw [hE.cell (block_lt_of_cell h)]; exact h

theorem slice_open {α : Type} {R : Rep α} {E : TypeId} {wA : World} {v : Value} {xs : List α} (hv : (sliceR R E).rd wA [v] xs) (hp : 0 < xs.length) (hsz : 0 < R.sz) :
    ∃ b off cap, v = .slice (some ⟨b, off, none⟩) xs.length cap ∧ xs.length ≤ cap ∧ ∀ k (h : k < xs.length), ∃ ec, R.rd wA ec xs[k] ∧ ∀ j c, ec[j]? = some c → wA.cell? ⟨b, off + (k * R.sz + j), none⟩ = some c := by
  obtain ⟨ao, cap, ccs, h, h1, h2, h3, h4, h5⟩ := hv
  have hl := rdL_len h4
  rcases h5 with rfl | ⟨b, off, rfl, h5⟩
  · have := Nat.mul_pos hp hsz
    simp at hl; omega
  · refine ⟨b, off, cap, by simpa using h, h1, fun k hk => ?_⟩
    obtain ⟨ec, e1, e2⟩ := rdL_at h4 k hk
    exact ⟨ec, e1, fun j c hj => h5 _ _ (e2 j c hj)⟩
/-- one cell an element -/
theorem slice_at {α : Type} {R : Rep α} {E : TypeId} {wA w : World} {v : Value} {xs : List α} (hv : (sliceR R E).rd wA [v] xs) (h1 : R.sz = 1) (hE : Ext wA w) (k : Nat) (hk : k < xs.length) :
    ∃ b off cap r, v = .slice (some ⟨b, off, none⟩) xs.length cap ∧ xs.length ≤ cap ∧ R.rd wA [r] xs[k] ∧ w.cell? ⟨b, off + k, none⟩ = some r := by
  obtain ⟨b, off, cap, e, hc, h⟩ := slice_open hv (by omega) (by omega)
  obtain ⟨ec, e1, e2⟩ := h k hk
  have hl := R.rd_len e1
  rw [h1] at hl
  obtain ⟨r, rfl⟩ : ∃ r, ec = [r] := List.length_eq_one_iff.1 hl
  have h0 := cell_up hE (e2 0 r rfl)
  rw [h1] at h0
  exact ⟨b, off, cap, r, e, hc, e1, by simpa using h0⟩
theorem slice_at2 {α : Type} {R : Rep α} {E : TypeId} {wA w : World} {v : Value} {xs : List α} (hv : (sliceR R E).rd wA [v] xs) (h1 : R.sz = 2) (hE : Ext wA w) (k : Nat) (hk : k < xs.length) :
    ∃ b off cap r s, v = .slice (some ⟨b, off, none⟩) xs.length cap ∧ xs.length ≤ cap ∧ R.rd wA [r, s] xs[k] ∧ w.cell? ⟨b, off + k * 2, none⟩ = some r ∧ w.cell? ⟨b, off + k * 2 + 1, none⟩ = some s := by
  obtain ⟨b, off, cap, e, hc, h⟩ := slice_open hv (by omega) (by omega)
  obtain ⟨ec, e1, e2⟩ := h k hk
  have hl := R.rd_len e1
  rw [h1] at hl
  obtain ⟨r, s, rfl⟩ : ∃ r s, ec = [r, s] := by
    match ec, hl with
    | [r, s], _ => exact ⟨r, s, rfl⟩
  have h0 := cell_up hE (e2 0 r rfl)
  have h0' := cell_up hE (e2 1 s rfl)
  rw [h1] at h0 h0'
  exact ⟨b, off, cap, r, s, e, hc, e1, by simpa using h0, by simpa [Nat.add_assoc] using h0'⟩
theorem slice_at3 {α : Type} {R : Rep α} {E : TypeId} {wA w : World} {v : Value} {xs : List α} (hv : (sliceR R E).rd wA [v] xs) (h1 : R.sz = 3) (hE : Ext wA w) (k : Nat) (hk : k < xs.length) :
    ∃ b off cap r s t, v = .slice (some ⟨b, off, none⟩) xs.length cap ∧ xs.length ≤ cap ∧ R.rd wA [r, s, t] xs[k] ∧ w.cell? ⟨b, off + k * 3, none⟩ = some r ∧ w.cell? ⟨b, off + k * 3 + 1, none⟩ = some s ∧ w.cell? ⟨b, off + k * 3 + 2, none⟩ = some t := by
  obtain ⟨b, off, cap, e, hc, h⟩ := slice_open hv (by omega) (by omega)
  obtain ⟨ec, e1, e2⟩ := h k hk
  have hl := R.rd_len e1
  rw [h1] at hl
  obtain ⟨r, s, t, rfl⟩ : ∃ r s t, ec = [r, s, t] := by
    match ec, hl with
    | [r, s, t], _ => exact ⟨r, s, t, rfl⟩
  have h0 := cell_up hE (e2 0 r rfl)
  have h0' := cell_up hE (e2 1 s rfl)
  have h0'' := cell_up hE (e2 2 t rfl)
  rw [h1] at h0 h0' h0''
  exact ⟨b, off, cap, r, s, t, e, hc, e1, by simpa using h0, by simpa [Nat.add_assoc] using h0', by simpa [Nat.add_assoc] using h0''⟩
/-- integers: the element is the number -/
theorem ints_at {wA w : World} {v : Value} {xs : List Int} (hv : intsR.rd wA [v] xs) (hE : Ext wA w) (k : Nat) (hk : k < xs.length) :
    ∃ b off cap, v = .slice (some ⟨b, off, none⟩) xs.length cap ∧ xs.length ≤ cap ∧ w.cell? ⟨b, off + k, none⟩ = some (.int .i64 xs[k]) := by
  obtain ⟨b, off, cap, r, e, hc, h1, h2⟩ := slice_at hv rfl hE k hk
  obtain rfl : r = .int .i64 xs[k] := by simpa [intR] using h1
  exact ⟨b, off, cap, e, hc, h2⟩

theorem take_eq_succ {α : Type} {xs ys : List α} {k : Nat} (h1 : k < xs.length) (h2 : k < ys.length) (h : xs.take k = ys.take k) (he : xs[k] = ys[k]) : xs.take (k + 1) = ys.take (k + 1) := by
  rw [List.take_succ_eq_append_getElem h1, List.take_succ_eq_append_getElem h2, h, he]
theorem eq_of_take {α : Type} {xs ys : List α} (hl : xs.length = ys.length) (h : xs.take xs.length = ys.take xs.length) : xs = ys := by
  rw [List.take_of_length_le (Nat.le_refl _), List.take_of_length_le (by omega)] at h; exact h

theorem eqIntS_ok {w wA wB : World} {v u : Value} {xs ys : List Int} (hv : intsR.rd wA [v] xs) (hu : intsR.rd wB [u] ys) (hA : Ext wA w) (hB : Ext wB w) :
    Calls Try.prog 51 #[v, u] w fun e w' => e = .returned (.bool (decide (xs = ys))) ∧ Ext w w' := by
  have hl := rd_len_le hv
  have hl2 := rd_len_le hu
  go_enter Try.func51, Try.ntmps51
  go_wp2_with (first | (refine wpl_len rfl rfl rfl hv ?_) | (refine wpl_len rfl rfl rfl hu ?_))
  · go_ret
    have h : ((xs.length : Int) != (ys.length : Int)) = true := by assumption
    exact ⟨ret_bool (by simp only [bne_iff_ne] at h; rw [eq_comm, decide_eq_false_iff_not]; intro e; subst e; exact h rfl), Ext.refl _⟩
  · have h : ((xs.length : Int) != (ys.length : Int)) = false := by assumption
    have HL := Lib.hid (show xs.length = ys.length by simp only [bne_eq_false_iff_eq] at h; omega)
    go_loopw [5] (fun i wr => ∃ k : Nat, k ≤ xs.length ∧ i = .int .i64 k ∧ xs.take k = ys.take k ∧ Ext w wr) (fun i _ => xs.length - (intOf i).toNat)
    case atStart => exact ⟨0, Nat.zero_le _, rfl, rfl, Ext.refl _⟩
    case round =>
      obtain ⟨k, hk, rfl, ht, hw⟩ := hrel
      have Ht := Lib.hid ht
      clear ht
      by_cases hlt : k < xs.length
      · have hlt2 : k < ys.length := by have := HL.out; omega
        obtain ⟨b, off, cap, rfl, hcap, c1⟩ := ints_at hv (hA.trans hw) k hlt
        obtain ⟨b2, off2, cap2, rfl, hcap2, c2⟩ := ints_at hu (hB.trans hw) k hlt2
        clear hv hu
        go_wp2
        go_quiet (fail)
        go_wp2
        · go_ret
          have h : (xs[k] != ys[k]) = true := by assumption
          exact ⟨ret_bool (by simp only [bne_iff_ne] at h; rw [eq_comm, decide_eq_false_iff_not]; intro e; subst e; exact h rfl), ⟨hw.os, hw.tape, hw.output, hw.size, hw.block⟩⟩
        · have h : (xs[k] != ys[k]) = false := by assumption
          go_roundw
          case rel => exact ⟨k + 1, by omega, by go_num, take_eq_succ hlt hlt2 Ht.out (by simpa using h), ⟨hw.os, hw.tape, hw.output, hw.size, hw.block⟩⟩
          case measure => simp [intOf]; omega
      · go_wp2_with (refine wpl_len rfl rfl rfl hv ?_)
        go_ret
        obtain rfl : k = xs.length := by omega
        exact ⟨ret_bool (by rw [eq_comm, decide_eq_true_iff]; exact eq_of_take HL.out Ht.out), hw⟩
theorem set_append_at {α : Type} (xs : List α) (z : α) (k n : Nat) (hk : k < xs.length) (hn : xs.length = n) : (xs.take k ++ List.replicate (n - k) z).set k xs[k] = xs.take (k + 1) ++ List.replicate (n - (k + 1)) z := by
  rw [List.set_append_right _ _ (by simp; omega), List.length_take, Nat.min_eq_left (by omega), Nat.sub_self, show n - k = (n - (k + 1)) + 1 by omega, List.replicate_succ, List.set_cons_zero, List.take_succ_eq_append_getElem hk, List.append_assoc]
  rfl

theorem toIntS_ok {w wA : World} {v : Value} {xs : List Int} (hv : intsR.rd wA [v] xs) (hA : Ext wA w) (hb : xs.length ≤ 1048576) :
    Calls Try.prog 47 #[v] w fun e w' => ∃ v', e = .returned v' ∧ Sat w w' [Own intsR [v'] xs] := by
  have hS := Sat.start w
  go_enter Try.func47, Try.ntmps47
  go_wp2_with (first | (refine wpl_len rfl rfl rfl hv ?_) | (refine wpl_make (R := intR) (x0 := 0) rfl rfl rfl (by decide) rfl (fun _ => ⟨rfl, rfl⟩) rfl rfl xs.length rfl rfl (by omega) (by omega) hS ?_; clear hS; intro w1 g hS hx1))
  go_loopw [4] (fun i wr => ∃ k : Nat, k ≤ xs.length ∧ i = .int .i64 k ∧ Sat w wr [Own intsR [.slice (some ⟨g, 0, none⟩) xs.length xs.length] (xs.take k ++ List.replicate (xs.length - k) 0)]) (fun i _ => xs.length - (intOf i).toNat)
  case atStart => exact ⟨0, Nat.zero_le _, rfl, by simpa using hS⟩
  case round =>
    clear hS hx1
    obtain ⟨k, hk, rfl, hS⟩ := hrel
    by_cases hlt : k < xs.length
    · obtain ⟨b, off, cap, rfl, hcap, c1⟩ := ints_at hv (hA.trans hS.below) k hlt
      clear hv
      go_wp2_with (refine wpl_storeo (ec := [.int .i64 xs[k]]) (yv := xs[k]) rfl rfl (by rfl) (hS.int _) k k (by simp; omega) (by omega) rfl rfl ?_; clear hS; intro w2 hS)
      go_outline
      go_roundw
      case rel => exact ⟨k + 1, by omega, by go_num, by rw [← set_append_at xs 0 k _ hlt rfl]; exact hS⟩
      case measure => simp [intOf]; omega
    · go_wp2_with (refine wpl_len rfl rfl rfl hv ?_)
      go_ret
      obtain rfl : k = xs.length := by omega
      exact ⟨_, rfl, by simpa using hS⟩
end Go.Proofs.Ytobjjdfgnaanjaa
