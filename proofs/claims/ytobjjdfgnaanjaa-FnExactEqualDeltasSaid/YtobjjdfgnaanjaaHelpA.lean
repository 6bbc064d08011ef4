/- The contracts of the laws' helpers: sizes, copies, comparisons, type by type. Written by a program (gen_help.py). -/
import Derived.Test.YtobjjdfgnaanjaaBase
namespace Go.Proofs.Ytobjjdfgnaanjaa
open Go.RowKit
theorem str_eq {a b : ByteArray} (h : a.toList = b.toList) : a = b := by
  rw [ByteArray.toList_eq, ByteArray.toList_eq] at h
  cases a; cases b; simp_all
theorem oc_int (k : IntKind) (n : Int) : (Value.int k n).oneCell' = true := rfl
theorem oc_str (s : ByteArray) : (Value.string s).oneCell' = true := rfl
theorem sum_take_succ {α : Type} (f : α → Nat) {xs : List α} {k : Nat} (h : k < xs.length) : ((xs.take (k + 1)).map f).sum = ((xs.take k).map f).sum + f xs[k] := by
  rw [List.take_succ_eq_append_getElem h, List.map_append, List.sum_append]; simp
theorem sum_le_of_mem {α : Type} (f : α → Nat) {x : α} {l : List α} (h : x ∈ l) : f x ≤ (l.map f).sum := by
  induction l with
  | nil => cases h
  | cons y l ih =>
    simp only [List.map_cons, List.sum_cons]
    rcases List.mem_cons.1 h with rfl | h
    · omega
    · have := ih h; omega

/-! ### IntS -/
abbrev rIntS : Rep (List Int) := sliceR intR 3
def sizeIntS (xs : List Int) : Nat := xs.length
theorem szIntS_ok {w wA : World} {v : Value} {xs : List Int} (hv : (rIntS).rd wA [v] xs) (_hA : Ext wA w) (left : Int) (hl0 : 0 ≤ left) (hl1 : left ≤ 1048576) :
    Calls Try.prog 44 #[v, .int .i64 left] w fun e w' => ∃ r, e = .returned (.int .i64 r) ∧ Ext w w' ∧ (-1 ≤ r ∧ r ≤ left) ∧ (0 ≤ r → r + (sizeIntS xs : Nat) ≤ left) := by
  have hl := rd_len_le hv
  have hsz : sizeIntS xs = xs.length := rfl
  by_cases h : left - xs.length < 0
  all_goals
    go_enter Try.func44, Try.ntmps44
    go_wp2_with (refine wpl_len rfl rfl rfl hv ?_)
    go_ret
    exact ⟨_, rfl, Ext.refl _, by omega, by omega⟩
/-! ### IntSS -/
abbrev rIntSS : Rep (List (List Int)) := sliceR rIntS 22
def sizeIntSS (xs : List (List Int)) : Nat := xs.length + (xs.map sizeIntS).sum
theorem szIntSS_ok {w wA : World} {v : Value} {xs : List (List Int)} (hv : (rIntSS).rd wA [v] xs) (hA : Ext wA w) (left : Int) (hl0 : 0 ≤ left) (hl1 : left ≤ 1048576) :
    Calls Try.prog 66 #[v, .int .i64 left] w fun e w' => ∃ r, e = .returned (.int .i64 r) ∧ Ext w w' ∧ (-1 ≤ r ∧ r ≤ left) ∧ (0 ≤ r → r + (sizeIntSS xs : Nat) ≤ left) := by
  have hl := rd_len_le hv
  go_enter Try.func66, Try.ntmps66
  go_wp2_with (refine wpl_len rfl rfl rfl hv ?_)
  · go_ret
    exact ⟨_, rfl, Ext.refl _, by omega, by omega⟩
  go_loopw [1, 5] (fun u i wr => ∃ (k : Nat) (s : Int), k ≤ xs.length ∧ i = .int .i64 k ∧ u = .int .i64 s ∧ 0 ≤ s ∧ s + xs.length + ((xs.take k).map sizeIntS).sum ≤ left ∧ Sat w wr []) (fun _ i _ => xs.length - (intOf i).toNat)
  case atStart => exact ⟨0, _, Nat.zero_le _, rfl, rfl, by omega, by first | (simp; omega) | simp, Sat.start w⟩
  case round =>
    obtain ⟨k, s, hk, rfl, rfl, hs0, hs1, hS⟩ := hrel
    by_cases hlt : k < xs.length
    · have Hsum := Lib.hid (sum_take_succ sizeIntS hlt)
      have Hs1 := Lib.hid hs1
      have hs2 : s ≤ left := by omega
      clear hs1
      obtain ⟨b, off, cap, c0, rfl, hcap, hr, hc0⟩ := slice_at hv rfl (hA.trans hS.below) k hlt
      clear hv
      go_wp2_with fail
      refine (szIntS_ok hr (hA.trans hS.below) _ (by omega) (by omega)).mono ?_
      rintro e w2 ⟨r, rfl, hx2, hr1, hr2⟩
      replace hr2 : 0 ≤ r → r + (sizeIntS xs[k] : Nat) ≤ s := hr2
      replace hS := hS.ext hx2
      go_wp2_with fail
      · go_ret
        exact ⟨_, rfl, hS.below, by omega, by omega⟩
      · go_roundw
        case rel => exact ⟨k + 1, r, by omega, by go_num, rfl, by omega, by have := Hs1.out; rw [Hsum.out]; omega, hS⟩
        case measure => simp [intOf]; omega
    · go_wp2_with (refine wpl_len rfl rfl rfl hv ?_)
      go_ret
      obtain rfl : k = xs.length := by omega
      rw [List.take_of_length_le (Nat.le_refl _)] at hs1
      exact ⟨_, rfl, hS.below, by omega, by unfold sizeIntSS; omega⟩
theorem toIntSS_ok {w wA : World} {v : Value} {xs : List (List Int)} (hv : (rIntSS).rd wA [v] xs) (hA : Ext wA w) (hb : sizeIntSS xs ≤ 1048576) :
    Calls Try.prog 69 #[v] w fun e w' => ∃ v', e = .returned v' ∧ Sat w w' [Own (rIntSS) [v'] xs] := by
  have hl : xs.length ≤ 1048576 := by unfold sizeIntSS at hb; omega
  have Hb := Lib.hid (show ∀ x ∈ xs, sizeIntS x ≤ 1048576 from fun x hx => by have := sum_le_of_mem sizeIntS hx; unfold sizeIntSS at hb; omega)
  clear hb
  have hS := Sat.start w
  go_enter Try.func69, Try.ntmps69
  go_wp2_with (first | (refine wpl_len rfl rfl rfl hv ?_) | (refine wpl_make (R := rIntS) (x0 := []) rfl rfl (by rfl) (by decide) rfl (fun _ => (.inl ⟨rfl, rfl, rfl⟩)) rfl rfl xs.length rfl rfl (by omega) (by omega) hS ?_; clear hS; intro w1 g hS hx1))
  go_loopw [4] (fun i wr => ∃ k : Nat, k ≤ xs.length ∧ i = .int .i64 k ∧ Sat w wr [Own (rIntSS) [.slice (some ⟨g, 0, none⟩) xs.length xs.length] (xs.take k ++ List.replicate (xs.length - k) [])]) (fun i _ => xs.length - (intOf i).toNat)
  case atStart => exact ⟨0, Nat.zero_le _, rfl, by simpa using hS⟩
  case round =>
    clear hS hx1
    obtain ⟨k, hk, rfl, hS⟩ := hrel
    by_cases hlt : k < xs.length
    · obtain ⟨b, off, cap, c0, rfl, hcap, hr, hc0⟩ := slice_at hv rfl (hA.trans hS.below) k hlt
      clear hv
      go_wp2_with fail
      refine (toIntS_ok hr (hA.trans hS.below) (by exact Hb.out _ (List.getElem_mem hlt))).mono ?_
      rintro e w2 ⟨u0, rfl, hS2⟩
      replace hS := hS.call1 hS2
      clear hS2
      have o0 : u0.oneCell' = true := hS.oneCell
      go_wp2_with (refine wpl_storeo (ec := [u0]) (yv := xs[k]) rfl rfl (by rfl) hS k _ (by simp; omega) (by omega) rfl (cells_one o0) ?_; clear hS; intro w3 hS)
      go_roundw
      case rel => exact ⟨k + 1, by omega, by go_num, by rw [← set_append_at xs [] k _ hlt rfl]; exact hS⟩
      case measure => simp [intOf]; omega
    · go_wp2_with (refine wpl_len rfl rfl rfl hv ?_)
      go_ret
      obtain rfl : k = xs.length := by omega
      exact ⟨_, rfl, by simpa using hS⟩
set_option maxHeartbeats 1000000 in
theorem eqIntSS_ok {w wA wB : World} {v u : Value} {xs ys : List (List Int)} (hv : (rIntSS).rd wA [v] xs) (hu : (rIntSS).rd wB [u] ys) (hA : Ext wA w) (hB : Ext wB w) :
    Calls Try.prog 72 #[v, u] w fun e w' => e = .returned (.bool (decide (xs = ys))) ∧ Ext w w' := by
  have hl := rd_len_le hv
  have hl2 := rd_len_le hu
  by_cases hlen : xs.length = ys.length
  case neg =>
    have hne : ((xs.length : Int) != (ys.length : Int)) = true := by simp only [bne_iff_ne]; omega
    go_enter Try.func72, Try.ntmps72
    go_wp2_with (first | (refine wpl_len rfl rfl rfl hv ?_) | (refine wpl_len rfl rfl rfl hu ?_))
    go_ret
    exact ⟨ret_bool (by rw [eq_comm, decide_eq_false_iff_not]; intro e; subst e; exact hlen rfl), Ext.refl _⟩
  case pos =>
    have hne : ((xs.length : Int) != (ys.length : Int)) = false := by simp [hlen]
    have HL := Lib.hid hlen
    clear hlen
    go_enter Try.func72, Try.ntmps72
    go_wp2_with (first | (refine wpl_len rfl rfl rfl hv ?_) | (refine wpl_len rfl rfl rfl hu ?_))
    go_loopw [5] (fun i wr => ∃ k : Nat, k ≤ xs.length ∧ i = .int .i64 k ∧ xs.take k = ys.take k ∧ Ext w wr) (fun i _ => xs.length - (intOf i).toNat)
    case atStart => exact ⟨0, Nat.zero_le _, rfl, rfl, Ext.refl _⟩
    case round =>
      obtain ⟨k, hk, rfl, ht, hw⟩ := hrel
      have Ht := Lib.hid ht
      clear ht
      by_cases hlt : k < xs.length
      · have hlt2 : k < ys.length := by have := HL.out; omega
        obtain ⟨b, off, cap, c0, rfl, hcap, hr, hc0⟩ := slice_at hv rfl (hA.trans hw) k hlt
        obtain ⟨b2, off2, cap2, d0, rfl, hcap2, hs, hd0⟩ := slice_at hu rfl (hB.trans hw) k hlt2
        clear hv hu
        have hA1 := (hA.trans hw).drew
        have hB1 := (hB.trans hw).drew
        go_wp2
        go_region_held3 (fun w' => w'.cell? ⟨b, off + k, none⟩ = some (c0) ∧ w'.cell? ⟨b2, off2 + k, none⟩ = some (d0)) (first | exact ⟨hc0, hd0⟩ | exact ⟨cell_up hx2 hc0, cell_up hx2 hd0⟩)
          (first | (go_at_call 51; refine Calls.mono (R := fun e w' => e = .returned (.bool (decide (xs[k] = ys[k]))) ∧ Ext _ w') (eqIntS_ok hr hs hA1 hB1) ?_; rintro e w2 ⟨rfl, hx2⟩))
        go_wp2
        · go_ret
          have h : (!decide (xs[k] = ys[k])) = true := by assumption
          exact ⟨ret_bool (by rw [eq_comm, decide_eq_false_iff_not]; intro e; subst e; simp at h), Ext.trans (Below.drew hw) hx2⟩
        · have h : (!decide (xs[k] = ys[k])) = false := by assumption
          refine ⟨?_, by simp [intOf]; omega⟩
          have hx3 := Ext.trans (Below.drew hw) hx2
          have ht3 := take_eq_succ hlt hlt2 Ht.out (by simpa using h)
          first | exact ⟨k + 1, by omega, by go_num, ht3, hx3⟩ | ((repeat apply Exists.intro); exact ⟨⟨k + 1, by omega, by go_num, ht3, hx3⟩, rfl⟩)
      · go_wp2_with (refine wpl_len rfl rfl rfl hv ?_)
        go_ret
        obtain rfl : k = xs.length := by omega
        exact ⟨ret_bool (by rw [eq_comm, decide_eq_true_iff]; exact eq_of_take HL.out Ht.out), hw⟩
/-! ### FactorNode -/
abbrev rFactorNode : Rep (List Int × List Int) := pairR rIntS rIntS
theorem cellsFactorNode {w : World} {c0 c1 : Value} {x : List Int × List Int} (h : (rFactorNode).rd w [c0, c1] x) : (rIntS).rd w [c0] x.1 ∧ (rIntS).rd w [c1] x.2 :=
  ⟨(pair_cells h).1, (pair_cells h).2⟩
theorem ownFactorNode {w0 w : World} {Γ : List Asn} {u0 : Value} {u1 : Value} {x : List Int × List Int} (h : Sat w0 w (Own (rIntS) [u0] x.1 :: Own (rIntS) [u1] x.2 :: Γ))  : Sat w0 w (Own (rFactorNode) [u0, u1] x :: Γ) := by
  refine h.join fun f g h0 h1 => ?_
  exact ⟨[u0], [u1], f, g, rfl, by simp, h0, h1⟩
theorem zeroFactorNode (w : World) : (rFactorNode).own w [.slice none 0 0, .slice none 0 0] ([], []) [] := ⟨[.slice none 0 0], [.slice none 0 0], [], [], rfl, rfl, (.inl ⟨rfl, rfl, rfl⟩), (.inl ⟨rfl, rfl, rfl⟩)⟩
def sizeFactorNode (x : List Int × List Int) : Nat := sizeIntS x.1 + sizeIntS x.2
theorem szFactorNode_ok {w wA : World} {v0 : Value} {x0 : List Int} {v1 : Value} {x1 : List Int} (h0 : (rIntS).rd wA [v0] x0) (h1 : (rIntS).rd wA [v1] x1)  (hA : Ext wA w) (left : Int) (hl0 : 0 ≤ left) (hl1 : left ≤ 1048576) :
    Calls Try.prog 79 #[.agg #[v0, v1], .int .i64 left] w fun e w' => ∃ r, e = .returned (.int .i64 r) ∧ Ext w w' ∧ (-1 ≤ r ∧ r ≤ left) ∧ (0 ≤ r → r + (sizeFactorNode (x0, x1) : Nat) ≤ left) := by
  have hS := Sat.start w
  have hsz : sizeFactorNode (x0, x1) = sizeIntS x0 + sizeIntS x1 := rfl
  go_enter Try.func79, Try.ntmps79
  go_wp2_with (first | (refine wpl_box (cs := [v0, v1]) rfl rfl rfl hS ?_; clear hS; intro w1 b1 hS hx1) | (refine wpl_load1 rfl rfl hS rfl (by rfl) ?_) | (refine wpl_loadn rfl rfl hS rfl (by rfl) (by rfl) ?_))
  refine (szIntS_ok h0  (hA.trans hS.below) _ (by omega) (by omega)).mono ?_
  rintro e w2 ⟨r0, rfl, hx2, hr0, hs0⟩
  replace hS := hS.ext hx2
  go_wp2_with (first | (refine wpl_box (cs := [v0, v1]) rfl rfl rfl hS ?_; clear hS; intro w1 b1 hS hx1) | (refine wpl_load1 rfl rfl hS rfl (by rfl) ?_) | (refine wpl_loadn rfl rfl hS rfl (by rfl) (by rfl) ?_))
  · go_ret
    exact ⟨_, rfl, hS.below, by omega, by omega⟩
  refine (szIntS_ok h1  (hA.trans hS.below) _ (by omega) (by omega)).mono ?_
  rintro e w3 ⟨r1, rfl, hx3, hr1, hs1⟩
  replace hS := hS.ext hx3
  go_wp2_with (first | (refine wpl_box (cs := [v0, v1]) rfl rfl rfl hS ?_; clear hS; intro w1 b1 hS hx1) | (refine wpl_load1 rfl rfl hS rfl (by rfl) ?_) | (refine wpl_loadn rfl rfl hS rfl (by rfl) (by rfl) ?_))
  · go_ret
    exact ⟨_, rfl, hS.below, by omega, by omega⟩
  · go_ret
    exact ⟨_, rfl, hS.below, by omega, by omega⟩
theorem toFactorNode_ok {w wA : World} {v0 : Value} {x0 : List Int} {v1 : Value} {x1 : List Int} (h0 : (rIntS).rd wA [v0] x0) (h1 : (rIntS).rd wA [v1] x1)  (hA : Ext wA w) (hb : sizeFactorNode (x0, x1) ≤ 1048576) :
    Calls Try.prog 80 #[.agg #[v0, v1]] w fun e w' => ∃ u0 u1, e = .returned (.agg #[u0, u1]) ∧ Sat w w' [Own (rIntS) [u0] x0, Own (rIntS) [u1] x1] := by
  have hS := Sat.start w
  go_enter Try.func80, Try.ntmps80
  go_wp2_with (first | (refine wpl_box (cs := [v0, v1]) rfl rfl rfl hS ?_; clear hS; intro w1 b1 hS hx1) | (refine wpl_alloc rfl rfl hS ?_; clear hS; intro w1 b1 hS hx1) | (refine wpl_load1 rfl rfl hS rfl (by rfl) ?_) | (refine wpl_loadn rfl rfl hS rfl (by rfl) (by rfl) ?_))
  refine (toIntS_ok h0  (hA.trans hS.below) (show sizeIntS x0 ≤ 1048576 by have := hb; simp only [sizeFactorNode] at this; omega)).mono ?_
  rintro e w2 ⟨u0, rfl, hS2⟩
  replace hS := hS.call1 hS2
  clear hS2
  have o0 : u0.oneCell' = true := hS.oneCell
  go_wp2_with (first | (refine wpl_load1 rfl rfl hS rfl (by rfl) ?_) | (refine wpl_loadn rfl rfl hS rfl (by rfl) (by rfl) ?_) | (refine wpl_store1 rfl rfl hS rfl u0 rfl o0 (by simp) ?_; clear hS; intro w3 hS; simp only [List.set_cons_zero, List.set_cons_succ] at hS))
  refine (toIntS_ok h1  (hA.trans hS.below) (show sizeIntS x1 ≤ 1048576 by have := hb; simp only [sizeFactorNode] at this; omega)).mono ?_
  rintro e w2 ⟨u1, rfl, hS2⟩
  replace hS := hS.call1 hS2
  clear hS2
  have o1 : u1.oneCell' = true := hS.oneCell
  go_wp2_with (first | (refine wpl_load1 rfl rfl hS rfl (by rfl) ?_) | (refine wpl_loadn rfl rfl hS rfl (by rfl) (by rfl) ?_) | (refine wpl_store1 rfl rfl hS rfl u1 rfl o1 (by simp) ?_; clear hS; intro w3 hS; simp only [List.set_cons_zero, List.set_cons_succ] at hS) | (refine wpl_storev rfl rfl hS rfl [u0, u1] rfl (by rfl) (by simp) (by simp [oc_int, oc_str, o0, o1]) ?_; clear hS; intro w3 hS; simp only [List.take, List.drop, List.nil_append, List.cons_append, Nat.reduceAdd] at hS))
  refine bodyPost_ret (results_box rfl _ rfl hS (by rfl)) rfl ?_
  exact ⟨u0, u1, rfl, ((hS.own (v := u1)).own (v := u0)).keep 2⟩
theorem eqFactorNode_ok {w wA wB : World} {av0 : Value} {ax0 : List Int} {av1 : Value} {ax1 : List Int} {bv0 : Value} {bx0 : List Int} {bv1 : Value} {bx1 : List Int} (ah0 : (rIntS).rd wA [av0] ax0) (ah1 : (rIntS).rd wA [av1] ax1) (bh0 : (rIntS).rd wB [bv0] bx0) (bh1 : (rIntS).rd wB [bv1] bx1) (hA : Ext wA w) (hB : Ext wB w) :
    Calls Try.prog 81 #[.agg #[av0, av1], .agg #[bv0, bv1]] w fun e w' => e = .returned (.bool (decide ((ax0, ax1) = (bx0, bx1)))) ∧ Ext w w' := by
  have hS := Sat.start w
  go_enter Try.func81, Try.ntmps81
  go_wp2_with (first | (refine wpl_box (cs := [av0, av1]) rfl rfl rfl hS ?_; clear hS; intro w1 b1 hS hx1) | (refine wpl_box (cs := [bv0, bv1]) rfl rfl rfl hS ?_; clear hS; intro w1 b2 hS hx1) | (refine wpl_load1 rfl rfl hS rfl (by rfl) ?_) | (refine wpl_loadn rfl rfl hS rfl (by rfl) (by rfl) ?_))
  refine (eqIntS_ok   ah0 bh0 (hA.trans hS.below) (hB.trans hS.below)).mono ?_
  rintro e w2 ⟨rfl, hx2⟩
  replace hS := hS.ext hx2
  generalize hd : decide (ax0 = bx0) = d
  have H0 := Lib.hid hd
  clear hd
  cases d
  · go_wp2_with (first | (refine wpl_box (cs := [av0, av1]) rfl rfl rfl hS ?_; clear hS; intro w1 b1 hS hx1) | (refine wpl_box (cs := [bv0, bv1]) rfl rfl rfl hS ?_; clear hS; intro w1 b2 hS hx1) | (refine wpl_load1 rfl rfl hS rfl (by rfl) ?_) | (refine wpl_loadn rfl rfl hS rfl (by rfl) (by rfl) ?_))
    go_ret
    exact ⟨ret_bool (by rw [eq_comm, decide_eq_false_iff_not]; intro e; exact of_decide_eq_false H0.out (congrArg Prod.fst e)), hS.below⟩
  have e0 := of_decide_eq_true H0.out
  clear H0
  have E0 := Lib.hid e0
  clear e0
  go_wp2_with (first | (refine wpl_box (cs := [av0, av1]) rfl rfl rfl hS ?_; clear hS; intro w1 b1 hS hx1) | (refine wpl_box (cs := [bv0, bv1]) rfl rfl rfl hS ?_; clear hS; intro w1 b2 hS hx1) | (refine wpl_load1 rfl rfl hS rfl (by rfl) ?_) | (refine wpl_loadn rfl rfl hS rfl (by rfl) (by rfl) ?_))
  refine (eqIntS_ok   ah1 bh1 (hA.trans hS.below) (hB.trans hS.below)).mono ?_
  rintro e w2 ⟨rfl, hx2⟩
  replace hS := hS.ext hx2
  generalize hd : decide (ax1 = bx1) = d
  have H1 := Lib.hid hd
  clear hd
  cases d
  · go_wp2_with (first | (refine wpl_box (cs := [av0, av1]) rfl rfl rfl hS ?_; clear hS; intro w1 b1 hS hx1) | (refine wpl_box (cs := [bv0, bv1]) rfl rfl rfl hS ?_; clear hS; intro w1 b2 hS hx1) | (refine wpl_load1 rfl rfl hS rfl (by rfl) ?_) | (refine wpl_loadn rfl rfl hS rfl (by rfl) (by rfl) ?_))
    go_ret
    exact ⟨ret_bool (by rw [eq_comm, decide_eq_false_iff_not]; intro e; exact of_decide_eq_false H1.out (congrArg Prod.snd e)), hS.below⟩
  have e1 := of_decide_eq_true H1.out
  clear H1
  have E1 := Lib.hid e1
  clear e1
  go_wp2_with (first | (refine wpl_box (cs := [av0, av1]) rfl rfl rfl hS ?_; clear hS; intro w1 b1 hS hx1) | (refine wpl_box (cs := [bv0, bv1]) rfl rfl rfl hS ?_; clear hS; intro w1 b2 hS hx1) | (refine wpl_load1 rfl rfl hS rfl (by rfl) ?_) | (refine wpl_loadn rfl rfl hS rfl (by rfl) (by rfl) ?_))
  go_ret
  exact ⟨ret_bool (by rw [eq_comm, decide_eq_true_iff]; exact (Prod.ext E0.out E1.out)), hS.below⟩
/-! ### FactorNodeS -/
abbrev rFactorNodeS : Rep (List (List Int × List Int)) := sliceR rFactorNode 67
def sizeFactorNodeS (xs : List (List Int × List Int)) : Nat := xs.length + (xs.map sizeFactorNode).sum
theorem szFactorNodeS_ok {w wA : World} {v : Value} {xs : List (List Int × List Int)} (hv : (rFactorNodeS).rd wA [v] xs) (hA : Ext wA w) (left : Int) (hl0 : 0 ≤ left) (hl1 : left ≤ 1048576) :
    Calls Try.prog 45 #[v, .int .i64 left] w fun e w' => ∃ r, e = .returned (.int .i64 r) ∧ Ext w w' ∧ (-1 ≤ r ∧ r ≤ left) ∧ (0 ≤ r → r + (sizeFactorNodeS xs : Nat) ≤ left) := by
  have hl := rd_len_le hv
  go_enter Try.func45, Try.ntmps45
  go_wp2_with (refine wpl_len rfl rfl rfl hv ?_)
  · go_ret
    exact ⟨_, rfl, Ext.refl _, by omega, by omega⟩
  go_loopw [1, 5] (fun u i wr => ∃ (k : Nat) (s : Int), k ≤ xs.length ∧ i = .int .i64 k ∧ u = .int .i64 s ∧ 0 ≤ s ∧ s + xs.length + ((xs.take k).map sizeFactorNode).sum ≤ left ∧ Sat w wr []) (fun _ i _ => xs.length - (intOf i).toNat)
  case atStart => exact ⟨0, _, Nat.zero_le _, rfl, rfl, by omega, by first | (simp; omega) | simp, Sat.start w⟩
  case round =>
    obtain ⟨k, s, hk, rfl, rfl, hs0, hs1, hS⟩ := hrel
    by_cases hlt : k < xs.length
    · have Hsum := Lib.hid (sum_take_succ sizeFactorNode hlt)
      have Hs1 := Lib.hid hs1
      have hs2 : s ≤ left := by omega
      clear hs1
      obtain ⟨b, off, cap, c0, c1, rfl, hcap, hr, hc0, hc1⟩ := slice_at2 hv rfl (hA.trans hS.below) k hlt
      obtain ⟨q0, q1⟩ := cellsFactorNode hr
      clear hv
      go_wp2_with fail
      refine (szFactorNode_ok q0 q1  (hA.trans hS.below) _ (by omega) (by omega)).mono ?_
      rintro e w2 ⟨r, rfl, hx2, hr1, hr2⟩
      replace hr2 : 0 ≤ r → r + (sizeFactorNode xs[k] : Nat) ≤ s := hr2
      replace hS := hS.ext hx2
      go_wp2_with fail
      · go_ret
        exact ⟨_, rfl, hS.below, by omega, by omega⟩
      · go_roundw
        case rel => exact ⟨k + 1, r, by omega, by go_num, rfl, by omega, by have := Hs1.out; rw [Hsum.out]; omega, hS⟩
        case measure => simp [intOf]; omega
    · go_wp2_with (refine wpl_len rfl rfl rfl hv ?_)
      go_ret
      obtain rfl : k = xs.length := by omega
      rw [List.take_of_length_le (Nat.le_refl _)] at hs1
      exact ⟨_, rfl, hS.below, by omega, by unfold sizeFactorNodeS; omega⟩
theorem toFactorNodeS_ok {w wA : World} {v : Value} {xs : List (List Int × List Int)} (hv : (rFactorNodeS).rd wA [v] xs) (hA : Ext wA w) (hb : sizeFactorNodeS xs ≤ 1048576) :
    Calls Try.prog 48 #[v] w fun e w' => ∃ v', e = .returned v' ∧ Sat w w' [Own (rFactorNodeS) [v'] xs] := by
  have hl : xs.length ≤ 1048576 := by unfold sizeFactorNodeS at hb; omega
  have Hb := Lib.hid (show ∀ x ∈ xs, sizeFactorNode x ≤ 1048576 from fun x hx => by have := sum_le_of_mem sizeFactorNode hx; unfold sizeFactorNodeS at hb; omega)
  clear hb
  have hS := Sat.start w
  go_enter Try.func48, Try.ntmps48
  go_wp2_with (first | (refine wpl_len rfl rfl rfl hv ?_) | (refine wpl_make (R := rFactorNode) (x0 := ([], [])) rfl rfl (by rfl) (by decide) rfl (fun _ => (zeroFactorNode _)) rfl rfl xs.length rfl rfl (by omega) (by omega) hS ?_; clear hS; intro w1 g hS hx1))
  go_loopw [4] (fun i wr => ∃ k : Nat, k ≤ xs.length ∧ i = .int .i64 k ∧ Sat w wr [Own (rFactorNodeS) [.slice (some ⟨g, 0, none⟩) xs.length xs.length] (xs.take k ++ List.replicate (xs.length - k) ([], []))]) (fun i _ => xs.length - (intOf i).toNat)
  case atStart => exact ⟨0, Nat.zero_le _, rfl, by simpa using hS⟩
  case round =>
    clear hS hx1
    obtain ⟨k, hk, rfl, hS⟩ := hrel
    by_cases hlt : k < xs.length
    · obtain ⟨b, off, cap, c0, c1, rfl, hcap, hr, hc0, hc1⟩ := slice_at2 hv rfl (hA.trans hS.below) k hlt
      obtain ⟨q0, q1⟩ := cellsFactorNode hr
      clear hv
      go_wp2_with fail
      refine (toFactorNode_ok q0 q1  (hA.trans hS.below) (by exact Hb.out _ (List.getElem_mem hlt))).mono ?_
      rintro e w2 ⟨u0, u1, rfl, hS2⟩
      replace hS := hS.call2 hS2
      clear hS2
      have o0 : u0.oneCell' = true := hS.oneCell; have o1 : u1.oneCell' = true := hS.oneCell
      replace hS := ownFactorNode (x := xs[k]) hS 
      go_wp2_with (refine wpl_storeo (ec := [u0, u1]) (yv := xs[k]) rfl rfl (by rfl) hS k _ (by simp; omega) (by omega) rfl rfl ?_; clear hS; intro w3 hS)
      go_roundw
      case rel => exact ⟨k + 1, by omega, by go_num, by rw [← set_append_at xs ([], []) k _ hlt rfl]; exact hS⟩
      case measure => simp [intOf]; omega
    · go_wp2_with (refine wpl_len rfl rfl rfl hv ?_)
      go_ret
      obtain rfl : k = xs.length := by omega
      exact ⟨_, rfl, by simpa using hS⟩
set_option maxHeartbeats 1000000 in
theorem eqFactorNodeS_ok {w wA wB : World} {v u : Value} {xs ys : List (List Int × List Int)} (hv : (rFactorNodeS).rd wA [v] xs) (hu : (rFactorNodeS).rd wB [u] ys) (hA : Ext wA w) (hB : Ext wB w) :
    Calls Try.prog 52 #[v, u] w fun e w' => e = .returned (.bool (decide (xs = ys))) ∧ Ext w w' := by
  have hl := rd_len_le hv
  have hl2 := rd_len_le hu
  by_cases hlen : xs.length = ys.length
  case neg =>
    have hne : ((xs.length : Int) != (ys.length : Int)) = true := by simp only [bne_iff_ne]; omega
    go_enter Try.func52, Try.ntmps52
    go_wp2_with (first | (refine wpl_len rfl rfl rfl hv ?_) | (refine wpl_len rfl rfl rfl hu ?_))
    go_ret
    exact ⟨ret_bool (by rw [eq_comm, decide_eq_false_iff_not]; intro e; subst e; exact hlen rfl), Ext.refl _⟩
  case pos =>
    have hne : ((xs.length : Int) != (ys.length : Int)) = false := by simp [hlen]
    have HL := Lib.hid hlen
    clear hlen
    go_enter Try.func52, Try.ntmps52
    go_wp2_with (first | (refine wpl_len rfl rfl rfl hv ?_) | (refine wpl_len rfl rfl rfl hu ?_))
    go_loopw [5] (fun i wr => ∃ k : Nat, k ≤ xs.length ∧ i = .int .i64 k ∧ xs.take k = ys.take k ∧ Ext w wr) (fun i _ => xs.length - (intOf i).toNat)
    case atStart => exact ⟨0, Nat.zero_le _, rfl, rfl, Ext.refl _⟩
    case round =>
      obtain ⟨k, hk, rfl, ht, hw⟩ := hrel
      have Ht := Lib.hid ht
      clear ht
      by_cases hlt : k < xs.length
      · have hlt2 : k < ys.length := by have := HL.out; omega
        obtain ⟨b, off, cap, c0, c1, rfl, hcap, hr, hc0, hc1⟩ := slice_at2 hv rfl (hA.trans hw) k hlt
        obtain ⟨b2, off2, cap2, d0, d1, rfl, hcap2, hs, hd0, hd1⟩ := slice_at2 hu rfl (hB.trans hw) k hlt2
        obtain ⟨q0, q1⟩ := cellsFactorNode hr
        obtain ⟨p0, p1⟩ := cellsFactorNode hs
        clear hv hu
        have hA1 := (hA.trans hw).drew
        have hB1 := (hB.trans hw).drew
        go_wp2
        go_region_held3 (fun w' => w'.cell? ⟨b, off + k * 2, none⟩ = some (c0) ∧ w'.cell? ⟨b, off + k * 2 + 1, none⟩ = some (c1) ∧ w'.cell? ⟨b2, off2 + k * 2, none⟩ = some (d0) ∧ w'.cell? ⟨b2, off2 + k * 2 + 1, none⟩ = some (d1)) (first | exact ⟨hc0, hc1, hd0, hd1⟩ | exact ⟨cell_up hx2 hc0, cell_up hx2 hc1, cell_up hx2 hd0, cell_up hx2 hd1⟩)
          (first | (go_at_call 81; refine Calls.mono (R := fun e w' => e = .returned (.bool (decide (xs[k] = ys[k]))) ∧ Ext _ w') (eqFactorNode_ok   q0 q1 p0 p1 hA1 hB1) ?_; rintro e w2 ⟨rfl, hx2⟩))
        go_wp2
        · go_ret
          have h : (!decide (xs[k] = ys[k])) = true := by assumption
          exact ⟨ret_bool (by rw [eq_comm, decide_eq_false_iff_not]; intro e; subst e; simp at h), Ext.trans (Below.drew hw) hx2⟩
        · have h : (!decide (xs[k] = ys[k])) = false := by assumption
          refine ⟨?_, by simp [intOf]; omega⟩
          have hx3 := Ext.trans (Below.drew hw) hx2
          have ht3 := take_eq_succ hlt hlt2 Ht.out (by simpa using h)
          first | exact ⟨k + 1, by omega, by go_num, ht3, hx3⟩ | ((repeat apply Exists.intro); exact ⟨⟨k + 1, by omega, by go_num, ht3, hx3⟩, rfl⟩)
      · go_wp2_with (refine wpl_len rfl rfl rfl hv ?_)
        go_ret
        obtain rfl : k = xs.length := by omega
        exact ⟨ret_bool (by rw [eq_comm, decide_eq_true_iff]; exact eq_of_take HL.out Ht.out), hw⟩
/-! ### Factorization -/
abbrev rFactorization : Rep (List Int × List (List Int × List Int)) := pairR rIntS rFactorNodeS
theorem cellsFactorization {w : World} {c0 c1 : Value} {x : List Int × List (List Int × List Int)} (h : (rFactorization).rd w [c0, c1] x) : (rIntS).rd w [c0] x.1 ∧ (rFactorNodeS).rd w [c1] x.2 :=
  ⟨(pair_cells h).1, (pair_cells h).2⟩
theorem ownFactorization {w0 w : World} {Γ : List Asn} {u0 : Value} {u1 : Value} {x : List Int × List (List Int × List Int)} (h : Sat w0 w (Own (rIntS) [u0] x.1 :: Own (rFactorNodeS) [u1] x.2 :: Γ))  : Sat w0 w (Own (rFactorization) [u0, u1] x :: Γ) := by
  refine h.join fun f g h0 h1 => ?_
  exact ⟨[u0], [u1], f, g, rfl, by simp, h0, h1⟩
theorem zeroFactorization (w : World) : (rFactorization).own w [.slice none 0 0, .slice none 0 0] ([], []) [] := ⟨[.slice none 0 0], [.slice none 0 0], [], [], rfl, rfl, (.inl ⟨rfl, rfl, rfl⟩), (.inl ⟨rfl, rfl, rfl⟩)⟩
def sizeFactorization (x : List Int × List (List Int × List Int)) : Nat := sizeIntS x.1 + sizeFactorNodeS x.2
theorem szFactorization_ok {w wA : World} {v0 : Value} {x0 : List Int} {v1 : Value} {x1 : List (List Int × List Int)} (h0 : (rIntS).rd wA [v0] x0) (h1 : (rFactorNodeS).rd wA [v1] x1)  (hA : Ext wA w) (left : Int) (hl0 : 0 ≤ left) (hl1 : left ≤ 1048576) :
    Calls Try.prog 9 #[.agg #[v0, v1], .int .i64 left] w fun e w' => ∃ r, e = .returned (.int .i64 r) ∧ Ext w w' ∧ (-1 ≤ r ∧ r ≤ left) ∧ (0 ≤ r → r + (sizeFactorization (x0, x1) : Nat) ≤ left) := by
  have hS := Sat.start w
  have hsz : sizeFactorization (x0, x1) = sizeIntS x0 + sizeFactorNodeS x1 := rfl
  go_enter Try.func9, Try.ntmps9
  go_wp2_with (first | (refine wpl_box (cs := [v0, v1]) rfl rfl rfl hS ?_; clear hS; intro w1 b1 hS hx1) | (refine wpl_load1 rfl rfl hS rfl (by rfl) ?_) | (refine wpl_loadn rfl rfl hS rfl (by rfl) (by rfl) ?_))
  refine (szIntS_ok h0  (hA.trans hS.below) _ (by omega) (by omega)).mono ?_
  rintro e w2 ⟨r0, rfl, hx2, hr0, hs0⟩
  replace hS := hS.ext hx2
  go_wp2_with (first | (refine wpl_box (cs := [v0, v1]) rfl rfl rfl hS ?_; clear hS; intro w1 b1 hS hx1) | (refine wpl_load1 rfl rfl hS rfl (by rfl) ?_) | (refine wpl_loadn rfl rfl hS rfl (by rfl) (by rfl) ?_))
  · go_ret
    exact ⟨_, rfl, hS.below, by omega, by omega⟩
  refine (szFactorNodeS_ok h1  (hA.trans hS.below) _ (by omega) (by omega)).mono ?_
  rintro e w3 ⟨r1, rfl, hx3, hr1, hs1⟩
  replace hS := hS.ext hx3
  go_wp2_with (first | (refine wpl_box (cs := [v0, v1]) rfl rfl rfl hS ?_; clear hS; intro w1 b1 hS hx1) | (refine wpl_load1 rfl rfl hS rfl (by rfl) ?_) | (refine wpl_loadn rfl rfl hS rfl (by rfl) (by rfl) ?_))
  · go_ret
    exact ⟨_, rfl, hS.below, by omega, by omega⟩
  · go_ret
    exact ⟨_, rfl, hS.below, by omega, by omega⟩
theorem toFactorization_ok {w wA : World} {v0 : Value} {x0 : List Int} {v1 : Value} {x1 : List (List Int × List Int)} (h0 : (rIntS).rd wA [v0] x0) (h1 : (rFactorNodeS).rd wA [v1] x1)  (hA : Ext wA w) (hb : sizeFactorization (x0, x1) ≤ 1048576) :
    Calls Try.prog 11 #[.agg #[v0, v1]] w fun e w' => ∃ u0 u1, e = .returned (.agg #[u0, u1]) ∧ Sat w w' [Own (rIntS) [u0] x0, Own (rFactorNodeS) [u1] x1] := by
  have hS := Sat.start w
  go_enter Try.func11, Try.ntmps11
  go_wp2_with (first | (refine wpl_box (cs := [v0, v1]) rfl rfl rfl hS ?_; clear hS; intro w1 b1 hS hx1) | (refine wpl_alloc rfl rfl hS ?_; clear hS; intro w1 b1 hS hx1) | (refine wpl_load1 rfl rfl hS rfl (by rfl) ?_) | (refine wpl_loadn rfl rfl hS rfl (by rfl) (by rfl) ?_))
  refine (toIntS_ok h0  (hA.trans hS.below) (show sizeIntS x0 ≤ 1048576 by have := hb; simp only [sizeFactorization] at this; omega)).mono ?_
  rintro e w2 ⟨u0, rfl, hS2⟩
  replace hS := hS.call1 hS2
  clear hS2
  have o0 : u0.oneCell' = true := hS.oneCell
  go_wp2_with (first | (refine wpl_load1 rfl rfl hS rfl (by rfl) ?_) | (refine wpl_loadn rfl rfl hS rfl (by rfl) (by rfl) ?_) | (refine wpl_store1 rfl rfl hS rfl u0 rfl o0 (by simp) ?_; clear hS; intro w3 hS; simp only [List.set_cons_zero, List.set_cons_succ] at hS))
  refine (toFactorNodeS_ok h1  (hA.trans hS.below) (show sizeFactorNodeS x1 ≤ 1048576 by have := hb; simp only [sizeFactorization] at this; omega)).mono ?_
  rintro e w2 ⟨u1, rfl, hS2⟩
  replace hS := hS.call1 hS2
  clear hS2
  have o1 : u1.oneCell' = true := hS.oneCell
  go_wp2_with (first | (refine wpl_load1 rfl rfl hS rfl (by rfl) ?_) | (refine wpl_loadn rfl rfl hS rfl (by rfl) (by rfl) ?_) | (refine wpl_store1 rfl rfl hS rfl u1 rfl o1 (by simp) ?_; clear hS; intro w3 hS; simp only [List.set_cons_zero, List.set_cons_succ] at hS) | (refine wpl_storev rfl rfl hS rfl [u0, u1] rfl (by rfl) (by simp) (by simp [oc_int, oc_str, o0, o1]) ?_; clear hS; intro w3 hS; simp only [List.take, List.drop, List.nil_append, List.cons_append, Nat.reduceAdd] at hS))
  refine bodyPost_ret (results_box rfl _ rfl hS (by rfl)) rfl ?_
  exact ⟨u0, u1, rfl, ((hS.own (v := u1)).own (v := u0)).keep 2⟩
theorem eqFactorization_ok {w wA wB : World} {av0 : Value} {ax0 : List Int} {av1 : Value} {ax1 : List (List Int × List Int)} {bv0 : Value} {bx0 : List Int} {bv1 : Value} {bx1 : List (List Int × List Int)} (ah0 : (rIntS).rd wA [av0] ax0) (ah1 : (rFactorNodeS).rd wA [av1] ax1) (bh0 : (rIntS).rd wB [bv0] bx0) (bh1 : (rFactorNodeS).rd wB [bv1] bx1) (hA : Ext wA w) (hB : Ext wB w) :
    Calls Try.prog 13 #[.agg #[av0, av1], .agg #[bv0, bv1]] w fun e w' => e = .returned (.bool (decide ((ax0, ax1) = (bx0, bx1)))) ∧ Ext w w' := by
  have hS := Sat.start w
  go_enter Try.func13, Try.ntmps13
  go_wp2_with (first | (refine wpl_box (cs := [av0, av1]) rfl rfl rfl hS ?_; clear hS; intro w1 b1 hS hx1) | (refine wpl_box (cs := [bv0, bv1]) rfl rfl rfl hS ?_; clear hS; intro w1 b2 hS hx1) | (refine wpl_load1 rfl rfl hS rfl (by rfl) ?_) | (refine wpl_loadn rfl rfl hS rfl (by rfl) (by rfl) ?_))
  refine (eqIntS_ok   ah0 bh0 (hA.trans hS.below) (hB.trans hS.below)).mono ?_
  rintro e w2 ⟨rfl, hx2⟩
  replace hS := hS.ext hx2
  generalize hd : decide (ax0 = bx0) = d
  have H0 := Lib.hid hd
  clear hd
  cases d
  · go_wp2_with (first | (refine wpl_box (cs := [av0, av1]) rfl rfl rfl hS ?_; clear hS; intro w1 b1 hS hx1) | (refine wpl_box (cs := [bv0, bv1]) rfl rfl rfl hS ?_; clear hS; intro w1 b2 hS hx1) | (refine wpl_load1 rfl rfl hS rfl (by rfl) ?_) | (refine wpl_loadn rfl rfl hS rfl (by rfl) (by rfl) ?_))
    go_ret
    exact ⟨ret_bool (by rw [eq_comm, decide_eq_false_iff_not]; intro e; exact of_decide_eq_false H0.out (congrArg Prod.fst e)), hS.below⟩
  have e0 := of_decide_eq_true H0.out
  clear H0
  have E0 := Lib.hid e0
  clear e0
  go_wp2_with (first | (refine wpl_box (cs := [av0, av1]) rfl rfl rfl hS ?_; clear hS; intro w1 b1 hS hx1) | (refine wpl_box (cs := [bv0, bv1]) rfl rfl rfl hS ?_; clear hS; intro w1 b2 hS hx1) | (refine wpl_load1 rfl rfl hS rfl (by rfl) ?_) | (refine wpl_loadn rfl rfl hS rfl (by rfl) (by rfl) ?_))
  refine (eqFactorNodeS_ok   ah1 bh1 (hA.trans hS.below) (hB.trans hS.below)).mono ?_
  rintro e w2 ⟨rfl, hx2⟩
  replace hS := hS.ext hx2
  generalize hd : decide (ax1 = bx1) = d
  have H1 := Lib.hid hd
  clear hd
  cases d
  · go_wp2_with (first | (refine wpl_box (cs := [av0, av1]) rfl rfl rfl hS ?_; clear hS; intro w1 b1 hS hx1) | (refine wpl_box (cs := [bv0, bv1]) rfl rfl rfl hS ?_; clear hS; intro w1 b2 hS hx1) | (refine wpl_load1 rfl rfl hS rfl (by rfl) ?_) | (refine wpl_loadn rfl rfl hS rfl (by rfl) (by rfl) ?_))
    go_ret
    exact ⟨ret_bool (by rw [eq_comm, decide_eq_false_iff_not]; intro e; exact of_decide_eq_false H1.out (congrArg Prod.snd e)), hS.below⟩
  have e1 := of_decide_eq_true H1.out
  clear H1
  have E1 := Lib.hid e1
  clear e1
  go_wp2_with (first | (refine wpl_box (cs := [av0, av1]) rfl rfl rfl hS ?_; clear hS; intro w1 b1 hS hx1) | (refine wpl_box (cs := [bv0, bv1]) rfl rfl rfl hS ?_; clear hS; intro w1 b2 hS hx1) | (refine wpl_load1 rfl rfl hS rfl (by rfl) ?_) | (refine wpl_loadn rfl rfl hS rfl (by rfl) (by rfl) ?_))
  go_ret
  exact ⟨ret_bool (by rw [eq_comm, decide_eq_true_iff]; exact (Prod.ext E0.out E1.out)), hS.below⟩
/-! ### Relation -/
abbrev rRelation : Rep (Int × List (List Int)) := pairR intR rIntSS
theorem cellsRelation {w : World} {c0 c1 : Value} {x : Int × List (List Int)} (h : (rRelation).rd w [c0, c1] x) : c0 = .int .i64 x.1 ∧ (rIntSS).rd w [c1] x.2 :=
  ⟨int_cell ((pair_cells h).1), (pair_cells h).2⟩
theorem ownRelation {w0 w : World} {Γ : List Asn} {u1 : Value} {x : Int × List (List Int)} (h : Sat w0 w (Own (rIntSS) [u1] x.2 :: Γ))  : Sat w0 w (Own (rRelation) [.int .i64 x.1, u1] x :: Γ) := by
  refine h.conv fun f h0 => ?_
  exact ⟨[.int .i64 x.1], [u1], [], f, rfl, by simp, ⟨rfl, rfl⟩, h0⟩
theorem zeroRelation (w : World) : (rRelation).own w [.int .i64 0, .slice none 0 0] (0, []) [] := ⟨[.int .i64 0], [.slice none 0 0], [], [], rfl, rfl, ⟨rfl, rfl⟩, (.inl ⟨rfl, rfl, rfl⟩)⟩
def sizeRelation (x : Int × List (List Int)) : Nat := sizeIntSS x.2
theorem szRelation_ok {w wA : World} (n0 : Int) {v1 : Value} {x1 : List (List Int)} (h1 : (rIntSS).rd wA [v1] x1)  (hA : Ext wA w) (left : Int) (hl0 : 0 ≤ left) (hl1 : left ≤ 1048576) :
    Calls Try.prog 25 #[.agg #[.int .i64 n0, v1], .int .i64 left] w fun e w' => ∃ r, e = .returned (.int .i64 r) ∧ Ext w w' ∧ (-1 ≤ r ∧ r ≤ left) ∧ (0 ≤ r → r + (sizeRelation (n0, x1) : Nat) ≤ left) := by
  have hS := Sat.start w
  have hsz : sizeRelation (n0, x1) = sizeIntSS x1 := rfl
  go_enter Try.func25, Try.ntmps25
  go_wp2_with (first | (refine wpl_box (cs := [.int .i64 n0, v1]) rfl rfl rfl hS ?_; clear hS; intro w1 b1 hS hx1) | (refine wpl_load1 rfl rfl hS rfl (by rfl) ?_) | (refine wpl_loadn rfl rfl hS rfl (by rfl) (by rfl) ?_))
  refine (szIntSS_ok h1  (hA.trans hS.below) _ (by omega) (by omega)).mono ?_
  rintro e w2 ⟨r0, rfl, hx2, hr0, hs0⟩
  replace hS := hS.ext hx2
  go_wp2_with (first | (refine wpl_box (cs := [.int .i64 n0, v1]) rfl rfl rfl hS ?_; clear hS; intro w1 b1 hS hx1) | (refine wpl_load1 rfl rfl hS rfl (by rfl) ?_) | (refine wpl_loadn rfl rfl hS rfl (by rfl) (by rfl) ?_))
  · go_ret
    exact ⟨_, rfl, hS.below, by omega, by omega⟩
  · go_ret
    exact ⟨_, rfl, hS.below, by omega, by omega⟩
theorem toRelation_ok {w wA : World} (n0 : Int) {v1 : Value} {x1 : List (List Int)} (h1 : (rIntSS).rd wA [v1] x1)  (hA : Ext wA w) (hb : sizeRelation (n0, x1) ≤ 1048576) :
    Calls Try.prog 27 #[.agg #[.int .i64 n0, v1]] w fun e w' => ∃ u1, e = .returned (.agg #[.int .i64 n0, u1]) ∧ Sat w w' [Own (rIntSS) [u1] x1] := by
  have hS := Sat.start w
  go_enter Try.func27, Try.ntmps27
  go_wp2_with (first | (refine wpl_box (cs := [.int .i64 n0, v1]) rfl rfl rfl hS ?_; clear hS; intro w1 b1 hS hx1) | (refine wpl_alloc rfl rfl hS ?_; clear hS; intro w1 b1 hS hx1) | (refine wpl_load1 rfl rfl hS rfl (by rfl) ?_) | (refine wpl_loadn rfl rfl hS rfl (by rfl) (by rfl) ?_) | (refine wpl_store1 rfl rfl hS rfl (.int .i64 n0) rfl rfl (by simp) ?_; clear hS; intro w3 hS; simp only [List.set_cons_zero, List.set_cons_succ] at hS))
  refine (toIntSS_ok h1  (hA.trans hS.below) (show sizeIntSS x1 ≤ 1048576 by have := hb; simp only [sizeRelation] at this; omega)).mono ?_
  rintro e w2 ⟨u1, rfl, hS2⟩
  replace hS := hS.call1 hS2
  clear hS2
  have o1 : u1.oneCell' = true := hS.oneCell
  go_wp2_with (first | (refine wpl_load1 rfl rfl hS rfl (by rfl) ?_) | (refine wpl_loadn rfl rfl hS rfl (by rfl) (by rfl) ?_) | (refine wpl_store1 rfl rfl hS rfl u1 rfl o1 (by simp) ?_; clear hS; intro w3 hS; simp only [List.set_cons_zero, List.set_cons_succ] at hS) | (refine wpl_storev rfl rfl hS rfl [.int .i64 n0, u1] rfl (by rfl) (by simp) (by simp [oc_int, oc_str, o1]) ?_; clear hS; intro w3 hS; simp only [List.take, List.drop, List.nil_append, List.cons_append, Nat.reduceAdd] at hS) | (refine wpl_store1 rfl rfl hS rfl (.int .i64 n0) rfl rfl (by simp) ?_; clear hS; intro w3 hS; simp only [List.set_cons_zero, List.set_cons_succ] at hS))
  refine bodyPost_ret (results_box rfl _ rfl hS (by rfl)) rfl ?_
  exact ⟨u1, rfl, (hS.own (v := u1)).keep 1⟩
theorem eqRelation_ok {w wA wB : World} (an0 : Int) {av1 : Value} {ax1 : List (List Int)} (bn0 : Int) {bv1 : Value} {bx1 : List (List Int)} (ah1 : (rIntSS).rd wA [av1] ax1) (bh1 : (rIntSS).rd wB [bv1] bx1) (hA : Ext wA w) (hB : Ext wB w) :
    Calls Try.prog 29 #[.agg #[.int .i64 an0, av1], .agg #[.int .i64 bn0, bv1]] w fun e w' => e = .returned (.bool (decide ((an0, ax1) = (bn0, bx1)))) ∧ Ext w w' := by
  have hS := Sat.start w
  go_enter Try.func29, Try.ntmps29
  go_wp2_with (first | (refine wpl_box (cs := [.int .i64 an0, av1]) rfl rfl rfl hS ?_; clear hS; intro w1 b1 hS hx1) | (refine wpl_box (cs := [.int .i64 bn0, bv1]) rfl rfl rfl hS ?_; clear hS; intro w1 b2 hS hx1) | (refine wpl_load1 rfl rfl hS rfl (by rfl) ?_) | (refine wpl_loadn rfl rfl hS rfl (by rfl) (by rfl) ?_))
  · go_ret
    have h : (an0 != bn0) = true := by assumption
    exact ⟨ret_bool (by rw [eq_comm, decide_eq_false_iff_not]; intro e; simp only [Prod.mk.injEq] at e; simp [e] at h), hS.below⟩
  have e0 : an0 = bn0 := by have h : (an0 != bn0) = false := (by assumption); simpa using h
  have E0 := Lib.hid e0
  clear e0
  refine (eqIntSS_ok   ah1 bh1 (hA.trans hS.below) (hB.trans hS.below)).mono ?_
  rintro e w2 ⟨rfl, hx2⟩
  replace hS := hS.ext hx2
  generalize hd : decide (ax1 = bx1) = d
  have H1 := Lib.hid hd
  clear hd
  cases d
  · go_wp2_with (first | (refine wpl_box (cs := [.int .i64 an0, av1]) rfl rfl rfl hS ?_; clear hS; intro w1 b1 hS hx1) | (refine wpl_box (cs := [.int .i64 bn0, bv1]) rfl rfl rfl hS ?_; clear hS; intro w1 b2 hS hx1) | (refine wpl_load1 rfl rfl hS rfl (by rfl) ?_) | (refine wpl_loadn rfl rfl hS rfl (by rfl) (by rfl) ?_))
    go_ret
    exact ⟨ret_bool (by rw [eq_comm, decide_eq_false_iff_not]; intro e; exact of_decide_eq_false H1.out (congrArg Prod.snd e)), hS.below⟩
  have e1 := of_decide_eq_true H1.out
  clear H1
  have E1 := Lib.hid e1
  clear e1
  go_wp2_with (first | (refine wpl_box (cs := [.int .i64 an0, av1]) rfl rfl rfl hS ?_; clear hS; intro w1 b1 hS hx1) | (refine wpl_box (cs := [.int .i64 bn0, bv1]) rfl rfl rfl hS ?_; clear hS; intro w1 b2 hS hx1) | (refine wpl_load1 rfl rfl hS rfl (by rfl) ?_) | (refine wpl_loadn rfl rfl hS rfl (by rfl) (by rfl) ?_))
  go_ret
  exact ⟨ret_bool (by rw [eq_comm, decide_eq_true_iff]; exact (Prod.ext E0.out E1.out)), hS.below⟩
/-! ### Delta -/
abbrev rDelta : Rep (ByteArray × (Int × List (List Int)) × (Int × List (List Int))) := pairR strR (pairR rRelation rRelation)
theorem cellsDelta {w : World} {c0 c1 c2 c3 c4 : Value} {x : ByteArray × (Int × List (List Int)) × (Int × List (List Int))} (h : (rDelta).rd w [c0, c1, c2, c3, c4] x) : (c0 = .string x.1 ∧ x.1.size ≤ 9223372036854775807) ∧ c1 = .int .i64 x.2.1.1 ∧ (rIntSS).rd w [c2] x.2.1.2 ∧ c3 = .int .i64 x.2.2.1 ∧ (rIntSS).rd w [c4] x.2.2.2 :=
  ⟨str_cell ((pair_cells h).1), int_cell ((pair_cells (pair_cells (pair_cells h).2).1).1), (pair_cells (pair_cells (pair_cells h).2).1).2, int_cell ((pair_cells (pair_cells (pair_cells h).2).2).1), (pair_cells (pair_cells (pair_cells h).2).2).2⟩
theorem ownDelta {w0 w : World} {Γ : List Asn} {u2 : Value} {u4 : Value} {x : ByteArray × (Int × List (List Int)) × (Int × List (List Int))} (h : Sat w0 w (Own (rIntSS) [u2] x.2.1.2 :: Own (rIntSS) [u4] x.2.2.2 :: Γ)) (z0 : x.1.size ≤ 9223372036854775807) : Sat w0 w (Own (rDelta) [.string x.1, .int .i64 x.2.1.1, u2, .int .i64 x.2.2.1, u4] x :: Γ) := by
  refine h.join fun f g h0 h1 => ?_
  exact ⟨[.string x.1], [.int .i64 x.2.1.1, u2, .int .i64 x.2.2.1, u4], [], (([] ++ f) ++ ([] ++ g)), rfl, by simp, ⟨⟨rfl, z0⟩, rfl⟩, ⟨[.int .i64 x.2.1.1, u2], [.int .i64 x.2.2.1, u4], ([] ++ f), ([] ++ g), rfl, by simp, ⟨[.int .i64 x.2.1.1], [u2], [], f, rfl, by simp, ⟨rfl, rfl⟩, h0⟩, ⟨[.int .i64 x.2.2.1], [u4], [], g, rfl, by simp, ⟨rfl, rfl⟩, h1⟩⟩⟩
theorem zeroDelta (w : World) : (rDelta).own w [.string ByteArray.empty, .int .i64 0, .slice none 0 0, .int .i64 0, .slice none 0 0] (ByteArray.empty, (0, []), (0, [])) [] := ⟨[.string ByteArray.empty], [.int .i64 0, .slice none 0 0, .int .i64 0, .slice none 0 0], [], [], rfl, rfl, ⟨⟨rfl, by decide⟩, rfl⟩, ⟨[.int .i64 0, .slice none 0 0], [.int .i64 0, .slice none 0 0], [], [], rfl, rfl, (zeroRelation _), (zeroRelation _)⟩⟩
def sizeDelta (x : ByteArray × (Int × List (List Int)) × (Int × List (List Int))) : Nat := x.1.size + sizeRelation x.2.1 + sizeRelation x.2.2
theorem szDelta_ok {w wA : World} (s0 : ByteArray) (n1 : Int) {v2 : Value} {x2 : List (List Int)} (n3 : Int) {v4 : Value} {x4 : List (List Int)} (h2 : (rIntSS).rd wA [v2] x2) (h4 : (rIntSS).rd wA [v4] x4) (z0 : s0.size ≤ 9223372036854775807) (hA : Ext wA w) (left : Int) (hl0 : 0 ≤ left) (hl1 : left ≤ 1048576) :
    Calls Try.prog 14 #[.agg #[.string s0, .int .i64 n1, v2, .int .i64 n3, v4], .int .i64 left] w fun e w' => ∃ r, e = .returned (.int .i64 r) ∧ Ext w w' ∧ (-1 ≤ r ∧ r ≤ left) ∧ (0 ≤ r → r + (sizeDelta (s0, (n1, x2), (n3, x4)) : Nat) ≤ left) := by
  have hS := Sat.start w
  have hsz : sizeDelta (s0, (n1, x2), (n3, x4)) = s0.size + sizeRelation (n1, x2) + sizeRelation (n3, x4) := rfl
  go_enter Try.func14, Try.ntmps14
  go_wp2_with (first | (refine wpl_box (cs := [.string s0, .int .i64 n1, v2, .int .i64 n3, v4]) rfl rfl rfl hS ?_; clear hS; intro w1 b1 hS hx1) | (refine wpl_load1 rfl rfl hS rfl (by rfl) ?_) | (refine wpl_loadn rfl rfl hS rfl (by rfl) (by rfl) ?_))
  · go_ret
    exact ⟨_, rfl, hS.below, by omega, by omega⟩
  refine (szRelation_ok n1 h2  (hA.trans hS.below) _ (by omega) (by omega)).mono ?_
  rintro e w3 ⟨r1, rfl, hx3, hr1, hs1⟩
  replace hS := hS.ext hx3
  go_wp2_with (first | (refine wpl_box (cs := [.string s0, .int .i64 n1, v2, .int .i64 n3, v4]) rfl rfl rfl hS ?_; clear hS; intro w1 b1 hS hx1) | (refine wpl_load1 rfl rfl hS rfl (by rfl) ?_) | (refine wpl_loadn rfl rfl hS rfl (by rfl) (by rfl) ?_))
  · go_ret
    exact ⟨_, rfl, hS.below, by omega, by omega⟩
  refine (szRelation_ok n3 h4  (hA.trans hS.below) _ (by omega) (by omega)).mono ?_
  rintro e w4 ⟨r2, rfl, hx4, hr2, hs2⟩
  replace hS := hS.ext hx4
  go_wp2_with (first | (refine wpl_box (cs := [.string s0, .int .i64 n1, v2, .int .i64 n3, v4]) rfl rfl rfl hS ?_; clear hS; intro w1 b1 hS hx1) | (refine wpl_load1 rfl rfl hS rfl (by rfl) ?_) | (refine wpl_loadn rfl rfl hS rfl (by rfl) (by rfl) ?_))
  · go_ret
    exact ⟨_, rfl, hS.below, by omega, by omega⟩
  · go_ret
    exact ⟨_, rfl, hS.below, by omega, by omega⟩
theorem toDelta_ok {w wA : World} (s0 : ByteArray) (n1 : Int) {v2 : Value} {x2 : List (List Int)} (n3 : Int) {v4 : Value} {x4 : List (List Int)} (h2 : (rIntSS).rd wA [v2] x2) (h4 : (rIntSS).rd wA [v4] x4) (z0 : s0.size ≤ 9223372036854775807) (hA : Ext wA w) (hb : sizeDelta (s0, (n1, x2), (n3, x4)) ≤ 1048576) :
    Calls Try.prog 16 #[.agg #[.string s0, .int .i64 n1, v2, .int .i64 n3, v4]] w fun e w' => ∃ u2 u4, e = .returned (.agg #[.string s0, .int .i64 n1, u2, .int .i64 n3, u4]) ∧ Sat w w' [Own (rIntSS) [u2] x2, Own (rIntSS) [u4] x4] := by
  have hS := Sat.start w
  go_enter Try.func16, Try.ntmps16
  go_wp2_with (first | (refine wpl_box (cs := [.string s0, .int .i64 n1, v2, .int .i64 n3, v4]) rfl rfl rfl hS ?_; clear hS; intro w1 b1 hS hx1) | (refine wpl_alloc rfl rfl hS ?_; clear hS; intro w1 b1 hS hx1) | (refine wpl_load1 rfl rfl hS rfl (by rfl) ?_) | (refine wpl_loadn rfl rfl hS rfl (by rfl) (by rfl) ?_) | (refine wpl_store1 rfl rfl hS rfl (.string s0) rfl rfl (by simp) ?_; clear hS; intro w3 hS; simp only [List.set_cons_zero, List.set_cons_succ] at hS) | (refine wpl_store1 rfl rfl hS rfl (.int .i64 n1) rfl rfl (by simp) ?_; clear hS; intro w3 hS; simp only [List.set_cons_zero, List.set_cons_succ] at hS) | (refine wpl_store1 rfl rfl hS rfl (.int .i64 n3) rfl rfl (by simp) ?_; clear hS; intro w3 hS; simp only [List.set_cons_zero, List.set_cons_succ] at hS))
  refine (toRelation_ok n1 h2  (hA.trans hS.below) (show sizeRelation (n1, x2) ≤ 1048576 by have := hb; simp only [sizeDelta] at this; omega)).mono ?_
  rintro e w2 ⟨u2, rfl, hS2⟩
  replace hS := hS.call1 hS2
  clear hS2
  have o2 : u2.oneCell' = true := hS.oneCell
  go_wp2_with (first | (refine wpl_load1 rfl rfl hS rfl (by rfl) ?_) | (refine wpl_loadn rfl rfl hS rfl (by rfl) (by rfl) ?_) | (refine wpl_storev rfl rfl hS rfl [.int .i64 n1, u2] rfl (by rfl) (by simp) (by simp [oc_int, oc_str, o2]) ?_; clear hS; intro w3 hS; simp only [List.take, List.drop, List.nil_append, List.cons_append, Nat.reduceAdd] at hS) | (refine wpl_store1 rfl rfl hS rfl (.string s0) rfl rfl (by simp) ?_; clear hS; intro w3 hS; simp only [List.set_cons_zero, List.set_cons_succ] at hS) | (refine wpl_store1 rfl rfl hS rfl (.int .i64 n1) rfl rfl (by simp) ?_; clear hS; intro w3 hS; simp only [List.set_cons_zero, List.set_cons_succ] at hS) | (refine wpl_store1 rfl rfl hS rfl (.int .i64 n3) rfl rfl (by simp) ?_; clear hS; intro w3 hS; simp only [List.set_cons_zero, List.set_cons_succ] at hS))
  refine (toRelation_ok n3 h4  (hA.trans hS.below) (show sizeRelation (n3, x4) ≤ 1048576 by have := hb; simp only [sizeDelta] at this; omega)).mono ?_
  rintro e w2 ⟨u4, rfl, hS2⟩
  replace hS := hS.call1 hS2
  clear hS2
  have o4 : u4.oneCell' = true := hS.oneCell
  go_wp2_with (first | (refine wpl_load1 rfl rfl hS rfl (by rfl) ?_) | (refine wpl_loadn rfl rfl hS rfl (by rfl) (by rfl) ?_) | (refine wpl_storev rfl rfl hS rfl [.int .i64 n3, u4] rfl (by rfl) (by simp) (by simp [oc_int, oc_str, o4]) ?_; clear hS; intro w3 hS; simp only [List.take, List.drop, List.nil_append, List.cons_append, Nat.reduceAdd] at hS) | (refine wpl_storev rfl rfl hS rfl [.string s0, .int .i64 n1, u2, .int .i64 n3, u4] rfl (by rfl) (by simp) (by simp [oc_int, oc_str, o2, o4]) ?_; clear hS; intro w3 hS; simp only [List.take, List.drop, List.nil_append, List.cons_append, Nat.reduceAdd] at hS) | (refine wpl_store1 rfl rfl hS rfl (.string s0) rfl rfl (by simp) ?_; clear hS; intro w3 hS; simp only [List.set_cons_zero, List.set_cons_succ] at hS) | (refine wpl_store1 rfl rfl hS rfl (.int .i64 n1) rfl rfl (by simp) ?_; clear hS; intro w3 hS; simp only [List.set_cons_zero, List.set_cons_succ] at hS) | (refine wpl_store1 rfl rfl hS rfl (.int .i64 n3) rfl rfl (by simp) ?_; clear hS; intro w3 hS; simp only [List.set_cons_zero, List.set_cons_succ] at hS))
  refine bodyPost_ret (results_box rfl _ rfl hS (by rfl)) rfl ?_
  exact ⟨u2, u4, rfl, ((hS.own (v := u4)).own (v := u2)).keep 2⟩
theorem eqDelta_ok {w wA wB : World} (as0 : ByteArray) (an1 : Int) {av2 : Value} {ax2 : List (List Int)} (an3 : Int) {av4 : Value} {ax4 : List (List Int)} (bs0 : ByteArray) (bn1 : Int) {bv2 : Value} {bx2 : List (List Int)} (bn3 : Int) {bv4 : Value} {bx4 : List (List Int)} (ah2 : (rIntSS).rd wA [av2] ax2) (ah4 : (rIntSS).rd wA [av4] ax4) (bh2 : (rIntSS).rd wB [bv2] bx2) (bh4 : (rIntSS).rd wB [bv4] bx4) (hA : Ext wA w) (hB : Ext wB w) :
    Calls Try.prog 18 #[.agg #[.string as0, .int .i64 an1, av2, .int .i64 an3, av4], .agg #[.string bs0, .int .i64 bn1, bv2, .int .i64 bn3, bv4]] w fun e w' => e = .returned (.bool (decide ((as0, (an1, ax2), (an3, ax4)) = (bs0, (bn1, bx2), (bn3, bx4))))) ∧ Ext w w' := by
  have hS := Sat.start w
  go_enter Try.func18, Try.ntmps18
  go_wp2_with (first | (refine wpl_box (cs := [.string as0, .int .i64 an1, av2, .int .i64 an3, av4]) rfl rfl rfl hS ?_; clear hS; intro w1 b1 hS hx1) | (refine wpl_box (cs := [.string bs0, .int .i64 bn1, bv2, .int .i64 bn3, bv4]) rfl rfl rfl hS ?_; clear hS; intro w1 b2 hS hx1) | (refine wpl_load1 rfl rfl hS rfl (by rfl) ?_) | (refine wpl_loadn rfl rfl hS rfl (by rfl) (by rfl) ?_))
  · go_ret
    exact ⟨ret_bool (by rw [eq_comm, decide_eq_false_iff_not]; intro e; simp only [Prod.mk.injEq] at e; simp_all), hS.below⟩
  have e0 : as0 = bs0 := by first | (have h : as0.toList = bs0.toList := (by assumption); exact str_eq h) | (have h : (!as0.toList == bs0.toList) = false := (by assumption); exact str_eq (by simpa using h))
  have E0 := Lib.hid e0
  clear e0
  refine (eqRelation_ok an1 bn1 ah2 bh2 (hA.trans hS.below) (hB.trans hS.below)).mono ?_
  rintro e w2 ⟨rfl, hx2⟩
  replace hS := hS.ext hx2
  generalize hd : decide ((an1, ax2) = (bn1, bx2)) = d
  have H1 := Lib.hid hd
  clear hd
  cases d
  · go_wp2_with (first | (refine wpl_box (cs := [.string as0, .int .i64 an1, av2, .int .i64 an3, av4]) rfl rfl rfl hS ?_; clear hS; intro w1 b1 hS hx1) | (refine wpl_box (cs := [.string bs0, .int .i64 bn1, bv2, .int .i64 bn3, bv4]) rfl rfl rfl hS ?_; clear hS; intro w1 b2 hS hx1) | (refine wpl_load1 rfl rfl hS rfl (by rfl) ?_) | (refine wpl_loadn rfl rfl hS rfl (by rfl) (by rfl) ?_))
    go_ret
    exact ⟨ret_bool (by rw [eq_comm, decide_eq_false_iff_not]; intro e; exact of_decide_eq_false H1.out (congrArg Prod.fst (congrArg Prod.snd e))), hS.below⟩
  have e1 := of_decide_eq_true H1.out
  clear H1
  have E1 := Lib.hid e1
  clear e1
  go_wp2_with (first | (refine wpl_box (cs := [.string as0, .int .i64 an1, av2, .int .i64 an3, av4]) rfl rfl rfl hS ?_; clear hS; intro w1 b1 hS hx1) | (refine wpl_box (cs := [.string bs0, .int .i64 bn1, bv2, .int .i64 bn3, bv4]) rfl rfl rfl hS ?_; clear hS; intro w1 b2 hS hx1) | (refine wpl_load1 rfl rfl hS rfl (by rfl) ?_) | (refine wpl_loadn rfl rfl hS rfl (by rfl) (by rfl) ?_))
  refine (eqRelation_ok an3 bn3 ah4 bh4 (hA.trans hS.below) (hB.trans hS.below)).mono ?_
  rintro e w2 ⟨rfl, hx2⟩
  replace hS := hS.ext hx2
  generalize hd : decide ((an3, ax4) = (bn3, bx4)) = d
  have H2 := Lib.hid hd
  clear hd
  cases d
  · go_wp2_with (first | (refine wpl_box (cs := [.string as0, .int .i64 an1, av2, .int .i64 an3, av4]) rfl rfl rfl hS ?_; clear hS; intro w1 b1 hS hx1) | (refine wpl_box (cs := [.string bs0, .int .i64 bn1, bv2, .int .i64 bn3, bv4]) rfl rfl rfl hS ?_; clear hS; intro w1 b2 hS hx1) | (refine wpl_load1 rfl rfl hS rfl (by rfl) ?_) | (refine wpl_loadn rfl rfl hS rfl (by rfl) (by rfl) ?_))
    go_ret
    exact ⟨ret_bool (by rw [eq_comm, decide_eq_false_iff_not]; intro e; exact of_decide_eq_false H2.out (congrArg Prod.snd (congrArg Prod.snd e))), hS.below⟩
  have e2 := of_decide_eq_true H2.out
  clear H2
  have E2 := Lib.hid e2
  clear e2
  go_wp2_with (first | (refine wpl_box (cs := [.string as0, .int .i64 an1, av2, .int .i64 an3, av4]) rfl rfl rfl hS ?_; clear hS; intro w1 b1 hS hx1) | (refine wpl_box (cs := [.string bs0, .int .i64 bn1, bv2, .int .i64 bn3, bv4]) rfl rfl rfl hS ?_; clear hS; intro w1 b2 hS hx1) | (refine wpl_load1 rfl rfl hS rfl (by rfl) ?_) | (refine wpl_loadn rfl rfl hS rfl (by rfl) (by rfl) ?_))
  go_ret
  exact ⟨ret_bool (by rw [eq_comm, decide_eq_true_iff]; exact (Prod.ext E0.out (Prod.ext E1.out E2.out))), hS.below⟩
end Go.Proofs.Ytobjjdfgnaanjaa
