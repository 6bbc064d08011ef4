/- Ascending lists, finding, sets of indices. -/
import Derived.Test.YtobjjdfgnaanjaaRows1
import Derived.Deep.DeepMust
namespace Go.Proofs.Ytobjjdfgnaanjaa
open Go.RowKit

theorem rd_take {α : Type} {R : Rep α} {E : TypeId} {w : World} {ao : Option Addr} {len cap : Nat} {xs : List α} (h : (sliceR R E).rd w [.slice ao len cap] xs) (k : Nat) (hk : k ≤ xs.length) : (sliceR R E).rd w [.slice ao k cap] (xs.take k) := by
  obtain ⟨ao', cap', ccs, e, h1, h2, h3, h4, h5⟩ := h
  simp only [List.cons.injEq, Value.slice.injEq, and_true] at e
  obtain ⟨rfl, _, rfl⟩ := e
  refine ⟨ao, cap, _, by rw [List.length_take, Nat.min_eq_left hk], by simp; omega, h2, h3, (rdL_split k h4).1, ?_⟩
  rcases h5 with rfl | ⟨b, off, rfl, h5⟩
  · exact .inl (by simp)
  · refine .inr ⟨b, off, rfl, fun j c hj => ?_⟩
    rw [List.getElem?_take] at hj
    split at hj
    · exact h5 j c hj
    · cases hj
theorem IsStrictlyAscending_spec {w wA : World} {v : Value} {xs : List Int} (hv : rIntS.rd wA [v] xs) (hA : Ext wA w) :
    Calls Try.prog 60 #[v] w fun e w' => e = .returned (.bool (ascB xs)) ∧ Ext w w' := by
  have hl := rd_len_le hv
  go_enter Try.func60, Try.ntmps60
  go_wp2_with fail
  go_loopw [3] (fun i wr => ∃ k : Nat, (1 ≤ k ∧ (k ≤ xs.length ∨ k = 1)) ∧ i = .int .i64 k ∧ Hid (∀ j (h : j + 1 < xs.length), j + 1 < k → xs[j] < xs[j + 1]) ∧ Ext w wr) (fun i _ => xs.length + 1 - (intOf i).toNat)
  case atStart => exact ⟨1, ⟨by omega, .inr rfl⟩, rfl, fun j _ h => by omega, Ext.refl _⟩
  case round =>
    obtain ⟨k, ⟨hk1, hk⟩, rfl, Ht, hw⟩ := hrel
    by_cases hlt : k < xs.length
    · obtain ⟨j, rfl⟩ : ∃ j, k = j + 1 := ⟨k - 1, by omega⟩
      obtain ⟨b, off, cap, rfl, hcap, c1⟩ := ints_at hv (hA.trans hw) (j + 1) hlt
      obtain ⟨b', off', cap', e, _, c2⟩ := ints_at hv (hA.trans hw) j (by omega)
      simp only [Value.slice.injEq, Option.some.injEq, Addr.mk.injEq] at e
      obtain ⟨⟨rfl, rfl, _⟩, _, rfl⟩ := e
      clear hv
      have ej : ((j + 1 : Nat) : Int) - 1 = (j : Int) := by omega
      by_cases h1 : xs[j] < xs[j + 1]
      · go_wp2
        go_quiet (fail)
        go_wp2
        go_roundw
        case rel => exact ⟨j + 1 + 1, ⟨by omega, .inl (by omega)⟩, by go_num, fun i hi hik => by
            by_cases hij : i = j
            · subst hij; exact h1
            · exact Ht.out i hi (by omega), ⟨hw.os, hw.tape, hw.output, hw.size, hw.block⟩⟩
        case measure => simp [intOf]; omega
      · go_wp2
        go_quiet (fail)
        go_wp2
        go_ret
        exact ⟨ret_bool (ascB_false hlt (by omega)).symm, ⟨hw.os, hw.tape, hw.output, hw.size, hw.block⟩⟩
    · obtain ⟨ao, cap, rfl⟩ := sliceR_shape hv
      go_wp2_with fail
      go_ret
      exact ⟨ret_bool ((ascB_iff xs).2 fun i hi => Ht.out i hi (by omega)).symm, hw⟩
theorem IsStrictlyAscending_impl {w wA : World} {v : Value} {xs : List Int} (hv : rIntS.rd wA [v] xs) (hA : Ext wA w) :
    Calls Try.prog 89 #[v] w fun e w' => e = .returned (.bool (ascB xs)) ∧ Ext w w' := by
  have hl := rd_len_le hv
  go_enter Try.func89, Try.ntmps89
  go_wp2_with fail
  go_loopw [3] (fun i wr => ∃ k : Nat, (1 ≤ k ∧ (k ≤ xs.length ∨ k = 1)) ∧ i = .int .i64 k ∧ Hid (∀ j (h : j + 1 < xs.length), j + 1 < k → xs[j] < xs[j + 1]) ∧ Ext w wr) (fun i _ => xs.length + 1 - (intOf i).toNat)
  case atStart => exact ⟨1, ⟨by omega, .inr rfl⟩, rfl, fun j _ h => by omega, Ext.refl _⟩
  case round =>
    obtain ⟨k, ⟨hk1, hk⟩, rfl, Ht, hw⟩ := hrel
    by_cases hlt : k < xs.length
    · obtain ⟨j, rfl⟩ : ∃ j, k = j + 1 := ⟨k - 1, by omega⟩
      obtain ⟨b, off, cap, rfl, hcap, c1⟩ := ints_at hv (hA.trans hw) (j + 1) hlt
      obtain ⟨b', off', cap', e, _, c2⟩ := ints_at hv (hA.trans hw) j (by omega)
      simp only [Value.slice.injEq, Option.some.injEq, Addr.mk.injEq] at e
      obtain ⟨⟨rfl, rfl, _⟩, _, rfl⟩ := e
      clear hv
      by_cases h1 : xs[j] < xs[j + 1]
      · go_wp2
        go_quiet (fail)
        go_wp2
        go_roundw
        case rel => exact ⟨j + 1 + 1, ⟨by omega, .inl (by omega)⟩, by go_num, fun i hi hik => by
            by_cases hij : i = j
            · subst hij; exact h1
            · exact Ht.out i hi (by omega), ⟨hw.os, hw.tape, hw.output, hw.size, hw.block⟩⟩
        case measure => simp [intOf]; omega
      · go_wp2
        go_quiet (fail)
        go_wp2
        go_ret
        exact ⟨ret_bool (ascB_false hlt (by omega)).symm, ⟨hw.os, hw.tape, hw.output, hw.size, hw.block⟩⟩
    · obtain ⟨ao, cap, rfl⟩ := sliceR_shape hv
      go_wp2_with fail
      go_ret
      exact ⟨ret_bool ((ascB_iff xs).2 fun i hi => Ht.out i hi (by omega)).symm, hw⟩

theorem indexOf_impl {w wA : World} {v : Value} {xs : List Int} (hv : rIntS.rd wA [v] xs) (hA : Ext wA w) (x : Int) :
    Calls Try.prog 99 #[v, .int .i64 x] w fun e w' => e = .returned (.int .i64 (findI xs x)) ∧ w = w' := by
  have hl := rd_len_le hv
  go_enter Try.func99, Try.ntmps99
  go_wp2_with (refine wpl_len rfl rfl rfl hv ?_)
  go_loop [9] (fun i => ∃ k : Nat, k ≤ xs.length ∧ i = .int .i64 k ∧ Hid (∀ j (h : j < xs.length), j < k → xs[j] ≠ x)) (fun i => xs.length - (intOf i).toNat)
  case atStart => exact ⟨0, Nat.zero_le _, rfl, fun j _ h => by omega⟩
  case round =>
    obtain ⟨k, hk, rfl, Ht⟩ := hrel
    by_cases hlt : k < xs.length
    · obtain ⟨b, off, cap, rfl, hcap, c1⟩ := ints_at hv hA k hlt
      clear hv
      by_cases h1 : xs[k] = x
      · have hb : (xs[k] == x) = true := by simp [h1]
        have H1 := Lib.hid h1
        clear h1
        go_wp2
        go_ret
        exact ⟨ret_int (by have := findFrom_at (s := 0) hlt (fun i hi => Ht.out i (by omega) hi) H1.out; unfold findI; omega), rfl⟩
      · have hb : (xs[k] == x) = false := by simp [h1]
        go_wp2
        go_round
        case rel => exact ⟨k + 1, by omega, by go_num, fun j hj hjk => by
            by_cases e : j = k
            · subst e; exact h1
            · exact Ht.out j hj (by omega)⟩
        case measure => simp [intOf]; omega
    · go_wp2_with fail
      go_ret
      exact ⟨ret_int (by unfold findI; rw [findFrom_none (fun i hi => Ht.out i hi (by omega))]), rfl⟩
theorem l7Find_spec {w wA : World} {v : Value} {xs : List Int} (hv : rIntS.rd wA [v] xs) (hA : Ext wA w) (x : Int) :
    Calls Try.prog 86 #[v, .int .i64 x] w fun e w' => e = .returned (.int .i64 (findI xs x)) ∧ w = w' := by
  have hl := rd_len_le hv
  go_enter Try.func86, Try.ntmps86
  go_wp2_with fail
  go_loop [5] (fun i => ∃ k : Nat, k ≤ xs.length ∧ i = .int .i64 k ∧ Hid (∀ j (h : j < xs.length), j < k → xs[j] ≠ x)) (fun i => xs.length - (intOf i).toNat)
  case atStart => exact ⟨0, Nat.zero_le _, rfl, fun j _ h => by omega⟩
  case round =>
    obtain ⟨k, hk, rfl, Ht⟩ := hrel
    by_cases hlt : k < xs.length
    · obtain ⟨b, off, cap, rfl, hcap, c1⟩ := ints_at hv hA k hlt
      clear hv
      by_cases h1 : xs[k] = x
      · have hb : (xs[k] == x) = true := by simp [h1]
        have H1 := Lib.hid h1
        clear h1
        go_wp2
        go_ret
        exact ⟨ret_int (by have := findFrom_at (s := 0) hlt (fun i hi => Ht.out i (by omega) hi) H1.out; unfold findI; omega), rfl⟩
      · have hb : (xs[k] == x) = false := by simp [h1]
        go_wp2
        go_round
        case rel => exact ⟨k + 1, by omega, by go_num, fun j hj hjk => by
            by_cases e : j = k
            · subst e; exact h1
            · exact Ht.out j hj (by omega)⟩
        case measure => simp [intOf]; omega
    · obtain ⟨ao, cap, rfl⟩ := sliceR_shape hv
      go_wp2_with fail
      go_ret
      exact ⟨ret_int (by unfold findI; rw [findFrom_none (fun i hi => Ht.out i hi (by omega))]), rfl⟩
theorem hasInt_impl {w wA : World} {v : Value} {xs : List Int} (hv : rIntS.rd wA [v] xs) (hA : Ext wA w) (x : Int) :
    Calls Try.prog 96 #[v, .int .i64 x] w fun e w' => e = .returned (.bool (decide (x ∈ xs))) ∧ w = w' := by
  go_enter Try.func96, Try.ntmps96
  go_wp2_with (go_at_call 99; refine (indexOf_impl hv hA _).mono ?_; rintro e w' ⟨rfl, rfl⟩)
  go_ret
  exact ⟨ret_bool (by rw [decide_eq_decide]; exact findI_mem), rfl⟩

theorem isSetOf_impl {w wA : World} {v : Value} {xs : List Int} (hv : rIntS.rd wA [v] xs) (hA : Ext wA w) (n : Int) (hn0 : 0 ≤ n) (hn : n ≤ 9223372036854775807) :
    Calls Try.prog 87 #[v, .int .i64 n] w fun e w' => e = .returned (.bool (setOfB xs n)) ∧ w = w' := by
  have hl := rd_len_le hv
  go_enter Try.func87, Try.ntmps87
  go_wp2_with (refine wpl_len rfl rfl rfl hv ?_)
  go_loop [9] (fun i => ∃ k : Nat, k ≤ xs.length ∧ i = .int .i64 k ∧ Hid (allUpto k (fun i => inR (xs.getD i 0) 0 (n - 1) && !decide (xs.getD i 0 ∈ xs.take i)) = true)) (fun i => xs.length - (intOf i).toNat)
  case atStart => exact ⟨0, Nat.zero_le _, rfl, rfl⟩
  case round =>
    obtain ⟨k, hk, rfl, Ht⟩ := hrel
    by_cases hlt : k < xs.length
    · obtain ⟨b, off, cap, e, hcap, c1⟩ := ints_at hv hA k hlt
      have hg : xs.getD k 0 = xs[k] := by simp [List.getD, hlt]
      have hv2 := hv
      rw [e] at hv2
      subst e
      clear hv
      have hv3 : rIntS.rd wA [.slice (some ⟨b, off, none⟩) k cap] (xs.take k) := rd_take hv2 k (by omega)
      cases hb : inR xs[k] 0 (n - 1)
      · have Hb := Lib.hid hb
        have Hg := Lib.hid hg
        clear hb hg
        go_wp2_with (go_at_call 64; refine (within_any _ _ _ _).mono ?_; rintro e w' ⟨rfl, rfl⟩; rw [Hb.out])
        go_ret
        exact ⟨ret_bool (by unfold setOfB; rw [allUpto_false hlt (by rw [Hg.out, Hb.out]; rfl)]), rfl⟩
      · cases hm : decide (xs[k] ∈ xs.take k)
        all_goals
          have Hb := Lib.hid hb
          have Hm := Lib.hid hm
          have Hg := Lib.hid hg
          clear hb hm hg
          go_wp2_with (first
            | (go_at_call 64; refine (within_any _ _ _ _).mono ?_; rintro e w' ⟨rfl, rfl⟩; rw [Hb.out])
            | (go_at_call 96; refine (hasInt_impl (xs := xs.take k) hv3 hA _).mono ?_; rintro e w' ⟨rfl, rfl⟩; rw [Hm.out]))
        · go_round
          case rel => exact ⟨k + 1, by omega, by go_num, allUpto_succ Ht.out (by rw [Hg.out, Hb.out, Hm.out]; rfl)⟩
          case measure => simp [intOf]; omega
        · go_ret
          exact ⟨ret_bool (by unfold setOfB; rw [allUpto_false hlt (by rw [Hg.out, Hb.out, Hm.out]; rfl)]), rfl⟩
    · go_wp2_with fail
      go_ret
      obtain rfl : k = xs.length := by omega
      exact ⟨ret_bool (by unfold setOfB; rw [Ht.out]), rfl⟩
theorem IsPermutation_impl {w wA : World} {v : Value} {xs : List Int} (hv : rIntS.rd wA [v] xs) (hA : Ext wA w) :
    Calls Try.prog 63 #[v] w fun e w' => e = .returned (.bool (permB xs)) ∧ w = w' := by
  have hl := rd_len_le hv
  have hv2 := hv
  obtain ⟨ao, cap, rfl⟩ := sliceR_shape hv
  clear hv
  by_cases h5 : xs.length ≤ 5
  all_goals
    go_enter Try.func63, Try.ntmps63
    go_wp2_with (first | (go_at_call 87; refine (isSetOf_impl hv2 hA _ (by omega) (by omega)).mono ?_; rintro e w' ⟨rfl, rfl⟩))
    go_ret
    exact ⟨ret_bool (by unfold permB; simp [h5]), rfl⟩

set_option maxHeartbeats 1000000 in
theorem IsPermutation_spec {w wA : World} {v : Value} {xs : List Int} (hv : rIntS.rd wA [v] xs) (hA : Ext wA w) :
    Calls Try.prog 59 #[v] w fun e w' => e = .returned (.bool (permB xs)) ∧ Ext w w' := by
  have hl := rd_len_le hv
  go_enter Try.func59, Try.ntmps59
  go_wp2_with fail
  go_loopw [3] (fun i wr => ∃ k : Nat, k ≤ xs.length ∧ i = .int .i64 k ∧ Hid (allUpto k (fun i => inR (xs.getD i 0) 0 (xs.length - 1) && !decide (xs.getD i 0 ∈ xs.take i)) = true) ∧ Ext w wr) (fun i _ => xs.length - (intOf i).toNat)
  case atStart => exact ⟨0, Nat.zero_le _, rfl, rfl, Ext.refl _⟩
  case round =>
    obtain ⟨k, hk, rfl, Ht, hw⟩ := hrel
    by_cases hlt : k < xs.length
    · obtain ⟨b, off, cap, e, hcap, c1⟩ := ints_at hv (hA.trans hw) k hlt
      have hg : xs.getD k 0 = xs[k] := by simp [List.getD, hlt]
      have hv2 := hv
      rw [e] at hv2
      subst e
      clear hv
      have hv3 : rIntS.rd wA [.slice (some ⟨b, off, none⟩) k cap] (xs.take k) := rd_take hv2 k (by omega)
      have hE : ∀ n, Ext wA (wr.drewN n) := fun n => hA.trans ⟨hw.os, hw.tape, hw.output, hw.size, hw.block⟩
      have hM := (findI_mem (l := xs.take k) (x := xs[k]))
      have hB := findI_bd (xs.take k) xs[k]
      have hT : (xs.take k).length = k := by simp; omega
      rw [hT] at hB
      clear hT
      generalize hf : findI (xs.take k) xs[k] = fi at hM hB
      cases hb : inR xs[k] 0 (xs.length - 1) <;> by_cases hfi : 0 ≤ fi
      all_goals
        have hm : decide (xs[k] ∈ xs.take k) = decide (0 ≤ fi) := by rw [decide_eq_decide]; exact hM.symm
        have hd : decide (0 ≤ fi) = decide (0 ≤ fi) := rfl
        conv at hd => rhs; simp only [hfi, decide_true, decide_false]
        have Hm := Lib.hid (hm.trans hd)
        have Hb := Lib.hid hb
        have Hg := Lib.hid hg
        have Hf := Lib.hid hf
        clear hb hg hf hm hd hM
        go_wp2_with fail
        go_quiet (go_must (first | (go_at_call 86; first | exact quiet_pure2 (Hf.out ▸ l7Find_spec hv3 (hE _) _) | exact quiet_pure (Hf.out ▸ l7Find_spec hv3 (hE _) _)) | (go_at_call 62; first | exact quiet_pure2 (Hb.out ▸ l1In_any _ _ _ _) | exact quiet_pure (Hb.out ▸ l1In_any _ _ _ _))))
        go_wp2
      · go_ret
        exact ⟨ret_bool (by unfold permB setOfB; rw [allUpto_false hlt (by rw [Hg.out, Hb.out]; rfl), Bool.and_false]), ⟨hw.os, hw.tape, hw.output, hw.size, hw.block⟩⟩
      · go_ret
        exact ⟨ret_bool (by unfold permB setOfB; rw [allUpto_false hlt (by rw [Hg.out, Hb.out]; rfl), Bool.and_false]), ⟨hw.os, hw.tape, hw.output, hw.size, hw.block⟩⟩
      · go_ret
        exact ⟨ret_bool (by unfold permB setOfB; rw [allUpto_false hlt (by rw [Hg.out, Hb.out, Hm.out]; rfl), Bool.and_false]), ⟨hw.os, hw.tape, hw.output, hw.size, hw.block⟩⟩
      · go_roundw
        case rel => exact ⟨k + 1, by omega, by go_num, allUpto_succ Ht.out (by rw [Hg.out, Hb.out, Hm.out]; rfl), ⟨hw.os, hw.tape, hw.output, hw.size, hw.block⟩⟩
        case measure => simp [intOf]; omega
    · obtain ⟨ao, cap, rfl⟩ := sliceR_shape hv
      go_wp2_with fail
      go_ret
      obtain rfl : k = xs.length := by omega
      exact ⟨ret_bool (by unfold permB setOfB; rw [Ht.out, Bool.and_true, decide_eq_decide]; omega), hw⟩
end Go.Proofs.Ytobjjdfgnaanjaa
