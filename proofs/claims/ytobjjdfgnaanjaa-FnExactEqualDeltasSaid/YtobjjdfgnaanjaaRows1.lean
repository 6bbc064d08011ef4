/- Rows and lists of integers: comparing, finding, validity. -/
import Derived.Test.YtobjjdfgnaanjaaHelpA
import Derived.Test.YtobjjdfgnaanjaaNum
import Derived.Deep.DeepMust
namespace Go.Proofs.Ytobjjdfgnaanjaa
open Go.RowKit

/-! ### plain facts -/
def cmpI (a b : Int) : Int := if a < b then -1 else if b < a then 1 else 0
theorem cmpI_lt {a b : Int} (h : a < b) : cmpI a b = -1 := by unfold cmpI; rw [if_pos h]
theorem cmpI_gt {a b : Int} (h : b < a) : cmpI a b = 1 := by unfold cmpI; rw [if_neg (by omega), if_pos h]
theorem cmpI_eq {a b : Int} (h : a = b) : cmpI a b = 0 := by unfold cmpI; rw [if_neg (by omega), if_neg (by omega)]
def cmpR : List Int → List Int → Int
  | [], [] => 0
  | [], _ :: _ => -1
  | _ :: _, [] => 1
  | a :: l, b :: m => if a < b then -1 else if b < a then 1 else cmpR l m
theorem cmpR_take : ∀ (k : Nat) {xs ys : List Int}, k ≤ xs.length → k ≤ ys.length → xs.take k = ys.take k → cmpR xs ys = cmpR (xs.drop k) (ys.drop k)
  | 0, _, _, _, _, _ => rfl
  | k + 1, [], _, h, _, _ => by simp at h
  | k + 1, _ :: _, [], _, h, _ => by simp at h
  | k + 1, a :: l, b :: m, h1, h2, h => by
    simp only [List.take_succ_cons, List.cons.injEq] at h
    obtain ⟨rfl, h⟩ := h
    have ih := cmpR_take k (xs := l) (ys := m) (by simpa using h1) (by simpa using h2) h
    simp only [cmpR, List.drop_succ_cons, Int.lt_irrefl, if_false]
    exact ih
theorem cmpR_at {xs ys : List Int} {k : Nat} (h1 : k < xs.length) (h2 : k < ys.length) (h : xs.take k = ys.take k) (hne : xs[k] ≠ ys[k]) : cmpR xs ys = cmpI xs[k] ys[k] := by
  rw [cmpR_take k (by omega) (by omega) h, List.drop_eq_getElem_cons h1, List.drop_eq_getElem_cons h2]
  simp only [cmpR, cmpI]
  split
  · rfl
  · split
    · rfl
    · exfalso; omega
theorem cmpR_end {xs ys : List Int} {k : Nat} (h1 : k ≤ xs.length) (h2 : k ≤ ys.length) (h : xs.take k = ys.take k) (he : k = xs.length ∨ k = ys.length) : cmpR xs ys = cmpI xs.length ys.length := by
  rw [cmpR_take k h1 h2 h]
  rcases he with rfl | rfl
  · rw [List.drop_length]
    cases hd : ys.drop xs.length with
    | nil =>
      have : ys.length ≤ xs.length := by simpa using hd
      simp only [cmpR, cmpI]; rw [if_neg (by omega), if_neg (by omega)]
    | cons y l =>
      have : xs.length < ys.length := by
        rcases Nat.lt_or_ge xs.length ys.length with h | h
        · exact h
        · rw [List.drop_of_length_le h] at hd; cases hd
      simp only [cmpR, cmpI]; rw [if_pos (by omega)]
  · rw [List.drop_length]
    cases hd : xs.drop ys.length with
    | nil =>
      have : xs.length ≤ ys.length := by simpa using hd
      simp only [cmpR, cmpI]; rw [if_neg (by omega), if_neg (by omega)]
    | cons y l =>
      have : ys.length < xs.length := by
        rcases Nat.lt_or_ge ys.length xs.length with h | h
        · exact h
        · rw [List.drop_of_length_le h] at hd; cases hd
      simp only [cmpR, cmpI]; rw [if_neg (by omega), if_pos (by omega)]
theorem cmpR_zero : ∀ {xs ys : List Int}, cmpR xs ys = 0 ↔ xs = ys
  | [], [] => by simp [cmpR]
  | [], _ :: _ => by simp [cmpR]
  | _ :: _, [] => by simp [cmpR]
  | a :: l, b :: m => by
    have ih := @cmpR_zero l m
    simp only [cmpR, List.cons.injEq]
    split
    · constructor
      · intro h; omega
      · rintro ⟨rfl, _⟩; omega
    · split
      · constructor
        · intro h; omega
        · rintro ⟨rfl, _⟩; omega
      · rw [ih]
        constructor
        · intro h; exact ⟨by omega, h⟩
        · exact fun h => h.2
theorem cmpR_bd : ∀ (xs ys : List Int), -1 ≤ cmpR xs ys ∧ cmpR xs ys ≤ 1
  | [], [] => by simp [cmpR]
  | [], _ :: _ => by simp [cmpR]
  | _ :: _, [] => by simp [cmpR]
  | a :: l, b :: m => by
    have ih := cmpR_bd l m
    simp only [cmpR]
    split
    · omega
    · split <;> omega

def validVals (l : List Int) : Bool := l.all fun v => inR v 0 99
theorem all_take_succ {α : Type} {p : α → Bool} {l : List α} {k : Nat} (hk : k < l.length) (h : (l.take k).all p = true) (h2 : p l[k] = true) : (l.take (k + 1)).all p = true := by
  rw [List.take_succ_eq_append_getElem hk, List.all_append, h]; simp [h2]
theorem all_false_at {α : Type} {p : α → Bool} {l : List α} {k : Nat} (hk : k < l.length) (h2 : p l[k] = false) : l.all p = false := by
  rw [List.all_eq_false]; exact ⟨l[k], List.getElem_mem hk, by simp [h2]⟩
def ascB : List Int → Bool
  | a :: b :: l => decide (a < b) && ascB (b :: l)
  | _ => true
theorem ascB_iff : ∀ (l : List Int), ascB l = true ↔ ∀ i (h : i + 1 < l.length), l[i] < l[i + 1]
  | [] => by simp [ascB]
  | [a] => by simp [ascB]
  | a :: b :: l => by
    have ih := ascB_iff (b :: l)
    simp only [ascB, Bool.and_eq_true, decide_eq_true_eq, ih]
    constructor
    · rintro ⟨h1, h2⟩ i h
      cases i with
      | zero => exact h1
      | succ i => exact h2 i (by simpa using h)
    · intro h
      exact ⟨h 0 (by simp), fun i hi => h (i + 1) (by simpa using hi)⟩
theorem ascB_false {l : List Int} {k : Nat} (h1 : k + 1 < l.length) (h : ¬ l[k] < l[k + 1]) : ascB l = false := by
  rw [Bool.eq_false_iff]; intro e; exact h ((ascB_iff l).1 e k h1)
def findFrom : List Int → Int → Int → Int
  | [], _, _ => -1
  | a :: l, x, s => if a = x then s else findFrom l x (s + 1)
def findI (l : List Int) (x : Int) : Int := findFrom l x 0
theorem findFrom_at : ∀ {l : List Int} {x s : Int} {k : Nat} (hk : k < l.length), (∀ i (h : i < k), l[i]'(by omega) ≠ x) → l[k] = x → findFrom l x s = s + k
  | [], _, _, _, hk, _, _ => by simp at hk
  | a :: l, x, s, 0, _, _, h => by simp only [List.getElem_cons_zero] at h; simp [findFrom, h]
  | a :: l, x, s, k + 1, hk, hn, h => by
    have h0 : a ≠ x := hn 0 (by omega)
    simp only [findFrom, h0, if_false]
    rw [findFrom_at (l := l) (k := k) (by simpa using hk) (fun i hi => hn (i + 1) (by omega)) (by simpa using h)]
    omega
theorem findFrom_none : ∀ {l : List Int} {x s : Int}, (∀ i (h : i < l.length), l[i] ≠ x) → findFrom l x s = -1
  | [], _, _, _ => rfl
  | a :: l, x, s, hn => by
    have h0 : a ≠ x := hn 0 (by simp)
    simp only [findFrom, h0, if_false]
    exact findFrom_none (fun i hi => hn (i + 1) (by simpa using hi))
theorem findFrom_mem : ∀ {l : List Int} {x s : Int}, 0 ≤ s → (0 ≤ findFrom l x s ↔ x ∈ l)
  | [], _, _, _ => by simp [findFrom]
  | a :: l, x, s, hs => by
    simp only [findFrom, List.mem_cons]
    split
    · rename_i h; subst h; simp [hs]
    · rename_i h
      rw [findFrom_mem (by omega)]
      constructor
      · exact fun h => .inr h
      · rintro (rfl | h')
        · exact absurd rfl h
        · exact h'
theorem findI_mem {l : List Int} {x : Int} : 0 ≤ findI l x ↔ x ∈ l := findFrom_mem (Int.le_refl _)
theorem findFrom_bd : ∀ {l : List Int} {x s : Int}, 0 ≤ s → -1 ≤ findFrom l x s ∧ findFrom l x s < s + l.length ∨ findFrom l x s = -1
  | [], _, _, _ => .inr rfl
  | a :: l, x, s, hs => by
    simp only [findFrom]
    split
    · left; simp; omega
    · rcases findFrom_bd (l := l) (x := x) (s := s + 1) (by omega) with h | h
      · left; simp; omega
      · exact .inr h
theorem findI_bd (l : List Int) (x : Int) : -1 ≤ findI l x ∧ findI l x < l.length := by
  rcases findFrom_bd (l := l) (x := x) (s := 0) (Int.le_refl _) with h | h
  · unfold findI; omega
  · unfold findI; omega
/-- for every place below n -/
def allUpto (n : Nat) (p : Nat → Bool) : Bool := (List.range n).all p
theorem allUpto_succ {n : Nat} {p : Nat → Bool} (h : allUpto n p = true) (h2 : p n = true) : allUpto (n + 1) p = true := by
  unfold allUpto at *; rw [List.range_succ, List.all_append, h]; simp [h2]
theorem allUpto_false {n k : Nat} {p : Nat → Bool} (hk : k < n) (h : p k = false) : allUpto n p = false := by
  unfold allUpto; rw [List.all_eq_false]; exact ⟨k, by simpa using hk, by simp [h]⟩
theorem allUpto_iff {n : Nat} {p : Nat → Bool} : allUpto n p = true ↔ ∀ i, i < n → p i = true := by
  unfold allUpto; simp [List.all_eq_true]
def setOfB (l : List Int) (n : Int) : Bool := allUpto l.length fun i => inR (l.getD i 0) 0 (n - 1) && !decide (l.getD i 0 ∈ l.take i)
def permB (l : List Int) : Bool := decide (l.length ≤ 5) && setOfB l l.length

theorem quiet_pure {P : Program} {f : FuncId} {args : Array Value} {w : World} {n : Nat} {v : Value} (h : Calls P f args (w.drewN n) fun e w' => e = .returned v ∧ w.drewN n = w') :
    Calls P f args (w.drewN n) fun e w'' => e = .returned v ∧ ∃ m, w'' = w.drewN m := h.mono fun _ _ ⟨he, hm⟩ => ⟨he, n, hm.symm⟩
theorem quiet_pure2 {P : Program} {f : FuncId} {args : Array Value} {w : World} {a n : Nat} {v : Value} (h : Calls P f args (w.drewN (a + n)) fun e w' => e = .returned v ∧ w.drewN (a + n) = w') :
    Calls P f args (w.drewN (a + n)) fun e w'' => e = .returned v ∧ ∃ m, w'' = w.drewN (a + m) := h.mono fun _ _ ⟨he, hm⟩ => ⟨he, n, hm.symm⟩
theorem ext_drewN (w : World) (n : Nat) : Ext w (w.drewN n) := ⟨rfl, rfl, rfl, Nat.le_refl _, fun _ _ => rfl⟩
/-- it only drew -/
def Drw (w w' : World) : Prop := ∃ n, w' = w.drewN n
theorem Drw.refl (w : World) : Drw w w := ⟨0, rfl⟩
theorem Drw.at (w : World) (n : Nat) : Drw w (w.drewN n) := ⟨n, rfl⟩
theorem Drw.ext {w w' : World} (h : Drw w w') : Ext w w' := by obtain ⟨n, rfl⟩ := h; exact ext_drewN w n
theorem Drw.more {a b c : World} (h : Drw a b) (k : Drw b c) : Drw a c := by obtain ⟨n, rfl⟩ := h; obtain ⟨m, rfl⟩ := k; exact ⟨n + m, (World.drewN_drewN _ _ _)⟩
theorem quiet_drw {P : Program} {f : FuncId} {args : Array Value} {w : World} {n : Nat} {v : Value} (h : Calls P f args (w.drewN n) fun e w' => e = .returned v ∧ Drw (w.drewN n) w') :
    Calls P f args (w.drewN n) fun e w'' => e = .returned v ∧ ∃ m, w'' = w.drewN m := h.mono fun _ _ ⟨he, m, hm⟩ => ⟨he, n + m, by rw [hm, World.drewN_drewN]⟩
theorem quiet_drw2 {P : Program} {f : FuncId} {args : Array Value} {w : World} {a n : Nat} {v : Value} (h : Calls P f args (w.drewN (a + n)) fun e w' => e = .returned v ∧ Drw (w.drewN (a + n)) w') :
    Calls P f args (w.drewN (a + n)) fun e w'' => e = .returned v ∧ ∃ m, w'' = w.drewN (a + m) := h.mono fun _ _ ⟨he, m, hm⟩ => ⟨he, n + m, by rw [hm, World.drewN_drewN, Nat.add_assoc]⟩
/-! ### walks -/
theorem compareInts_impl (a b : Int) (w : World) : Calls Try.prog 100 #[.int .i64 a, .int .i64 b] w fun e w' => e = .returned (.int .i64 (cmpI a b)) ∧ w = w' := by
  by_cases h1 : a < b <;> by_cases h2 : b < a
  all_goals
    go_enter Try.func100, Try.ntmps100
    go_wp2
    all_goals
      go_ret
      exact ⟨ret_int (by first | rw [cmpI_lt (by omega)] | rw [cmpI_gt (by omega)] | rw [cmpI_eq (by omega)]), rfl⟩

set_option maxHeartbeats 1000000 in
theorem CompareRows_specD {w wA wB : World} {v u : Value} {xs ys : List Int} (hv : rIntS.rd wA [v] xs) (hu : rIntS.rd wB [u] ys) (hA : Ext wA w) (hB : Ext wB w) :
    Calls Try.prog 46 #[v, u] w fun e w' => e = .returned (.int .i64 (cmpR xs ys)) ∧ Drw w w' := by
  have hl := rd_len_le hv
  have hl2 := rd_len_le hu
  go_enter Try.func46, Try.ntmps46
  go_wp2_with fail
  go_loopw [5] (fun i wr => ∃ k : Nat, (k ≤ xs.length ∧ k ≤ ys.length) ∧ i = .int .i64 k ∧ xs.take k = ys.take k ∧ Drw w wr) (fun i _ => xs.length - (intOf i).toNat)
  case atStart => exact ⟨0, ⟨Nat.zero_le _, Nat.zero_le _⟩, rfl, rfl, Drw.refl _⟩
  case round =>
    obtain ⟨k, ⟨hk1, hk2⟩, rfl, ht, hw⟩ := hrel
    have Ht := Lib.hid ht
    clear ht
    by_cases hlt : k < xs.length
    · by_cases hlt2 : k < ys.length
      · obtain ⟨b, off, cap, rfl, hcap, c1⟩ := ints_at hv (hA.trans (hw.ext)) k hlt
        obtain ⟨b2, off2, cap2, rfl, hcap2, c2⟩ := ints_at hu (hB.trans (hw.ext)) k hlt2
        clear hv hu
        by_cases h1 : xs[k] < ys[k]
        · go_wp2
          go_quiet (fail)
          go_wp2
          go_ret
          exact ⟨ret_int (by rw [cmpR_at hlt hlt2 Ht.out (by omega)]; rw [cmpI_lt (by omega)]), (by first | exact hw.more (Drw.at _ _) | exact (hw.more (Drw.at _ _)).more (Drw.at _ _))⟩
        · by_cases h2 : ys[k] < xs[k]
          · go_wp2
            go_quiet (fail)
            go_wp2
            go_quiet (fail)
            go_wp2
            go_ret
            exact ⟨ret_int (by rw [cmpR_at hlt hlt2 Ht.out (by omega)]; rw [cmpI_gt (by omega)]), (by first | exact hw.more (Drw.at _ _) | exact (hw.more (Drw.at _ _)).more (Drw.at _ _))⟩
          · go_wp2
            go_quiet (fail)
            go_wp2
            go_quiet (fail)
            go_wp2
            go_roundw
            case rel => exact ⟨k + 1, ⟨by omega, by omega⟩, by go_num, take_eq_succ hlt hlt2 Ht.out (by omega), (by first | exact hw.more (Drw.at _ _) | exact (hw.more (Drw.at _ _)).more (Drw.at _ _))⟩
            case measure => simp [intOf]; omega
      · obtain ⟨ao, cap, rfl⟩ := sliceR_shape hv
        obtain ⟨ao2, cap2, rfl⟩ := sliceR_shape hu
        go_wp2_with (first | fail)
        all_goals
          go_ret
          exact ⟨ret_int (by rw [cmpR_end hk1 hk2 Ht.out (by omega)]; first | rw [cmpI_lt (by omega)] | rw [cmpI_gt (by omega)] | rw [cmpI_eq (by omega)]), hw⟩
    · obtain ⟨ao, cap, rfl⟩ := sliceR_shape hv
      obtain ⟨ao2, cap2, rfl⟩ := sliceR_shape hu
      go_wp2_with (first | fail)
      all_goals
        go_ret
        exact ⟨ret_int (by rw [cmpR_end hk1 hk2 Ht.out (by omega)]; first | rw [cmpI_lt (by omega)] | rw [cmpI_gt (by omega)] | rw [cmpI_eq (by omega)]), hw⟩

set_option maxHeartbeats 1000000 in
theorem CompareRows_implD {w wA wB : World} {v u : Value} {xs ys : List Int} (hv : rIntS.rd wA [v] xs) (hu : rIntS.rd wB [u] ys) (hA : Ext wA w) (hB : Ext wB w) :
    Calls Try.prog 97 #[v, u] w fun e w' => e = .returned (.int .i64 (cmpR xs ys)) ∧ Drw w w' := by
  have hl := rd_len_le hv
  have hl2 := rd_len_le hu
  go_enter Try.func97, Try.ntmps97
  go_wp2_with fail
  go_loopw [5] (fun i wr => ∃ k : Nat, (k ≤ xs.length ∧ k ≤ ys.length) ∧ i = .int .i64 k ∧ xs.take k = ys.take k ∧ Drw w wr) (fun i _ => xs.length - (intOf i).toNat)
  case atStart => exact ⟨0, ⟨Nat.zero_le _, Nat.zero_le _⟩, rfl, rfl, Drw.refl _⟩
  case round =>
    obtain ⟨k, ⟨hk1, hk2⟩, rfl, ht, hw⟩ := hrel
    have Ht := Lib.hid ht
    clear ht
    by_cases hlt : k < xs.length
    · by_cases hlt2 : k < ys.length
      · obtain ⟨b, off, cap, rfl, hcap, c1⟩ := ints_at hv (hA.trans (hw.ext)) k hlt
        obtain ⟨b2, off2, cap2, rfl, hcap2, c2⟩ := ints_at hu (hB.trans (hw.ext)) k hlt2
        clear hv hu
        by_cases h1 : xs[k] = ys[k]
        · have H1 := Lib.hid h1
          have hb : (xs[k] != ys[k]) = false := by simpa using h1
          clear h1
          go_wp2
          go_quiet (fail)
          go_wp2
          go_roundw
          case rel => exact ⟨k + 1, ⟨by omega, by omega⟩, by go_num, take_eq_succ hlt hlt2 Ht.out H1.out, (by first | exact hw.more (Drw.at _ _) | exact (hw.more (Drw.at _ _)).more (Drw.at _ _))⟩
          case measure => simp [intOf]; omega
        · have hb : (xs[k] != ys[k]) = true := by simpa using h1
          go_wp2
          go_quiet (fail)
          go_wp2
          go_quiet (go_must (go_at_call 100; first | exact quiet_pure2 (compareInts_impl _ _ _) | exact quiet_pure (compareInts_impl _ _ _)))
          go_wp2
          go_ret
          exact ⟨ret_int (by rw [cmpR_at hlt hlt2 Ht.out h1]), (by first | exact hw.more (Drw.at _ _) | exact (hw.more (Drw.at _ _)).more (Drw.at _ _))⟩
      · obtain ⟨ao, cap, rfl⟩ := sliceR_shape hv
        obtain ⟨ao2, cap2, rfl⟩ := sliceR_shape hu
        go_wp2_with (first | fail | (go_at_call 100; refine (compareInts_impl _ _ _).mono ?_; rintro e w' ⟨rfl, rfl⟩))
        all_goals
          go_ret
          exact ⟨ret_int (by rw [cmpR_end hk1 hk2 Ht.out (by omega)]), hw⟩
    · obtain ⟨ao, cap, rfl⟩ := sliceR_shape hv
      obtain ⟨ao2, cap2, rfl⟩ := sliceR_shape hu
      go_wp2_with (first | fail | (go_at_call 100; refine (compareInts_impl _ _ _).mono ?_; rintro e w' ⟨rfl, rfl⟩))
      all_goals
        go_ret
        exact ⟨ret_int (by rw [cmpR_end hk1 hk2 Ht.out (by omega)]), hw⟩

theorem CompareRows_spec {w wA wB : World} {v u : Value} {xs ys : List Int} (hv : rIntS.rd wA [v] xs) (hu : rIntS.rd wB [u] ys) (hA : Ext wA w) (hB : Ext wB w) :
    Calls Try.prog 46 #[v, u] w fun e w' => e = .returned (.int .i64 (cmpR xs ys)) ∧ Ext w w' := (CompareRows_specD hv hu hA hB).mono fun _ _ h => ⟨h.1, h.2.ext⟩
theorem CompareRows_impl {w wA wB : World} {v u : Value} {xs ys : List Int} (hv : rIntS.rd wA [v] xs) (hu : rIntS.rd wB [u] ys) (hA : Ext wA w) (hB : Ext wB w) :
    Calls Try.prog 97 #[v, u] w fun e w' => e = .returned (.int .i64 (cmpR xs ys)) ∧ Ext w w' := (CompareRows_implD hv hu hA hB).mono fun _ _ h => ⟨h.1, h.2.ext⟩
theorem AreValidValues_spec {w wA : World} {v : Value} {xs : List Int} (hv : rIntS.rd wA [v] xs) (hA : Ext wA w) :
    Calls Try.prog 61 #[v] w fun e w' => e = .returned (.bool (validVals xs)) ∧ w = w' := by
  have hl := rd_len_le hv
  go_enter Try.func61, Try.ntmps61
  go_wp2_with fail
  go_loop [3] (fun i => ∃ k : Nat, k ≤ xs.length ∧ i = .int .i64 k ∧ (xs.take k).all (fun v => inR v 0 99) = true) (fun i => xs.length - (intOf i).toNat)
  case atStart => exact ⟨0, Nat.zero_le _, rfl, rfl⟩
  case round =>
    obtain ⟨k, hk, rfl, ht⟩ := hrel
    have Ht := Lib.hid ht
    clear ht
    by_cases hlt : k < xs.length
    · obtain ⟨b, off, cap, rfl, hcap, c1⟩ := ints_at hv hA k hlt
      clear hv
      cases hb : inR xs[k] 0 99
      all_goals
        have Hb := Lib.hid hb
        clear hb
        go_wp2_with (go_at_call 62; refine (l1In_any _ _ _ _).mono ?_; rintro e w' ⟨rfl, rfl⟩; rw [Hb.out])
      · go_ret
        exact ⟨ret_bool (all_false_at hlt Hb.out).symm, rfl⟩
      · go_round
        case rel => exact ⟨k + 1, by omega, by go_num, all_take_succ hlt Ht.out Hb.out⟩
        case measure => simp [intOf]; omega
    · go_wp2_with (refine wpl_len rfl rfl rfl hv ?_)
      go_ret
      obtain rfl : k = xs.length := by omega
      exact ⟨ret_bool (by have := Ht.out; rw [List.take_of_length_le (Nat.le_refl _)] at this; exact this.symm), rfl⟩
theorem AreValidValues_impl {w wA : World} {v : Value} {xs : List Int} (hv : rIntS.rd wA [v] xs) (hA : Ext wA w) :
    Calls Try.prog 88 #[v] w fun e w' => e = .returned (.bool (validVals xs)) ∧ w = w' := by
  have hl := rd_len_le hv
  go_enter Try.func88, Try.ntmps88
  go_wp2_with (refine wpl_len rfl rfl rfl hv ?_)
  go_loop [7] (fun i => ∃ k : Nat, k ≤ xs.length ∧ i = .int .i64 k ∧ (xs.take k).all (fun v => inR v 0 99) = true) (fun i => xs.length - (intOf i).toNat)
  case atStart => exact ⟨0, Nat.zero_le _, rfl, rfl⟩
  case round =>
    obtain ⟨k, hk, rfl, ht⟩ := hrel
    have Ht := Lib.hid ht
    clear ht
    by_cases hlt : k < xs.length
    · obtain ⟨b, off, cap, rfl, hcap, c1⟩ := ints_at hv hA k hlt
      clear hv
      cases hb : inR xs[k] 0 99
      all_goals
        have Hb := Lib.hid hb
        clear hb
        go_wp2_with (go_at_call 64; refine (within_any _ _ _ _).mono ?_; rintro e w' ⟨rfl, rfl⟩; rw [Hb.out])
      · go_ret
        exact ⟨ret_bool (all_false_at hlt Hb.out).symm, rfl⟩
      · go_round
        case rel => exact ⟨k + 1, by omega, by go_num, all_take_succ hlt Ht.out Hb.out⟩
        case measure => simp [intOf]; omega
    · go_wp2_with fail
      go_ret
      obtain rfl : k = xs.length := by omega
      exact ⟨ret_bool (by have := Ht.out; rw [List.take_of_length_le (Nat.le_refl _)] at this; exact this.symm), rfl⟩
end Go.Proofs.Ytobjjdfgnaanjaa
