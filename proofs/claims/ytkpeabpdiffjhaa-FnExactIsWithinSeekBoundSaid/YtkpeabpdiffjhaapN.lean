/- Plain laws: names, databases, tables found by name; rows found in relations; validity of deltas; differences. -/
import Derived.Test.YtkpeabpdiffjhaapL
namespace Go.Proofs.Ytkpeabpdiffjhaa
open Go.RowKit

theorem loopFind {α R V : Type} (L : Nat → Int → Option (Sum R V)) (xs : List α) (q : α → Bool) (g : α → R) (v : V) (hl : xs.length < 1099511627776)
    (hstep : ∀ k i (h : i < xs.length), L (k + 1) (i : Int) = bif q xs[i] then some (.inl (g xs[i])) else L k ((i + 1 : Nat) : Int)) (hend : ∀ k, L (k + 1) (xs.length : Int) = some (.inr v)) :
    ∀ k i, i ≤ xs.length → xs.length - i < k → L k (i : Int) = some (match (xs.drop i).find? q with | some x => .inl (g x) | none => .inr v) := by
  intro k
  induction k with
  | zero => intro i h1 h2; omega
  | succ k ih =>
    intro i h1 h2
    by_cases h : i < xs.length
    · rw [hstep k i h, drop_cons h, List.find?_cons]
      cases hq : q xs[i]
      · rw [cond_false]; exact ih (i + 1) (by omega) (by omega)
      · rfl
    · obtain rfl : i = xs.length := by omega
      rw [hend, List.drop_length]; rfl
/-! ### names and databases -/
abbrev DTable := ByteArray × (Int × List (List Int))
abbrev okDb (ts : List DTable) : Prop := AllL (fun x => x.1.size ≤ 1048576 ∧ AllL (AllL (fun _ => True) 1048576) 1048576 x.2.2) 1048576 ts
def byteAt (s : ByteArray) (i : Nat) : Int := match s[i]? with | some b => (b.toNat : Int) | none => 0
theorem bx_nat {s : ByteArray} {i : Nat} (h : i < s.size) : bx s (i : Int) = some (byteAt s i) := by
  unfold bx byteAt
  rw [if_pos (by omega), Int.toNat_natCast, getElem?_pos s i h]; rfl
def letterAt (s : ByteArray) (i : Nat) : Bool := !decide (byteAt s i < 97) && !decide (122 < byteAt s i)
def nameOk (s : ByteArray) : Bool := inR s.size 1 4 && (List.range' 0 s.size).all (letterAt s)
def tabOk (ts : List DTable) (i : Nat) : Bool :=
  let t := ts.getD i (ByteArray.empty, 0, [])
  nameOk t.1 && (Nat.beq i 0 || ltS (ts.getD (i - 1) (ByteArray.empty, 0, [])).1 t.1) && validRows t.2.1 t.2.2 && !decide (t.2.1 < 1) && !decide (16 < (t.2.2.length : Int))
def dbOk (ts : List DTable) : Bool := decide ((ts.length : Int) ≤ 6) && (List.range' 0 ts.length).all (tabOk ts)
def lookV (ts : List DTable) (s : ByteArray) : (Int × List (List Int)) × Bool :=
  bif dbOk ts then (match ts.find? (fun t => decide (t.1 = s)) with | some t => (t.2, true) | none => ((0, []), false)) else ((0, []), false)
theorem getT_at {ts : List DTable} {i : Nat} (h : i < ts.length) : ts.getD i (ByteArray.empty, 0, []) = ts[i] := by simp [h]
theorem lookV_ok {ts : List DTable} (h : okDb ts) (s : ByteArray) : okII (lookV ts s).1.2 := by
  unfold lookV
  cases dbOk ts
  · exact ⟨by simp, by simp⟩
  · rw [cond_true]
    cases hf : ts.find? (fun t => decide (t.1 = s)) with
    | none => exact ⟨by simp, by simp⟩
    | some t => exact (h.2 t (List.mem_of_find?_eq_some hf)).2
section
variable {N : Nat}
theorem letL {L : Nat → Int → Option (Sum Bool Int)} {s : ByteArray} (hs : s.size ≤ 1048576) (hN : 1073741824 ≤ N)
    (hstep : ∀ k i, L (k + 1) i = (bif decide (i < (s.size : Int)) then (bx s i).bind fun a => (bif decide (a < 97) then some (.inl false) else (bx s i).bind fun b => (bif decide (122 < b) then some (.inl false) else (ad i 1).bind fun j => L k j)) else some (.inr i))) :
    L N 0 = some (bif (List.range' 0 s.size).all (letterAt s) then .inr (s.size : Int) else .inl false) := by
  have := loopA L s.size (by omega) false (letterAt s) (s.size : Int)
    (fun k i h => by
      rw [hstep, dlt h, cond_true, bx_nat h, bs, bs, ad1 (by omega), bs]
      unfold letterAt
      cases decide (byteAt s i < 97)
      · cases decide (122 < byteAt s i) <;> rfl
      · rfl)
    (fun k => by rw [hstep, dge (by omega), cond_false]) N 0 (by omega) (by omega)
  rw [Nat.sub_zero] at this
  exact this
theorem IsValidName_impl_eq (hN : 1073741824 ≤ N) {s : ByteArray} (hs : s.size ≤ 1048576) : impl_IsValidName N s = some (nameOk s) := by
  unfold impl_IsValidName impl_isLetters nameOk
  by_cases h1 : (s.size : Int) < 1
  · rw [decide_eq_true h1, show inR (s.size : Int) 1 4 = false by rw [← Bool.not_eq_true, inR_iff]; omega]; rfl
  by_cases h4 : (4 : Int) < s.size
  · rw [decide_eq_false h1, decide_eq_true h4, show inR (s.size : Int) 1 4 = false by rw [← Bool.not_eq_true, inR_iff]; omega]; rfl
  rw [decide_eq_false h1, decide_eq_false h4, show inR (s.size : Int) 1 4 = true by rw [inR_iff]; omega, cond_false, cond_false, letL (L := fun k i => impl_isLetters_L1 N k s i) hs hN (fun k i => by
    show impl_isLetters_L1 N (k + 1) s i = _
    rw [impl_isLetters_L1]), bs]
  cases (List.range' 0 s.size).all (letterAt s) <;> rfl
theorem IsValidName_spec_eq (hN : 1073741824 ≤ N) {s : ByteArray} (hs : s.size ≤ 1048576) : spec_IsValidName N s = some (nameOk s) := by
  unfold spec_IsValidName nameOk
  rw [letL (L := fun k i => spec_IsValidName_L1 N k s i) hs hN (fun k i => by
    show spec_IsValidName_L1 N (k + 1) s i = _
    rw [spec_IsValidName_L1]), bs]
  cases (List.range' 0 s.size).all (letterAt s)
  · cases inR (s.size : Int) 1 4 <;> rfl
  · simp only [cond_true, lpS, l1In_eq, bs, Bool.and_true]
theorem IsValidDatabase_impl_eq (hN : 1073741824 ≤ N) {ts : List DTable} (hx : okDb ts) : impl_IsValidDatabase N ts = some (dbOk ts) := by
  have hl := hx.1
  have := loopA (L := fun k i => impl_IsValidDatabase_L1 N k ts ts (ts.length : Int) i) ts.length (by omega) false (tabOk ts) (ts.length : Int)
    (fun k i h => by
      obtain ⟨g1, g2⟩ := hx.2 _ (List.getElem_mem h)
      show impl_IsValidDatabase_L1 N (k + 1) ts ts (ts.length : Int) (i : Int) = _
      rw [impl_IsValidDatabase_L1, dlt h, cond_true, ix_nat h, bs, IsValidName_impl_eq hN g1, bs]
      unfold tabOk
      rw [getT_at h]
      simp only []
      cases nameOk ts[i].1
      · rfl
      rw [IsValidRelation_impl_eq hN g2, bs]
      cases i with
      | zero =>
        rw [ad1 (by omega)]
        simp only [bs]
        cases validRows ts[0].2.1 ts[0].2.2
        · rfl
        · show (bif decide _ then _ else _) = _
          cases decide (ts[0].2.1 < 1)
          · cases decide (16 < (ts[0].2.2.length : Int)) <;> rfl
          · cases decide (16 < (ts[0].2.2.length : Int)) <;> rfl
      | succ j =>
        rw [show decide (0 < ((j + 1 : Nat) : Int)) = true from decide_eq_true (by omega), sb_ok (by omega) (by omega), bs, show (((j + 1 : Nat) : Int) - 1) = (j : Int) by omega, ix_nat (by omega), bs, ad1 (by omega), Nat.add_sub_cancel, getT_at (by omega)]
        simp only [bs]
        cases ltS ts[j].1 ts[j + 1].1
        · rfl
        cases validRows ts[j + 1].2.1 ts[j + 1].2.2
        · rfl
        · show (bif decide _ then _ else _) = _
          cases decide (ts[j + 1].2.1 < 1)
          · cases decide (16 < (ts[j + 1].2.2.length : Int)) <;> rfl
          · cases decide (16 < (ts[j + 1].2.2.length : Int)) <;> rfl)
    (fun k => by
      show impl_IsValidDatabase_L1 N (k + 1) ts ts (ts.length : Int) (ts.length : Int) = _
      rw [impl_IsValidDatabase_L1, dge (by omega), cond_false]) N 0 (by omega) (by omega)
  rw [Nat.sub_zero] at this
  unfold impl_IsValidDatabase dbOk
  by_cases h6 : (6 : Int) < ts.length
  · rw [decide_eq_true h6, decide_eq_false (by omega : ¬ (ts.length : Int) ≤ 6)]; rfl
  rw [decide_eq_false h6, decide_eq_true (by omega : (ts.length : Int) ≤ 6), cond_false, Bool.true_and]
  have this' : impl_IsValidDatabase_L1 N N ts ts (ts.length : Int) 0 = _ := this
  rw [this', bs]
  cases (List.range' 0 ts.length).all (tabOk ts) <;> rfl
theorem IsValidDatabase_spec_eq (hN : 1073741824 ≤ N) {ts : List DTable} (hx : okDb ts) : spec_IsValidDatabase N ts = some (dbOk ts) := by
  have hl := hx.1
  have := loopA (L := fun k i => spec_IsValidDatabase_L1 N k ts i) ts.length (by omega) false (tabOk ts) (ts.length : Int)
    (fun k i h => by
      obtain ⟨g1, g2⟩ := hx.2 _ (List.getElem_mem h)
      show spec_IsValidDatabase_L1 N (k + 1) ts (i : Int) = _
      rw [spec_IsValidDatabase_L1, dlt h, cond_true, ix_nat h, bs, IsValidName_spec_eq hN g1, bs]
      unfold tabOk
      rw [getT_at h]
      simp only []
      cases nameOk ts[i].1
      · rfl
      rw [IsValidRelation_spec_eq hN g2, bs]
      cases i with
      | zero =>
        rw [ad1 (by omega)]
        simp only [bs]
        cases validRows ts[0].2.1 ts[0].2.2
        · rfl
        · show (bif decide _ then _ else _) = _
          cases decide (ts[0].2.1 < 1)
          · cases decide (16 < (ts[0].2.2.length : Int)) <;> rfl
          · cases decide (16 < (ts[0].2.2.length : Int)) <;> rfl
      | succ j =>
        rw [show decide (0 < ((j + 1 : Nat) : Int)) = true from decide_eq_true (by omega), sb_ok (by omega) (by omega), bs, show (((j + 1 : Nat) : Int) - 1) = (j : Int) by omega, ix_nat (by omega), bs, ad1 (by omega), Nat.add_sub_cancel, getT_at (by omega)]
        simp only [bs]
        cases ltS ts[j].1 ts[j + 1].1
        · rfl
        cases validRows ts[j + 1].2.1 ts[j + 1].2.2
        · rfl
        · show (bif decide _ then _ else _) = _
          cases decide (ts[j + 1].2.1 < 1)
          · cases decide (16 < (ts[j + 1].2.2.length : Int)) <;> rfl
          · cases decide (16 < (ts[j + 1].2.2.length : Int)) <;> rfl)
    (fun k => by
      show spec_IsValidDatabase_L1 N (k + 1) ts (ts.length : Int) = _
      rw [spec_IsValidDatabase_L1, dge (by omega), cond_false]) N 0 (by omega) (by omega)
  rw [Nat.sub_zero] at this
  unfold spec_IsValidDatabase dbOk
  have this' : spec_IsValidDatabase_L1 N N ts 0 = _ := this
  rw [this', bs]
  cases (List.range' 0 ts.length).all (tabOk ts)
  · simp only [cond_false, lpS, Bool.and_false]
  · simp only [cond_true, lpS, Bool.and_true]
theorem LookupRelation_impl_eq (hN : 1073741824 ≤ N) {ts : List DTable} {s : ByteArray} (hx : okDb ts) : impl_LookupRelation N ts s = some (lookV ts s) := by
  have hl := hx.1
  unfold impl_LookupRelation lookV
  rw [IsValidDatabase_impl_eq hN hx, bs]
  cases dbOk ts
  · rfl
  rw [cond_true, cond_true]
  have := loopFind (fun k i => impl_LookupRelation_L1 N k s 0 [] ts (ts.length : Int) i) ts (fun t => decide (t.1 = s)) (fun t => (t.2, true)) (ts.length : Int) (by omega)
    (fun k i h => by
      obtain ⟨g1, g2⟩ := hx.2 _ (List.getElem_mem h)
      show impl_LookupRelation_L1 N (k + 1) s 0 [] ts _ (i : Int) = _
      rw [impl_LookupRelation_L1, dlt h, cond_true, ix_nat h, bs, copyRelation_eq hN g2, bs, ad1 (by omega), bs, eqS_dec])
    (fun k => by
      show impl_LookupRelation_L1 N (k + 1) s 0 [] ts _ (ts.length : Int) = _
      rw [impl_LookupRelation_L1, dge (by omega), cond_false]) N 0 (by omega) (by omega)
  rw [List.drop_zero] at this
  have this' : impl_LookupRelation_L1 N N s 0 [] ts (ts.length : Int) 0 = _ := this
  rw [this', bs]
  cases ts.find? (fun t => decide (t.1 = s)) <;> rfl
theorem LookupRelation_spec_eq (hN : 1073741824 ≤ N) {ts : List DTable} {s : ByteArray} (hx : okDb ts) : spec_LookupRelation N ts s = some (lookV ts s) := by
  have hl := hx.1
  unfold spec_LookupRelation lookV
  cases hv : dbOk ts
  · obtain ⟨M, rfl⟩ : ∃ M, N = M + 1 := ⟨N - 1, by omega⟩
    rw [spec_LookupRelation_L1, IsValidDatabase_spec_eq hN hx, bs, hv]
    cases decide ((0 : Int) < (ts.length : Int)) <;> rfl
  rw [cond_true]
  have := loopFind (fun k i => spec_LookupRelation_L1 N k s ts 0 [] i) ts (fun t => decide (t.1 = s)) (fun t => (t.2, true)) (ts.length : Int) (by omega)
    (fun k i h => by
      obtain ⟨g1, g2⟩ := hx.2 _ (List.getElem_mem h)
      show spec_LookupRelation_L1 N (k + 1) s ts 0 [] (i : Int) = _
      rw [spec_LookupRelation_L1, dlt h, cond_true, IsValidDatabase_spec_eq hN hx, bs, hv, cond_true, ix_nat h, bs, bs, l5Copy_eq hN g2, bs, ad1 (by omega), bs, eqS_dec])
    (fun k => by
      show spec_LookupRelation_L1 N (k + 1) s ts 0 [] (ts.length : Int) = _
      rw [spec_LookupRelation_L1, dge (by omega), cond_false]) N 0 (by omega) (by omega)
  rw [List.drop_zero] at this
  have this' : spec_LookupRelation_L1 N N s ts 0 [] 0 = _ := this
  rw [this', bs]
  cases ts.find? (fun t => decide (t.1 = s)) <;> rfl
end
/-! ### the order of rows -/
theorem cmpR_range : ∀ (a b : List Int), cmpR a b = -1 ∨ cmpR a b = 0 ∨ cmpR a b = 1
  | [], [] => by simp [cmpR]
  | [], _ :: _ => by simp [cmpR]
  | _ :: _, [] => by simp [cmpR]
  | x :: a, y :: b => by
    unfold cmpR
    split
    · simp
    · split
      · simp
      · exact cmpR_range a b
theorem cmpR_neg : ∀ (a b : List Int), cmpR b a = - cmpR a b
  | [], [] => by simp [cmpR]
  | [], _ :: _ => by simp [cmpR]
  | _ :: _, [] => by simp [cmpR]
  | x :: a, y :: b => by
    unfold cmpR
    have := cmpR_neg a b
    (repeat' split) <;> omega
theorem cmpR_trans : ∀ {a b c : List Int}, cmpR a b < 0 → cmpR b c < 0 → cmpR a c < 0
  | [], [], _, h, _ => by simp [cmpR] at h
  | [], _ :: _, [], _, h => by simp [cmpR] at h
  | [], _ :: _, _ :: _, _, _ => by simp [cmpR]
  | _ :: _, [], _, h, _ => by simp [cmpR] at h
  | _ :: _, _ :: _, [], _, h => by simp [cmpR] at h
  | x :: a, y :: b, z :: c, h1, h2 => by
    unfold cmpR at h1 h2 ⊢
    have := @cmpR_trans a b c
    split at h1
    · split at h2
      · rw [if_pos (by omega)]; omega
      · split at h2
        · omega
        · rw [if_pos (by omega)]; omega
    · split at h1
      · omega
      · split at h2
        · rw [if_pos (by omega)]; omega
        · split at h2
          · omega
          · rw [if_neg (by omega), if_neg (by omega)]; exact this h1 h2
theorem cmpR_le_trans {a b c : List Int} (h1 : cmpR a b ≤ 0) (h2 : cmpR b c ≤ 0) : cmpR a c ≤ 0 := by
  by_cases e1 : cmpR a b = 0
  · rw [cmpR_zero.1 e1]; exact h2
  by_cases e2 : cmpR b c = 0
  · rw [← cmpR_zero.1 e2]; exact h1
  have := cmpR_trans (a := a) (b := b) (c := c) (by omega) (by omega)
  omega
/-- strictly ascending -/
def ascR (rows : List (List Int)) : Prop := ∀ i j (_ : i < j) (hj : j < rows.length), cmpR (rows[i]'(by omega)) rows[j] < 0
theorem ascR_of {rows : List (List Int)} (h : ∀ i (hi : i < rows.length) j (hj : j + 1 = i), cmpR (rows[j]'(by omega)) rows[i] < 0) : ascR rows := by
  intro i j hij hj
  induction j with
  | zero => omega
  | succ j ih =>
    have h1 := h (j + 1) hj j rfl
    by_cases e : i = j
    · subst e; exact h1
    · exact cmpR_trans (ih (by omega) (by omega)) h1
theorem validRows_asc {n : Int} {rows : List (List Int)} (h : validRows n rows = true) : ascR rows := by
  obtain ⟨_, _, _, h4⟩ := validRows_spec h
  exact ascR_of fun i hi j hj => (h4 i hi).2.2 j hj
def placeGo (rows : List (List Int)) (row : List Int) : Nat → Nat → Nat → Nat
  | 0, lo, _ => lo
  | f + 1, lo, hi => if lo < hi then (if cmpR (rows.getD ((lo + hi) / 2) []) row < 0 then placeGo rows row f ((lo + hi) / 2 + 1) hi else placeGo rows row f lo ((lo + hi) / 2)) else lo
def placeP (rows : List (List Int)) (row : List Int) : Nat := placeGo rows row (rows.length + 1) 0 rows.length
theorem placeGo_le (rows : List (List Int)) (row : List Int) : ∀ f lo hi, lo ≤ hi → placeGo rows row f lo hi ≤ hi := by
  intro f
  induction f with
  | zero => intro lo hi h; exact h
  | succ f ih =>
    intro lo hi h
    unfold placeGo
    split
    · split
      · exact ih _ _ (by omega)
      · have := ih lo ((lo + hi) / 2) (by omega); omega
    · exact h
theorem placeGo_spec (rows : List (List Int)) (row : List Int) (ha : ascR rows) : ∀ f lo hi, lo ≤ hi → hi ≤ rows.length → hi - lo < f → (∀ i (h : i < rows.length), i < lo → cmpR rows[i] row < 0) → (∀ i (h : i < rows.length), hi ≤ i → 0 ≤ cmpR rows[i] row) →
    (∀ i (h : i < rows.length), i < placeGo rows row f lo hi → cmpR rows[i] row < 0) ∧ (∀ i (h : i < rows.length), placeGo rows row f lo hi ≤ i → 0 ≤ cmpR rows[i] row) := by
  intro f
  induction f with
  | zero => intro lo hi h1 h2 h3; omega
  | succ f ih =>
    intro lo hi h1 h2 h3 h4 h5
    unfold placeGo
    split
    · rename_i hlt
      have hm : (lo + hi) / 2 < rows.length := by omega
      rw [getL_at hm]
      split
      · rename_i hc
        refine ih _ _ (by omega) h2 (by omega) (fun i h hi' => ?_) h5
        by_cases e : i = (lo + hi) / 2
        · subst e; exact hc
        · exact cmpR_trans (ha i ((lo + hi) / 2) (by omega) hm) hc
      · rename_i hc
        refine ih _ _ (by omega) (by omega) (by omega) h4 (fun i h hi' => ?_)
        by_cases e : i = (lo + hi) / 2
        · subst e; omega
        · have h6 := ha ((lo + hi) / 2) i (by omega) h
          have h7 := cmpR_neg rows[i] row
          have h8 := cmpR_neg rows[(lo + hi) / 2] row
          by_cases h9 : cmpR rows[i] row < 0
          · have := cmpR_trans h6 h9; omega
          · omega
    · obtain rfl : lo = hi := by omega
      exact ⟨h4, h5⟩
def foundR (rows : List (List Int)) (row : List Int) : Bool := decide (placeP rows row < rows.length) && decide (rows.getD (placeP rows row) [] = row)
theorem foundR_mem {rows : List (List Int)} (ha : ascR rows) (row : List Int) : foundR rows row = decide (row ∈ rows) := by
  obtain ⟨h1, h2⟩ := placeGo_spec rows row ha (rows.length + 1) 0 rows.length (by omega) (Nat.le_refl _) (by omega) (fun i h h' => by omega) (fun i h h' => by omega)
  have hle := placeGo_le rows row (rows.length + 1) 0 rows.length (by omega)
  unfold foundR placeP
  generalize placeGo rows row (rows.length + 1) 0 rows.length = p at *
  rw [Bool.eq_iff_iff]
  simp only [Bool.and_eq_true, decide_eq_true_eq]
  constructor
  · rintro ⟨h, e⟩
    rw [getL_at h] at e
    rw [← e]; exact List.getElem_mem h
  · intro hm
    obtain ⟨j, hj, e⟩ := List.getElem_of_mem hm
    have hz : cmpR rows[j] row = 0 := cmpR_zero.2 e
    have h3 : p ≤ j := by
      rcases Nat.lt_or_ge j p with h | h
      · have := h1 j hj h; omega
      · exact h
    by_cases e2 : p = j
    · subst e2; exact ⟨hj, by rw [getL_at hj]; exact e⟩
    · have h4 := ha p j (by omega) hj
      have h5 := h2 p (by omega) (Nat.le_refl _)
      rw [e] at h4; omega
section
variable {N : Nat}
theorem half {lo hi : Nat} (h : lo + hi ≤ 4611686018427387904) : qt (((lo + hi : Nat) : Int)) 2 = some (((lo + hi) / 2 : Nat) : Int) := by
  unfold qt
  have e : (((lo + hi : Nat) : Int)).tdiv 2 = (((lo + hi) / 2 : Nat) : Int) := by
    rw [show (2 : Int) = ((2 : Nat) : Int) from rfl, ← Int.ofNat_tdiv]
  have hr : rng (((lo + hi) / 2 : Nat) : Int) = true := rng_of (by omega) (by omega)
  rw [e, if_pos ⟨by decide, hr⟩]
def hasRow (n : Int) (rows : List (List Int)) (row : List Int) : Bool := validRows n rows && decide (row ∈ rows)
/-! ### deltas -/
def fitsV (ts : List DTable) (s : ByteArray) (a : Int) (xs : List (List Int)) (b : Int) (ys : List (List Int)) : Bool :=
  (lookV ts s).2 && validRows a xs && validRows b ys && decide (a = (lookV ts s).1.1) && decide (b = (lookV ts s).1.1)
def deltaOk (ts : List DTable) (s : ByteArray) (a : Int) (xs : List (List Int)) (b : Int) (ys : List (List Int)) : Bool :=
  fitsV ts s a xs b ys && (xs.all fun r => !hasRow (lookV ts s).1.1 (lookV ts s).1.2 r) && (ys.all fun r => hasRow (lookV ts s).1.1 (lookV ts s).1.2 r)
theorem allL {α : Type} {N : Nat} (L : Nat → Int → Option (Sum Bool Int)) (xs : List α) (q : α → Bool) (hN : 1073741824 ≤ N) (hl : xs.length ≤ 1048576)
    (hstep : ∀ k i (h : i < xs.length), L (k + 1) (i : Int) = bif q xs[i] then L k ((i + 1 : Nat) : Int) else some (.inl false)) (hend : ∀ k, L (k + 1) (xs.length : Int) = some (.inr (xs.length : Int))) :
    L N 0 = some (bif xs.all q then .inr (xs.length : Int) else .inl false) := by
  have := loopA L xs.length (by omega) false (fun i => if h : i < xs.length then q xs[i] else true) (xs.length : Int) (fun k i h => by rw [hstep k i h]; simp only [dif_pos h]) hend N 0 (by omega) (by omega)
  rw [Nat.sub_zero, range_all xs q _ (fun i hi => by rw [dif_pos hi])] at this
  exact this
def diffV (a : Int) (xs : List (List Int)) (b : Int) (ys : List (List Int)) : (Int × List (List Int)) × Bool :=
  bif validRows a xs && validRows b ys && decide (a = b) then ((a, xs.filter fun r => !decide (r ∈ ys)), true) else ((0, []), false)
theorem diffV_ok {a b : Int} {xs ys : List (List Int)} (hx : okII xs) : okII (diffV a xs b ys).1.2 := by
  unfold diffV
  cases validRows a xs && validRows b ys && decide (a = b)
  · exact ⟨by simp, by simp⟩
  · exact ⟨Nat.le_trans (List.length_filter_le _ _) hx.1, fun r hr => hx.2 r ((List.mem_filter.1 hr).1)⟩
theorem filter_take_succ {α : Type} {p : α → Bool} {xs : List α} {i : Nat} (h : i < xs.length) : (xs.take (i + 1)).filter p = (xs.take i).filter p ++ (if p xs[i] then [xs[i]] else []) := by
  rw [List.take_succ_eq_append_getElem h, List.filter_append]; congr 1
  rw [List.filter_cons, List.filter_nil]
def diffDb (ts us : List DTable) (s : ByteArray) : (ByteArray × (Int × List (List Int)) × (Int × List (List Int))) × Bool :=
  bif (lookV ts s).2 && (lookV us s).2 && decide ((lookV ts s).1.1 = (lookV us s).1.1) then
    ((s, (diffV (lookV us s).1.1 (lookV us s).1.2 (lookV ts s).1.1 (lookV ts s).1.2).1, (diffV (lookV ts s).1.1 (lookV ts s).1.2 (lookV us s).1.1 (lookV us s).1.2).1), true)
  else ((ByteArray.empty, (0, []), (0, [])), false)
theorem diffDb_ok {ts us : List DTable} {s : ByteArray} (ht : okDb ts) (hu : okDb us) (hs : s.size ≤ 1048576) : (diffDb ts us s).1.1.size ≤ 1048576 ∧ okII (diffDb ts us s).1.2.1.2 ∧ okII (diffDb ts us s).1.2.2.2 := by
  unfold diffDb
  cases (lookV ts s).2 && (lookV us s).2 && decide ((lookV ts s).1.1 = (lookV us s).1.1)
  · exact ⟨by show (ByteArray.empty).size ≤ 1048576; decide, ⟨by simp, by simp⟩, by simp, by simp⟩
  · exact ⟨hs, diffV_ok (lookV_ok hu s), diffV_ok (lookV_ok ht s)⟩
end
end Go.Proofs.Ytkpeabpdiffjhaa
