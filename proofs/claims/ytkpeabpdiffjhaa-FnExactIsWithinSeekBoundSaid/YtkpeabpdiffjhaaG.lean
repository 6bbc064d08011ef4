/- Plain laws: loops over lists by an index; the helpers of the laws (sizes, copies, equality) once for all types. Program-independent. -/
import Derived.Test.YtkpeabpdiffjhaaR
namespace Go.Proofs.Ytkpeabpdiffjhaa
open Go.RowKit

theorem bs {α β : Type} (a : α) (f : α → Option β) : (some a).bind f = f a := rfl
theorem ix_nat {α : Type} {xs : List α} {i : Nat} (h : i < xs.length) : ix xs (i : Int) = some xs[i] := by
  unfold ix; rw [if_pos (by omega)]; simp [h]
theorem ix_int {α : Type} {xs : List α} {i : Int} (h0 : 0 ≤ i) (h : i < xs.length) : ix xs i = some (xs[i.toNat]'(by omega)) := by
  unfold ix; rw [if_pos h0]; simp
theorem rng_of {n : Int} (h : -4611686018427387904 ≤ n) (h2 : n ≤ 4611686018427387904) : rng n = true := by
  unfold rng; simp only [Bool.and_eq_true, decide_eq_true_eq]; omega
theorem ad_ok {a b : Int} (h : -4611686018427387904 ≤ a + b) (h2 : a + b ≤ 4611686018427387904) : ad a b = some (a + b) := by unfold ad; rw [if_pos (rng_of h h2)]
theorem sb_ok {a b : Int} (h : -4611686018427387904 ≤ a - b) (h2 : a - b ≤ 4611686018427387904) : sb a b = some (a - b) := by unfold sb; rw [if_pos (rng_of h h2)]
theorem ml_ok {a b : Int} (h : -4611686018427387904 ≤ a * b) (h2 : a * b ≤ 4611686018427387904) : ml a b = some (a * b) := by unfold ml; rw [if_pos (rng_of h h2)]
theorem ad1 {i : Nat} (h : i < 1099511627776) : ad (i : Int) 1 = some ((i + 1 : Nat) : Int) := by rw [ad_ok (by omega) (by omega)]; simp
theorem dlt {i n : Nat} (h : i < n) : decide ((i : Int) < (n : Int)) = true := by simp; omega
theorem dge {i n : Nat} (h : ¬ i < n) : decide ((i : Int) < (n : Int)) = false := by simp; omega
theorem sto_nat {α : Type} {xs : List α} {i : Nat} {y : α} (h : i < xs.length) : sto xs (i : Int) y = some (xs.set i y) := by
  unfold sto; rw [if_pos ⟨by omega, by simpa using h⟩]; simp
theorem apd_ok {α : Type} {b : Nat} {xs ys : List α} (h : (xs.length + ys.length) * b ≤ 140737488355328) : apd b xs ys = some (xs ++ ys) := by unfold apd; rw [if_pos h]
theorem apd_ok' {α : Type} {b : Nat} {xs ys : List α} (hb : b ≤ 64) (h : xs.length + ys.length ≤ 2199023255552) : apd b xs ys = some (xs ++ ys) := by
  refine apd_ok (Nat.le_trans (Nat.mul_le_mul h hb) (by omega))
theorem mk_ok {α : Type} {b : Nat} {z : α} {n : Nat} (hb : b ≤ 64) (h : n ≤ 2199023255552) : mk b z (n : Int) = some (List.replicate n z) := by
  unfold mk; rw [if_pos ⟨by omega, by simpa using Nat.le_trans (Nat.mul_le_mul h hb) (by omega), by simp; omega⟩]; simp
theorem slc_ok {α : Type} {xs : List α} {lo hi : Nat} (h1 : lo ≤ hi) (h2 : hi ≤ xs.length) : slc xs (lo : Int) (hi : Int) = some ((xs.take hi).drop lo) := by
  unfold slc; rw [if_pos ⟨by omega, by omega, by omega⟩]; simp

/-- rounds from i on, n of them, that may leave early -/
def foldE {σ R : Type} (st : Nat → σ → Sum R σ) : Nat → Nat → σ → Sum R σ
  | 0, _, s => .inr s
  | n + 1, i, s => match st i s with
    | .inl r => .inl r
    | .inr s' => foldE st n (i + 1) s'
/-- a loop by an index up to n -/
theorem loopE {σ R V : Type} (L : Nat → σ → Int → Option (Sum R V)) (n : Nat) (hn : n < 1099511627776) (st : Nat → σ → Sum R σ) (fin : σ → V) (I : Nat → σ → Prop)
    (hstep : ∀ k i s, i < n → I i s → L (k + 1) s (i : Int) = (match st i s with | .inl r => some (.inl r) | .inr s' => L k s' ((i + 1 : Nat) : Int)) ∧ ∀ s', st i s = .inr s' → I (i + 1) s')
    (hend : ∀ k s, I n s → L (k + 1) s (n : Int) = some (.inr (fin s))) :
    ∀ k i s, i ≤ n → n - i < k → I i s → L k s (i : Int) = some (match foldE st (n - i) i s with | .inl r => .inl r | .inr s' => .inr (fin s')) := by
  intro k
  induction k with
  | zero => intro i s hi hk; omega
  | succ k ih =>
    intro i s hi hk hI
    by_cases h : i < n
    · obtain ⟨h1, h2⟩ := hstep k i s h hI
      rw [h1, show n - i = (n - (i + 1)) + 1 by omega, foldE]
      cases hs : st i s with
      | inl r => rfl
      | inr s' => exact ih (i + 1) s' (by omega) (by omega) (h2 s' hs)
    · obtain rfl : i = n := by omega
      rw [hend k s hI, Nat.sub_self, foldE]
/-- the same where the loop ends by its count alone -/
theorem loopF {σ V : Type} (L : Nat → σ → Int → Option V) (n : Nat) (hn : n < 1099511627776) (st : Nat → σ → σ) (fin : σ → V) (I : Nat → σ → Prop)
    (hstep : ∀ k i s, i < n → I i s → L (k + 1) s (i : Int) = L k (st i s) ((i + 1 : Nat) : Int) ∧ I (i + 1) (st i s))
    (hend : ∀ k s, I n s → L (k + 1) s (n : Int) = some (fin s)) :
    ∀ k i s, i ≤ n → n - i < k → I i s → L k s (i : Int) = some (fin ((List.range' i (n - i)).foldl (fun s i => st i s) s)) := by
  intro k
  induction k with
  | zero => intro i s hi hk; omega
  | succ k ih =>
    intro i s hi hk hI
    by_cases h : i < n
    · obtain ⟨h1, h2⟩ := hstep k i s h hI
      rw [h1, show n - i = (n - (i + 1)) + 1 by omega, List.range'_succ, List.foldl_cons]
      exact ih (i + 1) _ (by omega) (by omega) h2
    · obtain rfl : i = n := by omega
      rw [hend k s hI, Nat.sub_self]; rfl
/-- a loop that looks for a reason to leave: no state -/
theorem loopA {R V : Type} (L : Nat → Int → Option (Sum R V)) (n : Nat) (hn : n < 1099511627776) (b : R) (p : Nat → Bool) (v : V)
    (hstep : ∀ k i, i < n → L (k + 1) (i : Int) = bif p i then L k ((i + 1 : Nat) : Int) else some (.inl b))
    (hend : ∀ k, L (k + 1) (n : Int) = some (.inr v)) :
    ∀ k i, i ≤ n → n - i < k → L k (i : Int) = some (bif (List.range' i (n - i)).all p then .inr v else .inl b) := by
  intro k
  induction k with
  | zero => intro i hi hk; omega
  | succ k ih =>
    intro i hi hk
    by_cases h : i < n
    · rw [hstep k i h, show n - i = (n - (i + 1)) + 1 by omega, List.range'_succ, List.all_cons]
      cases hp : p i with
      | true => rw [cond_true, Bool.true_and]; exact ih (i + 1) (by omega) (by omega)
      | false => rfl
    · obtain rfl : i = n := by omega
      rw [hend k, Nat.sub_self]; rfl
theorem range_all {α : Type} (xs : List α) (p : α → Bool) (q : Nat → Bool) (h : ∀ i (hi : i < xs.length), q i = p xs[i]) : (List.range' 0 xs.length).all q = xs.all p := by
  rw [Bool.eq_iff_iff, List.all_eq_true, List.all_eq_true]
  constructor
  · intro hq x hx
    obtain ⟨i, hi, rfl⟩ := List.getElem_of_mem hx
    rw [← h i hi]; exact hq i (by simp; omega)
  · intro hp i hi
    have hi' : i < xs.length := by simpa using hi
    rw [h i hi']; exact hp _ (List.getElem_mem hi')
theorem range_eq {α : Type} [DecidableEq α] {xs ys : List α} (hl : xs.length = ys.length) (q : Nat → Bool) (h : ∀ i (hi : i < xs.length), q i = decide (xs[i] = ys[i]'(by omega))) : (List.range' 0 xs.length).all q = decide (xs = ys) := by
  rw [Bool.eq_iff_iff, List.all_eq_true, decide_eq_true_iff]
  constructor
  · intro hq
    refine List.ext_getElem hl fun i h1 h2 => ?_
    have := hq i (by simp; omega)
    rw [h i h1] at this
    exact of_decide_eq_true this
  · rintro rfl i hi
    have hi' : i < xs.length := by simpa using hi
    rw [h i hi']; simp

theorem set_append_at' {α : Type} (xs : List α) (z : α) (k n : Nat) (hk : k < xs.length) (hn : xs.length = n) : (xs.take k ++ List.replicate (n - k) z).set k xs[k] = xs.take (k + 1) ++ List.replicate (n - (k + 1)) z := by
  rw [List.set_append_right _ _ (by simp; omega), List.length_take, Nat.min_eq_left (by omega), Nat.sub_self, show n - k = (n - (k + 1)) + 1 by omega, List.replicate_succ, List.set_cons_zero, List.take_succ_eq_append_getElem hk, List.append_assoc]
  rfl
/-! ### the laws' helpers over slices -/
section
variable {α : Type}
def gszL (f : α → Int → Option Int) : Nat → List α → Int → Int → Option (Sum Int (Int × Int))
  | 0, _, _, _ => none
  | k + 1, xs, l, i =>
    bif decide (i < (xs.length : Int)) then
      (ix xs i).bind fun x => (f x l).bind fun r =>
      bif decide (r < 0) then some (.inl (-1)) else (ad i 1).bind fun i' => gszL f k xs r i'
    else some (.inr (l, i))
def gsz (f : α → Int → Option Int) (N : Nat) (xs : List α) (l : Int) : Option Int :=
  (sb l (xs.length : Int)).bind fun x => bif decide (x < 0) then some (-1) else
  (gszL f N xs x 0).bind fun s => lpS s (fun q => some q) fun v => some v.1
def gtoL {β : Type} (f : α → Option β) : Nat → List α → List β → Int → Option (List β × Int)
  | 0, _, _, _ => none
  | k + 1, xs, ys, i =>
    bif decide (i < (xs.length : Int)) then
      (ix xs i).bind fun x => (f x).bind fun r => (ix ys i).bind fun _ => (sto ys i r).bind fun ys' => (ad i 1).bind fun i' => gtoL f k xs ys' i'
    else some (ys, i)
def gto {β : Type} (f : α → Option β) (b : Nat) (z : β) (N : Nat) (xs : List α) : Option (List β) :=
  (mk b z (xs.length : Int)).bind fun ys => (gtoL f N xs ys 0).bind fun v => some v.1
def geqL (f : α → α → Option Bool) : Nat → List α → List α → Int → Option (Sum Bool Int)
  | 0, _, _, _ => none
  | k + 1, xs, ys, i =>
    bif decide (i < (xs.length : Int)) then
      (ix xs i).bind fun x => (ix ys i).bind fun y => (f x y).bind fun r =>
      bif r then (ad i 1).bind fun i' => geqL f k xs ys i' else some (.inl false)
    else some (.inr i)
def geq (f : α → α → Option Bool) (N : Nat) (xs ys : List α) : Option Bool :=
  bif ((xs.length : Int) != (ys.length : Int)) then some false else
  (geqL f N xs ys 0).bind fun s => lpS s (fun q => some q) fun _ => some true
/-- all lists in it are no longer than m -/
def AllL (p : α → Prop) (m : Nat) (xs : List α) : Prop := xs.length ≤ m ∧ ∀ x ∈ xs, p x

theorem gsz_ok {f : α → Int → Option Int} {p ok : α → Prop} {N : Nat} (hN : 1073741824 ≤ N) (hf : ∀ x l, p x → 0 ≤ l → l ≤ 1048576 → ∃ r, f x l = some r ∧ (0 ≤ r → ok x ∧ r ≤ 1048576)) {xs : List α} {l : Int} (hp : AllL p 9223372036854775807 xs) (h0 : 0 ≤ l) (h1 : l ≤ 1048576) :
    ∃ r, gsz f N xs l = some r ∧ (0 ≤ r → AllL ok 1048576 xs ∧ r ≤ 1048576) := by
  unfold gsz
  have hs : sb l (xs.length : Int) = some (l - xs.length) := by
    unfold sb; rw [if_pos]; unfold rng; simp only [Bool.and_eq_true, decide_eq_true_eq]; have := hp.1; omega
  rw [hs, bs]
  by_cases hl : l - xs.length < 0
  · rw [decide_eq_true hl, cond_true]; exact ⟨-1, rfl, fun h => absurd h (by omega)⟩
  rw [decide_eq_false hl, cond_false]
  have key : ∀ k i l, i ≤ xs.length → xs.length - i < k → 0 ≤ l → l ≤ 1048576 → ∃ s, gszL f k xs l (i : Int) = some s ∧ (match s with | .inl r => r = -1 | .inr v => 0 ≤ v.1 ∧ v.1 ≤ 1048576 ∧ ∀ j (hj : j < xs.length), i ≤ j → ok xs[j]) := by
    intro k
    induction k with
    | zero => intro i l hi hk; omega
    | succ k ih =>
      intro i l hi hk h0 h1
      unfold gszL
      by_cases h : i < xs.length
      · obtain ⟨r, e1, e2⟩ := hf xs[i] l (hp.2 _ (List.getElem_mem h)) h0 h1
        rw [dlt h, cond_true, ix_nat h, bs, e1, bs]
        by_cases hr : r < 0
        · rw [decide_eq_true hr, cond_true]; exact ⟨_, rfl, rfl⟩
        · rw [decide_eq_false hr, cond_false, ad1 (by omega), bs]
          obtain ⟨s, e3, e4⟩ := ih (i + 1) r (by omega) (by omega) (by omega) (e2 (by omega)).2
          refine ⟨s, e3, ?_⟩
          cases s with
          | inl r => exact e4
          | inr v =>
            refine ⟨e4.1, e4.2.1, fun j hj hij => ?_⟩
            by_cases e : i = j
            · subst e; exact (e2 (by omega)).1
            · exact e4.2.2 j hj (by omega)
      · rw [dge h, cond_false]
        exact ⟨_, rfl, h0, h1, fun j hj hij => by omega⟩
  obtain ⟨s, e1, e2⟩ := key N 0 (l - xs.length) (by omega) (by omega) (by omega) (by omega)
  rw [show ((0 : Int)) = ((0 : Nat) : Int) from rfl, e1, bs]
  cases s with
  | inl r => exact ⟨-1, by rw [show r = -1 from e2]; rfl, fun h => absurd h (by omega)⟩
  | inr v =>
    refine ⟨v.1, rfl, fun _ => ⟨⟨by omega, fun x hx => ?_⟩, e2.2.1⟩⟩
    obtain ⟨j, hj, rfl⟩ := List.getElem_of_mem hx
    exact e2.2.2 j hj (by omega)
theorem gto_ok {f : α → Option α} {ok : α → Prop} {b : Nat} (hb : b ≤ 64) {z : α} {N : Nat} (hN : 1073741824 ≤ N) (hf : ∀ x, ok x → f x = some x) {xs : List α} (hp : AllL ok 1048576 xs) : gto f b z N xs = some xs := by
  unfold gto
  rw [mk_ok hb (by have := hp.1; omega), bs]
  have key : ∀ k i, i ≤ xs.length → xs.length - i < k → gtoL f k xs (xs.take i ++ List.replicate (xs.length - i) z) (i : Int) = some (xs, (xs.length : Int)) := by
    intro k
    induction k with
    | zero => intro i hi hk; omega
    | succ k ih =>
      intro i hi hk
      unfold gtoL
      by_cases h : i < xs.length
      · have h2 : i < (xs.take i ++ List.replicate (xs.length - i) z).length := by simp; omega
        rw [dlt h, cond_true, ix_nat h, bs, hf _ (hp.2 _ (List.getElem_mem h)), bs, ix_nat h2, bs, sto_nat h2, bs, ad1 (by have := hp.1; omega), bs, set_append_at' xs z i _ h rfl]
        exact ih (i + 1) (by omega) (by omega)
      · rw [dge h, cond_false]
        obtain rfl : i = xs.length := by omega
        simp
  have := key N 0 (by omega) (by have := hp.1; omega)
  simp only [List.take_zero, List.nil_append, Nat.sub_zero] at this
  rw [show ((0 : Int)) = ((0 : Nat) : Int) from rfl, this, bs]
theorem geqB_ok [DecidableEq α] {f : α → α → Option Bool} {ok : α → Prop} {N : Nat} (hN : 1073741824 ≤ N) (hf : ∀ x y, ok x → ok y → f x y = some (decide (x = y))) {xs ys : List α} (hp : AllL ok 1073741823 xs) (hq : AllL ok 1073741823 ys) : geq f N xs ys = some (decide (xs = ys)) := by
  unfold geq
  by_cases hl : xs.length = ys.length
  · rw [show ((xs.length : Int) != (ys.length : Int)) = false by simp [hl], cond_false]
    have := loopA (L := fun k i => geqL f k xs ys i) xs.length (by have := hp.1; omega) false (fun i => if h : i < xs.length then decide (xs[i] = ys[i]'(by omega)) else true) (xs.length : Int)
      (fun k i h => by
        show geqL f (k + 1) xs ys (i : Int) = _
        rw [geqL, dlt h, cond_true, ix_nat h, bs, ix_nat (by omega), bs, hf _ _ (hp.2 _ (List.getElem_mem h)) (hq.2 _ (List.getElem_mem _)), bs, ad1 (by have := hp.1; omega), bs]
        simp only [dif_pos h])
      (fun k => by
        show geqL f (k + 1) xs ys (xs.length : Int) = _
        rw [geqL, dge (by omega), cond_false]) N 0 (by omega) (by have := hp.1; omega)
    rw [show ((0 : Int)) = ((0 : Nat) : Int) from rfl, this, bs, Nat.sub_zero, range_eq hl _ (fun i hi => by rw [dif_pos hi])]
    cases decide (xs = ys) <;> rfl
  · rw [show ((xs.length : Int) != (ys.length : Int)) = true by simp; omega, cond_true, eq_comm]
    congr 1
    simp
    intro e; subst e; exact hl rfl
theorem AllL.big {ok : α → Prop} {xs : List α} (h : AllL ok 1048576 xs) : AllL ok 1073741823 xs := ⟨by have := h.1; omega, h.2⟩
theorem geq_ok [DecidableEq α] {f : α → α → Option Bool} {ok : α → Prop} {N : Nat} (hN : 1073741824 ≤ N) (hf : ∀ x y, ok x → ok y → f x y = some (decide (x = y))) {xs ys : List α} (hp : AllL ok 1048576 xs) (hq : AllL ok 1048576 ys) : geq f N xs ys = some (decide (xs = ys)) := geqB_ok hN hf hp.big hq.big
end
/-- marks, element by element -/
theorem gmk0 {α : Type} (L : Nat → List α → Int → Int → Option (List α × Int × Int)) (f : α → Int → Option (Int × α)) (ok : α → Prop) (c B : Int) (hc : 0 ≤ c)
    (hstep : ∀ n (xs : List α) s (i : Nat) (h : i < xs.length) r, xs.length ≤ 1073741823 → f xs[i] s = some r → L (n + 1) xs s (i : Int) = L n (xs.set i r.2) r.1 ((i + 1 : Nat) : Int))
    (hend : ∀ n (xs : List α) s, L (n + 1) xs s (xs.length : Int) = some (xs, s, (xs.length : Int)))
    (hf : ∀ x s, ok x → 0 ≤ s → s + c ≤ B → ∃ r, f x s = some r ∧ s ≤ r.1 ∧ r.1 ≤ s + c) :
    ∀ (m : Nat) (i k : Nat) (xs : List α) (s : Int), i + m = xs.length → m < k → xs.length ≤ 1073741823 → (∀ j (h : j < xs.length), i ≤ j → ok xs[j]) → 0 ≤ s → s + m * c ≤ B →
      ∃ ys s', L k xs s (i : Int) = some (ys, s', (ys.length : Int)) ∧ s ≤ s' ∧ s' ≤ s + m * c ∧ ys.length = xs.length := by
  intro m
  induction m with
  | zero =>
    intro i k xs s hi hk _ _ _ _
    obtain ⟨k, rfl⟩ : ∃ k', k = k' + 1 := ⟨k - 1, by omega⟩
    obtain rfl : i = xs.length := by omega
    exact ⟨xs, s, hend k xs s, Int.le_refl _, by simp, rfl⟩
  | succ m ih =>
    intro i k xs s hi hk hl hok h0 hB
    obtain ⟨k, rfl⟩ : ∃ k', k = k' + 1 := ⟨k - 1, by omega⟩
    have hlt : i < xs.length := by omega
    have e : ((m + 1 : Nat) : Int) * c = m * c + c := by rw [Int.natCast_add, Int.add_mul]; simp
    have hm : 0 ≤ (m : Int) * c := Int.mul_nonneg (by omega) hc
    rw [e] at hB
    obtain ⟨r, hr, g1, g2⟩ := hf xs[i] s (hok i hlt (Nat.le_refl _)) h0 (by omega)
    obtain ⟨ys, s', q1, q2, q3, q4⟩ := ih (i + 1) k (xs.set i r.2) r.1 (by simp; omega) (by omega) (by simpa using hl) (fun j hj hij => by
      have := hok j (by simpa using hj) (by omega)
      rw [List.getElem_set_ne (by omega)]; exact this) (by omega) (by omega)
    exact ⟨ys, s', by rw [hstep k xs s i hlt r hl hr]; exact q1, by omega, by rw [e]; omega, by rw [q4]; simp⟩
theorem gmk {α : Type} (L : Nat → List α → Int → Int → Option (List α × Int × Int)) (H : Nat → List α → Int → Int → Option (Sum Int (Int × Int))) (f : α → Int → Option (Int × α)) (g : α → Int → Option Int) (ok : α → Prop) (c B : Int) (hc : 0 ≤ c)
    (hstep : ∀ n (xs : List α) s (i : Nat) (h : i < xs.length) r, xs.length ≤ 1073741823 → f xs[i] s = some r → L (n + 1) xs s (i : Int) = L n (xs.set i r.2) r.1 ((i + 1 : Nat) : Int))
    (hend : ∀ n (xs : List α) s, L (n + 1) xs s (xs.length : Int) = some (xs, s, (xs.length : Int)))
    (hH : ∀ n (xs : List α) s (i : Nat) (h : i < xs.length) r, xs.length ≤ 1073741823 → g xs[i] s = some r → 0 ≤ r → r ≤ B → H (n + 1) xs s (i : Int) = H n xs r ((i + 1 : Nat) : Int))
    (hHend : ∀ n (xs : List α) s, H (n + 1) xs s (xs.length : Int) = some (.inr (s, (xs.length : Int))))
    (hf : ∀ x s, ok x → 0 ≤ s → s + c ≤ B → ∃ r, f x s = some r ∧ s ≤ r.1 ∧ r.1 ≤ s + c ∧ g r.2 s = some r.1) :
    ∀ (m : Nat) (i k : Nat) (xs : List α) (s : Int), i + m = xs.length → m < k → xs.length ≤ 1073741823 → (∀ j (h : j < xs.length), i ≤ j → ok xs[j]) → 0 ≤ s → s + m * c ≤ B →
      ∃ ys s', L k xs s (i : Int) = some (ys, s', (ys.length : Int)) ∧ s ≤ s' ∧ s' ≤ s + m * c ∧ ys.length = xs.length ∧ (∀ j, j < i → ys[j]? = xs[j]?) ∧ ∀ k', m < k' → H k' ys s (i : Int) = some (.inr (s', (ys.length : Int))) := by
  intro m
  induction m with
  | zero =>
    intro i k xs s hi hk _ _ _ _
    obtain ⟨k, rfl⟩ : ∃ k', k = k' + 1 := ⟨k - 1, by omega⟩
    obtain rfl : i = xs.length := by omega
    refine ⟨xs, s, hend k xs s, Int.le_refl _, by simp, rfl, fun _ _ => rfl, fun k' hk' => ?_⟩
    obtain ⟨k', rfl⟩ : ∃ k2, k' = k2 + 1 := ⟨k' - 1, by omega⟩
    exact hHend k' xs s
  | succ m ih =>
    intro i k xs s hi hk hl hok h0 hB
    obtain ⟨k, rfl⟩ : ∃ k', k = k' + 1 := ⟨k - 1, by omega⟩
    have hlt : i < xs.length := by omega
    have e : ((m + 1 : Nat) : Int) * c = m * c + c := by rw [Int.natCast_add, Int.add_mul]; simp
    have hm : 0 ≤ (m : Int) * c := Int.mul_nonneg (by omega) hc
    rw [e] at hB
    obtain ⟨r, hr, g1, g2, g3⟩ := hf xs[i] s (hok i hlt (Nat.le_refl _)) h0 (by omega)
    obtain ⟨ys, s', q1, q2, q3, q4, q5, q6⟩ := ih (i + 1) k (xs.set i r.2) r.1 (by simp; omega) (by omega) (by simpa using hl) (fun j hj hij => by
      have := hok j (by simpa using hj) (by omega)
      rw [List.getElem_set_ne (by omega)]; exact this) (by omega) (by omega)
    have hly : ys.length = xs.length := by rw [q4]; simp
    refine ⟨ys, s', by rw [hstep k xs s i hlt r hl hr]; exact q1, by omega, by rw [e]; omega, hly, fun j hj => ?_, fun k' hk' => ?_⟩
    · rw [q5 j (by omega), List.getElem?_set_ne (by omega)]
    · obtain ⟨k', rfl⟩ : ∃ k2, k' = k2 + 1 := ⟨k' - 1, by omega⟩
      have hy : ys[i]'(by omega) = r.2 := by
        have := q5 i (by omega)
        rw [List.getElem?_set_self hlt, List.getElem?_eq_getElem (by omega)] at this
        exact Option.some.inj this
      rw [hH k' ys s i (by omega) r.1 (by omega) (by rw [hy]; exact g3) (by omega) (by omega)]
      exact q6 k' (by omega)
theorem bneD (x y : Int) : (x != y) = !decide (x = y) := by by_cases h : x = y <;> simp [h]
theorem beqD (x y : Int) : (x == y) = decide (x = y) := by by_cases h : x = y <;> simp [h]
theorem eqS_dec (s r : ByteArray) : eqS s r = decide (s = r) := by
  unfold eqS
  rw [Bool.eq_iff_iff, decide_eq_true_iff]
  constructor
  · intro h
    have h1 : s.toList = r.toList := by simpa using h
    rw [ByteArray.toList_eq, ByteArray.toList_eq] at h1
    cases s; cases r; simp_all
  · rintro rfl; simp
end Go.Proofs.Ytkpeabpdiffjhaa
