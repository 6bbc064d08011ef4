/- What the laws' helpers come to: sizes, copies, equality. -/
import Derived.Test.YtkpeabpdiffjhaaG
import Derived.Test.YtkpeabpdiffjhaaW11D
namespace Go.Proofs.Ytkpeabpdiffjhaa
open Go.RowKit
theorem markTextL {N : Nat} : ∀ (m k : Nat) (x : Int) (b : ByteArray), 0 ≤ x → x ≤ 9000000000000000000 → x < 10 ^ m → m < k → b.size + m ≤ 1000000 → ∃ x' b', laws_markText_L1 N k x b = some (x', b') ∧ b'.size ≤ b.size + m := by
  intro m
  induction m with
  | zero =>
    intro k x b h0 hx9 h1 hk hb
    obtain ⟨k, rfl⟩ : ∃ k', k = k' + 1 := ⟨k - 1, by omega⟩
    rw [laws_markText_L1, decide_eq_false (by simp at h1; omega), cond_false]
    exact ⟨_, _, rfl, by omega⟩
  | succ m ih =>
    intro k x b h0 hx9 h1 hk hb
    obtain ⟨k, rfl⟩ : ∃ k', k = k' + 1 := ⟨k - 1, by omega⟩
    rw [laws_markText_L1]
    by_cases hx : 0 < x
    · have hm := Int.tmod_nonneg 10 h0
      have hm2 := Int.tmod_lt_of_pos x (by omega : (0 : Int) < 10)
      have hsz : (ofB [IntKind.u8.wrap (48 + x.tmod 10)] ++ b).size = b.size + 1 := by rw [ByteArray.size_append, ofB_size]; simp; omega
      have hq : x.tdiv 10 = x / 10 := Int.tdiv_eq_ediv_of_nonneg h0
      have hd : 0 ≤ x / 10 ∧ x / 10 < 10 ^ m := by
        rw [Int.pow_succ] at h1
        refine ⟨by omega, ?_⟩
        generalize (10 : Int) ^ m = p at *
        omega
      have hxb : x / 10 ≤ x := by omega
      rw [decide_eq_true hx, cond_true]
      unfold rm
      rw [if_pos (by decide), bs, ad_ok (by omega) (by omega), bs]
      unfold scat
      rw [if_pos (by rw [ofB_size]; simp; omega), bs]
      by_cases hr : rng (x.tdiv 10) = true
      · unfold qt
        rw [if_pos ⟨by decide, hr⟩, bs, hq]
        obtain ⟨x', b', e1, e2⟩ := ih k (x / 10) (ofB [IntKind.u8.wrap (48 + x.tmod 10)] ++ b) hd.1 (by omega) hd.2 (by omega) (by omega)
        exact ⟨x', b', e1, by omega⟩
      · exact absurd (by rw [hq]; unfold rng; simp only [Bool.and_eq_true, decide_eq_true_eq]; omega) hr
    · rw [decide_eq_false hx, cond_false]
      exact ⟨_, _, rfl, by omega⟩
theorem markText_ok {N : Nat} (hN : 1073741824 ≤ N) {s : Int} (h0 : 0 ≤ s) (h1 : s ≤ 4611686018427387904) : ∃ t, laws_markText N s = some t ∧ t.size ≤ 1000 := by
  unfold laws_markText
  by_cases h : s ≤ 0
  · rw [decide_eq_true h, cond_true]; exact ⟨_, rfl, by decide⟩
  · rw [decide_eq_false h, cond_false]
    obtain ⟨x', b', e1, e2⟩ := markTextL (N := N) 19 N s ByteArray.empty h0 (by omega) (by omega) (by omega) (by simp)
    rw [e1, bs, lpB]
    simp only []
    unfold scat
    have : (ByteArray.empty).size = 0 := rfl
    have h2 : (⟨#[109]⟩ : ByteArray).size = 1 := rfl
    rw [if_pos (by omega), bs]
    exact ⟨_, rfl, by rw [ByteArray.size_append]; omega⟩
theorem ix_set {α : Type} {xs : List α} {i : Nat} {y : α} (h : i < xs.length) : ix (xs.set i y) (i : Int) = some y := by rw [ix_nat (by simpa using h)]; simp
theorem sto_set {α : Type} {xs : List α} {i : Nat} {y z : α} (h : i < xs.length) : sto (xs.set i y) (i : Int) z = some (xs.set i z) := by rw [sto_nat (by simpa using h), List.set_set]
theorem onone {α : Type} {b : Bool} {o : Option α} {r : α} (h : (bif b then none else o) = some r) : b = false ∧ o = some r := by
  cases b
  · exact ⟨rfl, h⟩
  · cases h
theorem bnot_f1 {b : Bool} (h : (!b) = false) : b = true := by cases b <;> simp_all
theorem sz_IntS {N : Nat} {x : List Int} {l : Int} (_ : 1073741824 ≤ N) (hp : (AllL (fun _ => True) 9223372036854775807) x) (h0 : 0 ≤ l) (h1 : l ≤ 1048576) : ∃ r, laws_szIntS N x l = some r ∧ (0 ≤ r → (AllL (fun _ => True) 1048576) x ∧ r ≤ 1048576) := by
  unfold laws_szIntS
  have hs : sb l (x.length : Int) = some (l - x.length) := by
    unfold sb; rw [if_pos]; unfold rng; simp only [Bool.and_eq_true, decide_eq_true_eq]; have := hp.1; omega
  rw [hs, bs]
  by_cases hl : l - x.length < 0
  · rw [decide_eq_true hl, cond_true]; exact ⟨-1, rfl, fun h => absurd h (by omega)⟩
  · rw [decide_eq_false hl, cond_false]; exact ⟨_, rfl, fun _ => ⟨⟨by omega, fun _ _ => trivial⟩, by omega⟩⟩
theorem toL_IntS (N : Nat) : ∀ k xs ys i, laws_toIntS_L1 N k xs ys i = gtoL (fun x : Int => some x) k xs ys i := by
  intro k
  induction k with
  | zero => intros; rfl
  | succ k ih => intro xs ys i; rw [laws_toIntS_L1, gtoL]; simp only [ih, bs]
theorem to_IntS {N : Nat} {x : List Int} (hN : 1073741824 ≤ N) (h : (AllL (fun _ => True) 1048576) x) : laws_toIntS N x = some x := by
  have := gto_ok (b := 8) (z := (0 : Int)) (by decide) hN (f := fun x : Int => some x) (fun x _ => rfl) h
  unfold gto at this; unfold laws_toIntS; simp only [toL_IntS]; exact this
theorem eqL_IntS (N : Nat) : ∀ k xs ys i, laws_eqIntS_L1 N k xs ys i = geqL (fun x y : Int => some (decide (x = y))) k xs ys i := by
  intro k
  induction k with
  | zero => intros; rfl
  | succ k ih =>
    intro xs ys i; rw [laws_eqIntS_L1, geqL]; simp only [ih, bs]
    have e : ∀ x y : Int, (x != y) = !decide (x = y) := fun x y => by by_cases h : x = y <;> simp [h]
    congr 1
    refine congrArg _ (funext fun x => congrArg _ (funext fun y => ?_))
    rw [e]; cases decide (x = y) <;> rfl
theorem eq_IntS {N : Nat} {x y : List Int} (hN : 1073741824 ≤ N) (hx : (AllL (fun _ => True) 1048576) x) (hy : (AllL (fun _ => True) 1048576) y) : laws_eqIntS N x y = some (decide (x = y)) := by
  have := geq_ok hN (f := fun x y : Int => some (decide (x = y))) (fun x y _ _ => rfl) hx hy
  unfold geq at this; unfold laws_eqIntS; simp only [eqL_IntS]; exact this
theorem sz_Atom {N : Nat} {x : ByteArray × List Int} {l : Int} (hN : 1073741824 ≤ N) (hp : (fun x => (fun s => s.size ≤ 9223372036854775807) x.1 ∧ (AllL (fun _ => True) 9223372036854775807) x.2) x) (h0 : 0 ≤ l) (h1 : l ≤ 1048576) : ∃ r, laws_szAtom N x.1 x.2 l = some r ∧ (0 ≤ r → (fun x => (fun s => s.size ≤ 1048576) x.1 ∧ (AllL (fun _ => True) 1048576) x.2) x ∧ r ≤ 1048576) := by
  unfold laws_szAtom
  have e0 : sb l ((x.1).size : Int) = some (l - (x.1).size) := by unfold sb; rw [if_pos]; unfold rng; simp only [Bool.and_eq_true, decide_eq_true_eq]; have := hp.1; omega
  rw [e0, bs]
  generalize hr0 : l - ((x.1).size : Int) = r0
  by_cases hn0 : r0 < 0
  · rw [decide_eq_true hn0, cond_true]; exact ⟨-1, rfl, fun h => absurd h (by omega)⟩
  rw [decide_eq_false hn0, cond_false]
  have b0 : r0 ≤ 1048576 := by omega
  obtain ⟨r1, e1, k1⟩ := sz_IntS hN hp.2 (l := r0) (by omega) (by omega)
  rw [e1, bs]
  by_cases hn1 : r1 < 0
  · rw [decide_eq_true hn1, cond_true]; exact ⟨-1, rfl, fun h => absurd h (by omega)⟩
  rw [decide_eq_false hn1, cond_false]
  have b1 : r1 ≤ 1048576 := (k1 (by omega)).2
  exact ⟨_, rfl, fun _ => ⟨⟨(by show (x.1).size ≤ 1048576; omega), (k1 (by omega)).1⟩, b1⟩⟩
theorem to_Atom {N : Nat} {x : ByteArray × List Int} (hN : 1073741824 ≤ N) (h : (fun x => (fun s => s.size ≤ 1048576) x.1 ∧ (AllL (fun _ => True) 1048576) x.2) x) : laws_toAtom N x.1 x.2 = some x := by
  unfold laws_toAtom
  rw [to_IntS hN h.2, bs]
theorem eq_Atom {N : Nat} {x y : ByteArray × List Int} (hN : 1073741824 ≤ N) (hx : (fun x => (fun s => s.size ≤ 1048576) x.1 ∧ (AllL (fun _ => True) 1048576) x.2) x) (hy : (fun x => (fun s => s.size ≤ 1048576) x.1 ∧ (AllL (fun _ => True) 1048576) x.2) y) : laws_eqAtom N x.1 x.2 y.1 y.2 = some (decide (x = y)) := by
  unfold laws_eqAtom
  simp only [eq_IntS hN hx.2 hy.2, bs, eqS_dec, bneD]
  obtain ⟨x0, x1⟩ := x
  obtain ⟨y0, y1⟩ := y
  clear hx hy
  by_cases h0 : x0 = y0 <;> by_cases h1 : x1 = y1 <;> simp [h0, h1]
theorem szL_AtomS (N : Nat) : ∀ k xs l i, laws_szAtomS_L1 N k xs l i = gszL (fun (x : ByteArray × List Int) l => laws_szAtom N x.1 x.2 l) k xs l i := by
  intro k
  induction k with
  | zero => intros; rfl
  | succ k ih => intro xs l i; rw [laws_szAtomS_L1, gszL]; simp only [ih]
theorem sz_AtomS {N : Nat} {x : List (ByteArray × List Int)} {l : Int} (hN : 1073741824 ≤ N) (hp : (AllL (fun x => (fun s => s.size ≤ 9223372036854775807) x.1 ∧ (AllL (fun _ => True) 9223372036854775807) x.2) 9223372036854775807) x) (h0 : 0 ≤ l) (h1 : l ≤ 1048576) : ∃ r, laws_szAtomS N x l = some r ∧ (0 ≤ r → (AllL (fun x => (fun s => s.size ≤ 1048576) x.1 ∧ (AllL (fun _ => True) 1048576) x.2) 1048576) x ∧ r ≤ 1048576) := by
  have := gsz_ok hN (f := fun (x : ByteArray × List Int) l => laws_szAtom N x.1 x.2 l) (p := fun x => (fun s => s.size ≤ 9223372036854775807) x.1 ∧ (AllL (fun _ => True) 9223372036854775807) x.2) (ok := fun x => (fun s => s.size ≤ 1048576) x.1 ∧ (AllL (fun _ => True) 1048576) x.2) (fun x l hp h0 h1 => sz_Atom hN hp h0 h1) hp h0 h1
  unfold gsz at this; unfold laws_szAtomS; simp only [szL_AtomS]; exact this
theorem toL_AtomS (N : Nat) : ∀ k xs ys i, laws_toAtomS_L1 N k xs ys i = gtoL (fun (x : ByteArray × List Int) => laws_toAtom N x.1 x.2) k xs ys i := by
  intro k
  induction k with
  | zero => intros; rfl
  | succ k ih => intro xs ys i; rw [laws_toAtomS_L1, gtoL]; simp only [ih]
theorem to_AtomS {N : Nat} {x : List (ByteArray × List Int)} (hN : 1073741824 ≤ N) (h : (AllL (fun x => (fun s => s.size ≤ 1048576) x.1 ∧ (AllL (fun _ => True) 1048576) x.2) 1048576) x) : laws_toAtomS N x = some x := by
  have := gto_ok (b := 40) (z := ((ByteArray.empty, []) : ByteArray × List Int)) (by decide) hN (f := fun (x : ByteArray × List Int) => laws_toAtom N x.1 x.2) (fun x hx => to_Atom hN hx) h
  unfold gto at this; unfold laws_toAtomS; simp only [toL_AtomS]; exact this
theorem eqL_AtomS (N : Nat) : ∀ k xs ys i, laws_eqAtomS_L1 N k xs ys i = geqL (fun (x y : ByteArray × List Int) => laws_eqAtom N x.1 x.2 y.1 y.2) k xs ys i := by
  intro k
  induction k with
  | zero => intros; rfl
  | succ k ih => intro xs ys i; rw [laws_eqAtomS_L1, geqL]; simp only [ih]
theorem eq_AtomS {N : Nat} {x y : List (ByteArray × List Int)} (hN : 1073741824 ≤ N) (hx : (AllL (fun x => (fun s => s.size ≤ 1048576) x.1 ∧ (AllL (fun _ => True) 1048576) x.2) 1048576) x) (hy : (AllL (fun x => (fun s => s.size ≤ 1048576) x.1 ∧ (AllL (fun _ => True) 1048576) x.2) 1048576) y) : laws_eqAtomS N x y = some (decide (x = y)) := by
  have := geq_ok hN (f := fun (x y : ByteArray × List Int) => laws_eqAtom N x.1 x.2 y.1 y.2) (fun x y hx hy => eq_Atom hN hx hy) hx hy
  unfold geq at this; unfold laws_eqAtomS; simp only [eqL_AtomS]; exact this
theorem sz_Query {N : Nat} {x : Int × List (ByteArray × List Int) × List Int} {l : Int} (hN : 1073741824 ≤ N) (hp : (fun x => (AllL (fun x => (fun s => s.size ≤ 9223372036854775807) x.1 ∧ (AllL (fun _ => True) 9223372036854775807) x.2) 9223372036854775807) x.2.1 ∧ (AllL (fun _ => True) 9223372036854775807) x.2.2) x) (h0 : 0 ≤ l) (h1 : l ≤ 1048576) : ∃ r, laws_szQuery N x.1 x.2.1 x.2.2 l = some r ∧ (0 ≤ r → (fun x => (AllL (fun x => (fun s => s.size ≤ 1048576) x.1 ∧ (AllL (fun _ => True) 1048576) x.2) 1048576) x.2.1 ∧ (AllL (fun _ => True) 1048576) x.2.2) x ∧ r ≤ 1048576) := by
  unfold laws_szQuery
  obtain ⟨r0, e0, k0⟩ := sz_AtomS hN hp.1 (l := l) (by omega) (by omega)
  rw [e0, bs]
  by_cases hn0 : r0 < 0
  · rw [decide_eq_true hn0, cond_true]; exact ⟨-1, rfl, fun h => absurd h (by omega)⟩
  rw [decide_eq_false hn0, cond_false]
  have b0 : r0 ≤ 1048576 := (k0 (by omega)).2
  obtain ⟨r1, e1, k1⟩ := sz_IntS hN hp.2 (l := r0) (by omega) (by omega)
  rw [e1, bs]
  by_cases hn1 : r1 < 0
  · rw [decide_eq_true hn1, cond_true]; exact ⟨-1, rfl, fun h => absurd h (by omega)⟩
  rw [decide_eq_false hn1, cond_false]
  have b1 : r1 ≤ 1048576 := (k1 (by omega)).2
  exact ⟨_, rfl, fun _ => ⟨⟨(k0 (by omega)).1, (k1 (by omega)).1⟩, b1⟩⟩
theorem to_Query {N : Nat} {x : Int × List (ByteArray × List Int) × List Int} (hN : 1073741824 ≤ N) (h : (fun x => (AllL (fun x => (fun s => s.size ≤ 1048576) x.1 ∧ (AllL (fun _ => True) 1048576) x.2) 1048576) x.2.1 ∧ (AllL (fun _ => True) 1048576) x.2.2) x) : laws_toQuery N x.1 x.2.1 x.2.2 = some x := by
  unfold laws_toQuery
  rw [to_AtomS hN h.1, bs, to_IntS hN h.2, bs]
theorem eq_Query {N : Nat} {x y : Int × List (ByteArray × List Int) × List Int} (hN : 1073741824 ≤ N) (hx : (fun x => (AllL (fun x => (fun s => s.size ≤ 1048576) x.1 ∧ (AllL (fun _ => True) 1048576) x.2) 1048576) x.2.1 ∧ (AllL (fun _ => True) 1048576) x.2.2) x) (hy : (fun x => (AllL (fun x => (fun s => s.size ≤ 1048576) x.1 ∧ (AllL (fun _ => True) 1048576) x.2) 1048576) x.2.1 ∧ (AllL (fun _ => True) 1048576) x.2.2) y) : laws_eqQuery N x.1 x.2.1 x.2.2 y.1 y.2.1 y.2.2 = some (decide (x = y)) := by
  unfold laws_eqQuery
  simp only [eq_AtomS hN hx.1 hy.1, eq_IntS hN hx.2 hy.2, bs, eqS_dec, bneD]
  obtain ⟨x0, x1, x2⟩ := x
  obtain ⟨y0, y1, y2⟩ := y
  clear hx hy
  by_cases h0 : x0 = y0 <;> by_cases h1 : x1 = y1 <;> by_cases h2 : x2 = y2 <;> simp [h0, h1, h2]
theorem to_Rational {N : Nat} {x : Int × Int} (hN : 1073741824 ≤ N) (h : (fun x => True) x) : laws_toRational N x.1 x.2 = some x := by
  unfold laws_toRational
  rfl
theorem eq_Rational {N : Nat} {x y : Int × Int} (hN : 1073741824 ≤ N) (hx : (fun x => True) x) (hy : (fun x => True) y) : laws_eqRational N x.1 x.2 y.1 y.2 = some (decide (x = y)) := by
  unfold laws_eqRational
  simp only [bs, eqS_dec, bneD]
  obtain ⟨x0, x1⟩ := x
  obtain ⟨y0, y1⟩ := y
  clear hx hy
  by_cases h0 : x0 = y0 <;> by_cases h1 : x1 = y1 <;> simp [h0, h1]
theorem sz_RationalS {N : Nat} {x : List (Int × Int)} {l : Int} (_ : 1073741824 ≤ N) (hp : (AllL (fun x => True) 9223372036854775807) x) (h0 : 0 ≤ l) (h1 : l ≤ 1048576) : ∃ r, laws_szRationalS N x l = some r ∧ (0 ≤ r → (AllL (fun x => True) 1048576) x ∧ r ≤ 1048576) := by
  unfold laws_szRationalS
  have hs : sb l (x.length : Int) = some (l - x.length) := by
    unfold sb; rw [if_pos]; unfold rng; simp only [Bool.and_eq_true, decide_eq_true_eq]; have := hp.1; omega
  rw [hs, bs]
  by_cases hl : l - x.length < 0
  · rw [decide_eq_true hl, cond_true]; exact ⟨-1, rfl, fun h => absurd h (by omega)⟩
  · rw [decide_eq_false hl, cond_false]; exact ⟨_, rfl, fun _ => ⟨⟨by omega, fun _ _ => trivial⟩, by omega⟩⟩
theorem toL_RationalS (N : Nat) : ∀ k xs ys i, laws_toRationalS_L1 N k xs ys i = gtoL (fun (x : Int × Int) => laws_toRational N x.1 x.2) k xs ys i := by
  intro k
  induction k with
  | zero => intros; rfl
  | succ k ih => intro xs ys i; rw [laws_toRationalS_L1, gtoL]; simp only [ih]
theorem to_RationalS {N : Nat} {x : List (Int × Int)} (hN : 1073741824 ≤ N) (h : (AllL (fun x => True) 1048576) x) : laws_toRationalS N x = some x := by
  have := gto_ok (b := 16) (z := ((0, 0) : Int × Int)) (by decide) hN (f := fun (x : Int × Int) => laws_toRational N x.1 x.2) (fun x hx => to_Rational hN hx) h
  unfold gto at this; unfold laws_toRationalS; simp only [toL_RationalS]; exact this
theorem eqL_RationalS (N : Nat) : ∀ k xs ys i, laws_eqRationalS_L1 N k xs ys i = geqL (fun (x y : Int × Int) => laws_eqRational N x.1 x.2 y.1 y.2) k xs ys i := by
  intro k
  induction k with
  | zero => intros; rfl
  | succ k ih => intro xs ys i; rw [laws_eqRationalS_L1, geqL]; simp only [ih]
theorem eq_RationalS {N : Nat} {x y : List (Int × Int)} (hN : 1073741824 ≤ N) (hx : (AllL (fun x => True) 1048576) x) (hy : (AllL (fun x => True) 1048576) y) : laws_eqRationalS N x y = some (decide (x = y)) := by
  have := geq_ok hN (f := fun (x y : Int × Int) => laws_eqRational N x.1 x.2 y.1 y.2) (fun x y hx hy => eq_Rational hN hx hy) hx hy
  unfold geq at this; unfold laws_eqRationalS; simp only [eqL_RationalS]; exact this
theorem szL_IntSS (N : Nat) : ∀ k xs l i, laws_szIntSS_L1 N k xs l i = gszL (fun (x : List Int) l => laws_szIntS N x l) k xs l i := by
  intro k
  induction k with
  | zero => intros; rfl
  | succ k ih => intro xs l i; rw [laws_szIntSS_L1, gszL]; simp only [ih]
theorem sz_IntSS {N : Nat} {x : List (List Int)} {l : Int} (hN : 1073741824 ≤ N) (hp : (AllL (AllL (fun _ => True) 9223372036854775807) 9223372036854775807) x) (h0 : 0 ≤ l) (h1 : l ≤ 1048576) : ∃ r, laws_szIntSS N x l = some r ∧ (0 ≤ r → (AllL (AllL (fun _ => True) 1048576) 1048576) x ∧ r ≤ 1048576) := by
  have := gsz_ok hN (f := fun (x : List Int) l => laws_szIntS N x l) (p := AllL (fun _ => True) 9223372036854775807) (ok := AllL (fun _ => True) 1048576) (fun x l hp h0 h1 => sz_IntS hN hp h0 h1) hp h0 h1
  unfold gsz at this; unfold laws_szIntSS; simp only [szL_IntSS]; exact this
theorem toL_IntSS (N : Nat) : ∀ k xs ys i, laws_toIntSS_L1 N k xs ys i = gtoL (fun (x : List Int) => laws_toIntS N x) k xs ys i := by
  intro k
  induction k with
  | zero => intros; rfl
  | succ k ih => intro xs ys i; rw [laws_toIntSS_L1, gtoL]; simp only [ih]
theorem to_IntSS {N : Nat} {x : List (List Int)} (hN : 1073741824 ≤ N) (h : (AllL (AllL (fun _ => True) 1048576) 1048576) x) : laws_toIntSS N x = some x := by
  have := gto_ok (b := 24) (z := ([] : List Int)) (by decide) hN (f := fun (x : List Int) => laws_toIntS N x) (fun x hx => to_IntS hN hx) h
  unfold gto at this; unfold laws_toIntSS; simp only [toL_IntSS]; exact this
theorem eqL_IntSS (N : Nat) : ∀ k xs ys i, laws_eqIntSS_L1 N k xs ys i = geqL (fun (x y : List Int) => laws_eqIntS N x y) k xs ys i := by
  intro k
  induction k with
  | zero => intros; rfl
  | succ k ih => intro xs ys i; rw [laws_eqIntSS_L1, geqL]; simp only [ih]
theorem eq_IntSS {N : Nat} {x y : List (List Int)} (hN : 1073741824 ≤ N) (hx : (AllL (AllL (fun _ => True) 1048576) 1048576) x) (hy : (AllL (AllL (fun _ => True) 1048576) 1048576) y) : laws_eqIntSS N x y = some (decide (x = y)) := by
  have := geq_ok hN (f := fun (x y : List Int) => laws_eqIntS N x y) (fun x y hx hy => eq_IntS hN hx hy) hx hy
  unfold geq at this; unfold laws_eqIntSS; simp only [eqL_IntSS]; exact this
theorem eqB_IntSS {N : Nat} {x y : List (List Int)} (hN : 1073741824 ≤ N) (hx : (AllL (AllL (fun _ => True) 1048576) 1073741823) x) (hy : (AllL (AllL (fun _ => True) 1048576) 1073741823) y) : laws_eqIntSS N x y = some (decide (x = y)) := by
  have := geqB_ok hN (f := fun (x y : List Int) => laws_eqIntS N x y) (fun x y hx hy => eq_IntS hN hx hy) hx hy
  unfold geq at this; unfold laws_eqIntSS; simp only [eqL_IntSS]; exact this
theorem sz_Relation {N : Nat} {x : Int × List (List Int)} {l : Int} (hN : 1073741824 ≤ N) (hp : (fun x => (AllL (AllL (fun _ => True) 9223372036854775807) 9223372036854775807) x.2) x) (h0 : 0 ≤ l) (h1 : l ≤ 1048576) : ∃ r, laws_szRelation N x.1 x.2 l = some r ∧ (0 ≤ r → (fun x => (AllL (AllL (fun _ => True) 1048576) 1048576) x.2) x ∧ r ≤ 1048576) := by
  unfold laws_szRelation
  obtain ⟨r0, e0, k0⟩ := sz_IntSS hN hp (l := l) (by omega) (by omega)
  rw [e0, bs]
  by_cases hn0 : r0 < 0
  · rw [decide_eq_true hn0, cond_true]; exact ⟨-1, rfl, fun h => absurd h (by omega)⟩
  rw [decide_eq_false hn0, cond_false]
  have b0 : r0 ≤ 1048576 := (k0 (by omega)).2
  exact ⟨_, rfl, fun _ => ⟨(k0 (by omega)).1, b0⟩⟩
theorem to_Relation {N : Nat} {x : Int × List (List Int)} (hN : 1073741824 ≤ N) (h : (fun x => (AllL (AllL (fun _ => True) 1048576) 1048576) x.2) x) : laws_toRelation N x.1 x.2 = some x := by
  unfold laws_toRelation
  rw [to_IntSS hN h, bs]
theorem eq_Relation {N : Nat} {x y : Int × List (List Int)} (hN : 1073741824 ≤ N) (hx : (fun x => (AllL (AllL (fun _ => True) 1048576) 1048576) x.2) x) (hy : (fun x => (AllL (AllL (fun _ => True) 1048576) 1048576) x.2) y) : laws_eqRelation N x.1 x.2 y.1 y.2 = some (decide (x = y)) := by
  unfold laws_eqRelation
  simp only [eq_IntSS hN hx hy, bs, eqS_dec, bneD]
  obtain ⟨x0, x1⟩ := x
  obtain ⟨y0, y1⟩ := y
  clear hx hy
  by_cases h0 : x0 = y0 <;> by_cases h1 : x1 = y1 <;> simp [h0, h1]
theorem sz_Table {N : Nat} {x : ByteArray × (Int × List (List Int))} {l : Int} (hN : 1073741824 ≤ N) (hp : (fun x => (fun s => s.size ≤ 9223372036854775807) x.1 ∧ (fun x => (AllL (AllL (fun _ => True) 9223372036854775807) 9223372036854775807) x.2) x.2) x) (h0 : 0 ≤ l) (h1 : l ≤ 1048576) : ∃ r, laws_szTable N x.1 x.2.1 x.2.2 l = some r ∧ (0 ≤ r → (fun x => (fun s => s.size ≤ 1048576) x.1 ∧ (fun x => (AllL (AllL (fun _ => True) 1048576) 1048576) x.2) x.2) x ∧ r ≤ 1048576) := by
  unfold laws_szTable
  have e0 : sb l ((x.1).size : Int) = some (l - (x.1).size) := by unfold sb; rw [if_pos]; unfold rng; simp only [Bool.and_eq_true, decide_eq_true_eq]; have := hp.1; omega
  rw [e0, bs]
  generalize hr0 : l - ((x.1).size : Int) = r0
  by_cases hn0 : r0 < 0
  · rw [decide_eq_true hn0, cond_true]; exact ⟨-1, rfl, fun h => absurd h (by omega)⟩
  rw [decide_eq_false hn0, cond_false]
  have b0 : r0 ≤ 1048576 := by omega
  obtain ⟨r1, e1, k1⟩ := sz_Relation hN hp.2 (l := r0) (by omega) (by omega)
  rw [e1, bs]
  by_cases hn1 : r1 < 0
  · rw [decide_eq_true hn1, cond_true]; exact ⟨-1, rfl, fun h => absurd h (by omega)⟩
  rw [decide_eq_false hn1, cond_false]
  have b1 : r1 ≤ 1048576 := (k1 (by omega)).2
  exact ⟨_, rfl, fun _ => ⟨⟨(by show (x.1).size ≤ 1048576; omega), (k1 (by omega)).1⟩, b1⟩⟩
theorem to_Table {N : Nat} {x : ByteArray × (Int × List (List Int))} (hN : 1073741824 ≤ N) (h : (fun x => (fun s => s.size ≤ 1048576) x.1 ∧ (fun x => (AllL (AllL (fun _ => True) 1048576) 1048576) x.2) x.2) x) : laws_toTable N x.1 x.2.1 x.2.2 = some x := by
  unfold laws_toTable
  rw [to_Relation hN h.2, bs]
theorem eq_Table {N : Nat} {x y : ByteArray × (Int × List (List Int))} (hN : 1073741824 ≤ N) (hx : (fun x => (fun s => s.size ≤ 1048576) x.1 ∧ (fun x => (AllL (AllL (fun _ => True) 1048576) 1048576) x.2) x.2) x) (hy : (fun x => (fun s => s.size ≤ 1048576) x.1 ∧ (fun x => (AllL (AllL (fun _ => True) 1048576) 1048576) x.2) x.2) y) : laws_eqTable N x.1 x.2.1 x.2.2 y.1 y.2.1 y.2.2 = some (decide (x = y)) := by
  unfold laws_eqTable
  simp only [eq_Relation hN hx.2 hy.2, bs, eqS_dec, bneD]
  obtain ⟨x0, x1⟩ := x
  obtain ⟨y0, y1⟩ := y
  clear hx hy
  by_cases h0 : x0 = y0 <;> by_cases h1 : x1 = y1 <;> simp [h0, h1]
theorem szL_TableS (N : Nat) : ∀ k xs l i, laws_szTableS_L1 N k xs l i = gszL (fun (x : ByteArray × (Int × List (List Int))) l => laws_szTable N x.1 x.2.1 x.2.2 l) k xs l i := by
  intro k
  induction k with
  | zero => intros; rfl
  | succ k ih => intro xs l i; rw [laws_szTableS_L1, gszL]; simp only [ih]
theorem sz_TableS {N : Nat} {x : List (ByteArray × (Int × List (List Int)))} {l : Int} (hN : 1073741824 ≤ N) (hp : (AllL (fun x => (fun s => s.size ≤ 9223372036854775807) x.1 ∧ (fun x => (AllL (AllL (fun _ => True) 9223372036854775807) 9223372036854775807) x.2) x.2) 9223372036854775807) x) (h0 : 0 ≤ l) (h1 : l ≤ 1048576) : ∃ r, laws_szTableS N x l = some r ∧ (0 ≤ r → (AllL (fun x => (fun s => s.size ≤ 1048576) x.1 ∧ (fun x => (AllL (AllL (fun _ => True) 1048576) 1048576) x.2) x.2) 1048576) x ∧ r ≤ 1048576) := by
  have := gsz_ok hN (f := fun (x : ByteArray × (Int × List (List Int))) l => laws_szTable N x.1 x.2.1 x.2.2 l) (p := fun x => (fun s => s.size ≤ 9223372036854775807) x.1 ∧ (fun x => (AllL (AllL (fun _ => True) 9223372036854775807) 9223372036854775807) x.2) x.2) (ok := fun x => (fun s => s.size ≤ 1048576) x.1 ∧ (fun x => (AllL (AllL (fun _ => True) 1048576) 1048576) x.2) x.2) (fun x l hp h0 h1 => sz_Table hN hp h0 h1) hp h0 h1
  unfold gsz at this; unfold laws_szTableS; simp only [szL_TableS]; exact this
theorem toL_TableS (N : Nat) : ∀ k xs ys i, laws_toTableS_L1 N k xs ys i = gtoL (fun (x : ByteArray × (Int × List (List Int))) => laws_toTable N x.1 x.2.1 x.2.2) k xs ys i := by
  intro k
  induction k with
  | zero => intros; rfl
  | succ k ih => intro xs ys i; rw [laws_toTableS_L1, gtoL]; simp only [ih]
theorem to_TableS {N : Nat} {x : List (ByteArray × (Int × List (List Int)))} (hN : 1073741824 ≤ N) (h : (AllL (fun x => (fun s => s.size ≤ 1048576) x.1 ∧ (fun x => (AllL (AllL (fun _ => True) 1048576) 1048576) x.2) x.2) 1048576) x) : laws_toTableS N x = some x := by
  have := gto_ok (b := 48) (z := ((ByteArray.empty, (0, [])) : ByteArray × (Int × List (List Int)))) (by decide) hN (f := fun (x : ByteArray × (Int × List (List Int))) => laws_toTable N x.1 x.2.1 x.2.2) (fun x hx => to_Table hN hx) h
  unfold gto at this; unfold laws_toTableS; simp only [toL_TableS]; exact this
theorem eqL_TableS (N : Nat) : ∀ k xs ys i, laws_eqTableS_L1 N k xs ys i = geqL (fun (x y : ByteArray × (Int × List (List Int))) => laws_eqTable N x.1 x.2.1 x.2.2 y.1 y.2.1 y.2.2) k xs ys i := by
  intro k
  induction k with
  | zero => intros; rfl
  | succ k ih => intro xs ys i; rw [laws_eqTableS_L1, geqL]; simp only [ih]
theorem eq_TableS {N : Nat} {x y : List (ByteArray × (Int × List (List Int)))} (hN : 1073741824 ≤ N) (hx : (AllL (fun x => (fun s => s.size ≤ 1048576) x.1 ∧ (fun x => (AllL (AllL (fun _ => True) 1048576) 1048576) x.2) x.2) 1048576) x) (hy : (AllL (fun x => (fun s => s.size ≤ 1048576) x.1 ∧ (fun x => (AllL (AllL (fun _ => True) 1048576) 1048576) x.2) x.2) 1048576) y) : laws_eqTableS N x y = some (decide (x = y)) := by
  have := geq_ok hN (f := fun (x y : ByteArray × (Int × List (List Int))) => laws_eqTable N x.1 x.2.1 x.2.2 y.1 y.2.1 y.2.2) (fun x y hx hy => eq_Table hN hx hy) hx hy
  unfold geq at this; unfold laws_eqTableS; simp only [eqL_TableS]; exact this
theorem sz_Database {N : Nat} {x : List (ByteArray × (Int × List (List Int)))} {l : Int} (hN : 1073741824 ≤ N) (hp : (fun x => (AllL (fun x => (fun s => s.size ≤ 9223372036854775807) x.1 ∧ (fun x => (AllL (AllL (fun _ => True) 9223372036854775807) 9223372036854775807) x.2) x.2) 9223372036854775807) x) x) (h0 : 0 ≤ l) (h1 : l ≤ 1048576) : ∃ r, laws_szDatabase N x l = some r ∧ (0 ≤ r → (fun x => (AllL (fun x => (fun s => s.size ≤ 1048576) x.1 ∧ (fun x => (AllL (AllL (fun _ => True) 1048576) 1048576) x.2) x.2) 1048576) x) x ∧ r ≤ 1048576) := by
  unfold laws_szDatabase
  obtain ⟨r0, e0, k0⟩ := sz_TableS hN hp (l := l) (by omega) (by omega)
  rw [e0, bs]
  by_cases hn0 : r0 < 0
  · rw [decide_eq_true hn0, cond_true]; exact ⟨-1, rfl, fun h => absurd h (by omega)⟩
  rw [decide_eq_false hn0, cond_false]
  have b0 : r0 ≤ 1048576 := (k0 (by omega)).2
  exact ⟨_, rfl, fun _ => ⟨(k0 (by omega)).1, b0⟩⟩
theorem to_Database {N : Nat} {x : List (ByteArray × (Int × List (List Int)))} (hN : 1073741824 ≤ N) (h : (fun x => (AllL (fun x => (fun s => s.size ≤ 1048576) x.1 ∧ (fun x => (AllL (AllL (fun _ => True) 1048576) 1048576) x.2) x.2) 1048576) x) x) : laws_toDatabase N x = some x := by
  unfold laws_toDatabase
  rw [to_TableS hN h, bs]
theorem eq_Database {N : Nat} {x y : List (ByteArray × (Int × List (List Int)))} (hN : 1073741824 ≤ N) (hx : (fun x => (AllL (fun x => (fun s => s.size ≤ 1048576) x.1 ∧ (fun x => (AllL (AllL (fun _ => True) 1048576) 1048576) x.2) x.2) 1048576) x) x) (hy : (fun x => (AllL (fun x => (fun s => s.size ≤ 1048576) x.1 ∧ (fun x => (AllL (AllL (fun _ => True) 1048576) 1048576) x.2) x.2) 1048576) x) y) : laws_eqDatabase N x y = some (decide (x = y)) := by
  unfold laws_eqDatabase
  simp only [eq_TableS hN hx hy, bs, eqS_dec, bneD]
  clear hx hy
  by_cases h0 : x = y <;> simp [h0]
theorem eq_Trie {N : Nat} {x y : Int × List (List Int)} (hN : 1073741824 ≤ N) (hx : (fun x => (AllL (AllL (fun _ => True) 1048576) 1048576) x.2) x) (hy : (fun x => (AllL (AllL (fun _ => True) 1048576) 1048576) x.2) y) : laws_eqTrie N x.1 x.2 y.1 y.2 = some (decide (x = y)) := by
  unfold laws_eqTrie
  simp only [eq_IntSS hN hx hy, bs, eqS_dec, bneD]
  obtain ⟨x0, x1⟩ := x
  obtain ⟨y0, y1⟩ := y
  clear hx hy
  by_cases h0 : x0 = y0 <;> by_cases h1 : x1 = y1 <;> simp [h0, h1]
theorem eqL_TrieS (N : Nat) : ∀ k xs ys i, laws_eqTrieS_L1 N k xs ys i = geqL (fun (x y : Int × List (List Int)) => laws_eqTrie N x.1 x.2 y.1 y.2) k xs ys i := by
  intro k
  induction k with
  | zero => intros; rfl
  | succ k ih => intro xs ys i; rw [laws_eqTrieS_L1, geqL]; simp only [ih]
theorem eq_TrieS {N : Nat} {x y : List (Int × List (List Int))} (hN : 1073741824 ≤ N) (hx : (AllL (fun x => (AllL (AllL (fun _ => True) 1048576) 1048576) x.2) 1048576) x) (hy : (AllL (fun x => (AllL (AllL (fun _ => True) 1048576) 1048576) x.2) 1048576) y) : laws_eqTrieS N x y = some (decide (x = y)) := by
  have := geq_ok hN (f := fun (x y : Int × List (List Int)) => laws_eqTrie N x.1 x.2 y.1 y.2) (fun x y hx hy => eq_Trie hN hx hy) hx hy
  unfold geq at this; unfold laws_eqTrieS; simp only [eqL_TrieS]; exact this
theorem mk_IntS {N : Nat} {x : List Int} (hN : 1073741824 ≤ N) (h : (AllL (fun _ => True) 1048576) x) {k : Int} (h0 : 0 ≤ k) (h1 : k + 1048576 ≤ 4611686018427387904) : ∃ r, laws_markIntS N x k = some r ∧ k ≤ r.1 ∧ r.1 ≤ k + 1048576 ∧ laws_heldIntS N r.2 k = some r.1 := by
  have hl : x.length ≤ 1048576 := by have := h.1; omega
  obtain ⟨ys, s', e1, e2, e3, e4, _, e6⟩ := gmk (fun n xs s i => laws_markIntS_L1 N n xs s i) (fun n xs s i => laws_heldIntS_L1 N n xs s i) (fun (_ : Int) s => (ad s 1).bind fun t => some (t, s)) (fun (y : Int) s => bif (y != s) then none else ad s 1) (fun _ => True) 1 4611686018427387904 (by omega)
      (fun n xs s i h r hl hr => by
        obtain ⟨t, ht, h2⟩ := ob hr
        cases h2
        show laws_markIntS_L1 N (n + 1) xs s (i : Int) = _
        rw [laws_markIntS_L1, dlt h, cond_true, ix_nat h, bs, sto_nat h, bs, ht, bs, ad1 (by omega), bs])
      (fun n xs s => by
        show laws_markIntS_L1 N (n + 1) xs s (xs.length : Int) = _
        rw [laws_markIntS_L1, dge (by omega), cond_false])
      (fun n xs s i h r hl hr h0 h1 => by
        show laws_heldIntS_L1 N (n + 1) xs s (i : Int) = _
        rw [laws_heldIntS_L1, dlt h, cond_true, ix_nat h, bs]
        revert hr
        cases (xs[i] != s) with
        | true => intro hr; cases hr
        | false => intro hr; rw [cond_false] at hr ⊢; rw [hr, bs, ad1 (by omega), bs])
      (fun n xs s => by
        show laws_heldIntS_L1 N (n + 1) xs s (xs.length : Int) = _
        rw [laws_heldIntS_L1, dge (by omega), cond_false])
      (fun x s _ h0 h1 => ⟨(s + 1, s), by rw [ad_ok (by omega) (by omega), bs], by simp only []; omega, by simp only []; omega, by simp only [bne_self_eq_false, cond_false]; exact ad_ok (by omega) (by omega)⟩) x.length 0 N x k (by omega) (by omega) (by omega) (fun j hj _ => h.2 _ (List.getElem_mem hj)) h0 (by have h9 : (x.length : Int) * 1 ≤ 1048576 := (by omega); omega)
  have e1' : laws_markIntS_L1 N N x k 0 = some (ys, s', (ys.length : Int)) := e1
  refine ⟨(s', ys), by unfold laws_markIntS; rw [e1', bs, lpB], e2, ?_, ?_⟩
  · have : (x.length : Int) * 1 ≤ 1048576 := by omega
    simp only []; omega
  · have e6' : laws_heldIntS_L1 N N ys k 0 = some (.inr (s', (ys.length : Int))) := e6 N (by omega)
    unfold laws_heldIntS; simp only []; rw [e6', bs]; rfl
theorem mk_AtomS {N : Nat} {x : List (ByteArray × List Int)} (hN : 1073741824 ≤ N) (h : (AllL (fun x => (fun s => s.size ≤ 1048576) x.1 ∧ (AllL (fun _ => True) 1048576) x.2) 1048576) x) {k : Int} (h0 : 0 ≤ k) (h1 : k + 1099512676352 ≤ 4611686018427387904) : ∃ r, laws_markAtomS N x k = some r ∧ k ≤ r.1 ∧ r.1 ≤ k + 1099512676352 := by
  have hl : x.length ≤ 1048576 := by have := h.1; omega
  obtain ⟨ys, s', e1, e2, e3, e4⟩ := gmk0 (fun n xs s i => laws_markAtomS_L1 N n xs s i) (fun (x : ByteArray × List Int) s => (laws_markText N s).bind fun t0 => (ad s 1).bind fun s0 => (laws_markIntS N x.2 s0).bind fun r1 => some (r1.1, (t0, r1.2))) (fun x => (fun s => s.size ≤ 1048576) x.1 ∧ (AllL (fun _ => True) 1048576) x.2) 1048577 4611686018427387904 (by omega)
      (by
    intro n xs s i h r hl hr
    obtain ⟨t0, ht0, hr⟩ := ob hr
    obtain ⟨s0, hs0, hr⟩ := ob hr
    obtain ⟨r1, hr1, hr⟩ := ob hr
    cases hr
    show laws_markAtomS_L1 N (n + 1) xs s (i : Int) = _
    rw [laws_markAtomS_L1]
    simp only [dlt h, cond_true, ix_nat h, sto_nat h, bs, ix_set h, sto_set h, ht0, hs0, hr1, ad1 (show i < 1099511627776 by omega)])
      (fun n xs s => by
        show laws_markAtomS_L1 N (n + 1) xs s (xs.length : Int) = _
        rw [laws_markAtomS_L1, dge (by omega), cond_false])
      (by
    intro x s hx h0 h1
    obtain ⟨t0, ht0, _⟩ := markText_ok (N := N) hN (s := s) (by omega) (by omega)
    have hs0 : ad s 1 = some (s + 1) := ad_ok (by omega) (by omega)
    obtain ⟨r1, hr1, a1, b1, d1⟩ := mk_IntS (x := x.2) hN hx.2 (k := (s + 1)) (by omega) (by omega)
    exact ⟨(r1.1, (t0, r1.2)), by simp only [ht0, hs0, hr1, bs], by simp only []; omega, by simp only []; omega⟩) x.length 0 N x k (by omega) (by omega) (by omega) (fun j hj _ => h.2 _ (List.getElem_mem hj)) h0 (by have h9 : (x.length : Int) * 1048577 ≤ 1099512676352 := (by omega); omega)
  have e1' : laws_markAtomS_L1 N N x k 0 = some (ys, s', (ys.length : Int)) := e1
  refine ⟨(s', ys), by unfold laws_markAtomS; rw [e1', bs, lpB], e2, ?_⟩
  · have : (x.length : Int) * 1048577 ≤ 1099512676352 := by omega
    simp only []; omega
theorem mk_Query {N : Nat} {x : Int × List (ByteArray × List Int) × List Int} (hN : 1073741824 ≤ N) (h : (fun x => (AllL (fun x => (fun s => s.size ≤ 1048576) x.1 ∧ (AllL (fun _ => True) 1048576) x.2) 1048576) x.2.1 ∧ (AllL (fun _ => True) 1048576) x.2.2) x) {k : Int} (h0 : 0 ≤ k) (h1 : k + 1099513724928 ≤ 4611686018427387904) : ∃ r, laws_markQuery N x.1 x.2.1 x.2.2 k = some r ∧ k ≤ r.1 ∧ r.1 ≤ k + 1099513724928 := by
  obtain ⟨r0, e0, a0, b0⟩ := mk_AtomS hN h.1 (k := k) (by omega) (by omega)
  obtain ⟨r1, e1, a1, b1, d1⟩ := mk_IntS hN h.2 (k := r0.1) (by omega) (by omega)
  unfold laws_markQuery
  rw [e0, bs, e1, bs]
  refine ⟨_, rfl, by simp only []; omega, by simp only []; omega⟩
theorem mk_IntSS {N : Nat} {x : List (List Int)} (hN : 1073741824 ≤ N) (h : (AllL (AllL (fun _ => True) 1048576) 1048576) x) {k : Int} (h0 : 0 ≤ k) (h1 : k + 1099511627776 ≤ 4611686018427387904) : ∃ r, laws_markIntSS N x k = some r ∧ k ≤ r.1 ∧ r.1 ≤ k + 1099511627776 ∧ laws_heldIntSS N r.2 k = some r.1 := by
  have hl : x.length ≤ 1048576 := by have := h.1; omega
  obtain ⟨ys, s', e1, e2, e3, e4, _, e6⟩ := gmk (fun n xs s i => laws_markIntSS_L1 N n xs s i) (fun n xs s i => laws_heldIntSS_L1 N n xs s i) (fun (x : List Int) s => laws_markIntS N x s) (fun (y : List Int) s => laws_heldIntS N y s) (AllL (fun _ => True) 1048576) 1048576 4611686018427387904 (by omega)
      (fun n xs s i h r hl hr => by
        show laws_markIntSS_L1 N (n + 1) xs s (i : Int) = _
        rw [laws_markIntSS_L1, dlt h, cond_true, ix_nat h, bs, hr, bs, sto_nat h, bs, ad1 (by omega), bs])
      (fun n xs s => by
        show laws_markIntSS_L1 N (n + 1) xs s (xs.length : Int) = _
        rw [laws_markIntSS_L1, dge (by omega), cond_false])
      (fun n xs s i h r hl hr h0 h1 => by
        show laws_heldIntSS_L1 N (n + 1) xs s (i : Int) = _
        rw [laws_heldIntSS_L1, dlt h, cond_true, ix_nat h, bs, hr, bs, decide_eq_false (by omega), cond_false, ad1 (by omega), bs])
      (fun n xs s => by
        show laws_heldIntSS_L1 N (n + 1) xs s (xs.length : Int) = _
        rw [laws_heldIntSS_L1, dge (by omega), cond_false])
      (fun x s hx h0 h1 => mk_IntS hN hx h0 h1) x.length 0 N x k (by omega) (by omega) (by omega) (fun j hj _ => h.2 _ (List.getElem_mem hj)) h0 (by have h9 : (x.length : Int) * 1048576 ≤ 1099511627776 := (by omega); omega)
  have e1' : laws_markIntSS_L1 N N x k 0 = some (ys, s', (ys.length : Int)) := e1
  refine ⟨(s', ys), by unfold laws_markIntSS; rw [e1', bs, lpB], e2, ?_, ?_⟩
  · have : (x.length : Int) * 1048576 ≤ 1099511627776 := by omega
    simp only []; omega
  · have e6' : laws_heldIntSS_L1 N N ys k 0 = some (.inr (s', (ys.length : Int))) := e6 N (by omega)
    unfold laws_heldIntSS; simp only []; rw [e6', bs]; rfl
theorem mkB_IntSS {N : Nat} {x : List (List Int)} (hN : 1073741824 ≤ N) (h : (AllL (AllL (fun _ => True) 1048576) 1073741823) x) {k : Int} (h0 : 0 ≤ k) (h1 : k + 1125899905794048 ≤ 4611686018427387904) : ∃ r, laws_markIntSS N x k = some r ∧ k ≤ r.1 ∧ r.1 ≤ k + 1125899905794048 ∧ laws_heldIntSS N r.2 k = some r.1 := by
  have hl : x.length ≤ 1073741823 := by have := h.1; omega
  obtain ⟨ys, s', e1, e2, e3, e4, _, e6⟩ := gmk (fun n xs s i => laws_markIntSS_L1 N n xs s i) (fun n xs s i => laws_heldIntSS_L1 N n xs s i) (fun (x : List Int) s => laws_markIntS N x s) (fun (y : List Int) s => laws_heldIntS N y s) (AllL (fun _ => True) 1048576) 1048576 4611686018427387904 (by omega)
      (fun n xs s i h r hl hr => by
        show laws_markIntSS_L1 N (n + 1) xs s (i : Int) = _
        rw [laws_markIntSS_L1, dlt h, cond_true, ix_nat h, bs, hr, bs, sto_nat h, bs, ad1 (by omega), bs])
      (fun n xs s => by
        show laws_markIntSS_L1 N (n + 1) xs s (xs.length : Int) = _
        rw [laws_markIntSS_L1, dge (by omega), cond_false])
      (fun n xs s i h r hl hr h0 h1 => by
        show laws_heldIntSS_L1 N (n + 1) xs s (i : Int) = _
        rw [laws_heldIntSS_L1, dlt h, cond_true, ix_nat h, bs, hr, bs, decide_eq_false (by omega), cond_false, ad1 (by omega), bs])
      (fun n xs s => by
        show laws_heldIntSS_L1 N (n + 1) xs s (xs.length : Int) = _
        rw [laws_heldIntSS_L1, dge (by omega), cond_false])
      (fun x s hx h0 h1 => mk_IntS hN hx h0 h1) x.length 0 N x k (by omega) (by omega) (by omega) (fun j hj _ => h.2 _ (List.getElem_mem hj)) h0 (by have h9 : (x.length : Int) * 1048576 ≤ 1125899905794048 := (by omega); omega)
  have e1' : laws_markIntSS_L1 N N x k 0 = some (ys, s', (ys.length : Int)) := e1
  refine ⟨(s', ys), by unfold laws_markIntSS; rw [e1', bs, lpB], e2, ?_, ?_⟩
  · have : (x.length : Int) * 1048576 ≤ 1125899905794048 := by omega
    simp only []; omega
  · have e6' : laws_heldIntSS_L1 N N ys k 0 = some (.inr (s', (ys.length : Int))) := e6 N (by omega)
    unfold laws_heldIntSS; simp only []; rw [e6', bs]; rfl
theorem mk_TableS {N : Nat} {x : List (ByteArray × (Int × List (List Int)))} (hN : 1073741824 ≤ N) (h : (AllL (fun x => (fun s => s.size ≤ 1048576) x.1 ∧ (fun x => (AllL (AllL (fun _ => True) 1048576) 1048576) x.2) x.2) 1048576) x) {k : Int} (h0 : 0 ≤ k) (h1 : k + 1152921504608944128 ≤ 4611686018427387904) : ∃ r, laws_markTableS N x k = some r ∧ k ≤ r.1 ∧ r.1 ≤ k + 1152921504608944128 := by
  have hl : x.length ≤ 1048576 := by have := h.1; omega
  obtain ⟨ys, s', e1, e2, e3, e4⟩ := gmk0 (fun n xs s i => laws_markTableS_L1 N n xs s i) (fun (x : ByteArray × (Int × List (List Int))) s => (laws_markText N s).bind fun t0 => (ad s 1).bind fun s0 => (ad s0 1).bind fun s1 => (laws_markIntSS N x.2.2 s1).bind fun r2 => some (r2.1, (t0, (s0, r2.2)))) (fun x => (fun s => s.size ≤ 1048576) x.1 ∧ (fun x => (AllL (AllL (fun _ => True) 1048576) 1048576) x.2) x.2) 1099511627778 4611686018427387904 (by omega)
      (by
    intro n xs s i h r hl hr
    obtain ⟨t0, ht0, hr⟩ := ob hr
    obtain ⟨s0, hs0, hr⟩ := ob hr
    obtain ⟨s1, hs1, hr⟩ := ob hr
    obtain ⟨r2, hr2, hr⟩ := ob hr
    cases hr
    show laws_markTableS_L1 N (n + 1) xs s (i : Int) = _
    rw [laws_markTableS_L1]
    simp only [dlt h, cond_true, ix_nat h, sto_nat h, bs, ix_set h, sto_set h, ht0, hs0, hs1, hr2, ad1 (show i < 1099511627776 by omega)])
      (fun n xs s => by
        show laws_markTableS_L1 N (n + 1) xs s (xs.length : Int) = _
        rw [laws_markTableS_L1, dge (by omega), cond_false])
      (by
    intro x s hx h0 h1
    obtain ⟨t0, ht0, _⟩ := markText_ok (N := N) hN (s := s) (by omega) (by omega)
    have hs0 : ad s 1 = some (s + 1) := ad_ok (by omega) (by omega)
    have hs1 : ad (s + 1) 1 = some ((s + 1) + 1) := ad_ok (by omega) (by omega)
    obtain ⟨r2, hr2, a2, b2, d2⟩ := mk_IntSS (x := x.2.2) hN hx.2 (k := ((s + 1) + 1)) (by omega) (by omega)
    exact ⟨(r2.1, (t0, ((s + 1), r2.2))), by simp only [ht0, hs0, hs1, hr2, bs], by simp only []; omega, by simp only []; omega⟩) x.length 0 N x k (by omega) (by omega) (by omega) (fun j hj _ => h.2 _ (List.getElem_mem hj)) h0 (by have h9 : (x.length : Int) * 1099511627778 ≤ 1152921504608944128 := (by omega); omega)
  have e1' : laws_markTableS_L1 N N x k 0 = some (ys, s', (ys.length : Int)) := e1
  refine ⟨(s', ys), by unfold laws_markTableS; rw [e1', bs, lpB], e2, ?_⟩
  · have : (x.length : Int) * 1099511627778 ≤ 1152921504608944128 := by omega
    simp only []; omega
theorem mk_Database {N : Nat} {x : List (ByteArray × (Int × List (List Int)))} (hN : 1073741824 ≤ N) (h : (fun x => (AllL (fun x => (fun s => s.size ≤ 1048576) x.1 ∧ (fun x => (AllL (AllL (fun _ => True) 1048576) 1048576) x.2) x.2) 1048576) x) x) {k : Int} (h0 : 0 ≤ k) (h1 : k + 1152921504608944128 ≤ 4611686018427387904) : ∃ r, laws_markDatabase N x k = some r ∧ k ≤ r.1 ∧ r.1 ≤ k + 1152921504608944128 := by
  obtain ⟨r0, e0, a0, b0⟩ := mk_TableS hN h (k := k) (by omega) (by omega)
  unfold laws_markDatabase
  rw [e0, bs]
  refine ⟨_, rfl, by simp only []; omega, by simp only []; omega⟩
theorem mk_TrieS {N : Nat} {x : List (Int × List (List Int))} (hN : 1073741824 ≤ N) (h : (AllL (fun x => (AllL (AllL (fun _ => True) 1048576) 1048576) x.2) 1048576) x) {k : Int} (h0 : 0 ≤ k) (h1 : k + 1152921504607895552 ≤ 4611686018427387904) : ∃ r, laws_markTrieS N x k = some r ∧ k ≤ r.1 ∧ r.1 ≤ k + 1152921504607895552 ∧ laws_heldTrieS N r.2 k = some r.1 := by
  have hl : x.length ≤ 1048576 := by have := h.1; omega
  obtain ⟨ys, s', e1, e2, e3, e4, _, e6⟩ := gmk (fun n xs s i => laws_markTrieS_L1 N n xs s i) (fun n xs s i => laws_heldTrieS_L1 N n xs s i) (fun (x : Int × List (List Int)) s => (ad s 1).bind fun s0 => (laws_markIntSS N x.2 s0).bind fun r1 => some (r1.1, (s, r1.2))) (fun (y : Int × List (List Int)) s => bif (y.1 != s) then none else (ad s 1).bind fun s0 => (laws_heldIntSS N y.2 s0).bind fun r1 => bif decide (r1 < 0) then none else some r1) (fun x => (AllL (AllL (fun _ => True) 1048576) 1048576) x.2) 1099511627777 4611686018427387904 (by omega)
      (by
    intro n xs s i h r hl hr
    obtain ⟨s0, hs0, hr⟩ := ob hr
    obtain ⟨r1, hr1, hr⟩ := ob hr
    cases hr
    show laws_markTrieS_L1 N (n + 1) xs s (i : Int) = _
    rw [laws_markTrieS_L1]
    simp only [dlt h, cond_true, ix_nat h, sto_nat h, bs, ix_set h, sto_set h, hs0, hr1, ad1 (show i < 1099511627776 by omega)])
      (fun n xs s => by
        show laws_markTrieS_L1 N (n + 1) xs s (xs.length : Int) = _
        rw [laws_markTrieS_L1, dge (by omega), cond_false])
      (by
    intro n xs s i h r hl hr h0 h1
    obtain ⟨hb0, hr⟩ := onone hr
    obtain ⟨s0, hs0, hr⟩ := ob hr
    obtain ⟨r1, hr1, hr⟩ := ob hr
    obtain ⟨hb1, hr⟩ := onone hr
    cases hr
    show laws_heldTrieS_L1 N (n + 1) xs s (i : Int) = _
    rw [laws_heldTrieS_L1]
    simp only [dlt h, cond_true, cond_false, ix_nat h, bs, hb0, hs0, hr1, hb1, ad1 (show i < 1099511627776 by omega)])
      (fun n xs s => by
        show laws_heldTrieS_L1 N (n + 1) xs s (xs.length : Int) = _
        rw [laws_heldTrieS_L1, dge (by omega), cond_false])
      (by
    intro x s hx h0 h1
    have hs0 : ad s 1 = some (s + 1) := ad_ok (by omega) (by omega)
    obtain ⟨r1, hr1, a1, b1, d1⟩ := mk_IntSS (x := x.2) hN hx (k := (s + 1)) (by omega) (by omega)
    exact ⟨(r1.1, (s, r1.2)), by simp only [hs0, hr1, bs], by simp only []; omega, by simp only []; omega, by simp only [hs0, hr1, d1, (show decide (r1.1 < 0) = false from decide_eq_false (by omega)), bs, bne_self_eq_false, eqS_dec, decide_true, Bool.not_true, cond_false]⟩) x.length 0 N x k (by omega) (by omega) (by omega) (fun j hj _ => h.2 _ (List.getElem_mem hj)) h0 (by have h9 : (x.length : Int) * 1099511627777 ≤ 1152921504607895552 := (by omega); omega)
  have e1' : laws_markTrieS_L1 N N x k 0 = some (ys, s', (ys.length : Int)) := e1
  refine ⟨(s', ys), by unfold laws_markTrieS; rw [e1', bs, lpB], e2, ?_, ?_⟩
  · have : (x.length : Int) * 1099511627777 ≤ 1152921504607895552 := by omega
    simp only []; omega
  · have e6' : laws_heldTrieS_L1 N N ys k 0 = some (.inr (s', (ys.length : Int))) := e6 N (by omega)
    unfold laws_heldTrieS; simp only []; rw [e6', bs]; rfl
theorem mk_Relation {N : Nat} {x : Int × List (List Int)} (hN : 1073741824 ≤ N) (h : (fun x => (AllL (AllL (fun _ => True) 1048576) 1048576) x.2) x) {k : Int} (h0 : 0 ≤ k) (h1 : k + 1099511627776 ≤ 4611686018427387904) : ∃ r, laws_markRelation N x.1 x.2 k = some r ∧ k ≤ r.1 ∧ r.1 ≤ k + 1099511627776 ∧ laws_heldRelation N x.1 r.2 k = some r.1 := by
  obtain ⟨r0, e0, a0, b0, d0⟩ := mk_IntSS hN h (k := k) (by omega) (by omega)
  unfold laws_markRelation
  rw [e0, bs]
  refine ⟨_, rfl, by simp only []; omega, by simp only []; omega, ?_⟩
  unfold laws_heldRelation
  rw [d0, bs, decide_eq_false (by omega), cond_false]
end Go.Proofs.Ytkpeabpdiffjhaa
