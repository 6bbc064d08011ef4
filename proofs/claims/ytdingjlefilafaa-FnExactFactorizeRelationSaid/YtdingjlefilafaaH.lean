/- What the laws' helpers come to: sizes, copies, equality. -/
import Derived.Test.YtdingjlefilafaaG
import Derived.Test.YtdingjlefilafaaW5D
namespace Go.Proofs.Ytdingjlefilafaa
open Go.RowKit
theorem ix_set {α : Type} {xs : List α} {i : Nat} {y : α} (h : i < xs.length) : ix (xs.set i y) (i : Int) = some y := by rw [ix_nat (by simpa using h)]; simp
theorem sto_set {α : Type} {xs : List α} {i : Nat} {y z : α} (h : i < xs.length) : sto (xs.set i y) (i : Int) z = some (xs.set i z) := by rw [sto_nat (by simpa using h), List.set_set]
theorem onone {α : Type} {b : Bool} {o : Option α} {r : α} (h : (bif b then none else o) = some r) : b = false ∧ o = some r := by
  cases b
  · exact ⟨rfl, h⟩
  · cases h
theorem bnot_f1 {b : Bool} (h : (!b) = false) : b = true := by cases b <;> simp_all
theorem sz_IntS {N : Nat} {x : List Int} {l : Int} (_ : 1073741824 ≤ N) (hp : (AllL (fun _ => True) 9223372036854775807) x) (h0 : 0 ≤ l) (h1 : l ≤ 1048576) : ∃ r, laws_szIntS N x l = some r ∧ (0 ≤ r → (AllL (fun _ => True) 1048576) x ∧ r ≤ 1048576) := by
  unfold laws_szIntS
  have hs : sb l (x.length : Int) = some (l - x.length) := by
    unfold sb; rw [if_pos]; unfold rng; simp only [Bool.and_eq_true, decide_eq_true_eq]; have := hp.1; omega
  rw [hs, bs]
  by_cases hl : l - x.length < 0
  · rw [decide_eq_true hl, cond_true]; exact ⟨-1, rfl, fun h => absurd h (by omega)⟩
  · rw [decide_eq_false hl, cond_false]; exact ⟨_, rfl, fun _ => ⟨⟨by omega, fun _ _ => trivial⟩, by omega⟩⟩
theorem toL_IntS (N : Nat) : ∀ k xs ys i, laws_toIntS_L1 N k xs ys i = gtoL (fun x : Int => some x) k xs ys i := by
  intro k
  induction k with
  | zero => intros; rfl
  | succ k ih => intro xs ys i; rw [laws_toIntS_L1, gtoL]; simp only [ih, bs]
theorem to_IntS {N : Nat} {x : List Int} (hN : 1073741824 ≤ N) (h : (AllL (fun _ => True) 1048576) x) : laws_toIntS N x = some x := by
  have := gto_ok (b := 8) (z := (0 : Int)) (by decide) hN (f := fun x : Int => some x) (fun x _ => rfl) h
  unfold gto at this; unfold laws_toIntS; simp only [toL_IntS]; exact this
theorem eqL_IntS (N : Nat) : ∀ k xs ys i, laws_eqIntS_L1 N k xs ys i = geqL (fun x y : Int => some (decide (x = y))) k xs ys i := by
  intro k
  induction k with
  | zero => intros; rfl
  | succ k ih =>
    intro xs ys i; rw [laws_eqIntS_L1, geqL]; simp only [ih, bs]
    have e : ∀ x y : Int, (x != y) = !decide (x = y) := fun x y => by by_cases h : x = y <;> simp [h]
    congr 1
    refine congrArg _ (funext fun x => congrArg _ (funext fun y => ?_))
    rw [e]; cases decide (x = y) <;> rfl
theorem eq_IntS {N : Nat} {x y : List Int} (hN : 1073741824 ≤ N) (hx : (AllL (fun _ => True) 1048576) x) (hy : (AllL (fun _ => True) 1048576) y) : laws_eqIntS N x y = some (decide (x = y)) := by
  have := geq_ok hN (f := fun x y : Int => some (decide (x = y))) (fun x y _ _ => rfl) hx hy
  unfold geq at this; unfold laws_eqIntS; simp only [eqL_IntS]; exact this
theorem szL_IntSS (N : Nat) : ∀ k xs l i, laws_szIntSS_L1 N k xs l i = gszL (fun (x : List Int) l => laws_szIntS N x l) k xs l i := by
  intro k
  induction k with
  | zero => intros; rfl
  | succ k ih => intro xs l i; rw [laws_szIntSS_L1, gszL]; simp only [ih]
theorem sz_IntSS {N : Nat} {x : List (List Int)} {l : Int} (hN : 1073741824 ≤ N) (hp : (AllL (AllL (fun _ => True) 9223372036854775807) 9223372036854775807) x) (h0 : 0 ≤ l) (h1 : l ≤ 1048576) : ∃ r, laws_szIntSS N x l = some r ∧ (0 ≤ r → (AllL (AllL (fun _ => True) 1048576) 1048576) x ∧ r ≤ 1048576) := by
  have := gsz_ok hN (f := fun (x : List Int) l => laws_szIntS N x l) (p := AllL (fun _ => True) 9223372036854775807) (ok := AllL (fun _ => True) 1048576) (fun x l hp h0 h1 => sz_IntS hN hp h0 h1) hp h0 h1
  unfold gsz at this; unfold laws_szIntSS; simp only [szL_IntSS]; exact this
theorem toL_IntSS (N : Nat) : ∀ k xs ys i, laws_toIntSS_L1 N k xs ys i = gtoL (fun (x : List Int) => laws_toIntS N x) k xs ys i := by
  intro k
  induction k with
  | zero => intros; rfl
  | succ k ih => intro xs ys i; rw [laws_toIntSS_L1, gtoL]; simp only [ih]
theorem to_IntSS {N : Nat} {x : List (List Int)} (hN : 1073741824 ≤ N) (h : (AllL (AllL (fun _ => True) 1048576) 1048576) x) : laws_toIntSS N x = some x := by
  have := gto_ok (b := 24) (z := ([] : List Int)) (by decide) hN (f := fun (x : List Int) => laws_toIntS N x) (fun x hx => to_IntS hN hx) h
  unfold gto at this; unfold laws_toIntSS; simp only [toL_IntSS]; exact this
theorem eqL_IntSS (N : Nat) : ∀ k xs ys i, laws_eqIntSS_L1 N k xs ys i = geqL (fun (x y : List Int) => laws_eqIntS N x y) k xs ys i := by
  intro k
  induction k with
  | zero => intros; rfl
  | succ k ih => intro xs ys i; rw [laws_eqIntSS_L1, geqL]; simp only [ih]
theorem eq_IntSS {N : Nat} {x y : List (List Int)} (hN : 1073741824 ≤ N) (hx : (AllL (AllL (fun _ => True) 1048576) 1048576) x) (hy : (AllL (AllL (fun _ => True) 1048576) 1048576) y) : laws_eqIntSS N x y = some (decide (x = y)) := by
  have := geq_ok hN (f := fun (x y : List Int) => laws_eqIntS N x y) (fun x y hx hy => eq_IntS hN hx hy) hx hy
  unfold geq at this; unfold laws_eqIntSS; simp only [eqL_IntSS]; exact this
theorem eqB_IntSS {N : Nat} {x y : List (List Int)} (hN : 1073741824 ≤ N) (hx : (AllL (AllL (fun _ => True) 1048576) 1073741823) x) (hy : (AllL (AllL (fun _ => True) 1048576) 1073741823) y) : laws_eqIntSS N x y = some (decide (x = y)) := by
  have := geqB_ok hN (f := fun (x y : List Int) => laws_eqIntS N x y) (fun x y hx hy => eq_IntS hN hx hy) hx hy
  unfold geq at this; unfold laws_eqIntSS; simp only [eqL_IntSS]; exact this
theorem sz_Relation {N : Nat} {x : Int × List (List Int)} {l : Int} (hN : 1073741824 ≤ N) (hp : (fun x => (AllL (AllL (fun _ => True) 9223372036854775807) 9223372036854775807) x.2) x) (h0 : 0 ≤ l) (h1 : l ≤ 1048576) : ∃ r, laws_szRelation N x.1 x.2 l = some r ∧ (0 ≤ r → (fun x => (AllL (AllL (fun _ => True) 1048576) 1048576) x.2) x ∧ r ≤ 1048576) := by
  unfold laws_szRelation
  obtain ⟨r0, e0, k0⟩ := sz_IntSS hN hp (l := l) (by omega) (by omega)
  rw [e0, bs]
  by_cases hn0 : r0 < 0
  · rw [decide_eq_true hn0, cond_true]; exact ⟨-1, rfl, fun h => absurd h (by omega)⟩
  rw [decide_eq_false hn0, cond_false]
  have b0 : r0 ≤ 1048576 := (k0 (by omega)).2
  exact ⟨_, rfl, fun _ => ⟨(k0 (by omega)).1, b0⟩⟩
theorem to_Relation {N : Nat} {x : Int × List (List Int)} (hN : 1073741824 ≤ N) (h : (fun x => (AllL (AllL (fun _ => True) 1048576) 1048576) x.2) x) : laws_toRelation N x.1 x.2 = some x := by
  unfold laws_toRelation
  rw [to_IntSS hN h, bs]
theorem eq_Relation {N : Nat} {x y : Int × List (List Int)} (hN : 1073741824 ≤ N) (hx : (fun x => (AllL (AllL (fun _ => True) 1048576) 1048576) x.2) x) (hy : (fun x => (AllL (AllL (fun _ => True) 1048576) 1048576) x.2) y) : laws_eqRelation N x.1 x.2 y.1 y.2 = some (decide (x = y)) := by
  unfold laws_eqRelation
  simp only [eq_IntSS hN hx hy, bs, eqS_dec, bneD]
  obtain ⟨x0, x1⟩ := x
  obtain ⟨y0, y1⟩ := y
  clear hx hy
  by_cases h0 : x0 = y0 <;> by_cases h1 : x1 = y1 <;> simp [h0, h1]
theorem sz_FactorNode {N : Nat} {x : List Int × List Int} {l : Int} (hN : 1073741824 ≤ N) (hp : (fun x => (AllL (fun _ => True) 9223372036854775807) x.1 ∧ (AllL (fun _ => True) 9223372036854775807) x.2) x) (h0 : 0 ≤ l) (h1 : l ≤ 1048576) : ∃ r, laws_szFactorNode N x.1 x.2 l = some r ∧ (0 ≤ r → (fun x => (AllL (fun _ => True) 1048576) x.1 ∧ (AllL (fun _ => True) 1048576) x.2) x ∧ r ≤ 1048576) := by
  unfold laws_szFactorNode
  obtain ⟨r0, e0, k0⟩ := sz_IntS hN hp.1 (l := l) (by omega) (by omega)
  rw [e0, bs]
  by_cases hn0 : r0 < 0
  · rw [decide_eq_true hn0, cond_true]; exact ⟨-1, rfl, fun h => absurd h (by omega)⟩
  rw [decide_eq_false hn0, cond_false]
  have b0 : r0 ≤ 1048576 := (k0 (by omega)).2
  obtain ⟨r1, e1, k1⟩ := sz_IntS hN hp.2 (l := r0) (by omega) (by omega)
  rw [e1, bs]
  by_cases hn1 : r1 < 0
  · rw [decide_eq_true hn1, cond_true]; exact ⟨-1, rfl, fun h => absurd h (by omega)⟩
  rw [decide_eq_false hn1, cond_false]
  have b1 : r1 ≤ 1048576 := (k1 (by omega)).2
  exact ⟨_, rfl, fun _ => ⟨⟨(k0 (by omega)).1, (k1 (by omega)).1⟩, b1⟩⟩
theorem to_FactorNode {N : Nat} {x : List Int × List Int} (hN : 1073741824 ≤ N) (h : (fun x => (AllL (fun _ => True) 1048576) x.1 ∧ (AllL (fun _ => True) 1048576) x.2) x) : laws_toFactorNode N x.1 x.2 = some x := by
  unfold laws_toFactorNode
  rw [to_IntS hN h.1, bs, to_IntS hN h.2, bs]
theorem eq_FactorNode {N : Nat} {x y : List Int × List Int} (hN : 1073741824 ≤ N) (hx : (fun x => (AllL (fun _ => True) 1048576) x.1 ∧ (AllL (fun _ => True) 1048576) x.2) x) (hy : (fun x => (AllL (fun _ => True) 1048576) x.1 ∧ (AllL (fun _ => True) 1048576) x.2) y) : laws_eqFactorNode N x.1 x.2 y.1 y.2 = some (decide (x = y)) := by
  unfold laws_eqFactorNode
  simp only [eq_IntS hN hx.1 hy.1, eq_IntS hN hx.2 hy.2, bs, eqS_dec, bneD]
  obtain ⟨x0, x1⟩ := x
  obtain ⟨y0, y1⟩ := y
  clear hx hy
  by_cases h0 : x0 = y0 <;> by_cases h1 : x1 = y1 <;> simp [h0, h1]
theorem szL_FactorNodeS (N : Nat) : ∀ k xs l i, laws_szFactorNodeS_L1 N k xs l i = gszL (fun (x : List Int × List Int) l => laws_szFactorNode N x.1 x.2 l) k xs l i := by
  intro k
  induction k with
  | zero => intros; rfl
  | succ k ih => intro xs l i; rw [laws_szFactorNodeS_L1, gszL]; simp only [ih]
theorem sz_FactorNodeS {N : Nat} {x : List (List Int × List Int)} {l : Int} (hN : 1073741824 ≤ N) (hp : (AllL (fun x => (AllL (fun _ => True) 9223372036854775807) x.1 ∧ (AllL (fun _ => True) 9223372036854775807) x.2) 9223372036854775807) x) (h0 : 0 ≤ l) (h1 : l ≤ 1048576) : ∃ r, laws_szFactorNodeS N x l = some r ∧ (0 ≤ r → (AllL (fun x => (AllL (fun _ => True) 1048576) x.1 ∧ (AllL (fun _ => True) 1048576) x.2) 1048576) x ∧ r ≤ 1048576) := by
  have := gsz_ok hN (f := fun (x : List Int × List Int) l => laws_szFactorNode N x.1 x.2 l) (p := fun x => (AllL (fun _ => True) 9223372036854775807) x.1 ∧ (AllL (fun _ => True) 9223372036854775807) x.2) (ok := fun x => (AllL (fun _ => True) 1048576) x.1 ∧ (AllL (fun _ => True) 1048576) x.2) (fun x l hp h0 h1 => sz_FactorNode hN hp h0 h1) hp h0 h1
  unfold gsz at this; unfold laws_szFactorNodeS; simp only [szL_FactorNodeS]; exact this
theorem toL_FactorNodeS (N : Nat) : ∀ k xs ys i, laws_toFactorNodeS_L1 N k xs ys i = gtoL (fun (x : List Int × List Int) => laws_toFactorNode N x.1 x.2) k xs ys i := by
  intro k
  induction k with
  | zero => intros; rfl
  | succ k ih => intro xs ys i; rw [laws_toFactorNodeS_L1, gtoL]; simp only [ih]
theorem to_FactorNodeS {N : Nat} {x : List (List Int × List Int)} (hN : 1073741824 ≤ N) (h : (AllL (fun x => (AllL (fun _ => True) 1048576) x.1 ∧ (AllL (fun _ => True) 1048576) x.2) 1048576) x) : laws_toFactorNodeS N x = some x := by
  have := gto_ok (b := 48) (z := (([], []) : List Int × List Int)) (by decide) hN (f := fun (x : List Int × List Int) => laws_toFactorNode N x.1 x.2) (fun x hx => to_FactorNode hN hx) h
  unfold gto at this; unfold laws_toFactorNodeS; simp only [toL_FactorNodeS]; exact this
theorem eqL_FactorNodeS (N : Nat) : ∀ k xs ys i, laws_eqFactorNodeS_L1 N k xs ys i = geqL (fun (x y : List Int × List Int) => laws_eqFactorNode N x.1 x.2 y.1 y.2) k xs ys i := by
  intro k
  induction k with
  | zero => intros; rfl
  | succ k ih => intro xs ys i; rw [laws_eqFactorNodeS_L1, geqL]; simp only [ih]
theorem eq_FactorNodeS {N : Nat} {x y : List (List Int × List Int)} (hN : 1073741824 ≤ N) (hx : (AllL (fun x => (AllL (fun _ => True) 1048576) x.1 ∧ (AllL (fun _ => True) 1048576) x.2) 1048576) x) (hy : (AllL (fun x => (AllL (fun _ => True) 1048576) x.1 ∧ (AllL (fun _ => True) 1048576) x.2) 1048576) y) : laws_eqFactorNodeS N x y = some (decide (x = y)) := by
  have := geq_ok hN (f := fun (x y : List Int × List Int) => laws_eqFactorNode N x.1 x.2 y.1 y.2) (fun x y hx hy => eq_FactorNode hN hx hy) hx hy
  unfold geq at this; unfold laws_eqFactorNodeS; simp only [eqL_FactorNodeS]; exact this
theorem sz_Factorization {N : Nat} {x : List Int × List (List Int × List Int)} {l : Int} (hN : 1073741824 ≤ N) (hp : (fun x => (AllL (fun _ => True) 9223372036854775807) x.1 ∧ (AllL (fun x => (AllL (fun _ => True) 9223372036854775807) x.1 ∧ (AllL (fun _ => True) 9223372036854775807) x.2) 9223372036854775807) x.2) x) (h0 : 0 ≤ l) (h1 : l ≤ 1048576) : ∃ r, laws_szFactorization N x.1 x.2 l = some r ∧ (0 ≤ r → (fun x => (AllL (fun _ => True) 1048576) x.1 ∧ (AllL (fun x => (AllL (fun _ => True) 1048576) x.1 ∧ (AllL (fun _ => True) 1048576) x.2) 1048576) x.2) x ∧ r ≤ 1048576) := by
  unfold laws_szFactorization
  obtain ⟨r0, e0, k0⟩ := sz_IntS hN hp.1 (l := l) (by omega) (by omega)
  rw [e0, bs]
  by_cases hn0 : r0 < 0
  · rw [decide_eq_true hn0, cond_true]; exact ⟨-1, rfl, fun h => absurd h (by omega)⟩
  rw [decide_eq_false hn0, cond_false]
  have b0 : r0 ≤ 1048576 := (k0 (by omega)).2
  obtain ⟨r1, e1, k1⟩ := sz_FactorNodeS hN hp.2 (l := r0) (by omega) (by omega)
  rw [e1, bs]
  by_cases hn1 : r1 < 0
  · rw [decide_eq_true hn1, cond_true]; exact ⟨-1, rfl, fun h => absurd h (by omega)⟩
  rw [decide_eq_false hn1, cond_false]
  have b1 : r1 ≤ 1048576 := (k1 (by omega)).2
  exact ⟨_, rfl, fun _ => ⟨⟨(k0 (by omega)).1, (k1 (by omega)).1⟩, b1⟩⟩
theorem to_Factorization {N : Nat} {x : List Int × List (List Int × List Int)} (hN : 1073741824 ≤ N) (h : (fun x => (AllL (fun _ => True) 1048576) x.1 ∧ (AllL (fun x => (AllL (fun _ => True) 1048576) x.1 ∧ (AllL (fun _ => True) 1048576) x.2) 1048576) x.2) x) : laws_toFactorization N x.1 x.2 = some x := by
  unfold laws_toFactorization
  rw [to_IntS hN h.1, bs, to_FactorNodeS hN h.2, bs]
theorem eq_Factorization {N : Nat} {x y : List Int × List (List Int × List Int)} (hN : 1073741824 ≤ N) (hx : (fun x => (AllL (fun _ => True) 1048576) x.1 ∧ (AllL (fun x => (AllL (fun _ => True) 1048576) x.1 ∧ (AllL (fun _ => True) 1048576) x.2) 1048576) x.2) x) (hy : (fun x => (AllL (fun _ => True) 1048576) x.1 ∧ (AllL (fun x => (AllL (fun _ => True) 1048576) x.1 ∧ (AllL (fun _ => True) 1048576) x.2) 1048576) x.2) y) : laws_eqFactorization N x.1 x.2 y.1 y.2 = some (decide (x = y)) := by
  unfold laws_eqFactorization
  simp only [eq_IntS hN hx.1 hy.1, eq_FactorNodeS hN hx.2 hy.2, bs, eqS_dec, bneD]
  obtain ⟨x0, x1⟩ := x
  obtain ⟨y0, y1⟩ := y
  clear hx hy
  by_cases h0 : x0 = y0 <;> by_cases h1 : x1 = y1 <;> simp [h0, h1]
theorem mk_IntS {N : Nat} {x : List Int} (hN : 1073741824 ≤ N) (h : (AllL (fun _ => True) 1048576) x) {k : Int} (h0 : 0 ≤ k) (h1 : k + 1048576 ≤ 4611686018427387904) : ∃ r, laws_markIntS N x k = some r ∧ k ≤ r.1 ∧ r.1 ≤ k + 1048576 ∧ laws_heldIntS N r.2 k = some r.1 := by
  have hl : x.length ≤ 1048576 := by have := h.1; omega
  obtain ⟨ys, s', e1, e2, e3, e4, _, e6⟩ := gmk (fun n xs s i => laws_markIntS_L1 N n xs s i) (fun n xs s i => laws_heldIntS_L1 N n xs s i) (fun (_ : Int) s => (ad s 1).bind fun t => some (t, s)) (fun (y : Int) s => bif (y != s) then none else ad s 1) (fun _ => True) 1 4611686018427387904 (by omega)
      (fun n xs s i h r hl hr => by
        obtain ⟨t, ht, h2⟩ := ob hr
        cases h2
        show laws_markIntS_L1 N (n + 1) xs s (i : Int) = _
        rw [laws_markIntS_L1, dlt h, cond_true, ix_nat h, bs, sto_nat h, bs, ht, bs, ad1 (by omega), bs])
      (fun n xs s => by
        show laws_markIntS_L1 N (n + 1) xs s (xs.length : Int) = _
        rw [laws_markIntS_L1, dge (by omega), cond_false])
      (fun n xs s i h r hl hr h0 h1 => by
        show laws_heldIntS_L1 N (n + 1) xs s (i : Int) = _
        rw [laws_heldIntS_L1, dlt h, cond_true, ix_nat h, bs]
        revert hr
        cases (xs[i] != s) with
        | true => intro hr; cases hr
        | false => intro hr; rw [cond_false] at hr ⊢; rw [hr, bs, ad1 (by omega), bs])
      (fun n xs s => by
        show laws_heldIntS_L1 N (n + 1) xs s (xs.length : Int) = _
        rw [laws_heldIntS_L1, dge (by omega), cond_false])
      (fun x s _ h0 h1 => ⟨(s + 1, s), by rw [ad_ok (by omega) (by omega), bs], by simp only []; omega, by simp only []; omega, by simp only [bne_self_eq_false, cond_false]; exact ad_ok (by omega) (by omega)⟩) x.length 0 N x k (by omega) (by omega) (by omega) (fun j hj _ => h.2 _ (List.getElem_mem hj)) h0 (by have h9 : (x.length : Int) * 1 ≤ 1048576 := (by omega); omega)
  have e1' : laws_markIntS_L1 N N x k 0 = some (ys, s', (ys.length : Int)) := e1
  refine ⟨(s', ys), by unfold laws_markIntS; rw [e1', bs, lpB], e2, ?_, ?_⟩
  · have : (x.length : Int) * 1 ≤ 1048576 := by omega
    simp only []; omega
  · have e6' : laws_heldIntS_L1 N N ys k 0 = some (.inr (s', (ys.length : Int))) := e6 N (by omega)
    unfold laws_heldIntS; simp only []; rw [e6', bs]; rfl
theorem mk_IntSS {N : Nat} {x : List (List Int)} (hN : 1073741824 ≤ N) (h : (AllL (AllL (fun _ => True) 1048576) 1048576) x) {k : Int} (h0 : 0 ≤ k) (h1 : k + 1099511627776 ≤ 4611686018427387904) : ∃ r, laws_markIntSS N x k = some r ∧ k ≤ r.1 ∧ r.1 ≤ k + 1099511627776 ∧ laws_heldIntSS N r.2 k = some r.1 := by
  have hl : x.length ≤ 1048576 := by have := h.1; omega
  obtain ⟨ys, s', e1, e2, e3, e4, _, e6⟩ := gmk (fun n xs s i => laws_markIntSS_L1 N n xs s i) (fun n xs s i => laws_heldIntSS_L1 N n xs s i) (fun (x : List Int) s => laws_markIntS N x s) (fun (y : List Int) s => laws_heldIntS N y s) (AllL (fun _ => True) 1048576) 1048576 4611686018427387904 (by omega)
      (fun n xs s i h r hl hr => by
        show laws_markIntSS_L1 N (n + 1) xs s (i : Int) = _
        rw [laws_markIntSS_L1, dlt h, cond_true, ix_nat h, bs, hr, bs, sto_nat h, bs, ad1 (by omega), bs])
      (fun n xs s => by
        show laws_markIntSS_L1 N (n + 1) xs s (xs.length : Int) = _
        rw [laws_markIntSS_L1, dge (by omega), cond_false])
      (fun n xs s i h r hl hr h0 h1 => by
        show laws_heldIntSS_L1 N (n + 1) xs s (i : Int) = _
        rw [laws_heldIntSS_L1, dlt h, cond_true, ix_nat h, bs, hr, bs, decide_eq_false (by omega), cond_false, ad1 (by omega), bs])
      (fun n xs s => by
        show laws_heldIntSS_L1 N (n + 1) xs s (xs.length : Int) = _
        rw [laws_heldIntSS_L1, dge (by omega), cond_false])
      (fun x s hx h0 h1 => mk_IntS hN hx h0 h1) x.length 0 N x k (by omega) (by omega) (by omega) (fun j hj _ => h.2 _ (List.getElem_mem hj)) h0 (by have h9 : (x.length : Int) * 1048576 ≤ 1099511627776 := (by omega); omega)
  have e1' : laws_markIntSS_L1 N N x k 0 = some (ys, s', (ys.length : Int)) := e1
  refine ⟨(s', ys), by unfold laws_markIntSS; rw [e1', bs, lpB], e2, ?_, ?_⟩
  · have : (x.length : Int) * 1048576 ≤ 1099511627776 := by omega
    simp only []; omega
  · have e6' : laws_heldIntSS_L1 N N ys k 0 = some (.inr (s', (ys.length : Int))) := e6 N (by omega)
    unfold laws_heldIntSS; simp only []; rw [e6', bs]; rfl
theorem mkB_IntSS {N : Nat} {x : List (List Int)} (hN : 1073741824 ≤ N) (h : (AllL (AllL (fun _ => True) 1048576) 1073741823) x) {k : Int} (h0 : 0 ≤ k) (h1 : k + 1125899905794048 ≤ 4611686018427387904) : ∃ r, laws_markIntSS N x k = some r ∧ k ≤ r.1 ∧ r.1 ≤ k + 1125899905794048 ∧ laws_heldIntSS N r.2 k = some r.1 := by
  have hl : x.length ≤ 1073741823 := by have := h.1; omega
  obtain ⟨ys, s', e1, e2, e3, e4, _, e6⟩ := gmk (fun n xs s i => laws_markIntSS_L1 N n xs s i) (fun n xs s i => laws_heldIntSS_L1 N n xs s i) (fun (x : List Int) s => laws_markIntS N x s) (fun (y : List Int) s => laws_heldIntS N y s) (AllL (fun _ => True) 1048576) 1048576 4611686018427387904 (by omega)
      (fun n xs s i h r hl hr => by
        show laws_markIntSS_L1 N (n + 1) xs s (i : Int) = _
        rw [laws_markIntSS_L1, dlt h, cond_true, ix_nat h, bs, hr, bs, sto_nat h, bs, ad1 (by omega), bs])
      (fun n xs s => by
        show laws_markIntSS_L1 N (n + 1) xs s (xs.length : Int) = _
        rw [laws_markIntSS_L1, dge (by omega), cond_false])
      (fun n xs s i h r hl hr h0 h1 => by
        show laws_heldIntSS_L1 N (n + 1) xs s (i : Int) = _
        rw [laws_heldIntSS_L1, dlt h, cond_true, ix_nat h, bs, hr, bs, decide_eq_false (by omega), cond_false, ad1 (by omega), bs])
      (fun n xs s => by
        show laws_heldIntSS_L1 N (n + 1) xs s (xs.length : Int) = _
        rw [laws_heldIntSS_L1, dge (by omega), cond_false])
      (fun x s hx h0 h1 => mk_IntS hN hx h0 h1) x.length 0 N x k (by omega) (by omega) (by omega) (fun j hj _ => h.2 _ (List.getElem_mem hj)) h0 (by have h9 : (x.length : Int) * 1048576 ≤ 1125899905794048 := (by omega); omega)
  have e1' : laws_markIntSS_L1 N N x k 0 = some (ys, s', (ys.length : Int)) := e1
  refine ⟨(s', ys), by unfold laws_markIntSS; rw [e1', bs, lpB], e2, ?_, ?_⟩
  · have : (x.length : Int) * 1048576 ≤ 1125899905794048 := by omega
    simp only []; omega
  · have e6' : laws_heldIntSS_L1 N N ys k 0 = some (.inr (s', (ys.length : Int))) := e6 N (by omega)
    unfold laws_heldIntSS; simp only []; rw [e6', bs]; rfl
theorem mk_Relation {N : Nat} {x : Int × List (List Int)} (hN : 1073741824 ≤ N) (h : (fun x => (AllL (AllL (fun _ => True) 1048576) 1048576) x.2) x) {k : Int} (h0 : 0 ≤ k) (h1 : k + 1099511627776 ≤ 4611686018427387904) : ∃ r, laws_markRelation N x.1 x.2 k = some r ∧ k ≤ r.1 ∧ r.1 ≤ k + 1099511627776 ∧ laws_heldRelation N x.1 r.2 k = some r.1 := by
  obtain ⟨r0, e0, a0, b0, d0⟩ := mk_IntSS hN h (k := k) (by omega) (by omega)
  unfold laws_markRelation
  rw [e0, bs]
  refine ⟨_, rfl, by simp only []; omega, by simp only []; omega, ?_⟩
  unfold laws_heldRelation
  rw [d0, bs, decide_eq_false (by omega), cond_false]
theorem mk_FactorNodeS {N : Nat} {x : List (List Int × List Int)} (hN : 1073741824 ≤ N) (h : (AllL (fun x => (AllL (fun _ => True) 1048576) x.1 ∧ (AllL (fun _ => True) 1048576) x.2) 1048576) x) {k : Int} (h0 : 0 ≤ k) (h1 : k + 2199023255552 ≤ 4611686018427387904) : ∃ r, laws_markFactorNodeS N x k = some r ∧ k ≤ r.1 ∧ r.1 ≤ k + 2199023255552 ∧ laws_heldFactorNodeS N r.2 k = some r.1 := by
  have hl : x.length ≤ 1048576 := by have := h.1; omega
  obtain ⟨ys, s', e1, e2, e3, e4, _, e6⟩ := gmk (fun n xs s i => laws_markFactorNodeS_L1 N n xs s i) (fun n xs s i => laws_heldFactorNodeS_L1 N n xs s i) (fun (x : List Int × List Int) s => (laws_markIntS N x.1 s).bind fun r0 => (laws_markIntS N x.2 r0.1).bind fun r1 => some (r1.1, (r0.2, r1.2))) (fun (y : List Int × List Int) s => (laws_heldIntS N y.1 s).bind fun r0 => bif decide (r0 < 0) then none else (laws_heldIntS N y.2 r0).bind fun r1 => bif decide (r1 < 0) then none else some r1) (fun x => (AllL (fun _ => True) 1048576) x.1 ∧ (AllL (fun _ => True) 1048576) x.2) 2097152 4611686018427387904 (by omega)
      (by
    intro n xs s i h r hl hr
    obtain ⟨r0, hr0, hr⟩ := ob hr
    obtain ⟨r1, hr1, hr⟩ := ob hr
    cases hr
    show laws_markFactorNodeS_L1 N (n + 1) xs s (i : Int) = _
    rw [laws_markFactorNodeS_L1]
    simp only [dlt h, cond_true, ix_nat h, sto_nat h, bs, ix_set h, sto_set h, hr0, hr1, ad1 (show i < 1099511627776 by omega)])
      (fun n xs s => by
        show laws_markFactorNodeS_L1 N (n + 1) xs s (xs.length : Int) = _
        rw [laws_markFactorNodeS_L1, dge (by omega), cond_false])
      (by
    intro n xs s i h r hl hr h0 h1
    obtain ⟨r0, hr0, hr⟩ := ob hr
    obtain ⟨hb0, hr⟩ := onone hr
    obtain ⟨r1, hr1, hr⟩ := ob hr
    obtain ⟨hb1, hr⟩ := onone hr
    cases hr
    show laws_heldFactorNodeS_L1 N (n + 1) xs s (i : Int) = _
    rw [laws_heldFactorNodeS_L1]
    simp only [dlt h, cond_true, cond_false, ix_nat h, bs, hr0, hb0, hr1, hb1, ad1 (show i < 1099511627776 by omega)])
      (fun n xs s => by
        show laws_heldFactorNodeS_L1 N (n + 1) xs s (xs.length : Int) = _
        rw [laws_heldFactorNodeS_L1, dge (by omega), cond_false])
      (by
    intro x s hx h0 h1
    obtain ⟨r0, hr0, a0, b0, d0⟩ := mk_IntS (x := x.1) hN hx.1 (k := s) (by omega) (by omega)
    obtain ⟨r1, hr1, a1, b1, d1⟩ := mk_IntS (x := x.2) hN hx.2 (k := r0.1) (by omega) (by omega)
    exact ⟨(r1.1, (r0.2, r1.2)), by simp only [hr0, hr1, bs], by simp only []; omega, by simp only []; omega, by simp only [hr0, d0, (show decide (r0.1 < 0) = false from decide_eq_false (by omega)), hr1, d1, (show decide (r1.1 < 0) = false from decide_eq_false (by omega)), bs, bne_self_eq_false, eqS_dec, decide_true, Bool.not_true, cond_false]⟩) x.length 0 N x k (by omega) (by omega) (by omega) (fun j hj _ => h.2 _ (List.getElem_mem hj)) h0 (by have h9 : (x.length : Int) * 2097152 ≤ 2199023255552 := (by omega); omega)
  have e1' : laws_markFactorNodeS_L1 N N x k 0 = some (ys, s', (ys.length : Int)) := e1
  refine ⟨(s', ys), by unfold laws_markFactorNodeS; rw [e1', bs, lpB], e2, ?_, ?_⟩
  · have : (x.length : Int) * 2097152 ≤ 2199023255552 := by omega
    simp only []; omega
  · have e6' : laws_heldFactorNodeS_L1 N N ys k 0 = some (.inr (s', (ys.length : Int))) := e6 N (by omega)
    unfold laws_heldFactorNodeS; simp only []; rw [e6', bs]; rfl
theorem mk_Factorization {N : Nat} {x : List Int × List (List Int × List Int)} (hN : 1073741824 ≤ N) (h : (fun x => (AllL (fun _ => True) 1048576) x.1 ∧ (AllL (fun x => (AllL (fun _ => True) 1048576) x.1 ∧ (AllL (fun _ => True) 1048576) x.2) 1048576) x.2) x) {k : Int} (h0 : 0 ≤ k) (h1 : k + 2199024304128 ≤ 4611686018427387904) : ∃ r, laws_markFactorization N x.1 x.2 k = some r ∧ k ≤ r.1 ∧ r.1 ≤ k + 2199024304128 ∧ laws_heldFactorization N r.2.1 r.2.2 k = some r.1 := by
  obtain ⟨r0, e0, a0, b0, d0⟩ := mk_IntS hN h.1 (k := k) (by omega) (by omega)
  obtain ⟨r1, e1, a1, b1, d1⟩ := mk_FactorNodeS hN h.2 (k := r0.1) (by omega) (by omega)
  unfold laws_markFactorization
  rw [e0, bs, e1, bs]
  refine ⟨_, rfl, by simp only []; omega, by simp only []; omega, ?_⟩
  unfold laws_heldFactorization
  rw [d0, bs, decide_eq_false (by omega), cond_false, d1, bs, decide_eq_false (by omega), cond_false]
end Go.Proofs.Ytdingjlefilafaa
