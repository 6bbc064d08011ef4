/- Plain laws: the columns of an atom in an order are a permutation; the tries of a query's atoms. -/
import Derived.Test.YtbdnoljojebebaaGreatV1
namespace Go.Proofs.YtbdnoljojebebaaGreat
open Go.RowKit

theorem nodup_full {n : Nat} {xs : List Int} (hn : xs.Nodup) (hl : xs.length = n) (hb : ∀ x ∈ xs, 0 ≤ x ∧ x < n) (v : Int) (h0 : 0 ≤ v) (h1 : v < n) : v ∈ xs := by
  refine Classical.byContradiction fun hv => ?_
  have := nodup_bound n (v :: xs) (List.nodup_cons.2 ⟨hv, hn⟩) (fun x hx => by
    rcases List.mem_cons.1 hx with rfl | hx
    · exact ⟨h0, h1⟩
    · exact hb x hx)
  rw [List.length_cons] at this; omega
theorem nodup_inj {xs : List Int} (h : xs.Nodup) {i j : Nat} (hi : i < xs.length) (hj : j < xs.length) (e : xs[i] = xs[j]) : i = j := by
  rw [List.Nodup, List.pairwise_iff_getElem] at h
  rcases Nat.lt_trichotomy i j with hl | hl | hl
  · exact absurd e (h i j hi hj hl)
  · exact hl
  · exact absurd e.symm (h j i hj hi hl)
theorem isSetB_of {xs : List Int} {n : Int} (hn : xs.Nodup) (hb : ∀ x ∈ xs, 0 ≤ x ∧ x ≤ n - 1) : isSetB xs n = true := by
  unfold isSetB
  rw [List.all_eq_true]
  intro i hi
  have hi' : i < xs.length := by simpa using hi
  rw [getD_at hi', Bool.and_eq_true, Bool.not_eq_true', decide_eq_false_iff_not]
  refine ⟨inR_iff.2 (hb _ (List.getElem_mem hi')), fun hm => ?_⟩
  obtain ⟨j, hj, e⟩ := List.mem_iff_getElem.1 hm
  rw [List.getElem_take] at e
  have := nodup_inj hn (by rw [List.length_take] at hj; omega) hi' e
  rw [List.length_take] at hj; omega
theorem findI_at {vs : List Int} (hn : vs.Nodup) {k : Nat} (h : k < vs.length) : findI vs vs[k] = (k : Int) := by
  rcases findI_spec vs vs[k] with ⟨h1, _⟩ | ⟨j, hj, e, h2, _⟩
  · exact absurd (List.getElem_mem h) h1
  · rw [h2, nodup_inj hn hj h e]
theorem ordV_nodup (n : Nat) : (ordV n).Nodup := by
  unfold ordV
  rw [List.Nodup, List.pairwise_map]
  exact List.Pairwise.imp (fun h => by omega) (List.pairwise_lt_range' (s := 0) (n := n))
theorem varsV_nodup (xs : List Int) : (varsV xs).Nodup := (ordV_nodup 5).filter _
theorem findI_ge {vs : List Int} {v : Int} : 0 ≤ findI vs v ↔ v ∈ vs := by
  have := findI_nonneg vs v
  rw [Bool.eq_iff_iff, decide_eq_true_eq, decide_eq_true_eq] at this; exact this
theorem findI_len {vs : List Int} {v : Int} (h : v ∈ vs) : findI vs v < vs.length := by
  obtain ⟨j, e, hj⟩ := findI_mem h; omega
theorem colStep_mem (vars out : List Int) (v k : Int) : k ∈ colStep vars out v ↔ k ∈ out ∨ (v ∈ vars ∧ findI vars v = k) := by
  unfold colStep
  by_cases h1 : v ∈ vars
  · rw [decide_eq_true (findI_ge.2 h1), Bool.true_and]
    by_cases h2 : findI vars v ∈ out
    · rw [decide_eq_true h2, Bool.not_true, cond_false]
      exact ⟨.inl, fun h => h.elim id fun ⟨_, e⟩ => e ▸ h2⟩
    · rw [decide_eq_false h2, Bool.not_false, cond_true, List.mem_append, List.mem_singleton]
      exact ⟨fun h => h.imp id fun e => ⟨h1, e.symm⟩, fun h => h.imp id fun e => e.2.symm⟩
  · rw [decide_eq_false (fun h => h1 (findI_ge.1 h)), Bool.false_and, cond_false]
    exact ⟨.inl, fun h => h.elim id fun e => absurd e.1 h1⟩
theorem colStep_nodup {vars out : List Int} {v : Int} (h : out.Nodup) : (colStep vars out v).Nodup := by
  unfold colStep
  by_cases h2 : findI vars v ∈ out
  · rw [decide_eq_true h2, Bool.not_true, Bool.and_false, cond_false]; exact h
  · rw [decide_eq_false h2, Bool.not_false, Bool.and_true]
    cases decide (0 ≤ findI vars v)
    · exact h
    · rw [cond_true, List.nodup_append]
      refine ⟨h, by simp, fun a ha b hb => ?_⟩
      rw [List.mem_singleton] at hb
      rintro rfl; exact h2 (hb ▸ ha)
theorem colFold_mem (vars : List Int) : ∀ (l out : List Int) (k : Int), k ∈ l.foldl (colStep vars) out ↔ k ∈ out ∨ ∃ v ∈ l, v ∈ vars ∧ findI vars v = k
  | [], out, k => by simp
  | v :: l, out, k => by
    rw [List.foldl_cons, colFold_mem vars l, colStep_mem]
    constructor
    · rintro ((h | h) | ⟨w, hw, h⟩)
      · exact .inl h
      · exact .inr ⟨v, List.mem_cons_self, h⟩
      · exact .inr ⟨w, List.mem_cons_of_mem _ hw, h⟩
    · rintro (h | ⟨w, hw, h⟩)
      · exact .inl (.inl h)
      · rcases List.mem_cons.1 hw with rfl | hw
        · exact .inl (.inr h)
        · exact .inr ⟨w, hw, h⟩
theorem colFold_nodup (vars : List Int) : ∀ (l out : List Int), out.Nodup → (l.foldl (colStep vars) out).Nodup
  | [], _, h => h
  | _ :: l, _, h => colFold_nodup vars l _ (colStep_nodup h)
theorem colsV_perm {xs order : List Int} {n : Nat} (hn : n ≤ 5) (hx : ∀ v ∈ xs, 0 ≤ v ∧ v < n) (ho : isSetB order n = true) (hl : order.length = n) : isPermB (colsV xs order) = true ∧ (colsV xs order).length = (varsV xs).length := by
  obtain ⟨o1, o2⟩ := isSetB_spec ho
  have hnd : (colsV xs order).Nodup := colFold_nodup _ _ _ List.nodup_nil
  have hmem : ∀ k : Int, k ∈ colsV xs order ↔ 0 ≤ k ∧ k < (varsV xs).length := fun k => by
    unfold colsV
    rw [colFold_mem]
    constructor
    · rintro (h | ⟨v, _, h, rfl⟩)
      · cases h
      · exact ⟨findI_ge.2 h, findI_len h⟩
    · rintro ⟨h0, h1⟩
      have hk : k.toNat < (varsV xs).length := by omega
      have hm := List.getElem_mem hk
      refine .inr ⟨(varsV xs)[k.toNat], ?_, hm, by rw [findI_at (varsV_nodup xs) hk]; omega⟩
      have := hx _ (mem_varsV.1 hm).2
      exact nodup_full o1 hl (fun x hx => by have := o2 x hx; omega) _ this.1 this.2
  have h5 := varsV_len xs
  have le1 : (colsV xs order).length ≤ (varsV xs).length := nodup_bound _ _ hnd fun k hk => (hmem k).1 hk
  have le2 : (varsV xs).length ≤ (colsV xs order).length := by
    refine Classical.byContradiction fun hlt => ?_
    have hsub : ∀ (m : Nat) (ys : List Int), (∀ k : Nat, k < m → (k : Int) ∈ ys) → m ≤ ys.length := by
      intro m
      induction m with
      | zero => intro ys _; omega
      | succ m ih =>
        intro ys h
        have h1 := ih (ys.erase (m : Int)) fun k hk => (List.mem_erase_of_ne (by omega)).2 (h k (by omega))
        rw [List.length_erase_of_mem (h m (by omega))] at h1
        have := List.length_pos_of_mem (h m (by omega))
        omega
    exact hlt (hsub _ _ fun k hk => (hmem k).2 (by omega))
  have e : (colsV xs order).length = (varsV xs).length := by omega
  refine ⟨?_, e⟩
  unfold isPermB
  rw [decide_eq_true (by omega), Bool.true_and]
  exact isSetB_of hnd fun k hk => by have := (hmem k).1 hk; omega
theorem sortV_valid {n : Int} {rows : RowL} (h0 : 0 ≤ n ∧ n ≤ 5) (hl : rows.length ≤ 4000) (hf : ∀ r ∈ rows, (r.length : Int) = n ∧ validVals r = true) : validRows n (sortV 20 rows) = true := by
  have h := newRelV_true h0 hl hf
  unfold newRelV at h
  cases hv : validRows n (sortV 20 rows) with
  | true => rfl
  | false => rw [hv, Bool.and_false] at h; have := congrArg Prod.snd h; cases this
theorem pickV_vals {row cols : List Int} (h : validVals row = true) (hin : ∀ c ∈ cols, 0 ≤ c ∧ c < row.length) : validVals (pickV row cols) = true := by
  unfold validVals at *
  rw [List.all_eq_true] at *
  intro x hx
  unfold pickV at hx
  obtain ⟨c, hc, rfl⟩ := List.mem_map.1 hx
  have := hin c hc
  rw [getD_at (by omega)]
  exact h _ (List.getElem_mem _)
theorem trieV_true {n : Int} {rows : RowL} {cols : List Int} (hv : validRows n rows = true) (hp : isPermB cols = true) (hl : (cols.length : Int) = n) : trieV n rows cols = ((n, sortV 20 (rows.map fun r => pickV r cols)), true) ∧ validRows n (sortV 20 (rows.map fun r => pickV r cols)) = true := by
  obtain ⟨v1, v2, v3, v4⟩ := validRows_spec hv
  have hp' := hp
  unfold isPermB at hp
  rw [Bool.and_eq_true, decide_eq_true_eq] at hp
  obtain ⟨_, o2⟩ := isSetB_spec hp.2
  have hc : colsFit n cols = true := by
    unfold colsFit; rw [List.all_eq_true]
    exact fun c hc => inR_iff.2 (by have := o2 c hc; omega)
  have hf : ∀ r ∈ rows.map (fun r => pickV r cols), (r.length : Int) = n ∧ validVals r = true := fun r hr => by
    obtain ⟨x, hx, rfl⟩ := List.mem_map.1 hr
    obtain ⟨i, hi, rfl⟩ := List.getElem_of_mem hx
    obtain ⟨g1, g2, _⟩ := v4 i hi
    exact ⟨by rw [pickV_len]; exact hl, pickV_vals g2 fun c hc => by have := o2 c hc; omega⟩
  have hnr := newRelV_true ⟨v1, v2⟩ (by rw [List.length_map]; exact v3) hf
  refine ⟨?_, sortV_valid ⟨v1, v2⟩ (by rw [List.length_map]; exact v3) hf⟩
  unfold trieV projV
  rw [hp', decide_eq_true hl, Bool.true_and, cond_true, hv, decide_eq_true hp.1, hc, Bool.true_and, Bool.true_and, cond_true, hl, hnr]; rfl
/-- the trie of an atom -/
def trieA (ts : List DTable) (order : List Int) (a : QAtom) : Int × RowL := (((varsV a.2).length : Int), sortV 20 ((sortV 20 (bindRows a.2 (lookV ts a.1).1.2)).map fun r => pickV r (colsV a.2 order)))
def triesV (ts : List DTable) (order : List Int) (atoms : List QAtom) : List (Int × RowL) := atoms.map (trieA ts order)
theorem lookV_16 {ts : List DTable} {s : ByteArray} (h : (lookV ts s).2 = true) : (lookV ts s).1.2.length ≤ 16 := by
  unfold lookV at h ⊢
  cases hd : dbOk ts with
  | false => rw [hd] at h; cases h
  | true =>
    rw [hd, cond_true] at h
    rw [cond_true]
    cases hf : ts.find? (fun t => decide (t.1 = s)) with
    | none => rw [hf] at h; cases h
    | some t =>
      have hm := List.mem_of_find?_eq_some hf
      obtain ⟨i, hi, rfl⟩ := List.getElem_of_mem hm
      unfold dbOk at hd
      rw [Bool.and_eq_true, List.all_eq_true] at hd
      have := hd.2 i (by simp; omega)
      unfold tabOk at this
      rw [getT_at hi] at this
      simp only [Bool.and_eq_true, Bool.not_eq_true', decide_eq_false_iff_not] at this
      have := this.2
      show ts[i].2.2.length ≤ 16
      omega
/-- a query for a database, an order of it -/
structure QFor (ts : List DTable) (n : Nat) (atoms : List QAtom) (order : List Int) : Prop where
  n1 : 1 ≤ n
  n5 : n ≤ 5
  ol : order.length = n
  os : isSetB order n = true
  a1 : 1 ≤ atoms.length
  a4 : atoms.length ≤ 4
  al : ∀ a ∈ atoms, a.2.length ≤ 5 ∧ 1 ≤ a.2.length ∧ ∀ v ∈ a.2, 0 ≤ v ∧ v < n
  af : ∀ a ∈ atoms, (lookV ts a.1).2 = true ∧ (lookV ts a.1).1.1 = (a.2.length : Int)
  cov : ∀ v : Int, 0 ≤ v → v < n → ∃ a ∈ atoms, v ∈ a.2
theorem QFor_of {ts : List DTable} {n : Int} {atoms : List QAtom} {out order : List Int} (h1 : queryFor ts n atoms out = true) (h2 : (order.length : Int) = n) (h3 : isSetB order n = true) : ∃ m : Nat, n = (m : Int) ∧ QFor ts m atoms order := by
  unfold queryFor at h1
  rw [Bool.and_eq_true, Bool.and_eq_true, List.all_eq_true] at h1
  obtain ⟨q, _, q3⟩ := h1
  obtain ⟨n1, n5, a1, a4⟩ := queryOk_n q
  unfold queryOk at q
  simp only [Bool.and_eq_true, List.all_eq_true] at q
  obtain ⟨⟨_, qa⟩, qc⟩ := q
  have hm : (n.toNat : Int) = n := by omega
  refine ⟨n.toNat, hm.symm, ⟨by omega, by omega, by omega, hm ▸ h3, by omega, by omega, fun a ha => ?_, fun a ha => ?_, fun v v0 v1 => ?_⟩⟩
  · have := qa a ha
    unfold atomOk at this
    rw [Bool.and_eq_true, Bool.and_eq_true, inR_iff, List.all_eq_true] at this
    exact ⟨by omega, by omega, fun v hv => by have := inR_iff.1 (this.2 v hv); omega⟩
  · have := q3 a ha
    unfold atomFor at this
    rw [Bool.and_eq_true, decide_eq_true_eq] at this
    exact this
  · unfold covered at qc
    rw [List.all_eq_true] at qc
    have := qc v.toNat (by simp; omega)
    rw [List.any_eq_true] at this
    obtain ⟨a, ha, h⟩ := this
    rw [decide_eq_true_eq] at h
    exact ⟨a, ha, by rw [show v = ((v.toNat : Nat) : Int) by omega]; exact h⟩
theorem trieA_ok {ts : List DTable} {n : Nat} {atoms : List QAtom} {order : List Int} (q : QFor ts n atoms order) {a : QAtom} (ha : a ∈ atoms) :
    bindV ts a.1 a.2 = (((varsV a.2).length : Int), sortV 20 (bindRows a.2 (lookV ts a.1).1.2)) ∧ trieV (bindV ts a.1 a.2).1 (bindV ts a.1 a.2).2 (colsV a.2 order) = (trieA ts order a, true) ∧ validRows (trieA ts order a).1 (trieA ts order a).2 = true ∧ (trieA ts order a).2.length ≤ 16 ∧ validRows ((varsV a.2).length : Int) (sortV 20 (bindRows a.2 (lookV ts a.1).1.2)) = true := by
  obtain ⟨h1, h2⟩ := q.af a ha
  obtain ⟨h3, h4, h5⟩ := q.al a ha
  have e : bindV ts a.1 a.2 = (((varsV a.2).length : Int), sortV 20 (bindRows a.2 (lookV ts a.1).1.2)) := by
    unfold bindV
    rw [h1, decide_eq_true h2]; rfl
  obtain ⟨p1, p2⟩ := colsV_perm q.n5 h5 q.os q.ol
  obtain ⟨_, l2⟩ := look_len h1 h2
  have l16 := lookV_16 h1
  have hbl := bindRows_len a.2 (lookV ts a.1).1.2
  have hv5 := varsV_len a.2
  have hval : validRows ((varsV a.2).length : Int) (sortV 20 (bindRows a.2 (lookV ts a.1).1.2)) = true := sortV_valid (by omega) (by omega) fun r hr => by
    obtain ⟨x, hxm, rfl⟩ := bindRows_mem hr
    obtain ⟨i, hi, rfl⟩ := List.getElem_of_mem hxm
    exact ⟨by rw [bindRow_len], bindRow_vals (l2 i hi).2 (l2 i hi).1⟩
  obtain ⟨t1, t2⟩ := trieV_true hval p1 (by rw [p2])
  refine ⟨e, ?_, t2, ?_, hval⟩
  · rw [e]; exact t1
  · have g1 := sortV_len 20 ((sortV 20 (bindRows a.2 (lookV ts a.1).1.2)).map fun r => pickV r (colsV a.2 order))
    have g2 := sortV_len 20 (bindRows a.2 (lookV ts a.1).1.2)
    rw [List.length_map] at g1
    exact Nat.le_trans g1 (by omega)
end Go.Proofs.YtbdnoljojebebaaGreat
namespace Go.Proofs.YtbdnoljojebebaaGreat
open Go.RowKit

abbrev LTrie := Int × RowL
def tryV (ts : List DTable) (n : Int) (atoms : List QAtom) (out order : List Int) : List LTrie × Bool :=
  bif queryFor ts n atoms out && orderOk n atoms out order then (triesV ts order atoms, true) else ([], false)
theorem triesV_succ {ts : List DTable} {order : List Int} {atoms : List QAtom} {i : Nat} (h : i < atoms.length) : triesV ts order (atoms.take (i + 1)) = triesV ts order (atoms.take i) ++ [trieA ts order atoms[i]] := by
  unfold triesV; rw [List.take_succ_eq_append_getElem h, List.map_append]; rfl
theorem triesV_len (ts : List DTable) (order : List Int) (atoms : List QAtom) : (triesV ts order atoms).length = atoms.length := by unfold triesV; rw [List.length_map]
theorem atoms_ok {atoms : List QAtom} (ha : okAtoms atoms) {i : Nat} (h : i < atoms.length) : okI atoms[i].2 := (ha.2 _ (List.getElem_mem h)).2
section
variable {N : Nat}
theorem btI_L1 (hM : 1073742848 ≤ N) {ts : List DTable} {n : Nat} {atoms : List QAtom} {order : List Int} (q : QFor ts n atoms order) (ht : okDb ts) (ha : okAtoms atoms) :
    impl_BuildTries_L1 N N order ts [] atoms (atoms.length : Int) 0 = some (triesV ts order atoms, (atoms.length : Int)) := by
  have hol := q.ol
  have hn5 := q.n5
  have ha4 := q.a4
  exact loopI (fun k (o : List LTrie) i => impl_BuildTries_L1 N k order ts o atoms (atoms.length : Int) i) atoms.length (fun i => triesV ts order (atoms.take i)) (triesV ts order atoms, (atoms.length : Int))
    (fun k i h => by
      have hm := List.getElem_mem h
      obtain ⟨g1, g2, g3, g4, g5⟩ := trieA_ok q hm
      obtain ⟨l1, l2, l3⟩ := q.al _ hm
      have hv5 := varsV_len atoms[i].2
      have hc := (colsV_perm q.n5 l3 q.os q.ol).2
      have hok : okII (bindV ts atoms[i].1 atoms[i].2).2 := by
        rw [g1]
        exact sortV_ok 20 (bindRows_ok (by have := lookV_16 (q.af _ hm).1; omega))
      have htl := triesV_len ts order (atoms.take i)
      rw [List.length_take] at htl
      show impl_BuildTries_L1 N (k + 1) order ts (triesV ts order (atoms.take i)) atoms (atoms.length : Int) (i : Int) = _
      rw [impl_BuildTries_L1, dlt h, cond_true, ix_nat h, bs, AtomBindings_impl_eq hM ht (atoms_ok ha h) l1 (fun v hv => by have := l3 v hv; omega), bs, ColumnsForOrder_impl_eq (by omega) (atoms_ok ha h) (by omega), bs, BuildTrie_impl_eq hM hok (by omega), bs, g2, apd_ok' (by decide) (by simp; omega), bs, ad1 (by omega), bs, triesV_succ h])
    (fun k => by
      show impl_BuildTries_L1 N (k + 1) order ts (triesV ts order (atoms.take atoms.length)) atoms (atoms.length : Int) (atoms.length : Int) = _
      rw [impl_BuildTries_L1, dge (by omega), cond_false, List.take_length]) N 0 (by omega) (by omega)
theorem btS_L1 (hM : 1073742848 ≤ N) {ts : List DTable} {n : Nat} {m : Int} {atoms : List QAtom} {out order : List Int} (q : QFor ts n atoms order) (ht : okDb ts) (ha : okAtoms atoms) :
    spec_BuildTries_L1 N N order ts m atoms out [] 0 = some (.inr (triesV ts order atoms, (atoms.length : Int))) := by
  have hol := q.ol
  have hn5 := q.n5
  have ha4 := q.a4
  exact loopI (fun k (o : List LTrie) i => spec_BuildTries_L1 N k order ts m atoms out o i) atoms.length (fun i => triesV ts order (atoms.take i)) (.inr (triesV ts order atoms, (atoms.length : Int)))
    (fun k i h => by
      have hm := List.getElem_mem h
      obtain ⟨g1, g2, g3, g4, g5⟩ := trieA_ok q hm
      obtain ⟨l1, l2, l3⟩ := q.al _ hm
      have hv5 := varsV_len atoms[i].2
      have hc := (colsV_perm q.n5 l3 q.os q.ol).2
      have hok : okII (bindV ts atoms[i].1 atoms[i].2).2 := by
        rw [g1]
        exact sortV_ok 20 (bindRows_ok (by have := lookV_16 (q.af _ hm).1; omega))
      have htl := triesV_len ts order (atoms.take i)
      rw [List.length_take] at htl
      show spec_BuildTries_L1 N (k + 1) order ts m atoms out (triesV ts order (atoms.take i)) (i : Int) = _
      rw [spec_BuildTries_L1, dlt h, cond_true, ix_nat h, bs, bs, AtomBindings_spec_eq hM ht (atoms_ok ha h) l1 (fun v hv => by have := l3 v hv; omega), bs, ColumnsForOrder_spec_eq (by omega) (atoms_ok ha h) (by omega), bs, BuildTrie_spec_eq hM hok (by omega), bs, g2, cond_true, apd_ok' (by decide) (by simp; omega), bs, ad1 (by omega), bs, triesV_succ h])
    (fun k => by
      show spec_BuildTries_L1 N (k + 1) order ts m atoms out (triesV ts order (atoms.take atoms.length)) (atoms.length : Int) = _
      rw [spec_BuildTries_L1, dge (by omega), cond_false, List.take_length]) N 0 (by omega) (by omega)
theorem tryV_q {ts : List DTable} {n : Int} {atoms : List QAtom} {out order : List Int} (h1 : queryFor ts n atoms out = true) (h2 : orderOk n atoms out order = true) : ∃ m : Nat, n = (m : Int) ∧ QFor ts m atoms order := by
  unfold orderOk at h2
  rw [Bool.and_eq_true, Bool.and_eq_true, decide_eq_true_eq] at h2
  exact QFor_of h1 h2.2.1 h2.2.2
theorem BuildTries_impl_eq (hM : 1073742848 ≤ N) {ts : List DTable} {n : Int} {atoms : List QAtom} {out order : List Int} (ht : okDb ts) (ha : okAtoms atoms) (ho : okI out) (hr : okI order) : impl_BuildTries N ts n atoms out order = some (tryV ts n atoms out order) := by
  unfold impl_BuildTries tryV
  rw [IsQueryFor_impl_eq (by omega) ht ha ho, bs]
  cases h1 : queryFor ts n atoms out with
  | false => rfl
  | true =>
    rw [cond_true, IsValidOrder_impl_eq (by omega) ha ho hr, bs]
    cases h2 : orderOk n atoms out order with
    | false => rfl
    | true =>
      obtain ⟨m, rfl, q⟩ := tryV_q h1 h2
      rw [cond_true, btI_L1 hM q ht ha, bs, lpB]; rfl
theorem BuildTries_spec_eq (hM : 1073742848 ≤ N) {ts : List DTable} {n : Int} {atoms : List QAtom} {out order : List Int} (ht : okDb ts) (ha : okAtoms atoms) (ho : okI out) (hr : okI order) : spec_BuildTries N ts n atoms out order = some (tryV ts n atoms out order) := by
  unfold spec_BuildTries tryV
  rw [IsQueryFor_spec_eq (by omega) ht ha ho, bs]
  cases h1 : queryFor ts n atoms out with
  | false => rfl
  | true =>
    rw [cond_true, IsValidOrder_spec_eq (by omega) ha ho hr, bs]
    cases h2 : orderOk n atoms out order with
    | false => rfl
    | true =>
      obtain ⟨m, rfl, q⟩ := tryV_q h1 h2
      rw [cond_true, btS_L1 hM q ht ha, bs, lpSr]; rfl
theorem valid_ok {n : Int} {rows : RowL} (h : validRows n rows = true) : okII rows := by
  obtain ⟨h1, h2, h3, h4⟩ := validRows_spec h
  refine ⟨by omega, fun r hr => ?_⟩
  obtain ⟨i, hi, rfl⟩ := List.getElem_of_mem hr
  obtain ⟨g1, _⟩ := h4 i hi
  exact ⟨by omega, fun _ _ => trivial⟩
end
end Go.Proofs.YtbdnoljojebebaaGreat
namespace Go.Proofs.YtbdnoljojebebaaGreat
open Go.RowKit

theorem subset_len {α : Type} [DecidableEq α] : ∀ (xs ys : List α), xs.Nodup → (∀ x ∈ xs, x ∈ ys) → xs.length ≤ ys.length
  | [], ys, _, _ => Nat.zero_le _
  | x :: xs, ys, hn, h => by
    obtain ⟨h1, h2⟩ := List.nodup_cons.1 hn
    have hx := h x List.mem_cons_self
    have := subset_len xs (ys.erase x) h2 fun z hz => (List.mem_erase_of_ne (fun (e : z = x) => h1 (by rw [e] at hz; exact hz))).2 (h z (List.mem_cons_of_mem _ hz))
    rw [List.length_erase_of_mem hx] at this
    have := List.length_pos_of_mem hx
    rw [List.length_cons]; omega
theorem mergeV_mem2 : ∀ (m : Nat) (a b : RowL) (r : List Int), a.length + b.length ≤ m → r ∈ a ∨ r ∈ b → r ∈ mergeV m a b := by
  intro m
  induction m with
  | zero =>
    intro a b r hl h
    obtain rfl : a = [] := List.length_eq_zero_iff.1 (by omega)
    obtain rfl : b = [] := List.length_eq_zero_iff.1 (by simpa using hl)
    simp at h
  | succ m ih =>
    intro a b r hl h
    match a, b with
    | [], [] => simp at h
    | [], y :: b =>
      rw [mergeV]
      rcases h with h | h
      · simp at h
      · rcases List.mem_cons.1 h with rfl | h
        · exact List.mem_cons_self
        · exact List.mem_cons_of_mem _ (ih [] b r (by simp at hl ⊢; omega) (.inr h))
    | x :: a, [] =>
      rw [mergeV]
      rcases h with h | h
      · rcases List.mem_cons.1 h with rfl | h
        · exact List.mem_cons_self
        · exact List.mem_cons_of_mem _ (ih a [] r (by simp at hl ⊢; omega) (.inl h))
      · simp at h
    | x :: a, y :: b =>
      simp only [List.length_cons] at hl
      rw [mergeV]
      by_cases h1 : cmpR x y < 0
      · rw [if_pos h1]
        rcases h with h | h
        · rcases List.mem_cons.1 h with rfl | h
          · exact List.mem_cons_self
          · exact List.mem_cons_of_mem _ (ih a (y :: b) r (by simp only [List.length_cons]; omega) (.inl h))
        · exact List.mem_cons_of_mem _ (ih a (y :: b) r (by simp only [List.length_cons]; omega) (.inr h))
      · rw [if_neg h1]
        by_cases h2 : cmpR x y = 0
        · rw [if_pos h2]
          have e := cmpR_zero.1 h2
          rcases h with h | h
          · rcases List.mem_cons.1 h with rfl | h
            · exact List.mem_cons_self
            · exact List.mem_cons_of_mem _ (ih a b r (by omega) (.inl h))
          · rcases List.mem_cons.1 h with rfl | h
            · rw [e]; exact List.mem_cons_self
            · exact List.mem_cons_of_mem _ (ih a b r (by omega) (.inr h))
        · rw [if_neg h2]
          rcases h with h | h
          · exact List.mem_cons_of_mem _ (ih (x :: a) b r (by simp only [List.length_cons]; omega) (.inl h))
          · rcases List.mem_cons.1 h with rfl | h
            · exact List.mem_cons_self
            · exact List.mem_cons_of_mem _ (ih (x :: a) b r (by simp only [List.length_cons]; omega) (.inr h))
theorem sortV_mem2 : ∀ (f : Nat) (rows : RowL) (r : List Int), r ∈ rows → r ∈ sortV f rows := by
  intro f
  induction f with
  | zero => intro rows r h; exact h
  | succ f ih =>
    intro rows r h
    unfold sortV
    split
    · exact h
    · refine mergeV_mem2 _ _ _ _ ?_ ?_
      · have h2 := sortV_len f (rows.take (rows.length / 2))
        have h3 := sortV_len f (rows.drop (rows.length / 2))
        rw [List.length_take] at h2
        rw [List.length_drop] at h3
        omega
      · rw [← List.take_append_drop (rows.length / 2) rows, List.mem_append] at h
        exact h.imp (ih _ _) (ih _ _)
theorem sortV_iff (f : Nat) (rows : RowL) (r : List Int) : r ∈ sortV f rows ↔ r ∈ rows := ⟨sortV_mem f rows r, sortV_mem2 f rows r⟩
theorem cmpR_irr (x : List Int) : ¬ cmpR x x < 0 := by rw [cmpR_self]; decide
theorem ascP_ext : ∀ {a b : RowL}, ascP a → ascP b → (∀ r, r ∈ a ↔ r ∈ b) → a = b
  | [], [], _, _, _ => rfl
  | [], y :: b, _, _, h => absurd ((h y).2 List.mem_cons_self) (by simp)
  | x :: a, [], _, _, h => absurd ((h x).1 List.mem_cons_self) (by simp)
  | x :: a, y :: b, ha, hb, h => by
    obtain ⟨a1, a2⟩ := List.pairwise_cons.1 ha
    obtain ⟨b1, b2⟩ := List.pairwise_cons.1 hb
    have e : x = y := by
      rcases List.mem_cons.1 ((h x).1 List.mem_cons_self) with e | hx
      · exact e
      · rcases List.mem_cons.1 ((h y).2 List.mem_cons_self) with e | hy
        · exact e.symm
        · exact absurd (cmpR_trans (b1 x hx) (a1 y hy)) (cmpR_irr y)
    subst e
    rw [ascP_ext a2 b2 fun r => ?_]
    constructor
    · intro hr
      rcases List.mem_cons.1 ((h r).1 (List.mem_cons_of_mem _ hr)) with rfl | h'
      · exact absurd (a1 r hr) (cmpR_irr r)
      · exact h'
    · intro hr
      rcases List.mem_cons.1 ((h r).2 (List.mem_cons_of_mem _ hr)) with rfl | h'
      · exact absurd (b1 r hr) (cmpR_irr r)
      · exact h'
theorem sortV_self {rows : RowL} (hl : rows.length ≤ 1048576) (h : ascP rows) : sortV 20 rows = rows := ascP_ext (sortV_asc 20 rows (by omega)) h fun r => sortV_iff 20 rows r
theorem validRows_ascP {n : Int} {rows : RowL} (h : validRows n rows = true) : ascP rows := by
  rw [ascP, List.pairwise_iff_getElem]
  exact fun i j hi hj hij => validRows_asc h i j hij hj
/-- rows that fit, ascending: they make a relation if they are not too many -/
theorem newRelV_asc {n : Int} {rows : RowL} (h0 : 0 ≤ n ∧ n ≤ 5) (hl : rows.length ≤ 1048576) (hf : ∀ r ∈ rows, (r.length : Int) = n ∧ validVals r = true) (ha : ascP rows) : newRelV n rows = bif decide ((rows.length : Int) ≤ 4000) then ((n, rows), true) else noRel := by
  by_cases h : rows.length ≤ 4000
  · rw [decide_eq_true (by omega), cond_true, newRelV_true h0 h hf, sortV_self hl ha]
  · rw [decide_eq_false (by omega), cond_false]
    unfold newRelV
    rw [sortV_self hl ha]
    cases hv : validRows n rows with
    | true => have := (validRows_spec hv).2.2.1; omega
    | false => rw [Bool.and_false, cond_false]
end Go.Proofs.YtbdnoljojebebaaGreat
namespace Go.Proofs.YtbdnoljojebebaaGreat
open Go.RowKit

theorem whileL {α : Type} (L : Nat → Int → Option Int) (xs : List α) (f : α → Bool)
    (hstep : ∀ k i (h : i < xs.length), L (k + 1) (i : Int) = bif f xs[i] then L k ((i + 1 : Nat) : Int) else some (i : Int)) (hend : ∀ k, L (k + 1) (xs.length : Int) = some (xs.length : Int)) :
    ∀ k i, i ≤ xs.length → xs.length - i < k → L k (i : Int) = some ((i + ((xs.drop i).takeWhile f).length : Nat) : Int) := by
  intro k
  induction k with
  | zero => intro i hi hk; omega
  | succ k ih =>
    intro i hi hk
    by_cases h : i < xs.length
    · rw [hstep k i h, drop_cons h, List.takeWhile_cons]
      cases f xs[i] with
      | true => rw [cond_true, ih (i + 1) (by omega) (by omega), if_pos rfl, List.length_cons]; congr 2; omega
      | false => rw [cond_false, if_neg (by decide)]; rfl
    · obtain rfl : i = xs.length := by omega
      rw [hend k, List.drop_length]; rfl
theorem takeWhile_le {α : Type} (f : α → Bool) (xs : List α) : (xs.takeWhile f).length ≤ xs.length := (List.takeWhile_prefix f).length_le
/-- the rows that begin with p -/
def withP (rows : RowL) (p : List Int) : RowL := rows.filter fun r => decide (r.take p.length = p)
def cP (p r : List Int) : Int := cmpR (r.take p.length) p
def loP (rows : RowL) (p : List Int) : Nat := (rows.takeWhile fun r => decide (cP p r < 0)).length
def hiP (rows : RowL) (p : List Int) : Nat := loP rows p + ((rows.drop (loP rows p)).takeWhile fun r => cP p r == 0).length
theorem loP_le (rows : RowL) (p : List Int) : loP rows p ≤ rows.length := takeWhile_le _ _
theorem hiP_le (rows : RowL) (p : List Int) : hiP rows p ≤ rows.length := by
  have h1 := loP_le rows p
  have h2 := takeWhile_le (fun r => cP p r == 0) (rows.drop (loP rows p))
  rw [List.length_drop] at h2
  unfold hiP; omega
theorem loP_hiP (rows : RowL) (p : List Int) : loP rows p ≤ hiP rows p := Nat.le_add_right _ _
theorem cmpR_take : ∀ (n : Nat) (a b : List Int), cmpR a b < 0 → cmpR (a.take n) (b.take n) ≤ 0
  | 0, a, b, _ => by rw [List.take_zero, List.take_zero]; decide
  | n + 1, [], [], h => absurd h (by decide)
  | n + 1, [], y :: b, _ => by rw [List.take_nil, List.take_succ_cons, cmpR]; decide
  | n + 1, x :: a, [], h => absurd h (by rw [cmpR]; decide)
  | n + 1, x :: a, y :: b, h => by
    rw [List.take_succ_cons, List.take_succ_cons]
    unfold cmpR at h ⊢
    by_cases h1 : x < y
    · rw [if_pos h1]; decide
    · rw [if_neg h1] at h ⊢
      by_cases h2 : y < x
      · rw [if_pos h2] at h; exact absurd h (by decide)
      · rw [if_neg h2] at h ⊢; exact cmpR_take n a b h
theorem cP_mono {p a b : List Int} (h : cmpR a b < 0) : (cP p b < 0 → cP p a < 0) ∧ (0 < cP p a → 0 < cP p b) := by
  have ht := cmpR_take p.length a b h
  have hn := cmpR_neg (b.take p.length) p
  have hn2 := cmpR_neg (a.take p.length) p
  unfold cP
  constructor
  · intro hb
    by_cases e : cmpR (a.take p.length) (b.take p.length) = 0
    · rw [cmpR_zero.1 e]; exact hb
    · exact cmpR_trans (by omega) hb
  · intro ha
    by_cases e : cmpR (a.take p.length) (b.take p.length) = 0
    · rw [← cmpR_zero.1 e]; exact ha
    · have := cmpR_trans (a := p) (b := a.take p.length) (c := b.take p.length) (by omega) (by omega)
      omega
theorem filter_none {α : Type} {f : α → Bool} {xs : List α} (h : ∀ x ∈ xs, f x = false) : xs.filter f = [] := List.filter_eq_nil_iff.2 fun x hx => by rw [h x hx]; decide
/-- the range of an ascending list holds just the rows that begin with p -/
theorem rangeP {rows : RowL} (ha : ascP rows) (p : List Int) : (rows.take (hiP rows p)).drop (loP rows p) = withP rows p := by
  have hc : ∀ r : List Int, decide (r.take p.length = p) = (cP p r == 0) := fun r => by unfold cP; rw [cmpR_beq]
  have key : ∀ {rows : RowL}, ascP rows → rows.filter (fun r => cP p r == 0) = ((rows.dropWhile fun r => decide (cP p r < 0)).takeWhile fun r => cP p r == 0) := by
    intro rows
    induction rows with
    | nil => intro _; rfl
    | cons r rows ih =>
      intro ha
      obtain ⟨h1, h2⟩ := List.pairwise_cons.1 ha
      rw [List.dropWhile_cons]
      by_cases hlt : cP p r < 0
      · rw [if_pos (by simpa using hlt), List.filter_cons, if_neg (by simp; omega)]
        exact ih h2
      · rw [if_neg (by simpa using hlt), List.takeWhile_cons, List.filter_cons]
        by_cases h0 : cP p r = 0
        · rw [if_pos (by simpa using h0), if_pos (by simpa using h0), ih h2]
          congr 2
          cases rows with
          | nil => rfl
          | cons s rows =>
            have hs : ¬ cP p s < 0 := fun h => hlt ((cP_mono (h1 s List.mem_cons_self)).1 h)
            rw [List.dropWhile_cons, if_neg (by simpa using hs)]
        · rw [if_neg (by simpa using h0), if_neg (by simpa using h0)]
          exact filter_none fun x hx => by
            have := (cP_mono (p := p) (h1 x hx)).2 (by omega)
            simp; omega
  have hd : ∀ (f : List Int → Bool) (rows : RowL), rows.drop (rows.takeWhile f).length = rows.dropWhile f := by
    intro f rows
    induction rows with
    | nil => rfl
    | cons r rows ih =>
      rw [List.takeWhile_cons, List.dropWhile_cons]
      cases f r with
      | true => rw [if_pos rfl, if_pos rfl, List.length_cons, List.drop_succ_cons, ih]
      | false => rw [if_neg (by decide), if_neg (by decide)]; rfl
  have ht : ∀ (f : List Int → Bool) (xs : RowL), xs.take (xs.takeWhile f).length = xs.takeWhile f := by
    intro f xs
    induction xs with
    | nil => rfl
    | cons r rows ih =>
      rw [List.takeWhile_cons]
      cases f r with
      | true => rw [if_pos rfl, List.length_cons, List.take_succ_cons, ih]
      | false => rw [if_neg (by decide)]; rfl
  unfold withP hiP
  simp only [hc]
  rw [key ha, List.drop_take, Nat.add_sub_cancel_left, ht]
  unfold loP
  rw [hd]
def keyStep (n : Nat) (out r : List Int) : List Int := if out.getLast? = some (r.getD n 0) then out else out ++ [r.getD n 0]
/-- the values behind a prefix -/
def kidsV (rows : RowL) (p : List Int) : List Int := (withP rows p).foldl (keyStep p.length) []
def kidsT (n : Int) (rows : RowL) (p : List Int) : List Int := if (p.length : Int) < n then kidsV rows p else []
theorem keyStep_len (n : Nat) (out r : List Int) : (keyStep n out r).length ≤ out.length + 1 := by
  unfold keyStep; split
  · omega
  · simp
theorem keyFold_len (n : Nat) : ∀ (rows : RowL) (out : List Int), (rows.foldl (keyStep n) out).length ≤ out.length + rows.length
  | [], out => by simp
  | r :: rows, out => by
    have h1 := keyFold_len n rows (keyStep n out r)
    have h2 := keyStep_len n out r
    rw [List.foldl_cons, List.length_cons]; omega
theorem kidsV_len (rows : RowL) (p : List Int) : (kidsV rows p).length ≤ rows.length := by
  have h1 := keyFold_len p.length (withP rows p) []
  have h2 : (withP rows p).length ≤ rows.length := List.length_filter_le _ _
  unfold kidsV
  simp only [List.length_nil] at h1; omega
theorem kidsT_len (n : Int) (rows : RowL) (p : List Int) : (kidsT n rows p).length ≤ rows.length := by
  unfold kidsT; split
  · exact kidsV_len rows p
  · simp
theorem keyStep_mem (n : Nat) (out r : List Int) (v : Int) : v ∈ keyStep n out r ↔ v ∈ out ∨ v = r.getD n 0 := by
  unfold keyStep
  split
  · rename_i h
    have := List.mem_of_getLast? h
    constructor
    · exact .inl
    · rintro (h | rfl)
      · exact h
      · exact this
  · rw [List.mem_append, List.mem_singleton]
theorem keyFold_mem (n : Nat) : ∀ (rows : RowL) (out : List Int) (v : Int), v ∈ rows.foldl (keyStep n) out ↔ v ∈ out ∨ ∃ r ∈ rows, v = r.getD n 0
  | [], out, v => by simp
  | r :: rows, out, v => by
    rw [List.foldl_cons, keyFold_mem n rows, keyStep_mem]
    constructor
    · rintro ((h | h) | ⟨x, hx, h⟩)
      · exact .inl h
      · exact .inr ⟨r, List.mem_cons_self, h⟩
      · exact .inr ⟨x, List.mem_cons_of_mem _ hx, h⟩
    · rintro (h | ⟨x, hx, h⟩)
      · exact .inl (.inl h)
      · rcases List.mem_cons.1 hx with rfl | hx
        · exact .inl (.inr h)
        · exact .inr ⟨x, hx, h⟩
theorem kidsV_mem {rows : RowL} {p : List Int} {v : Int} : v ∈ kidsV rows p ↔ ∃ r ∈ rows, r.take p.length = p ∧ v = r.getD p.length 0 := by
  unfold kidsV withP
  rw [keyFold_mem]
  simp only [List.not_mem_nil, false_or, List.mem_filter, decide_eq_true_eq, and_assoc]
abbrev ascI (xs : List Int) : Prop := xs.Pairwise (· < ·)
theorem cmpR_at : ∀ (n : Nat) (a b : List Int), a.take n = b.take n → n < a.length → n < b.length → cmpR a b < 0 → a.getD n 0 ≤ b.getD n 0
  | _, [], _, _, h, _, _ => absurd h (by simp)
  | _, _ :: _, [], _, _, h, _ => absurd h (by simp)
  | 0, x :: a, y :: b, _, _, _, h => by
    unfold cmpR at h
    show x ≤ y
    by_cases h1 : x < y
    · omega
    · rw [if_neg h1] at h
      by_cases h2 : y < x
      · rw [if_pos h2] at h; exact absurd h (by decide)
      · omega
  | n + 1, x :: a, y :: b, e, h1, h2, h => by
    rw [List.take_succ_cons, List.take_succ_cons, List.cons.injEq] at e
    unfold cmpR at h
    rw [if_neg (by omega), if_neg (by omega)] at h
    simp only [List.length_cons] at h1 h2
    exact cmpR_at n a b e.2 (by omega) (by omega) h
theorem ascI_last {xs : List Int} {v : Int} (h : ascI xs) (hl : xs.getLast? = some v) : ∀ x ∈ xs, x ≤ v := by
  intro x hx
  obtain ⟨ys, rfl⟩ := List.getLast?_eq_some_iff.1 hl
  rcases List.mem_append.1 hx with hx | hx
  · have := (List.pairwise_append.1 h).2.2 x hx v (by simp)
    omega
  · rw [List.mem_singleton] at hx; omega
theorem keyFold_asc (n : Nat) : ∀ (rows : RowL) (out : List Int), ascI out → rows.Pairwise (fun a b => a.getD n 0 ≤ b.getD n 0) → (∀ x ∈ out, ∀ r ∈ rows, x ≤ r.getD n 0) → ascI (rows.foldl (keyStep n) out)
  | [], _, h, _, _ => h
  | r :: rows, out, h, hp, hb => by
    obtain ⟨p1, p2⟩ := List.pairwise_cons.1 hp
    rw [List.foldl_cons]
    refine keyFold_asc n rows _ ?_ p2 fun x hx s hs => ?_
    · unfold keyStep
      split
      · exact h
      · rename_i hne
        refine List.pairwise_append.2 ⟨h, List.pairwise_singleton _ _, fun x hx y hy => ?_⟩
        rw [List.mem_singleton] at hy
        have h1 := hb x hx r List.mem_cons_self
        rcases Classical.em (x = r.getD n 0) with e | e
        · exfalso
          obtain ⟨w, hw⟩ : ∃ w, out.getLast? = some w := by
            cases hq : out.getLast? with
            | none => rw [List.getLast?_eq_none_iff] at hq; rw [hq] at hx; simp at hx
            | some w => exact ⟨w, rfl⟩
          have h2 := ascI_last h hw x hx
          have h3 := hb w (List.mem_of_getLast? hw) r List.mem_cons_self
          exact hne (by rw [hw]; congr 1; omega)
        · omega
    · rcases (keyStep_mem n out r x).1 hx with hx | rfl
      · exact hb x hx s (List.mem_cons_of_mem _ hs)
      · exact p1 s hs
theorem kidsV_asc {rows : RowL} {p : List Int} (ha : ascP rows) (hl : ∀ r ∈ rows, p.length < r.length) : ascI (kidsV rows p) := by
  unfold kidsV
  refine keyFold_asc _ _ _ List.Pairwise.nil ?_ (by simp)
  have h1 : (withP rows p).Pairwise fun a b => cmpR a b < 0 := List.Pairwise.filter _ ha
  refine List.Pairwise.imp_of_mem (fun {a b} ham hbm h => ?_) h1
  unfold withP at ham hbm
  rw [List.mem_filter, decide_eq_true_eq] at ham hbm
  exact cmpR_at _ a b (by rw [ham.2, hbm.2]) (hl a ham.1) (hl b hbm.1) h
theorem kidsT_asc {n : Int} {rows : RowL} {p : List Int} (hv : validRows n rows = true) : ascI (kidsT n rows p) := by
  obtain ⟨_, _, _, v4⟩ := validRows_spec hv
  unfold kidsT
  split
  · refine kidsV_asc (validRows_ascP hv) fun r hr => ?_
    obtain ⟨i, hi, rfl⟩ := List.getElem_of_mem hr
    have := (v4 i hi).1; omega
  · exact List.Pairwise.nil
theorem kidsT_vals {n : Int} {rows : RowL} {p : List Int} (hv : validRows n rows = true) : ∀ v ∈ kidsT n rows p, 0 ≤ v ∧ v ≤ 99 := by
  obtain ⟨_, _, _, v4⟩ := validRows_spec hv
  intro v h
  unfold kidsT at h
  split at h
  · obtain ⟨r, hr, _, e⟩ := kidsV_mem.1 h
    obtain ⟨i, hi, rfl⟩ := List.getElem_of_mem hr
    obtain ⟨g1, g2, _⟩ := v4 i hi
    rw [getD_at (by omega)] at e
    unfold validVals at g2
    rw [List.all_eq_true] at g2
    rw [e]; exact inR_iff.1 (g2 _ (List.getElem_mem _))
  · simp at h
end Go.Proofs.YtbdnoljojebebaaGreat
namespace Go.Proofs.YtbdnoljojebebaaGreat
open Go.RowKit

theorem slc0 {α : Type} {xs : List α} {hi : Nat} (h : hi ≤ xs.length) : slc xs 0 (hi : Int) = some (xs.take hi) := by
  have := slc_ok (xs := xs) (Nat.zero_le hi) h
  rw [List.drop_zero] at this; exact this
theorem valid_at {n : Int} {rows : RowL} (hv : validRows n rows = true) {i : Nat} (h : i < rows.length) : (rows[i].length : Int) = n ∧ rows[i].length ≤ 5 := by
  obtain ⟨_, v2, _, v4⟩ := validRows_spec hv
  have := (v4 i h).1
  exact ⟨this, by omega⟩
section
variable {N : Nat}
theorem tprI_L1 (hN : 1073741824 ≤ N) {n : Int} {rows : RowL} {p : List Int} (hv : validRows n rows = true) (hp : (p.length : Int) ≤ n) : impl_TriePrefixRange_L1 N N p n rows (p.length : Int) 0 = some (loP rows p : Int) := by
  have hl := (validRows_spec hv).2.2.1
  have h2 := (validRows_spec hv).2.1
  have h := whileL (fun k i => impl_TriePrefixRange_L1 N k p n rows (p.length : Int) i) rows (fun r => decide (cP p r < 0))
    (fun k i h => by
      have := valid_at hv h
      show impl_TriePrefixRange_L1 N (k + 1) p n rows (p.length : Int) (i : Int) = _
      rw [impl_TriePrefixRange_L1, dlt h, cond_true, ix_nat h, bs, slc0 (by omega), bs, CompareRows_impl_eq hN (by rw [List.length_take]; omega) (by omega), bs, ad1 (by omega), bs]; rfl)
    (fun k => by
      show impl_TriePrefixRange_L1 N (k + 1) p n rows (p.length : Int) (rows.length : Int) = _
      rw [impl_TriePrefixRange_L1, dge (by omega), cond_false]) N 0 (by omega) (by omega)
  rw [List.drop_zero, Nat.zero_add] at h; exact h
theorem tprI_L2 (hN : 1073741824 ≤ N) {n : Int} {rows : RowL} {p : List Int} (hv : validRows n rows = true) (hp : (p.length : Int) ≤ n) : impl_TriePrefixRange_L2 N N p n rows (p.length : Int) (loP rows p : Int) (loP rows p : Int) = some (hiP rows p : Int) := by
  have hl := (validRows_spec hv).2.2.1
  have h2 := (validRows_spec hv).2.1
  have hlo := loP_le rows p
  exact whileL (fun k i => impl_TriePrefixRange_L2 N k p n rows (p.length : Int) (loP rows p : Int) i) rows (fun r => cP p r == 0)
    (fun k i h => by
      have := valid_at hv h
      show impl_TriePrefixRange_L2 N (k + 1) p n rows (p.length : Int) (loP rows p : Int) (i : Int) = _
      rw [impl_TriePrefixRange_L2, dlt h, cond_true, ix_nat h, bs, slc0 (by omega), bs, CompareRows_impl_eq hN (by rw [List.length_take]; omega) (by omega), bs, ad1 (by omega), bs]; rfl)
    (fun k => by
      show impl_TriePrefixRange_L2 N (k + 1) p n rows (p.length : Int) (loP rows p : Int) (rows.length : Int) = _
      rw [impl_TriePrefixRange_L2, dge (by omega), cond_false]) N (loP rows p) hlo (by omega)
theorem tprS_L1 (hN : 1073741824 ≤ N) {n : Int} {rows : RowL} {p : List Int} (hv : validRows n rows = true) (hp : (p.length : Int) ≤ n) : spec_TriePrefixRange_L1 N N p n rows 0 = some (loP rows p : Int) := by
  have hl := (validRows_spec hv).2.2.1
  have h2 := (validRows_spec hv).2.1
  have h := whileL (fun k i => spec_TriePrefixRange_L1 N k p n rows i) rows (fun r => decide (cP p r < 0))
    (fun k i h => by
      have := valid_at hv h
      show spec_TriePrefixRange_L1 N (k + 1) p n rows (i : Int) = _
      rw [spec_TriePrefixRange_L1, dlt h, cond_true, ix_nat h, bs, slc0 (by omega), bs, CompareRows_spec_eq hN (by rw [List.length_take]; omega) (by omega), bs, ad1 (by omega), bs]; rfl)
    (fun k => by
      show spec_TriePrefixRange_L1 N (k + 1) p n rows (rows.length : Int) = _
      rw [spec_TriePrefixRange_L1, dge (by omega), cond_false]) N 0 (by omega) (by omega)
  rw [List.drop_zero, Nat.zero_add] at h; exact h
theorem tprS_L2 (hN : 1073741824 ≤ N) {n : Int} {rows : RowL} {p : List Int} (hv : validRows n rows = true) (hp : (p.length : Int) ≤ n) : spec_TriePrefixRange_L2 N N p n rows (loP rows p : Int) (loP rows p : Int) = some (hiP rows p : Int) := by
  have hl := (validRows_spec hv).2.2.1
  have h2 := (validRows_spec hv).2.1
  have hlo := loP_le rows p
  exact whileL (fun k i => spec_TriePrefixRange_L2 N k p n rows (loP rows p : Int) i) rows (fun r => cP p r == 0)
    (fun k i h => by
      have := valid_at hv h
      show spec_TriePrefixRange_L2 N (k + 1) p n rows (loP rows p : Int) (i : Int) = _
      rw [spec_TriePrefixRange_L2, dlt h, cond_true, ix_nat h, bs, slc0 (by omega), bs, CompareRows_spec_eq hN (by rw [List.length_take]; omega) (by omega), bs, ad1 (by omega), bs]; rfl)
    (fun k => by
      show spec_TriePrefixRange_L2 N (k + 1) p n rows (loP rows p : Int) (rows.length : Int) = _
      rw [spec_TriePrefixRange_L2, dge (by omega), cond_false]) N (loP rows p) hlo (by omega)
theorem IsValidTrie_impl_eq (hN : 1073741824 ≤ N) {n : Int} {rows : RowL} (hr : okII rows) : impl_IsValidTrie N n rows = some (validRows n rows) := by
  unfold impl_IsValidTrie impl_asRelation
  rw [bs]
  show (impl_IsValidRelation N n rows).bind _ = _
  rw [IsValidRelation_impl_eq hN hr, bs]
theorem IsValidTrie_spec_eq (hN : 1073741824 ≤ N) {n : Int} {rows : RowL} (hr : okII rows) : spec_IsValidTrie N n rows = some (validRows n rows) := by
  unfold spec_IsValidTrie spec_l16Rel
  rw [bs]
  show (spec_IsValidRelation N n rows).bind _ = _
  rw [IsValidRelation_spec_eq hN hr, bs]
/-- one step of the values behind a prefix, as the code does it -/
theorem keyOp {α : Type} {n : Nat} {out r : List Int} (hl : out.length ≤ 1048576) (hr : n < r.length) {f : List Int → Option α} :
    (bif ((out.length : Int) == 0) then (ix r (n : Int)).bind fun x => (apd 8 out [x]).bind f
      else (sb (out.length : Int) 1).bind fun i => (ix out i).bind fun y => (ix r (n : Int)).bind fun x => bif (y != x) then (ix r (n : Int)).bind fun x => (apd 8 out [x]).bind f else f out) = f (keyStep n out r) := by
  rw [ix_nat hr, bs]
  unfold keyStep
  rw [getD_at hr]
  rcases List.eq_nil_or_concat out with rfl | ⟨ys, w, rfl⟩
  · rw [show ((([] : List Int).length : Int) == 0) = true from rfl, cond_true, apd_ok' (by decide) (by simp), bs, if_neg (by simp)]
  · rw [List.concat_eq_append] at hl ⊢
    rw [List.length_append, List.length_singleton] at hl
    rw [show (((ys ++ [w]).length : Int) == 0) = false by simp; omega, cond_false, sb_ok (by rw [List.length_append, List.length_singleton]; omega) (by rw [List.length_append, List.length_singleton]; omega), bs, show (((ys ++ [w]).length : Int) - 1) = ((ys.length : Nat) : Int) by simp, ix_nat (by simp), bs, bs]
    rw [List.getElem_concat_length rfl, List.getLast?_append]
    by_cases e : w = r[n]
    · rw [show (w != r[n]) = false by simpa using e, cond_false, if_pos (by simp [e])]
    · rw [show (w != r[n]) = true by simpa using e, cond_true, apd_ok' (by decide) (by simp; omega), bs, if_neg (by simpa using e)]
theorem withP_len (rows : RowL) (p : List Int) : (withP rows p).length ≤ rows.length := List.length_filter_le _ _
theorem withP_row {n : Int} {rows : RowL} {p : List Int} (hv : validRows n rows = true) : ∀ r ∈ withP rows p, (r.length : Int) = n := by
  intro r hr
  obtain ⟨i, hi, rfl⟩ := List.getElem_of_mem (List.mem_filter.1 hr).1
  exact (valid_at hv hi).1
theorem TrieChildren_impl_eq (hN : 1073741824 ≤ N) {n : Int} {rows : RowL} {p : List Int} (hv : validRows n rows = true) : impl_TrieChildren N n rows p = some (kidsT n rows p) := by
  have hl := (validRows_spec hv).2.2.1
  unfold impl_TrieChildren kidsT
  by_cases hp : (p.length : Int) < n
  · rw [decide_eq_false (by omega), cond_false, IsValidTrie_impl_eq hN (valid_ok hv), bs, hv, cond_true, if_pos hp]
    unfold impl_TriePrefixRange
    rw [decide_eq_false (by omega), cond_false, IsValidTrie_impl_eq hN (valid_ok hv), bs, hv, cond_true, tprI_L1 hN hv (by omega), bs, lpB, tprI_L2 hN hv (by omega), bs, lpB, bs]
    show (slc rows (loP rows p : Int) (hiP rows p : Int)).bind _ = _
    rw [slc_ok (loP_hiP rows p) (hiP_le rows p), bs, rangeP (validRows_ascP hv)]
    have hwl := withP_len rows p
    have h := loopI (fun k (o : List Int) i => impl_TrieChildren_L1 N k (p.length : Int) o (withP rows p) ((withP rows p).length : Int) i) (withP rows p).length (fun i => ((withP rows p).take i).foldl (keyStep p.length) []) (kidsV rows p, ((withP rows p).length : Int))
      (fun k i h => by
        have hk := keyFold_len p.length ((withP rows p).take i) []
        rw [List.length_take, List.length_nil] at hk
        have hrow := withP_row hv _ (List.getElem_mem h)
        show impl_TrieChildren_L1 N (k + 1) (p.length : Int) _ (withP rows p) ((withP rows p).length : Int) (i : Int) = _
        rw [impl_TrieChildren_L1, dlt h, cond_true, ix_nat h, bs, ad1 (by omega), List.take_succ_eq_append_getElem h, List.foldl_append]
        exact keyOp (f := fun o => (some ((i + 1 : Nat) : Int)).bind fun x => impl_TrieChildren_L1 N k (p.length : Int) o (withP rows p) ((withP rows p).length : Int) x) (by omega) (by omega))
      (fun k => by
        show impl_TrieChildren_L1 N (k + 1) (p.length : Int) _ (withP rows p) ((withP rows p).length : Int) ((withP rows p).length : Int) = _
        rw [impl_TrieChildren_L1, dge (by omega), cond_false, List.take_length]; rfl) N 0 (by omega) (by omega)
    have h' : impl_TrieChildren_L1 N N (p.length : Int) [] (withP rows p) ((withP rows p).length : Int) 0 = _ := h
    rw [h', bs, lpB]
  · rw [decide_eq_true (by omega), cond_true, if_neg hp]
theorem drop_take_succ {α : Type} {xs : List α} {lo i : Nat} (h1 : lo ≤ i) (h2 : i < xs.length) : (xs.take (i + 1)).drop lo = (xs.take i).drop lo ++ [xs[i]] := by
  rw [List.take_succ_eq_append_getElem h2, List.drop_append_of_le_length (by rw [List.length_take]; omega)]
theorem TrieChildren_spec_eq (hN : 1073741824 ≤ N) {n : Int} {rows : RowL} {p : List Int} (hv : validRows n rows = true) : spec_TrieChildren N n rows p = some (kidsT n rows p) := by
  have hl := (validRows_spec hv).2.2.1
  unfold spec_TrieChildren spec_TriePrefixRange kidsT
  rw [IsValidTrie_spec_eq hN (valid_ok hv), bs, hv, cond_true]
  by_cases hp2 : n < (p.length : Int)
  · rw [decide_eq_true hp2, cond_true, bs, if_neg (by omega)]
    show (spec_TrieChildren_L1 N N p n rows [] 0 0).bind _ = _
    obtain ⟨M, rfl⟩ : ∃ M, N = M + 1 := ⟨N - 1, by omega⟩
    rw [spec_TrieChildren_L1]; rfl
  · rw [decide_eq_false hp2, cond_false, tprS_L1 hN hv (by omega), bs, lpB, tprS_L2 hN hv (by omega), bs, lpB, bs]
    show (spec_TrieChildren_L1 N N p n rows [] (hiP rows p : Int) (loP rows p : Int)).bind _ = _
    have hlo := loP_hiP rows p
    have hhi := hiP_le rows p
    by_cases hp : (p.length : Int) < n
    · rw [if_pos hp]
      have h := loopI (fun k (o : List Int) i => spec_TrieChildren_L1 N k p n rows o (hiP rows p : Int) ((loP rows p : Int) + i)) (hiP rows p - loP rows p) (fun i => ((rows.take (loP rows p + i)).drop (loP rows p)).foldl (keyStep p.length) []) (kidsV rows p, (hiP rows p : Int))
        (fun k i h => by
          have hi : loP rows p + i < rows.length := by omega
          have hk := keyFold_len p.length ((rows.take (loP rows p + i)).drop (loP rows p)) []
          rw [List.length_drop, List.length_take, List.length_nil] at hk
          have hrow := valid_at hv hi
          show spec_TrieChildren_L1 N (k + 1) p n rows _ (hiP rows p : Int) ((loP rows p : Int) + (i : Int)) = spec_TrieChildren_L1 N k p n rows (((rows.take (loP rows p + i + 1)).drop (loP rows p)).foldl (keyStep p.length) []) (hiP rows p : Int) ((loP rows p : Int) + ((i + 1 : Nat) : Int))
          rw [show (loP rows p : Int) + (i : Int) = ((loP rows p + i : Nat) : Int) by omega, show (loP rows p : Int) + ((i + 1 : Nat) : Int) = ((loP rows p + i + 1 : Nat) : Int) by omega]
          rw [spec_TrieChildren_L1, dlt (by omega), cond_true, decide_eq_true hp, cond_true, ix_nat hi, bs, ad1 (by omega), drop_take_succ (by omega) hi, List.foldl_append]
          have := keyOp (n := p.length) (out := ((rows.take (loP rows p + i)).drop (loP rows p)).foldl (keyStep p.length) []) (r := rows[loP rows p + i]) (f := fun o => (some ((loP rows p + i + 1 : Nat) : Int)).bind fun x => spec_TrieChildren_L1 N k p n rows o (hiP rows p : Int) x) (by omega) (by omega)
          rw [ix_nat (show p.length < rows[loP rows p + i].length by omega)] at this ⊢
          exact this)
        (fun k => by
          show spec_TrieChildren_L1 N (k + 1) p n rows (((rows.take (loP rows p + (hiP rows p - loP rows p))).drop (loP rows p)).foldl (keyStep p.length) []) (hiP rows p : Int) ((loP rows p : Int) + ((hiP rows p - loP rows p : Nat) : Int)) = _
          rw [show (loP rows p : Int) + ((hiP rows p - loP rows p : Nat) : Int) = (hiP rows p : Int) by omega, spec_TrieChildren_L1, dge (by omega), cond_false, show loP rows p + (hiP rows p - loP rows p) = hiP rows p by omega, rangeP (validRows_ascP hv)]; rfl) N 0 (by omega) (by omega)
      have h0 : ((rows.take (loP rows p + 0)).drop (loP rows p)).foldl (keyStep p.length) [] = [] := by rw [Nat.add_zero, List.drop_of_length_le (by rw [List.length_take]; omega)]; rfl
      have h' : spec_TrieChildren_L1 N N p n rows (((rows.take (loP rows p + 0)).drop (loP rows p)).foldl (keyStep p.length) []) (hiP rows p : Int) ((loP rows p : Int) + ((0 : Nat) : Int)) = _ := h
      rw [h0, show (loP rows p : Int) + ((0 : Nat) : Int) = (loP rows p : Int) by omega] at h'
      rw [h', bs, lpB]
    · rw [if_neg hp]
      obtain ⟨M, rfl⟩ : ∃ M, N = M + 1 := ⟨N - 1, by omega⟩
      rw [spec_TrieChildren_L1, decide_eq_false hp]
      cases decide ((loP rows p : Int) < (hiP rows p : Int)) <;> rfl
end
end Go.Proofs.YtbdnoljojebebaaGreat
namespace Go.Proofs.YtbdnoljojebebaaGreat
open Go.RowKit

/-- keys and steps at a prefix -/
abbrev Nxt := List Int → List Int × Int
def extV (f : Nxt) (p : List Int) : RowL := (f p).1.map fun v => p ++ [v]
def stepsV (f : Nxt) (L : RowL) : Int := (L.map fun p => (f p).2).sum
/-- by levels -/
def levV (f : Nxt) : Nat → RowL → Int → RowL × Int
  | 0, L, c => (L, c)
  | m + 1, L, c => levV f m (L.flatMap (extV f)) (c + stepsV f L)
/-- in depth -/
def walkV (f : Nxt) : Nat → List Int → RowL × Int
  | 0, p => ([p], 0)
  | m + 1, p => ((f p).1.flatMap fun v => (walkV f m (p ++ [v])).1, (f p).2 + ((f p).1.map fun v => (walkV f m (p ++ [v])).2).sum)
theorem sum_flatMap {α β : Type} (g : α → List β) (w : β → Int) : ∀ L : List α, ((L.flatMap g).map w).sum = (L.map fun p => ((g p).map w).sum).sum
  | [] => rfl
  | p :: L => by rw [List.flatMap_cons, List.map_append, List.sum_append, sum_flatMap g w L, List.map_cons, List.sum_cons]
theorem sum_add' {α : Type} (g h : α → Int) : ∀ L : List α, (L.map g).sum + (L.map h).sum = (L.map fun p => g p + h p).sum
  | [] => rfl
  | p :: L => by
    have := sum_add' g h L
    simp only [List.map_cons, List.sum_cons]; omega
theorem lev_walk (f : Nxt) : ∀ (m : Nat) (L : RowL) (c : Int), levV f m L c = (L.flatMap fun p => (walkV f m p).1, c + (L.map fun p => (walkV f m p).2).sum)
  | 0, L, c => by
    have h1 : ∀ L : RowL, L.flatMap (fun p => [p]) = L := fun L => by induction L with | nil => rfl | cons p L ih => rw [List.flatMap_cons, ih]; rfl
    have h2 : ∀ L : RowL, (L.map fun _ => (0 : Int)).sum = 0 := fun L => by induction L with | nil => rfl | cons p L ih => rw [List.map_cons, List.sum_cons, ih]; rfl
    show (L, c) = (L.flatMap (fun p => [p]), c + (L.map fun _ => (0 : Int)).sum)
    rw [h1, h2, Int.add_zero]
  | m + 1, L, c => by
    rw [levV, lev_walk f m]
    congr 1
    · rw [List.flatMap_assoc]
      congr 1
      funext p
      show ((f p).1.map fun v => p ++ [v]).flatMap _ = (f p).1.flatMap _
      rw [List.flatMap_map]
    · rw [sum_flatMap, Int.add_assoc]
      unfold stepsV
      rw [sum_add']
      congr 3
      funext p
      show (f p).2 + (((f p).1.map fun v => p ++ [v]).map _).sum = (f p).2 + ((f p).1.map _).sum
      rw [List.map_map]; rfl
theorem walk_lev (f : Nxt) (m : Nat) : levV f m [[]] 0 = walkV f m [] := by
  rw [lev_walk]
  simp
/-- keys are few, ascending, valid; steps are few -/
structure NxtOk (f : Nxt) : Prop where
  len : ∀ p, (f p).1.length ≤ 16
  asc : ∀ p, ascI (f p).1
  val : ∀ p, ∀ v ∈ (f p).1, 0 ≤ v ∧ v ≤ 99
  st0 : ∀ p, 0 ≤ (f p).2
  st1 : ∀ p, (f p).2 ≤ 1000
theorem walkV_mem {f : Nxt} : ∀ {m : Nat} {p r : List Int}, r ∈ (walkV f m p).1 → ∃ s, r = p ++ s ∧ s.length = m
  | 0, p, r, h => ⟨[], by rw [List.append_nil]; exact List.mem_singleton.1 h, rfl⟩
  | m + 1, p, r, h => by
    obtain ⟨v, _, hv⟩ := List.mem_flatMap.1 h
    obtain ⟨s, e, hs⟩ := walkV_mem hv
    exact ⟨v :: s, by rw [e, List.append_assoc]; rfl, by rw [List.length_cons, hs]⟩
theorem walkV_vals {f : Nxt} (hf : NxtOk f) : ∀ {m : Nat} {p r : List Int}, validVals p = true → r ∈ (walkV f m p).1 → validVals r = true
  | 0, p, r, hp, h => by
    have e : r = p := List.mem_singleton.1 h
    rw [e]; exact hp
  | m + 1, p, r, hp, h => by
    obtain ⟨v, hv0, hv⟩ := List.mem_flatMap.1 h
    refine walkV_vals hf ?_ hv
    unfold validVals at hp ⊢
    rw [List.all_append, hp, Bool.true_and]
    have := hf.val p v hv0
    simp only [List.all_cons, List.all_nil, Bool.and_true]
    exact inR_iff.2 this
theorem cmpR_pre : ∀ (p a b : List Int) (v w : Int), v < w → cmpR (p ++ v :: a) (p ++ w :: b) < 0
  | [], a, b, v, w, h => by
    show cmpR (v :: a) (w :: b) < 0
    unfold cmpR; rw [if_pos h]; decide
  | x :: p, a, b, v, w, h => by
    rw [List.cons_append, List.cons_append]
    unfold cmpR
    rw [if_neg (by omega), if_neg (by omega)]
    exact cmpR_pre p a b v w h
theorem walkV_asc {f : Nxt} (hf : NxtOk f) : ∀ (m : Nat) (p : List Int), ascP (walkV f m p).1
  | 0, p => List.pairwise_singleton _ _
  | m + 1, p => by
    show ascP ((f p).1.flatMap fun v => (walkV f m (p ++ [v])).1)
    unfold ascP
    rw [List.pairwise_flatMap]
    refine ⟨fun v _ => walkV_asc hf m _, ?_⟩
    refine List.Pairwise.imp (fun {v w} hvw r hr s hs => ?_) (hf.asc p)
    obtain ⟨a, rfl, _⟩ := walkV_mem hr
    obtain ⟨b, rfl, _⟩ := walkV_mem hs
    rw [List.append_assoc, List.append_assoc]
    exact cmpR_pre p a b v w hvw
theorem len_flatMap {α β : Type} {g : α → List β} {k : Nat} (h : ∀ x, (g x).length ≤ k) : ∀ L : List α, (L.flatMap g).length ≤ L.length * k
  | [] => by simp
  | p :: L => by
    have h1 := h p
    have h2 := len_flatMap h L
    rw [List.flatMap_cons, List.length_append, List.length_cons, Nat.succ_mul]; omega
theorem extV_len {f : Nxt} (hf : NxtOk f) (p : List Int) : (extV f p).length ≤ 16 := by unfold extV; rw [List.length_map]; exact hf.len p
theorem sum_bd {α : Type} {g : α → Int} {b : Int} (h0 : ∀ x, 0 ≤ g x) (h1 : ∀ x, g x ≤ b) : ∀ L : List α, 0 ≤ (L.map g).sum ∧ (L.map g).sum ≤ L.length * b
  | [] => by simp
  | p :: L => by
    have h2 := sum_bd h0 h1 L
    have h3 := h0 p; have h4 := h1 p
    rw [List.map_cons, List.sum_cons, List.length_cons]
    have : ((L.length + 1 : Nat) : Int) * b = (L.length : Int) * b + b := by rw [Int.natCast_add, Int.add_mul]; simp
    omega
theorem walkV_len {f : Nxt} (hf : NxtOk f) : ∀ (m : Nat) (p : List Int), (walkV f m p).1.length ≤ 16 ^ m
  | 0, p => by simp [walkV]
  | m + 1, p => by
    have h1 := len_flatMap (g := fun v => (walkV f m (p ++ [v])).1) (fun v => walkV_len hf m _) (f p).1
    have h2 := Nat.mul_le_mul_right (16 ^ m) (hf.len p)
    show ((f p).1.flatMap fun v => (walkV f m (p ++ [v])).1).length ≤ _
    rw [Nat.pow_succ]; omega
/-- steps of a search, at most -/
def stepB : Nat → Int
  | 0 => 0
  | m + 1 => 1000 + 16 * stepB m
theorem stepB_0 : ∀ m, 0 ≤ stepB m
  | 0 => by decide
  | m + 1 => by have := stepB_0 m; unfold stepB; omega
theorem walkV_st {f : Nxt} (hf : NxtOk f) : ∀ (m : Nat) (p : List Int), 0 ≤ (walkV f m p).2 ∧ (walkV f m p).2 ≤ stepB m
  | 0, p => by simp [walkV, stepB]
  | m + 1, p => by
    have h1 := sum_bd (g := fun v => (walkV f m (p ++ [v])).2) (fun v => (walkV_st hf m _).1) (fun v => (walkV_st hf m _).2) (f p).1
    have h2 := hf.len p; have h3 := hf.st0 p; have h4 := hf.st1 p
    have h5 : (((f p).1.length : Nat) : Int) * stepB m ≤ 16 * stepB m := Int.mul_le_mul_of_nonneg_right (by omega) (stepB_0 m)
    show 0 ≤ (f p).2 + _ ∧ (f p).2 + _ ≤ 1000 + 16 * stepB m
    omega
end Go.Proofs.YtbdnoljojebebaaGreat
namespace Go.Proofs.YtbdnoljojebebaaGreat
open Go.RowKit

def keyK (Ls : RowL) (A : List Nat) (k : Nat) : Int := (Ls.getD k []).getD (A.getD k 0) 0
structure LInv (Ls : RowL) (A : List Nat) (most : Int) (out : List Int) (s : Nat) : Prop where
  pos : 0 < Ls.length
  len : A.length = Ls.length
  asc : ∀ l ∈ Ls, ascI l
  lt : ∀ k, k < Ls.length → A.getD k 0 < (Ls.getD k []).length
  cyc : ∀ i j, i ≤ j → j < Ls.length → keyK Ls A ((s + i) % Ls.length) ≤ keyK Ls A ((s + j) % Ls.length)
  top : keyK Ls A ((s + (Ls.length - 1)) % Ls.length) = most
  oasc : ascI out
  olt : ∀ x ∈ out, x < most
  ocom : ∀ x ∈ out, ∀ l ∈ Ls, x ∈ l
  all : ∀ x, (∀ l ∈ Ls, x ∈ l) → x ∈ out ∨ ∀ k, k < Ls.length → keyK Ls A k ≤ x
theorem getL_mem {Ls : RowL} {k : Nat} (h : k < Ls.length) : Ls.getD k [] ∈ Ls := by rw [getL_at h]; exact List.getElem_mem h
end Go.Proofs.YtbdnoljojebebaaGreat
namespace Go.Proofs.YtbdnoljojebebaaGreat
open Go.RowKit

def headV (l : List Int) : Int := l.getD 0 0
def hdI (ls : RowL) (j : Int) : Int := headV (ls.getD j.toNat [])
def leI (a b : Int) : Prop := a ≤ b
structure OrdOk (ls : RowL) (O : List Int) (i : Nat) : Prop where
  len : O.length = i
  nd : O.Nodup
  bd : ∀ j ∈ O, 0 ≤ j ∧ j < i
  so : (O.map (hdI ls)).Pairwise leI
theorem asc_ascI : ∀ {xs : List Int}, asc xs = true → ascI xs
  | [], _ => List.Pairwise.nil
  | [_], _ => List.pairwise_singleton _ _
  | x :: y :: t, h => by
    unfold asc at h
    rw [Bool.and_eq_true, decide_eq_true_eq] at h
    have ih := asc_ascI h.2
    refine List.pairwise_cons.2 ⟨fun z hz => ?_, ih⟩
    rcases List.mem_cons.1 hz with rfl | hz
    · exact h.1
    · have := (List.pairwise_cons.1 ih).1 z hz; omega
end Go.Proofs.YtbdnoljojebebaaGreat
namespace Go.Proofs.YtbdnoljojebebaaGreat
open Go.RowKit

theorem ixD {xs : List Int} {k : Nat} (h : k < xs.length) : ix xs (k : Int) = some (xs.getD k 0) := by rw [ix_nat h, getD_at h]
def cz (A : List Nat) : List Int := A.map fun (a : Nat) => ((a : Nat) : Int)
theorem cz_ix {A : List Nat} {k : Nat} (h : k < A.length) : ix (cz A) (k : Int) = some ((A.getD k 0 : Nat) : Int) := by
  unfold cz
  rw [ix_nat (by rw [List.length_map]; exact h), List.getElem_map]
  simp [h]
end Go.Proofs.YtbdnoljojebebaaGreat
namespace Go.Proofs.YtbdnoljojebebaaGreat
open Go.RowKit

theorem cz_len (A : List Nat) : (cz A).length = A.length := by simp [cz]
end Go.Proofs.YtbdnoljojebebaaGreat
namespace Go.Proofs.YtbdnoljojebebaaGreat
open Go.RowKit

theorem natD_at {A : List Nat} {k : Nat} (h : k < A.length) : A.getD k 0 = A[k] := by simp [h]
def atomAt (atoms : List QAtom) (i : Nat) : QAtom := atoms.getD i (ByteArray.empty, [])
theorem atomAt_eq {atoms : List QAtom} {i : Nat} (h : i < atoms.length) : atomAt atoms i = atoms[i] := by unfold atomAt; simp [h]
/-- the places of the atoms with a variable, among the first n -/
def idxT (atoms : List QAtom) (v : Int) (n : Nat) : List Nat := (List.range' 0 n).filter fun i => decide (v ∈ (atomAt atoms i).2)
def idxV (atoms : List QAtom) (v : Int) : List Nat := idxT atoms v atoms.length
/-- the values of a prefix at an atom's variables -/
def ownT (vs order p : List Int) (n : Nat) : List Int := ((List.range' 0 n).filter fun k => decide (order.getD k 0 ∈ vs)).map fun k => p.getD k 0
def ownV (vs order p : List Int) : List Int := ownT vs order p p.length
/-- the values behind the prefix in the atom's trie -/
def atV (ts : List DTable) (order : List Int) (atoms : List QAtom) (p : List Int) (i : Nat) : List Int :=
  kidsT (trieA ts order (atomAt atoms i)).1 (trieA ts order (atomAt atoms i)).2 (ownV (atomAt atoms i).2 order p)
def listsV (ts : List DTable) (order : List Int) (atoms : List QAtom) (p : List Int) : RowL := (idxV atoms (order.getD p.length 0)).map (atV ts order atoms p)
theorem idxT_succ (atoms : List QAtom) (v : Int) (n : Nat) : idxT atoms v (n + 1) = bif decide (v ∈ (atomAt atoms n).2) then idxT atoms v n ++ [n] else idxT atoms v n := by
  unfold idxT
  rw [List.range'_concat, List.filter_append]
  simp only [Nat.zero_add, Nat.one_mul, List.filter_cons, List.filter_nil]
  cases decide (v ∈ (atomAt atoms n).2) <;> simp
theorem idxT_len (atoms : List QAtom) (v : Int) (n : Nat) : (idxT atoms v n).length ≤ n := by
  unfold idxT
  refine Nat.le_trans (List.length_filter_le _ _) ?_
  simp
theorem idxV_mem {atoms : List QAtom} {v : Int} {i : Nat} : i ∈ idxV atoms v ↔ i < atoms.length ∧ v ∈ (atomAt atoms i).2 := by
  unfold idxV idxT
  rw [List.mem_filter, decide_eq_true_eq]
  simp
theorem ownT_succ (vs order p : List Int) (n : Nat) : ownT vs order p (n + 1) = bif decide (order.getD n 0 ∈ vs) then ownT vs order p n ++ [p.getD n 0] else ownT vs order p n := by
  unfold ownT
  rw [List.range'_concat, List.filter_append, List.map_append]
  simp only [Nat.zero_add, Nat.one_mul, List.filter_cons, List.filter_nil]
  cases decide (order.getD n 0 ∈ vs) <;> simp
theorem ownT_len (vs order p : List Int) (n : Nat) : (ownT vs order p n).length ≤ n := by
  unfold ownT
  rw [List.length_map]
  refine Nat.le_trans (List.length_filter_le _ _) ?_
  simp
theorem triesV_at {ts : List DTable} {order : List Int} {atoms : List QAtom} {i : Nat} (h : i < atoms.length) : ix (triesV ts order atoms) (i : Int) = some (trieA ts order (atomAt atoms i)) := by
  rw [ix_nat (by rw [triesV_len]; exact h)]
  unfold triesV
  rw [List.getElem_map, atomAt_eq h]
theorem atom_mem {atoms : List QAtom} {i : Nat} (h : i < atoms.length) : atomAt atoms i ∈ atoms := by rw [atomAt_eq h]; exact List.getElem_mem h
theorem atomAt_ok {atoms : List QAtom} (ha : okAtoms atoms) {i : Nat} (h : i < atoms.length) : okI (atomAt atoms i).2 := by rw [atomAt_eq h]; exact atoms_ok ha h
theorem atoms_ix {atoms : List QAtom} {i : Nat} (h : i < atoms.length) : ix atoms (i : Int) = some (atomAt atoms i) := by rw [ix_nat h, atomAt_eq h]
theorem listsV_len (ts : List DTable) (order : List Int) (atoms : List QAtom) (p : List Int) : (listsV ts order atoms p).length ≤ atoms.length := by
  unfold listsV; rw [List.length_map]; exact idxT_len _ _ _
theorem listsV_ok {ts : List DTable} {n : Nat} {atoms : List QAtom} {order p : List Int} (q : QFor ts n atoms order) : ∀ l ∈ listsV ts order atoms p, l.length ≤ 16 ∧ ascI l ∧ ∀ v ∈ l, 0 ≤ v ∧ v ≤ 99 := by
  intro l hl
  obtain ⟨i, hi, rfl⟩ := List.mem_map.1 hl
  have hm := atom_mem (idxV_mem.1 hi).1
  obtain ⟨_, _, g3, g4, _⟩ := trieA_ok q hm
  unfold atV
  exact ⟨Nat.le_trans (kidsT_len _ _ _) g4, kidsT_asc g3, kidsT_vals g3⟩
section
variable {N : Nat}
theorem nlI_L2 (hN : 1073741824 ≤ N) {t1 : List LTrie} {order p vs : List Int} {s : ByteArray} {b1 : RowL} {b2 b5 b6 : Int} {b4 : List QAtom} (hv : okI vs) (hp : p.length ≤ 1000) (ho : p.length ≤ order.length) :
    impl_nextLists_L2 N N t1 order p b1 b2 s vs [] b4 b5 b6 p (p.length : Int) 0 = some (ownV vs order p, (p.length : Int)) :=
  loopI (fun k (o : List Int) i => impl_nextLists_L2 N k t1 order p b1 b2 s vs o b4 b5 b6 p (p.length : Int) i) p.length (ownT vs order p) (ownV vs order p, (p.length : Int))
    (fun k i h => by
      have hl := ownT_len vs order p i
      show impl_nextLists_L2 N (k + 1) t1 order p b1 b2 s vs (ownT vs order p i) b4 b5 b6 p (p.length : Int) (i : Int) = impl_nextLists_L2 N k t1 order p b1 b2 s vs (ownT vs order p (i + 1)) b4 b5 b6 p (p.length : Int) ((i + 1 : Nat) : Int)
      rw [impl_nextLists_L2, dlt h, cond_true, ixD h, bs, ixD (show i < order.length by omega), bs, ContainsVariable_impl_eq hN hv, bs, ad1 (by omega), ownT_succ]
      cases decide (order.getD i 0 ∈ vs) with
      | true => rw [cond_true, cond_true, apd_ok' (by decide) (by simp; omega), bs, bs]
      | false => rw [cond_false, cond_false, bs])
    (fun k => by
      show impl_nextLists_L2 N (k + 1) t1 order p b1 b2 s vs (ownT vs order p p.length) b4 b5 b6 p (p.length : Int) (p.length : Int) = _
      rw [impl_nextLists_L2, dge (by omega), cond_false]; rfl) N 0 (by omega) (by omega)
theorem nextLists_eq (hN : 1073741824 ≤ N) {ts : List DTable} {n : Nat} {m : Int} {atoms : List QAtom} {out order p : List Int} (q : QFor ts n atoms order) (ha : okAtoms atoms) (hp : p.length < n) :
    impl_nextLists N m atoms out (triesV ts order atoms) order p = some (listsV ts order atoms p) := by
  have hn5 := q.n5
  have hol := q.ol
  have h4 := q.a4
  have h := loopI (fun k (o : RowL) i => impl_nextLists_L1 N k (triesV ts order atoms) order p o atoms (atoms.length : Int) i) atoms.length (fun i => (idxT atoms (order.getD p.length 0) i).map (atV ts order atoms p)) (listsV ts order atoms p, (atoms.length : Int))
    (fun k i h => by
      have hl := idxT_len atoms (order.getD p.length 0) i
      have hm := List.getElem_mem h
      obtain ⟨_, _, g3, _, _⟩ := trieA_ok q (atom_mem h)
      show impl_nextLists_L1 N (k + 1) (triesV ts order atoms) order p ((idxT atoms (order.getD p.length 0) i).map (atV ts order atoms p)) atoms (atoms.length : Int) (i : Int) = impl_nextLists_L1 N k (triesV ts order atoms) order p ((idxT atoms (order.getD p.length 0) (i + 1)).map (atV ts order atoms p)) atoms (atoms.length : Int) ((i + 1 : Nat) : Int)
      rw [impl_nextLists_L1, dlt h, cond_true, atoms_ix h, bs, ixD (show p.length < order.length by omega), bs, ContainsVariable_impl_eq hN (atomAt_ok ha h), bs, ad1 (by omega), idxT_succ]
      cases decide (order.getD p.length 0 ∈ (atomAt atoms i).2) with
      | true =>
        rw [cond_true, cond_true, nlI_L2 hN (atomAt_ok ha h) (by omega) (by omega), bs, lpB]
        show ((ix (triesV ts order atoms) (i : Int)).bind _) = _
        rw [triesV_at h, bs, TrieChildren_impl_eq hN g3, bs, apd_ok' (by decide) (by rw [List.length_map, List.length_singleton]; omega), bs, bs, List.map_append]; rfl
      | false => rw [cond_false, cond_false, bs])
    (fun k => by
      show impl_nextLists_L1 N (k + 1) (triesV ts order atoms) order p ((idxT atoms (order.getD p.length 0) atoms.length).map (atV ts order atoms p)) atoms (atoms.length : Int) (atoms.length : Int) = _
      rw [impl_nextLists_L1, dge (by omega), cond_false]; rfl) N 0 (by omega) (by omega)
  have h' : impl_nextLists_L1 N N (triesV ts order atoms) order p [] atoms (atoms.length : Int) 0 = _ := h
  unfold impl_nextLists
  rw [h', bs, lpB]
theorem AtomsWithVariable_eq (hN : 1073741824 ≤ N) {n : Int} {atoms : List QAtom} {out : List Int} {v : Int} (ha : okAtoms atoms) (ho : okI out) (hq : queryOk n atoms out = true) :
    spec_AtomsWithVariable N n atoms out v = some (cz (idxV atoms v)) := by
  have h4 := (queryOk_n hq).2.2.2
  have h := loopI (fun k (o : List Int) i => spec_AtomsWithVariable_L1 N k v n atoms out o i) atoms.length (fun i => cz (idxT atoms v i)) (cz (idxV atoms v), (atoms.length : Int))
    (fun k i h => by
      have hl := idxT_len atoms v i
      have hcl := cz_len (idxT atoms v i)
      show spec_AtomsWithVariable_L1 N (k + 1) v n atoms out (cz (idxT atoms v i)) (i : Int) = spec_AtomsWithVariable_L1 N k v n atoms out (cz (idxT atoms v (i + 1))) ((i + 1 : Nat) : Int)
      rw [spec_AtomsWithVariable_L1, dlt h, cond_true, IsValidQuery_spec_eq hN ha ho, bs, hq, cond_true, ix_nat h, bs, ContainsVariable_spec_eq hN (atoms_ok ha h), bs, ad1 (by omega), idxT_succ, atomAt_eq h]
      cases decide (v ∈ atoms[i].2) with
      | true =>
        rw [cond_true, cond_true, apd_ok' (by decide) (by simp; omega), bs, bs]
        unfold cz
        rw [List.map_append]; rfl
      | false => rw [cond_false, cond_false, bs])
    (fun k => by
      show spec_AtomsWithVariable_L1 N (k + 1) v n atoms out (cz (idxT atoms v atoms.length)) (atoms.length : Int) = _
      rw [spec_AtomsWithVariable_L1, dge (by omega), cond_false]; rfl) N 0 (by omega) (by omega)
  have h' : spec_AtomsWithVariable_L1 N N v n atoms out [] 0 = _ := h
  unfold spec_AtomsWithVariable
  rw [h', bs, lpB]
theorem l20Prefix_eq (hN : 1073741824 ≤ N) {order p vs : List Int} {s : ByteArray} (hv : okI vs) (hp : p.length ≤ 1000) (ho : p.length ≤ order.length) : spec_l20Prefix N s vs order p = some (ownV vs order p) := by
  have h := loopI (fun k (o : List Int) i => spec_l20Prefix_L1 N k order p s vs o i) p.length (ownT vs order p) (ownV vs order p, (p.length : Int))
    (fun k i h => by
      have hl := ownT_len vs order p i
      show spec_l20Prefix_L1 N (k + 1) order p s vs (ownT vs order p i) (i : Int) = spec_l20Prefix_L1 N k order p s vs (ownT vs order p (i + 1)) ((i + 1 : Nat) : Int)
      rw [spec_l20Prefix_L1, dlt h, cond_true, ixD (show i < order.length by omega), bs, ContainsVariable_spec_eq hN hv, bs, ad1 (by omega), ixD h, ownT_succ]
      cases decide (order.getD i 0 ∈ vs) with
      | true => rw [cond_true, cond_true, bs, apd_ok' (by decide) (by simp; omega), bs, bs]
      | false => rw [cond_false, cond_false, bs])
    (fun k => by
      show spec_l20Prefix_L1 N (k + 1) order p s vs (ownT vs order p p.length) (p.length : Int) = _
      rw [spec_l20Prefix_L1, dge (by omega), cond_false]; rfl) N 0 (by omega) (by omega)
  have h' : spec_l20Prefix_L1 N N order p s vs [] 0 = _ := h
  unfold spec_l20Prefix
  rw [h', bs, lpB]
/-- one list, as the reference makes it -/
theorem refOne (hN : 1073741824 ≤ N) {ts : List DTable} {n : Nat} {atoms : List QAtom} {order p : List Int} (q : QFor ts n atoms order) (ha : okAtoms atoms) (hp : p.length < n) {i : Nat} (h : i < atoms.length) :
    spec_l20Prefix N (atomAt atoms i).1 (atomAt atoms i).2 order p = some (ownV (atomAt atoms i).2 order p) ∧ spec_TrieChildren N (trieA ts order (atomAt atoms i)).1 (trieA ts order (atomAt atoms i)).2 (ownV (atomAt atoms i).2 order p) = some (atV ts order atoms p i) := by
  have hn5 := q.n5
  have hol := q.ol
  obtain ⟨_, _, g3, _, _⟩ := trieA_ok q (atom_mem h)
  refine ⟨l20Prefix_eq hN ?_ (by omega) (by omega), TrieChildren_spec_eq hN g3⟩
  rw [atomAt_eq h]; exact atoms_ok ha h
theorem take_map_s {α β : Type} {xs : List α} {f : α → β} {i : Nat} (h : i < xs.length) : (xs.take (i + 1)).map f = (xs.take i).map f ++ [f xs[i]] := by
  rw [List.take_succ_eq_append_getElem h, List.map_append]; rfl
end
end Go.Proofs.YtbdnoljojebebaaGreat
namespace Go.Proofs.YtbdnoljojebebaaGreat
open Go.RowKit

def isInV (ls : RowL) (sh v : Int) (i : Nat) : Bool := ((i : Int) == sh) || decide (v ∈ ls.getD i [])
theorem inF_all (ls : RowL) (sh v : Int) : ∀ m j c, (inF ls sh v j m (c, true)).2 = (List.range' j m).all (isInV ls sh v) := by
  intro m
  induction m with
  | zero => intro j c; rfl
  | succ m ih =>
    intro j c
    rw [inF_succ, List.range'_succ, List.all_cons]
    unfold inSt isInV
    by_cases e : (j : Int) = sh
    · rw [show ((j : Int) != sh) = false by simpa using e, show ((j : Int) == sh) = true by simpa using e, Bool.and_false, cond_false, Bool.true_or, Bool.true_and]
      exact ih (j + 1) c
    · rw [show ((j : Int) != sh) = true by simpa using e, show ((j : Int) == sh) = false by simpa using e, Bool.and_true, cond_true, Bool.false_or]
      cases decide (v ∈ ls.getD j []) with
      | true => rw [Bool.true_and]; exact ih (j + 1) (c + 1)
      | false => rw [inF_false]; rfl
def allInV (ls : RowL) (sh v : Int) : Bool := (List.range' 0 ls.length).all (isInV ls sh v)
theorem outFold {ls : RowL} {sh : Int} {vs : List Int} : ∀ i, i ≤ vs.length →
    ((List.range' 0 i).foldl (fun s i => outSt ls sh vs i s) ([], 0)).1 = (vs.take i).filter (allInV ls sh) ∧ 0 ≤ ((List.range' 0 i).foldl (fun s i => outSt ls sh vs i s) ([], 0)).2 ∧ ((List.range' 0 i).foldl (fun s i => outSt ls sh vs i s) ([], 0)).2 ≤ ((i * ls.length : Nat) : Int) := by
  intro i
  induction i with
  | zero => intro _; exact ⟨rfl, Int.le_refl _, by simp⟩
  | succ i ih =>
    intro hi
    obtain ⟨h1, h2, h3⟩ := ih (by omega)
    rw [List.range'_concat, List.foldl_append]
    simp only [Nat.zero_add, Nat.one_mul, List.foldl_cons, List.foldl_nil]
    generalize (List.range' 0 i).foldl (fun s i => outSt ls sh vs i s) ([], 0) = s at h1 h2 h3 ⊢
    have hb := inF_bd ls sh (vs.getD i 0) ls.length 0 (s.2, true)
    have ha := inF_all ls sh (vs.getD i 0) ls.length 0 s.2
    unfold outSt
    simp only []
    rw [List.take_succ_eq_append_getElem (by omega), List.filter_append, ha, h1, getD_at (by omega)]
    rw [getD_at (by omega)] at hb
    have hm : (((i + 1) * ls.length : Nat) : Int) = ((i * ls.length : Nat) : Int) + (ls.length : Int) := by rw [Nat.succ_mul]; omega
    simp only [] at hb
    refine ⟨?_, by omega, by rw [hm]; omega⟩
    show (bif allInV ls sh vs[i] then _ else _) = _
    cases hc : allInV ls sh vs[i] <;> simp [hc]
theorem interV_spec {ls : RowL} {B : Nat} (hB : ∀ l ∈ ls, l.length ≤ B) : ascI (interV ls).1 ∧ (∀ x ∈ (interV ls).1, ∀ l ∈ ls, x ∈ l) ∧ 0 ≤ (interV ls).2 ∧ (interV ls).2 ≤ ((B * ls.length : Nat) : Int) ∧ (allAsc ls = true → ∀ x, (∀ l ∈ ls, x ∈ l) → x ∈ (interV ls).1) := by
  unfold interV
  cases ha : allAsc ls with
  | false => exact ⟨List.Pairwise.nil, by simp, Int.le_refl _, by simp only [cond_false]; omega, fun h => by cases h⟩
  | true =>
    unfold allAsc at ha
    rw [Bool.and_eq_true, List.all_eq_true, decide_eq_true_eq] at ha
    have hin := shortI_in ha.2
    have hs : (shortI ls).toNat < ls.length := by omega
    have hvm := getL_mem hs
    obtain ⟨h1, h2, h3⟩ := outFold (ls := ls) (sh := shortI ls) (vs := ls.getD (shortI ls).toNat []) (ls.getD (shortI ls).toNat []).length (Nat.le_refl _)
    rw [List.take_length] at h1
    rw [cond_true, h1]
    have hl := hB _ hvm
    have hmul := Nat.mul_le_mul_right ls.length hl
    refine ⟨List.Pairwise.filter _ (asc_ascI (ha.1 _ hvm)), fun x hx l hl => ?_, h2, by omega, fun _ x hx => ?_⟩
    · rw [List.mem_filter] at hx
      obtain ⟨i, hi, rfl⟩ := List.getElem_of_mem hl
      have h4 := hx.2
      unfold allInV at h4
      rw [List.all_eq_true] at h4
      have h5 := h4 i (by simp; omega)
      unfold isInV at h5
      rw [Bool.or_eq_true, beq_iff_eq, decide_eq_true_eq] at h5
      rcases h5 with h5 | h5
      · have : (shortI ls).toNat = i := by omega
        rw [this, getL_at hi] at hx; exact hx.1
      · rwa [getL_at hi] at h5
    · rw [List.mem_filter]
      refine ⟨hx _ hvm, ?_⟩
      unfold allInV
      rw [List.all_eq_true]
      intro i hi
      have hi' : i < ls.length := by simp at hi; omega
      unfold isInV
      rw [decide_eq_true (hx _ (getL_mem hi')), Bool.or_true]
def fLook (ts : List DTable) (order : List Int) (atoms : List QAtom) : Nxt := fun p => interV (listsV ts order atoms p)
theorem ascI_nodup {xs : List Int} (h : ascI xs) : xs.Nodup := List.Pairwise.imp (fun {a b} (hab : a < b) (e : a = b) => by omega) h
/-- common values are few and valid -/
theorem common_ok {ls : RowL} {xs : List Int} (h : ∀ l ∈ ls, l.length ≤ 16 ∧ ascI l ∧ ∀ v ∈ l, 0 ≤ v ∧ v ≤ 99) (ha : ascI xs) (hx : ∀ x ∈ xs, ∀ l ∈ ls, x ∈ l) (he : ls = [] → xs = []) : xs.length ≤ 16 ∧ ∀ v ∈ xs, 0 ≤ v ∧ v ≤ 99 := by
  cases ls with
  | nil => rw [he rfl]; simp
  | cons l ls =>
    obtain ⟨h1, _, h3⟩ := h l List.mem_cons_self
    refine ⟨Nat.le_trans (subset_len xs l (ascI_nodup ha) fun x hx' => hx x hx' l List.mem_cons_self) h1, fun v hv => h3 v (hx v hv l List.mem_cons_self)⟩
theorem interV_nil : (interV []).1 = [] := rfl
theorem fLook_ok {ts : List DTable} {n : Nat} {atoms : List QAtom} {order : List Int} (q : QFor ts n atoms order) : NxtOk (fLook ts order atoms) := by
  have h4 := q.a4
  have key := fun p => interV_spec (ls := listsV ts order atoms p) (B := 16) fun l hl => (listsV_ok q l hl).1
  have com := fun p => common_ok (fun l hl => listsV_ok q (p := p) l hl) (key p).1 (key p).2.1 fun e => by rw [e]; exact interV_nil
  have hll := fun p => listsV_len ts order atoms p
  refine ⟨fun p => (com p).1, fun p => (key p).1, fun p => (com p).2, fun p => (key p).2.2.1, fun p => ?_⟩
  have h1 := (key p).2.2.2.1
  have h2 := hll p
  show (interV (listsV ts order atoms p)).2 ≤ 1000
  omega
end Go.Proofs.YtbdnoljojebebaaGreat
namespace Go.Proofs.YtbdnoljojebebaaGreat
open Go.RowKit

theorem flat_take_s {α β : Type} {xs : List α} {g : α → List β} {i : Nat} (h : i < xs.length) : (xs.take (i + 1)).flatMap g = (xs.take i).flatMap g ++ g xs[i] := by
  rw [List.take_succ_eq_append_getElem h, List.flatMap_append]; simp
theorem sum_take_s {α : Type} {xs : List α} {g : α → Int} {i : Nat} (h : i < xs.length) : ((xs.take (i + 1)).map g).sum = ((xs.take i).map g).sum + g xs[i] := by
  rw [take_map_s h, List.sum_append]; simp
theorem steps_take_s {f : Nxt} {rows : RowL} {i : Nat} (h : i < rows.length) : stepsV f (rows.take (i + 1)) = stepsV f (rows.take i) + (f rows[i]).2 := sum_take_s h
theorem levV_succ (f : Nxt) : ∀ (m : Nat) (L : RowL) (c : Int), levV f (m + 1) L c = ((levV f m L c).1.flatMap (extV f), (levV f m L c).2 + stepsV f (levV f m L c).1)
  | 0, _, _ => rfl
  | m + 1, L, c => by
    rw [levV, levV_succ f m]; rfl
theorem stepB_le : ∀ {i : Nat}, i ≤ 5 → stepB i ≤ 1000000000
  | 0, _ => by decide
  | 1, _ => by decide
  | 2, _ => by decide
  | 3, _ => by decide
  | 4, _ => by decide
  | 5, _ => by decide
section
variable {N : Nat}
theorem copyInts_eq {xs : List Int} (h : xs.length ≤ 1048576) : impl_copyInts N xs = some xs := by
  unfold impl_copyInts
  rw [apd_nil (by decide) (by omega), bs]
theorem reachLook_L3 (hN : 1073741824 ≤ N) {t1 : List LTrie} {order out p vs : List Int} {b1 b2 b3 b4 b5 b6 : Int} {atoms : List QAtom} {next rows : RowL} (hp : p.length ≤ 1000) (hv : vs.length ≤ 1000) (hn : next.length ≤ 1073741824) :
    impl_reach__impl_IntersectByLookup_L3 N N t1 order b1 b2 atoms out b3 b4 next p rows b5 b6 vs (vs.length : Int) 0 = some (next ++ vs.map (fun v => p ++ [v]), (vs.length : Int)) := by
  have h := loopI (fun k (o : RowL) i => impl_reach__impl_IntersectByLookup_L3 N k t1 order b1 b2 atoms out b3 b4 o p rows b5 b6 vs (vs.length : Int) i) vs.length (fun i => next ++ (vs.take i).map (fun v => p ++ [v])) (next ++ vs.map (fun v => p ++ [v]), (vs.length : Int))
    (fun k i h => by
      show impl_reach__impl_IntersectByLookup_L3 N (k + 1) t1 order b1 b2 atoms out b3 b4 (next ++ (vs.take i).map (fun v => p ++ [v])) p rows b5 b6 vs (vs.length : Int) (i : Int) = impl_reach__impl_IntersectByLookup_L3 N k t1 order b1 b2 atoms out b3 b4 (next ++ (vs.take (i + 1)).map (fun v => p ++ [v])) p rows b5 b6 vs (vs.length : Int) ((i + 1 : Nat) : Int)
      rw [impl_reach__impl_IntersectByLookup_L3, dlt h, cond_true, ix_nat h, bs, copyInts_eq (by omega), bs, apd_ok' (by decide) (by simp; omega), bs, apd_ok' (by decide) (by rw [List.length_append, List.length_map, List.length_take, List.length_singleton]; omega), bs, ad1 (by omega), bs, take_map_s h, List.append_assoc])
    (fun k => by
      show impl_reach__impl_IntersectByLookup_L3 N (k + 1) t1 order b1 b2 atoms out b3 b4 (next ++ (vs.take vs.length).map (fun v => p ++ [v])) p rows b5 b6 vs (vs.length : Int) (vs.length : Int) = _
      rw [impl_reach__impl_IntersectByLookup_L3, dge (by omega), cond_false, List.take_length]) N 0 (by omega) (by omega)
  rw [List.take_zero, List.map_nil, List.append_nil] at h
  exact h
theorem reachLook_L2 (hN : 1073741824 ≤ N) {ts : List DTable} {n : Nat} {m b1 b4 c : Int} {atoms : List QAtom} {out order : List Int} (q : QFor ts n atoms order) (ha : okAtoms atoms) {rows : RowL} {lv : Nat} (hlv : lv < n) (hrow : ∀ r ∈ rows, r.length = lv) (hl : rows.length ≤ 1048576) (hc : 0 ≤ c ∧ c ≤ 1073741824) :
    impl_reach__impl_IntersectByLookup_L2 N N (triesV ts order atoms) order b1 m atoms out c b4 [] rows (rows.length : Int) 0 = some (c + stepsV (fLook ts order atoms) rows, rows.flatMap (extV (fLook ts order atoms)), (rows.length : Int)) := by
  have hf := fLook_ok q
  have hn5 := q.n5
  have h4 := q.a4
  have h := loopI (fun k (s : Int × RowL) i => impl_reach__impl_IntersectByLookup_L2 N k (triesV ts order atoms) order b1 m atoms out s.1 b4 s.2 rows (rows.length : Int) i) rows.length (fun i => (c + stepsV (fLook ts order atoms) (rows.take i), (rows.take i).flatMap (extV (fLook ts order atoms)))) (c + stepsV (fLook ts order atoms) rows, rows.flatMap (extV (fLook ts order atoms)), (rows.length : Int))
    (fun k i h => by
      have hr := hrow _ (List.getElem_mem h)
      have hll := listsV_len ts order atoms rows[i]
      have hk := hf.len rows[i]; have h0 := hf.st0 rows[i]; have h1 := hf.st1 rows[i]
      have hsb := sum_bd (g := fun p => ((fLook ts order atoms) p).2) hf.st0 hf.st1 (rows.take i)
      have hsb2 : 0 ≤ stepsV (fLook ts order atoms) (rows.take i) ∧ stepsV (fLook ts order atoms) (rows.take i) ≤ (((rows.take i).length : Nat) : Int) * 1000 := hsb
      have hfl := len_flatMap (extV_len hf) (rows.take i)
      rw [List.length_take] at hsb2 hfl
      show impl_reach__impl_IntersectByLookup_L2 N (k + 1) (triesV ts order atoms) order b1 m atoms out (c + stepsV (fLook ts order atoms) (rows.take i)) b4 ((rows.take i).flatMap (extV (fLook ts order atoms))) rows (rows.length : Int) (i : Int) = impl_reach__impl_IntersectByLookup_L2 N k (triesV ts order atoms) order b1 m atoms out (c + stepsV (fLook ts order atoms) (rows.take (i + 1))) b4 ((rows.take (i + 1)).flatMap (extV (fLook ts order atoms))) rows (rows.length : Int) ((i + 1 : Nat) : Int)
      rw [impl_reach__impl_IntersectByLookup_L2, dlt h, cond_true, ix_nat h, bs, nextLists_eq hN q ha (by omega), bs, IntersectByLookup_impl_eq hN ⟨by omega, fun l hl => ⟨by have := (listsV_ok q l hl).1; omega, fun _ _ => trivial⟩⟩, bs]
      show ((ad _ ((fLook ts order atoms) rows[i]).2).bind fun x501 => (impl_reach__impl_IntersectByLookup_L3 N N (triesV ts order atoms) order b1 m atoms out x501 b4 _ rows[i] rows (rows.length : Int) (i : Int) ((fLook ts order atoms) rows[i]).1 (((fLook ts order atoms) rows[i]).1.length : Int) 0).bind _) = _
      rw [ad_ok (by omega) (by omega), bs, reachLook_L3 hN (by omega) (by omega) (by omega), bs, lpB, flat_take_s h, steps_take_s h, ← Int.add_assoc, ad1 (by omega)]; rfl)
    (fun k => by
      show impl_reach__impl_IntersectByLookup_L2 N (k + 1) (triesV ts order atoms) order b1 m atoms out (c + stepsV (fLook ts order atoms) (rows.take rows.length)) b4 ((rows.take rows.length).flatMap (extV (fLook ts order atoms))) rows (rows.length : Int) (rows.length : Int) = _
      rw [impl_reach__impl_IntersectByLookup_L2, dge (by omega), cond_false, List.take_length]) N 0 (by omega) (by omega)
  have h' : impl_reach__impl_IntersectByLookup_L2 N N (triesV ts order atoms) order b1 m atoms out (c + 0) b4 [] rows (rows.length : Int) 0 = _ := h
  rw [Int.add_zero] at h'
  exact h'
theorem reachLook_eq (hN : 1073741824 ≤ N) {ts : List DTable} {n : Nat} {m : Int} {atoms : List QAtom} {out order : List Int} (q : QFor ts n atoms order) (ha : okAtoms atoms) {len : Nat} (hlen : len ≤ n) :
    impl_reach__impl_IntersectByLookup N m atoms out (triesV ts order atoms) order (len : Int) = some ((walkV (fLook ts order atoms) len []).1, (walkV (fLook ts order atoms) len []).2, decide (((walkV (fLook ts order atoms) len []).1.length : Int) ≤ 4000)) := by
  have hf := fLook_ok q
  have hn5 := q.n5
  have h := loopI (fun k (s : RowL × Int) i => impl_reach__impl_IntersectByLookup_L1 N k (triesV ts order atoms) order (len : Int) m atoms out s.1 s.2 i) len (fun i => levV (fLook ts order atoms) i [[]] 0) ((levV (fLook ts order atoms) len [[]] 0).1, (levV (fLook ts order atoms) len [[]] 0).2, (len : Int))
    (fun k i h => by
      have hw := walk_lev (fLook ts order atoms) i
      have hl := walkV_len hf i []
      have hs := walkV_st hf i []
      have hp : 16 ^ i ≤ 16 ^ 5 := Nat.pow_le_pow_right (by decide) (by omega)
      have hb := stepB_le (show i ≤ 5 by omega)
      show impl_reach__impl_IntersectByLookup_L1 N (k + 1) (triesV ts order atoms) order (len : Int) m atoms out (levV (fLook ts order atoms) i [[]] 0).1 (levV (fLook ts order atoms) i [[]] 0).2 (i : Int) = impl_reach__impl_IntersectByLookup_L1 N k (triesV ts order atoms) order (len : Int) m atoms out (levV (fLook ts order atoms) (i + 1) [[]] 0).1 (levV (fLook ts order atoms) (i + 1) [[]] 0).2 ((i + 1 : Nat) : Int)
      rw [levV_succ, hw, impl_reach__impl_IntersectByLookup_L1, dlt h, cond_true, reachLook_L2 hN q ha (show i < n by omega) (fun r hr => by obtain ⟨s, e1, e⟩ := walkV_mem hr; rw [e1]; exact e) (by omega) (by omega), bs, lpB, ad1 (by omega)]; rfl)
    (fun k => by
      show impl_reach__impl_IntersectByLookup_L1 N (k + 1) (triesV ts order atoms) order (len : Int) m atoms out (levV (fLook ts order atoms) len [[]] 0).1 (levV (fLook ts order atoms) len [[]] 0).2 (len : Int) = _
      rw [impl_reach__impl_IntersectByLookup_L1, dge (by omega), cond_false]) N 0 (by omega) (by omega)
  have h' : impl_reach__impl_IntersectByLookup_L1 N N (triesV ts order atoms) order (len : Int) m atoms out [[]] 0 0 = _ := h
  unfold impl_reach__impl_IntersectByLookup
  rw [h', walk_lev, bs, lpB]
theorem l22Lists_eq (hN : 1073741824 ≤ N) {rec : List LTrie → Int → List QAtom → List Int → List Int → List Int → Option (RowL × Int)} {ts : List DTable} {n : Nat} {m : Int} {atoms : List QAtom} {out order p : List Int} {b1 : RowL} (q : QFor ts n atoms order) (ha : okAtoms atoms) (hp : p.length < n) :
    spec_l22Walk_L1 rec N N (triesV ts order atoms) order p m atoms out b1 (cz (idxV atoms (order.getD p.length 0))) [] 0 = some (listsV ts order atoms p, ((idxV atoms (order.getD p.length 0)).length : Int)) := by
  have h4 := q.a4
  have hil := idxT_len atoms (order.getD p.length 0) atoms.length
  have hcl := cz_len (idxV atoms (order.getD p.length 0))
  have hil' : (idxV atoms (order.getD p.length 0)).length ≤ atoms.length := hil
  exact loopI (fun k (o : RowL) i => spec_l22Walk_L1 rec N k (triesV ts order atoms) order p m atoms out b1 (cz (idxV atoms (order.getD p.length 0))) o i) (idxV atoms (order.getD p.length 0)).length (fun i => ((idxV atoms (order.getD p.length 0)).take i).map (atV ts order atoms p)) (listsV ts order atoms p, ((idxV atoms (order.getD p.length 0)).length : Int))
    (fun k i h => by
      have hc := cz_ix h
      rw [natD_at h] at hc
      have hi := (idxV_mem.1 (List.getElem_mem h)).1
      obtain ⟨o1, o2⟩ := refOne hN q ha hp hi
      show spec_l22Walk_L1 rec N (k + 1) (triesV ts order atoms) order p m atoms out b1 (cz (idxV atoms (order.getD p.length 0))) (((idxV atoms (order.getD p.length 0)).take i).map (atV ts order atoms p)) (i : Int) = spec_l22Walk_L1 rec N k (triesV ts order atoms) order p m atoms out b1 (cz (idxV atoms (order.getD p.length 0))) (((idxV atoms (order.getD p.length 0)).take (i + 1)).map (atV ts order atoms p)) ((i + 1 : Nat) : Int)
      rw [spec_l22Walk_L1, hcl, dlt h, cond_true, hc, bs, triesV_at hi, bs, bs, atoms_ix hi, bs, o1, bs, o2, bs, apd_ok' (by decide) (by rw [List.length_map, List.length_take, List.length_singleton]; omega), bs, ad1 (by omega), bs, take_map_s h])
    (fun k => by
      show spec_l22Walk_L1 rec N (k + 1) (triesV ts order atoms) order p m atoms out b1 (cz (idxV atoms (order.getD p.length 0))) (((idxV atoms (order.getD p.length 0)).take (idxV atoms (order.getD p.length 0)).length).map (atV ts order atoms p)) ((idxV atoms (order.getD p.length 0)).length : Int) = _
      rw [spec_l22Walk_L1, hcl, dge (by omega), cond_false, List.take_length]; rfl) N 0 (by omega) (by omega)
theorem l22Walk_eq {ts : List DTable} {n : Nat} {atoms : List QAtom} {out order : List Int} (q : QFor ts n atoms order) (ha : okAtoms atoms) (ho : okI out) (hq : queryOk (n : Int) atoms out = true) :
    ∀ (m : Nat) (M : Nat) (p : List Int), p.length + m = n → 1073741824 + m + 1 ≤ M → spec_l22Walk M (triesV ts order atoms) (n : Int) atoms out order p = some (walkV (fLook ts order atoms) m p) := by
  have hf := fLook_ok q
  have hn5 := q.n5
  have hol := q.ol
  intro m
  induction m with
  | zero =>
    intro M p hp hM
    obtain ⟨M, rfl⟩ : ∃ K, M = K + 1 := ⟨M - 1, by omega⟩
    rw [spec_l22Walk, show ((p.length : Int) == (order.length : Int)) = true by simp; omega, cond_true, apd_nil (by decide) (by omega), bs]; rfl
  | succ m ih =>
    intro M p hp hM
    obtain ⟨M, rfl⟩ : ∃ K, M = K + 1 := ⟨M - 1, by omega⟩
    have h0 := hf.st0 p; have h1 := hf.st1 p; have hk := hf.len p
    rw [spec_l22Walk, show ((p.length : Int) == (order.length : Int)) = false by simp; omega, cond_false, ixD (show p.length < order.length by omega), bs, AtomsWithVariable_eq (by omega) ha ho hq, bs, l22Lists_eq (by omega) q ha (by omega), bs, lpB]
    show ((spec_IntersectByLookup M (listsV ts order atoms p)).bind _) = _
    rw [IntersectByLookup_spec_eq (by omega) ⟨by have := listsV_len ts order atoms p; have := q.a4; omega, fun l hl => ⟨by have := (listsV_ok q l hl).1; omega, fun _ _ => trivial⟩⟩, bs]
    show ((spec_l22Walk_L2 (spec_l22Walk M) M M (triesV ts order atoms) order p (n : Int) atoms out [] ((fLook ts order atoms) p).1 ((fLook ts order atoms) p).2 0).bind _) = _
    have h := loopI (fun k (s : RowL × Int) i => spec_l22Walk_L2 (spec_l22Walk M) M k (triesV ts order atoms) order p (n : Int) atoms out s.1 ((fLook ts order atoms) p).1 s.2 i) ((fLook ts order atoms) p).1.length (fun i => ((((fLook ts order atoms) p).1.take i).flatMap (fun v => (walkV (fLook ts order atoms) m (p ++ [v])).1), ((fLook ts order atoms) p).2 + ((((fLook ts order atoms) p).1.take i).map fun v => (walkV (fLook ts order atoms) m (p ++ [v])).2).sum)) ((walkV (fLook ts order atoms) (m + 1) p).1, (walkV (fLook ts order atoms) (m + 1) p).2, (((fLook ts order atoms) p).1.length : Int))
      (fun k i h => by
        have hp16 : 16 ^ m ≤ 16 ^ 5 := Nat.pow_le_pow_right (by decide) (by omega)
        have hw := walkV_len hf m (p ++ [((fLook ts order atoms) p).1[i]])
        have hfl := len_flatMap (g := fun v => (walkV (fLook ts order atoms) m (p ++ [v])).1) (fun v => walkV_len hf m _) (((fLook ts order atoms) p).1.take i)
        have hst := walkV_st hf m (p ++ [((fLook ts order atoms) p).1[i]])
        have hsb := sum_bd (g := fun v => (walkV (fLook ts order atoms) m (p ++ [v])).2) (fun v => (walkV_st hf m _).1) (fun v => (walkV_st hf m _).2) (((fLook ts order atoms) p).1.take i)
        have hb := stepB_le (show m ≤ 5 by omega)
        have hb0 := stepB_0 m
        rw [List.length_take] at hfl hsb
        have hmul := Nat.mul_le_mul (show min i ((fLook ts order atoms) p).1.length ≤ 16 by omega) hp16
        have hmul2 : ((min i ((fLook ts order atoms) p).1.length : Nat) : Int) * stepB m ≤ 16 * stepB m := Int.mul_le_mul_of_nonneg_right (by omega) hb0
        show spec_l22Walk_L2 (spec_l22Walk M) M (k + 1) (triesV ts order atoms) order p (n : Int) atoms out ((((fLook ts order atoms) p).1.take i).flatMap (fun v => (walkV (fLook ts order atoms) m (p ++ [v])).1)) ((fLook ts order atoms) p).1 (((fLook ts order atoms) p).2 + ((((fLook ts order atoms) p).1.take i).map fun v => (walkV (fLook ts order atoms) m (p ++ [v])).2).sum) (i : Int) = spec_l22Walk_L2 (spec_l22Walk M) M k (triesV ts order atoms) order p (n : Int) atoms out ((((fLook ts order atoms) p).1.take (i + 1)).flatMap (fun v => (walkV (fLook ts order atoms) m (p ++ [v])).1)) ((fLook ts order atoms) p).1 (((fLook ts order atoms) p).2 + ((((fLook ts order atoms) p).1.take (i + 1)).map fun v => (walkV (fLook ts order atoms) m (p ++ [v])).2).sum) ((i + 1 : Nat) : Int)
        rw [spec_l22Walk_L2, dlt h, cond_true, ix_nat h, bs, apd_nil (by decide) (by omega), bs, apd_ok' (by decide) (by simp; omega), bs, ih M (p ++ [((fLook ts order atoms) p).1[i]]) (by rw [List.length_append, List.length_singleton]; omega) (by omega), bs, apd_ok' (by decide) (by omega), bs, ad_ok (by omega) (by omega), bs, ad1 (by omega), bs, flat_take_s h, sum_take_s h, Int.add_assoc])
      (fun k => by
        show spec_l22Walk_L2 (spec_l22Walk M) M (k + 1) (triesV ts order atoms) order p (n : Int) atoms out ((((fLook ts order atoms) p).1.take ((fLook ts order atoms) p).1.length).flatMap (fun v => (walkV (fLook ts order atoms) m (p ++ [v])).1)) ((fLook ts order atoms) p).1 (((fLook ts order atoms) p).2 + ((((fLook ts order atoms) p).1.take ((fLook ts order atoms) p).1.length).map fun v => (walkV (fLook ts order atoms) m (p ++ [v])).2).sum) (((fLook ts order atoms) p).1.length : Int) = _
        rw [spec_l22Walk_L2, dge (by omega), cond_false, List.take_length]; rfl) M 0 (by omega) (by omega)
    have h' : spec_l22Walk_L2 (spec_l22Walk M) M M (triesV ts order atoms) order p (n : Int) atoms out [] ((fLook ts order atoms) p).1 (((fLook ts order atoms) p).2 + 0) 0 = _ := h
    rw [Int.add_zero] at h'
    rw [h', bs, lpB]
end
end Go.Proofs.YtbdnoljojebebaaGreat
namespace Go.Proofs.YtbdnoljojebebaaGreat
open Go.RowKit

def okQ (ts : List DTable) (n : Int) (atoms : List QAtom) (out order : List Int) : Bool := queryFor ts n atoms out && orderOk n atoms out order
abbrev JoinR := (Int × RowL) × Int × Bool
def noJoin : JoinR := ((0, []), 0, false)
/-- what a search of some length makes -/
def foundV (k : Int) (w : RowL × Int) : JoinR := bif decide ((w.1.length : Int) ≤ 4000) then ((k, w.1), w.2, true) else noJoin
def gnJoinV (ts : List DTable) (n : Int) (atoms : List QAtom) (out order : List Int) : JoinR :=
  bif okQ ts n atoms out order then foundV n (walkV (fLook ts order atoms) n.toNat []) else noJoin
def placesV (out order : List Int) : List Int := out.map (findI order)
def evalV (j : JoinR) (out order : List Int) : (Int × RowL) × Bool := bif j.2.2 then projV j.1.1 j.1.2 (placesV out order) else noRel
theorem walk_rows {f : Nxt} (hf : NxtOk f) {k : Nat} (hk : k ≤ 5) : okII (walkV f k []).1 ∧ (∀ r ∈ (walkV f k []).1, r.length = k ∧ validVals r = true) ∧ ascP (walkV f k []).1 := by
  have h1 := walkV_len hf k []
  have hp : 16 ^ k ≤ 16 ^ 5 := Nat.pow_le_pow_right (by decide) (by omega)
  have h2 : ∀ r ∈ (walkV f k []).1, r.length = k ∧ validVals r = true := fun r hr => by
    obtain ⟨s, e1, e⟩ := walkV_mem hr
    exact ⟨by rw [e1]; exact e, walkV_vals hf rfl hr⟩
  exact ⟨⟨by omega, fun r hr => ⟨by have := (h2 r hr).1; omega, fun _ _ => trivial⟩⟩, h2, walkV_asc hf k []⟩
/-- the reference's relation of a search -/
theorem walk_rel {f : Nxt} (hf : NxtOk f) {k : Nat} (hk : k ≤ 5) : newRelV (k : Int) (walkV f k []).1 = ((foundV k (walkV f k [])).1, (foundV k (walkV f k [])).2.2) := by
  obtain ⟨h1, h2, h3⟩ := walk_rows hf hk
  rw [newRelV_asc (by omega) h1.1 (fun r hr => by have := h2 r hr; exact ⟨by omega, this.2⟩) h3]
  unfold foundV
  cases decide (((walkV f k []).1.length : Int) ≤ 4000) <;> rfl
theorem foundV_ok {f : Nxt} (hf : NxtOk f) {k : Nat} (hk : k ≤ 5) : okII (foundV k (walkV f k [])).1.2 := by
  unfold foundV
  cases decide (((walkV f k []).1.length : Int) ≤ 4000)
  · exact ⟨by simp [noJoin], by simp [noJoin]⟩
  · exact (walk_rows hf hk).1
theorem okQ_q {ts : List DTable} {n : Int} {atoms : List QAtom} {out order : List Int} (h : okQ ts n atoms out order = true) : ∃ m : Nat, n = (m : Int) ∧ QFor ts m atoms order ∧ queryOk n atoms out = true := by
  unfold okQ at h
  rw [Bool.and_eq_true] at h
  obtain ⟨m, e, q⟩ := tryV_q h.1 h.2
  refine ⟨m, e, q, ?_⟩
  have := h.1
  unfold queryFor at this
  rw [Bool.and_eq_true] at this
  exact this.1
theorem gnJoinV_ok {ts : List DTable} {n : Int} {atoms : List QAtom} {out order : List Int} : okII (gnJoinV ts n atoms out order).1.2 := by
  unfold gnJoinV
  cases h : okQ ts n atoms out order with
  | false => exact ⟨by simp [noJoin], by simp [noJoin]⟩
  | true =>
    obtain ⟨m, rfl, q, _⟩ := okQ_q h
    exact foundV_ok (fLook_ok q) q.n5
theorem projV_ok {n : Int} {rows : RowL} {cols : List Int} (h : okII rows) (hc : cols.length ≤ 1048576) : okII (projV n rows cols).1.2 := by
  unfold projV
  cases validRows n rows && (decide ((cols.length : Int) ≤ 5) && colsFit n cols)
  · exact ⟨by simp [noRel], by simp [noRel]⟩
  · refine newRelV_ok ⟨by rw [List.length_map]; exact h.1, fun r hr => ?_⟩
    obtain ⟨x, _, rfl⟩ := List.mem_map.1 hr
    exact ⟨by rw [pickV_len]; exact hc, fun _ _ => trivial⟩
theorem evalV_ok {j : JoinR} {out order : List Int} (h : okII j.1.2) (ho : okI out) : okII (evalV j out order).1.2 := by
  unfold evalV
  cases j.2.2
  · exact ⟨by simp [noRel], by simp [noRel]⟩
  · exact projV_ok h (by unfold placesV; rw [List.length_map]; exact ho.1)
section
variable {N : Nat}
theorem tryV_okQ (ts : List DTable) (n : Int) (atoms : List QAtom) (out order : List Int) : tryV ts n atoms out order = bif okQ ts n atoms out order then (triesV ts order atoms, true) else ([], false) := rfl
theorem GenericJoin_impl_eq (hM : 1073742848 ≤ N) {ts : List DTable} {n : Int} {atoms : List QAtom} {out order : List Int} (ht : okDb ts) (ha : okAtoms atoms) (ho : okI out) (hr : okI order) : impl_GenericJoin N ts n atoms out order = some (gnJoinV ts n atoms out order) := by
  unfold impl_GenericJoin gnJoinV
  rw [BuildTries_impl_eq hM ht ha ho hr, bs, tryV_okQ]
  cases h : okQ ts n atoms out order with
  | false => rfl
  | true =>
    obtain ⟨m, rfl, q, _⟩ := okQ_q h
    rw [cond_true, cond_true]
    show ((impl_reach__impl_IntersectByLookup N (m : Int) atoms out (triesV ts order atoms) order (m : Int)).bind _) = _
    rw [reachLook_eq (by omega) q ha (Nat.le_refl _), bs]
    unfold foundV
    rw [show ((m : Nat) : Int).toNat = m from rfl]
    show (bif decide (((walkV (fLook ts order atoms) m []).1.length : Int) ≤ 4000) then _ else _) = _
    cases decide (((walkV (fLook ts order atoms) m []).1.length : Int) ≤ 4000) <;> rfl
theorem GenericJoin_spec_eq (hM : 1073742848 ≤ N) {ts : List DTable} {n : Int} {atoms : List QAtom} {out order : List Int} (ht : okDb ts) (ha : okAtoms atoms) (ho : okI out) (hr : okI order) : spec_GenericJoin N ts n atoms out order = some (gnJoinV ts n atoms out order) := by
  unfold spec_GenericJoin gnJoinV
  rw [BuildTries_spec_eq hM ht ha ho hr, bs, tryV_okQ]
  cases h : okQ ts n atoms out order with
  | false => rfl
  | true =>
    obtain ⟨m, rfl, q, hq⟩ := okQ_q h
    have h5 := q.n5
    have hol := q.ol
    obtain ⟨w1, _, _⟩ := walk_rows (fLook_ok q) h5
    rw [cond_true, cond_true, hol]
    show ((spec_l22Walk N (triesV ts order atoms) (m : Int) atoms out order []).bind _) = _
    rw [l22Walk_eq q ha ho hq m N [] (by simp) (by omega), bs, NewRelation_spec_eq hM w1, bs, walk_rel (fLook_ok q) h5]
    unfold foundV
    rw [show ((m : Nat) : Int).toNat = m from rfl]
    cases decide (((walkV (fLook ts order atoms) m []).1.length : Int) ≤ 4000) <;> rfl
theorem places_eq (hN : 1073741824 ≤ N) {n : Int} {atoms : List QAtom} {out order : List Int} (ho : okI out) (hr : okI order) : impl_places N n atoms out order = some (placesV out order) := by
  have hol := ho.1
  have h := loopI (fun k (o : List Int) i => impl_places_L1 N k order o out (out.length : Int) i) out.length (fun i => placesV (out.take i) order) (placesV out order, (out.length : Int))
    (fun k i h => by
      show impl_places_L1 N (k + 1) order (placesV (out.take i) order) out (out.length : Int) (i : Int) = impl_places_L1 N k order (placesV (out.take (i + 1)) order) out (out.length : Int) ((i + 1 : Nat) : Int)
      unfold placesV
      rw [impl_places_L1, dlt h, cond_true, ix_nat h, bs, indexOf_eq hN hr.1, bs, apd_ok' (by decide) (by rw [List.length_map, List.length_take, List.length_singleton]; omega), bs, ad1 (by omega), bs, take_map_s h])
    (fun k => by
      show impl_places_L1 N (k + 1) order (placesV (out.take out.length) order) out (out.length : Int) (out.length : Int) = _
      rw [impl_places_L1, dge (by omega), cond_false, List.take_length]) N 0 (by omega) (by omega)
  have h' : impl_places_L1 N N order [] out (out.length : Int) 0 = _ := h
  unfold impl_places
  rw [h', bs, lpB]
theorem foundV_n {k : Nat} {w : RowL × Int} (h : k ≤ 5) : 0 ≤ (foundV k w).1.1 ∧ (foundV k w).1.1 ≤ 5 := by
  unfold foundV
  cases decide ((w.1.length : Int) ≤ 4000)
  · exact ⟨Int.le_refl _, by show (0 : Int) ≤ 5; decide⟩
  · show 0 ≤ (k : Int) ∧ (k : Int) ≤ 5
    omega
theorem gnJoinV_n {ts : List DTable} {n : Int} {atoms : List QAtom} {out order : List Int} : 0 ≤ (gnJoinV ts n atoms out order).1.1 ∧ (gnJoinV ts n atoms out order).1.1 ≤ 5 := by
  unfold gnJoinV
  cases h : okQ ts n atoms out order with
  | false => exact ⟨Int.le_refl _, by show (0 : Int) ≤ 5; decide⟩
  | true =>
    obtain ⟨m, rfl, q, _⟩ := okQ_q h
    exact foundV_n q.n5
theorem evSGenericJoin_L1 (hN : 1073741824 ≤ N) {n b1 b3 : Int} {atoms : List QAtom} {out order : List Int} {b2 b4 : RowL} (ho : okI out) (hr : okI order) : spec_EvaluateByGenericJoin_L1 N N order n atoms out b1 b2 b3 b4 [] 0 = some (placesV out order, (out.length : Int)) := by
  have hol := ho.1
  exact loopI (fun k (o : List Int) i => spec_EvaluateByGenericJoin_L1 N k order n atoms out b1 b2 b3 b4 o i) out.length (fun i => placesV (out.take i) order) (placesV out order, (out.length : Int))
    (fun k i h => by
      show spec_EvaluateByGenericJoin_L1 N (k + 1) order n atoms out b1 b2 b3 b4 (placesV (out.take i) order) (i : Int) = spec_EvaluateByGenericJoin_L1 N k order n atoms out b1 b2 b3 b4 (placesV (out.take (i + 1)) order) ((i + 1 : Nat) : Int)
      unfold placesV
      rw [spec_EvaluateByGenericJoin_L1, dlt h, cond_true, ix_nat h, bs, l7Find_eq hN hr.1, bs, apd_ok' (by decide) (by rw [List.length_map, List.length_take, List.length_singleton]; omega), bs, ad1 (by omega), bs, take_map_s h])
    (fun k => by
      show spec_EvaluateByGenericJoin_L1 N (k + 1) order n atoms out b1 b2 b3 b4 (placesV (out.take out.length) order) (out.length : Int) = _
      rw [spec_EvaluateByGenericJoin_L1, dge (by omega), cond_false, List.take_length]) N 0 (by omega) (by omega)
theorem EvaluateByGenericJoin_impl_eq (hM : 1073742848 ≤ N) {ts : List DTable} {n : Int} {atoms : List QAtom} {out order : List Int} (ht : okDb ts) (ha : okAtoms atoms) (ho : okI out) (hr : okI order) : impl_EvaluateByGenericJoin N ts n atoms out order = some (evalV (gnJoinV ts n atoms out order) out order) := by
  have hok := gnJoinV_ok (ts := ts) (n := n) (atoms := atoms) (out := out) (order := order)
  unfold impl_EvaluateByGenericJoin evalV
  rw [GenericJoin_impl_eq hM ht ha ho hr, bs]
  cases h : (gnJoinV ts n atoms out order).2.2 with
  | false => rfl
  | true =>
    rw [cond_true, places_eq (by omega) ho hr, bs, Project_impl_eq hM hok (by unfold placesV; rw [List.length_map]; exact ho.1), bs]; rfl
theorem EvaluateByGenericJoin_spec_eq (hM : 1073742848 ≤ N) {ts : List DTable} {n : Int} {atoms : List QAtom} {out order : List Int} (ht : okDb ts) (ha : okAtoms atoms) (ho : okI out) (hr : okI order) : spec_EvaluateByGenericJoin N ts n atoms out order = some (evalV (gnJoinV ts n atoms out order) out order) := by
  have hok := gnJoinV_ok (ts := ts) (n := n) (atoms := atoms) (out := out) (order := order)
  have hn := gnJoinV_n (ts := ts) (n := n) (atoms := atoms) (out := out) (order := order)
  unfold spec_EvaluateByGenericJoin evalV
  rw [GenericJoin_spec_eq hM ht ha ho hr, bs]
  cases h : (gnJoinV ts n atoms out order).2.2 with
  | false => rfl
  | true =>
    rw [cond_true, evSGenericJoin_L1 (by omega) ho hr, bs, lpB]
    show ((spec_Project N (gnJoinV ts n atoms out order).1.1 (gnJoinV ts n atoms out order).1.2 (placesV out order)).bind _) = _
    rw [Project_spec_eq hM hok (by unfold placesV; rw [List.length_map]; exact ho.1) (by omega), bs]; rfl
end
end Go.Proofs.YtbdnoljojebebaaGreat
namespace Go.Proofs.YtbdnoljojebebaaGreat
open Go.RowKit
theorem law_FnExactEvaluateByGenericJoin {N : Nat} (hM : 1073742848 ≤ N) {x0 : List (ByteArray × (Int × List (List Int)))} (hb0 : (fun x => (AllL (fun x => (fun s => s.size ≤ 9223372036854775807) x.1 ∧ (fun x => (AllL (AllL (fun _ => True) 9223372036854775807) 9223372036854775807) x.2) x.2) 9223372036854775807) x) x0) {x1 : Int × List (ByteArray × List Int) × List Int} (hb1 : (fun x => (AllL (fun x => (fun s => s.size ≤ 9223372036854775807) x.1 ∧ (AllL (fun _ => True) 9223372036854775807) x.2) 9223372036854775807) x.2.1 ∧ (AllL (fun _ => True) 9223372036854775807) x.2.2) x1) {x2 : List Int} (hb2 : (AllL (fun _ => True) 9223372036854775807) x2) : laws_FnExactEvaluateByGenericJoin N x0 x1.1 x1.2.1 x1.2.2 x2 = some true := by
  have hN : 1073741824 ≤ N := by omega
  unfold laws_FnExactEvaluateByGenericJoin
  by_cases hc2 : (1048576 : Int) < (x2.length : Int)
  · rw [decide_eq_true hc2]; rfl
  rw [decide_eq_false hc2, cond_false]
  have o2 : AllL (fun _ => True) 1048576 x2 := ⟨by omega, fun _ _ => trivial⟩
  obtain ⟨r0, e0, k0⟩ := sz_Database hN hb0 (l := 1048576) (by omega) (by omega)
  rw [e0, bs]
  by_cases hr0 : r0 < 0
  · rw [decide_eq_true hr0]; rfl
  rw [decide_eq_false hr0, cond_false]
  obtain ⟨o0, m0⟩ := k0 (by omega)
  obtain ⟨r1, e1, k1⟩ := sz_Query hN hb1 (l := r0) (by omega) (by omega)
  rw [e1, bs]
  by_cases hr1 : r1 < 0
  · rw [decide_eq_true hr1]; rfl
  rw [decide_eq_false hr1, cond_false]
  obtain ⟨o1, m1⟩ := k1 (by omega)
  have hspec := EvaluateByGenericJoin_spec_eq (n := x1.1)  hM o0 o1.1 o1.2 o2
  have himpl := EvaluateByGenericJoin_impl_eq (n := x1.1)  hM o0 o1.1 o1.2 o2
  obtain ⟨m0, me0, ma0, mb0⟩ := mk_Database hN o0 (k := 1) (by omega) (by omega)
  obtain ⟨m1, me1, ma1, mb1⟩ := mk_Query hN o1 (k := m0.1) (by omega) (by omega)
  obtain ⟨m2, me2, ma2, mb2, _⟩ := mk_IntS hN o2 (k := m1.1) (by omega) (by omega)
  have hok0 := evalV_ok (order := x2) (gnJoinV_ok (ts := x0) (n := x1.1) (atoms := x1.2.1) (out := x1.2.2) (order := x2)) o1.2
  obtain ⟨q0, qe0, qa0, qb0, qd0⟩ := mk_Relation (x := (evalV (gnJoinV x0 x1.1 x1.2.1 x1.2.2 x2) x1.2.2 x2).1) hN hok0 (k := 1) (by omega) (by omega)
  simp only [to_Database hN o0, eq_Database hN o0 o0, to_Query hN o1, eq_Query hN o1 o1, to_IntS hN o2, eq_IntS hN o2 o2, eq_Relation (x := (evalV (gnJoinV x0 x1.1 x1.2.1 x1.2.2 x2) x1.2.2 x2).1) (y := (evalV (gnJoinV x0 x1.1 x1.2.1 x1.2.2 x2) x1.2.2 x2).1) hN hok0 hok0, me0, me1, me2, qe0, qd0, decide_eq_false (by omega : ¬ m0.1 < 0), decide_eq_false (by omega : ¬ m1.1 < 0), decide_eq_false (by omega : ¬ m2.1 < 0), decide_eq_false (by omega : ¬ q0.1 < 0), bs, hspec, himpl, bne_self_eq_false, cond_false, cond_true, decide_true, eqS_dec]
end Go.Proofs.YtbdnoljojebebaaGreat
namespace Go.Proofs.YtbdnoljojebebaaGreat
open Go.RowKit
section
variable {P : Program} {n : Nat} {Q Q' : Exit → Env → World → Prop} {K : Env → World → Prop} {KQ : Env → Prop} {e : Env} {w w0 : World} {c y : Code} {x : Exit} {ops : Array Oper} {rest : List Oper}
variable {d : Nat} {op : Op} {ty : TypeId} {pos : String} {af : Array Edge} {o z1 z2 z3 : Operand} {v : Value}
theorem dt {p : Prop} [Decidable p] (h : decide p = true) : p := of_decide_eq_true h
theorem sg (h : ∀ Q' : Exit → Env → World → Prop, (∀ x e w, thn (fun e w => CW P n y Q e w) Q x e w → Q' x e w) → CW P n c Q' e w) : CW P n (.seq c y) Q e w := cw_seq (cw_gen h)
theorem sR {id : Nat} {l : List Oper} (h : ∀ Q' : Exit → Env → World → Prop, (∀ x e w, thn (fun e w => CW P n y Q e w) Q x e w → Q' x e w) → EL P n l.toArray (fun e w => Q' .normal e w) l e w) : CW P n (.seq (.region id l.toArray false) y) Q e w := cw_seq (cw_gen fun Q' q => cw_reg (h Q' q))
theorem gn (h : ∀ Q' : Exit → Env → World → Prop, (∀ x e w, Q x e w → Q' x e w) → CW P n c Q' e w) : CW P n c Q e w := cw_gen h
theorem bg {i : Nat} (h : ∀ Q' : Exit → Env → World → Prop, (∀ x e w, inb i Q x e w → Q' x e w) → CW P n c Q' e w) : CW P n (.block i c) Q e w := cw_block (cw_gen h)
theorem hq {f : Exit → Env → World → Prop} (h : ∀ x e w, f x e w → Q' x e w) (k : f x e w) : Q' x e w := h _ _ _ k
theorem tn (h : ∀ x e w, thn K Q x e w → Q' x e w) (k : K e w) : Q' .normal e w := h _ _ _ k
theorem tr (h : ∀ x e w, thn K Q x e w → Q' x e w) (k : Q .ret e w) : Q' .ret e w := h _ _ _ k
theorem tx {i : Nat} (h : ∀ x e w, thn K Q x e w → Q' x e w) (k : Q (.exit i) e w) : Q' (.exit i) e w := h _ _ _ k
theorem bn {i : Nat} (h : ∀ x e w, inb i Q x e w → Q' x e w) (k : Q .normal e w) : Q' .normal e w := h _ _ _ k
theorem br {i : Nat} (h : ∀ x e w, inb i Q x e w → Q' x e w) (k : Q .ret e w) : Q' .ret e w := h _ _ _ k
theorem bS {i : Nat} (h : ∀ x e w, inb i Q x e w → Q' x e w) (k : Q .normal e w) : Q' (.exit i) e w := h _ _ _ (inb_s k)
theorem en (h : ∀ x e w, thn K Q x e w → Q' x e w) (k : K e w) : EL P n ops (fun e w => Q' .normal e w) [] e w := el_nil (h _ _ _ k)
theorem sn (h : ∀ x e w, thn K Q x e w → Q' x e w) (k : K e w) : CW P n .skip Q' e w := cw_skip (h _ _ _ k)
theorem pa (v : Value) (hK : EL P n ops K rest (upd e d v) w) (hx : ev e o = v := by exact rfl) (hd : d < n := by decide) : EL P n ops K (⟨some d, .assign o, ty, pos, af, none⟩ :: rest) e w := el_pv (pv_assign hx) hd hK
theorem pm (v : Value) (hK : EL P n ops K rest (upd e d v) w) (hx : ev e o = v := by exact rfl) (hd : d < n := by decide) : EL P n ops K (⟨some d, .move o, ty, pos, af, none⟩ :: rest) e w := el_pv (pv_move hx) hd hK
theorem pM (v : Value) (hx : ev e o = v) (hK : EL P n ops K rest (upd e d v) w) (hd : d < n := by decide) : EL P n ops K (⟨some d, .move o, ty, pos, af, none⟩ :: rest) e w := el_pv (pv_move hx) hd hK
theorem pe (v : Value) (hp : PV P ⟨some d, op, ty, pos, af, none⟩ e w v) (hK : EL P n ops K rest (upd e d v) w) (hd : d < n := by decide) : EL P n ops K (⟨some d, op, ty, pos, af, none⟩ :: rest) e w := el_pv hp hd hK
theorem qe (v : Value) (hp : PV P ⟨some d, op, ty, pos, af, none⟩ e w v) (hK : QL P n ops w KQ rest (upd e d v)) (hd : d < n := by decide) : QL P n ops w KQ (⟨some d, op, ty, pos, af, none⟩ :: rest) e := ql_pv hp hd hK
theorem qm (v : Value) (hK : QL P n ops w KQ rest (upd e d v)) (hx : ev e o = v := by exact rfl) (hd : d < n := by decide) : QL P n ops w KQ (⟨some d, .move o, ty, pos, af, none⟩ :: rest) e := ql_pv (pv_move hx) hd hK
theorem qM (v : Value) (hx : ev e o = v) (hK : QL P n ops w KQ rest (upd e d v)) (hd : d < n := by decide) : QL P n ops w KQ (⟨some d, .move o, ty, pos, af, none⟩ :: rest) e := ql_pv (pv_move hx) hd hK
theorem eo {j : Nat} {b b' c : Bool} (hc : c = b) (hK : EL P n ops K rest (upd e d undef) w) (h : yld ops e j = some c := by exact rfl) (hb : (b == b') = false := by exact rfl) (hd : d < n := by decide) : EL P n ops K (⟨some d, op, ty, pos, af, some (j, b')⟩ :: rest) e w := el_off h hc hb hd hK
theorem qo {j : Nat} {b b' c : Bool} (hc : c = b) (hK : QL P n ops w KQ rest (upd e d undef)) (h : yld ops e j = some c := by exact rfl) (hb : (b == b') = false := by exact rfl) (hd : d < n := by decide) : QL P n ops w KQ (⟨some d, op, ty, pos, af, some (j, b')⟩ :: rest) e := ql_off h hc hb hd hK
theorem ei {j : Nat} {b c : Bool} {dst : Option Nat} (hc : c = b) (hK : EL P n ops K (⟨dst, op, ty, pos, af, none⟩ :: rest) e w) (h : yld ops e j = some c := by exact rfl) : EL P n ops K (⟨dst, op, ty, pos, af, some (j, b)⟩ :: rest) e w := el_on h hc hK
theorem qi {j : Nat} {b c : Bool} {dst : Option Nat} (hc : c = b) (hK : QL P n ops w KQ (⟨dst, op, ty, pos, af, none⟩ :: rest) e) (h : yld ops e j = some c := by exact rfl) : QL P n ops w KQ (⟨dst, op, ty, pos, af, some (j, b)⟩ :: rest) e := ql_on h hc hK
theorem ct {b : Bool} (hb : b = true) (h : CW P n c Q e w) (hc : ev e o = .bool b := by exact rfl) : CW P n (.cond o c y) Q e w := cw_cond_t hc hb h
theorem cf {b : Bool} (hb : b = false) (h : CW P n y Q e w) (hc : ev e o = .bool b := by exact rfl) : CW P n (.cond o c y) Q e w := cw_cond_f hc hb h
theorem rB {a b : Bool} {Γ : List Asn} (h : some a = some b) (hS : Sat w0 w Γ) : Ending.returned (.bool a) = .returned (.bool b) ∧ Ext w0 w := ⟨by rw [Option.some.inj h], hS.below⟩
theorem rI {a b : Int} {Γ : List Asn} (h : some a = some b) (hS : Sat w0 w Γ) : Ending.returned (.int .i64 a) = .returned (.int .i64 b) ∧ Ext w0 w := ⟨by rw [Option.some.inj h], hS.below⟩
theorem ca {α β : Type} {f : α → β} {l : List α} {m : List β} (h : l.map f = m) : (l.map f).toArray = m.toArray := congrArg List.toArray h
end
end Go.Proofs.YtbdnoljojebebaaGreat
namespace Go.Proofs.YtbdnoljojebebaaGreat
open Go.RowKit
abbrev R0_ := sliceR intR 3
abbrev R1_ := tailR R0_ 26
abbrev R2_ := sliceR R0_ 26
abbrev R3_ := pairR strR R0_
abbrev R4_ := pairR intR R2_
abbrev R5_ := sliceR R3_ 92
abbrev R6_ := sliceR R3_ 99
abbrev R7_ := sliceR R4_ 95
abbrev R8_ := pairR strR R4_
abbrev R9_ := sliceR R8_ 89
abbrev R10_ := sliceR R8_ 109
abbrev T0_ := List Int
abbrev T1_ := List T0_
abbrev T2_ := ByteArray × List Int
abbrev T3_ := Int × List T0_
abbrev T4_ := List T2_
abbrev T5_ := List T3_
abbrev T6_ := ByteArray × T3_
abbrev T7_ := List T6_
end Go.Proofs.YtbdnoljojebebaaGreat
namespace Go.Proofs.YtbdnoljojebebaaGreat
open Go.RowKit
set_option maxRecDepth 100000
set_option maxHeartbeats 4000000 in
theorem laws_szIntS_ok {w0:World} {u0:Value} {a0:List Int} {a1:Int} (ha0:R0_.rd w0 [u0] a0) {N:Nat} {r:Int} (F:laws_szIntS N a0 a1=some r): Calls Tryz.prog 38 #[u0,.int .i64 a1] w0 fun e w'=>e=.returned (.int .i64 r)∧Ext w0 w' := by
 unfold laws_szIntS at F;refine calls_E Tryz.func38 rfl rfl (dt rfl) ?_;have S:=Sat.start w0;refine sR fun _ q101=>?_;refine pa (.int .i64 0) ?_;refine en q101 ?_;refine sR fun _ q102=>?_;refine pm (.int .i64 a1) ?_;refine pm u0 ?_;refine pe (.int .i64 (a0.length:Int)) (pv_len rfl ha0) ?_;obtain ⟨x103,hx103,F⟩:=ob F;refine pe (.int .i64 x103) (pv_sub rfl rfl hx103) ?_;refine pa (.int .i64 x103) ?_;refine en q102 ?_;refine sg fun _ q104=>?_;refine sR fun _ q105=>?_;refine pm (.int .i64 x103) ?_;refine pe (.bool (decide (x103 < 0))) (pv_lss rfl rfl) ?_;refine en q105 ?_;rcases oif F with ⟨hb106,F⟩|⟨hb106,F⟩
 ·refine ct hb106 ?_;refine sR fun _ q107=>?_;refine pa (.int .i64 (-1)) ?_;refine en q107 (cw_ret (tr q104 (fin1 rfl rfl ?_)));exact rI F S
 refine cf hb106 (sn q104 ?_);refine sR fun _ q108=>?_;refine pm (.int .i64 x103) ?_;refine pa (.int .i64 x103) ?_;refine en q108 (cw_ret (fin1 rfl rfl ?_));exact rI F S
set_option maxHeartbeats 4000000 in
theorem laws_szIntSS_ok {w0:World} {u0:Value} {a0:List T0_} {a1:Int} (ha0:R2_.rd w0 [u0] a0) {N:Nat} {r:Int} (F:laws_szIntSS N a0 a1=some r): Calls Tryz.prog 131 #[u0,.int .i64 a1] w0 fun e w'=>e=.returned (.int .i64 r)∧Ext w0 w' := by
 unfold laws_szIntSS at F;refine calls_E Tryz.func131 rfl rfl (dt rfl) ?_;have S:=Sat.start w0;refine sR fun _ q101=>?_;refine pa (.int .i64 0) ?_;refine en q101 ?_;refine sR fun _ q102=>?_;refine pm (.int .i64 a1) ?_;refine pm u0 ?_;refine pe (.int .i64 (a0.length:Int)) (pv_len rfl ha0) ?_;obtain ⟨x103,hx103,F⟩:=ob F;refine pe (.int .i64 x103) (pv_sub rfl rfl hx103) ?_;refine pa (.int .i64 x103) ?_;refine en q102 ?_;refine sg fun _ q104=>?_;refine sR fun _ q105=>?_;refine pm (.int .i64 x103) ?_;refine pe (.bool (decide (x103 < 0))) (pv_lss rfl rfl) ?_;refine en q105 ?_;rcases oif F with ⟨hb106,F⟩|⟨hb106,F⟩
 ·refine ct hb106 ?_;refine sR fun _ q107=>?_;refine pa (.int .i64 (-1)) ?_;refine en q107 (cw_ret (tr q104 (fin1 rfl rfl ?_)));exact rI F S
 refine cf hb106 (sn q104 ?_);refine sg fun _ q108=>?_;refine sR fun _ q109=>?_;refine pa (.int .i64 0) ?_;refine en q109 ?_;refine bg fun _ q110=>?_;obtain ⟨s111,hL,hK112⟩:=ob F;refine cw_loopS (fun k e w=>∃ (x113:Int),∃ (x114:Int),e 0=u0∧e 1=.int .i64 x113∧e 5=.int .i64 x114∧Sat w0 w []∧laws_szIntSS_L1 N k a0 x113 x114=some s111) N ?_ ?_ ?_
 ·exact ⟨x103,0,rfl,rfl,rfl,S,hL⟩
 ·rintro e w ⟨_,_,_,_,_,_,hz⟩; exact nomatch (show none=some _ from hz)
 rintro k e119 w118 ⟨x113,x114,he115,he116,he117,S,F⟩;refine gn fun _ q120=>?_;refine sg fun _ q121=>?_;refine sR fun _ q122=>?_;refine pM (.int .i64 x114) he117 ?_;refine pM u0 he115 ?_;refine pe (.int .i64 (a0.length:Int)) (pv_len rfl ha0) ?_;refine pe (.bool (decide (x114 < (a0.length:Int)))) (pv_lss rfl rfl) ?_;refine en q122 ?_;rcases oif F with ⟨hb123,F⟩|⟨hb123,F⟩
 ·refine ct hb123 (sn q121 ?_);refine sg fun _ q124=>?_;refine bg fun _ q125=>?_;refine sR fun _ q126=>?_;refine pM u0 he115 ?_;refine pM (.int .i64 x114) he117 ?_;obtain ⟨x127,hx127,F⟩:=ob F;refine el_index (wA:=w0) rfl ha0 rfl (dt rfl) rfl hx127 (dt rfl) ?_;intro b128 of129 c130 hr131 hm132;obtain ⟨v133,rfl⟩:=slice_one hr131;refine pe v133 (pv_loadc rfl ((cells_up S.below hm132) 0 _ rfl)) ?_;refine pM (.int .i64 x113) he116 ?_;obtain ⟨r134,hr134,F⟩:=ob F;refine el_call goes38 (laws_szIntS_ok (S.up hr131) hr134) (ca (mapc rfl (mapc rfl rfl))) (dt rfl) ?_;rintro _ w135 ⟨rfl,hx136⟩;refine ⟨_,rfl,?_⟩;replace S:=S.ext hx136;refine pa (.int .i64 r134) ?_;refine en q126 ?_;refine sR fun _ q137=>?_;refine pm (.int .i64 r134) ?_;refine pe (.bool (decide (r134 < 0))) (pv_lss rfl rfl) ?_;refine en q137 ?_;rcases oif F with ⟨hb138,F⟩|⟨hb138,F⟩
  ·refine ct hb138 ?_;refine sR fun _ q139=>?_;refine pa (.int .i64 (-1)) ?_;refine en q139 (cw_ret (br q125 (tr q124 (tr q120 (br q110 (tr q108 ?_))))));replace F:=exL F hK112;refine fin1 rfl rfl ?_;exact rI F S
  refine cf hb138 (cw_skip (bn q125 (tn q124 (cw_reg (pM (.int .i64 x114) he117 ?_)))));obtain ⟨x140,hx140,F⟩:=ob F;refine pe (.int .i64 x140) (pv_add rfl rfl hx140) ?_;refine pa (.int .i64 x140) ?_;refine en q120 ?_;replace S:=S.keep 0;exact ⟨r134,x140,he115,rfl,rfl,S,F⟩
 refine cf hb123 (cw_exit (tx q121 (tx q120 ?_)));replace F:=exA F hK112;refine bS q110 (tn q108 ?_);refine sR fun _ q141=>?_;refine pM (.int .i64 x113) he116 ?_;refine pa (.int .i64 x113) ?_;refine en q141 (cw_ret (fin1 rfl rfl ?_));exact rI F S
set_option maxHeartbeats 4000000 in
theorem laws_szRelation_ok {w0:World} {a0:Int} {u1:Value} {a1:List T0_} {a2:Int} (ha1:R2_.rd w0 [u1] a1) {N:Nat} {r:Int} (F:laws_szRelation N a0 a1 a2=some r): Calls Tryz.prog 105 #[.agg #[.int .i64 a0,u1],.int .i64 a2] w0 fun e w'=>e=.returned (.int .i64 r)∧Ext w0 w' := by
 unfold laws_szRelation at F;refine calls_E Tryz.func105 rfl rfl (dt rfl) ?_;have S:=Sat.start w0;refine sR fun _ q101=>?_;refine el_box [.int .i64 a0,u1] rfl S (dt rfl) ?_;intro w102 b103 S hx104;refine pa (.int .i64 0) ?_;refine en q101 ?_;refine sR fun _ q106=>?_;refine pe (.pointer (some ⟨b103,0 + 1,none⟩)) (pv_fieldAddr rfl) ?_;refine pe u1 (pv_loadc rfl ((S.boxAt 0 rfl) 1 _ rfl)) ?_;refine pm (.int .i64 a2) ?_;obtain ⟨r107,hr107,F⟩:=ob F;refine el_call goes131 (laws_szIntSS_ok (S.up ha1) hr107) (ca (mapc rfl (mapc rfl rfl))) (dt rfl) ?_;rintro _ w108 ⟨rfl,hx109⟩;refine ⟨_,rfl,?_⟩;replace S:=S.ext hx109;refine pa (.int .i64 r107) ?_;refine en q106 ?_;refine sg fun _ q110=>?_;refine sg fun _ q111=>?_;replace S:Sat w0 w108 []:=S.rems 1 [0] rfl;refine cw_reg (pm (.int .i64 r107) ?_);refine pe (.bool (decide (r107 < 0))) (pv_lss rfl rfl) ?_;refine en q111 ?_;rcases oif F with ⟨hb112,F⟩|⟨hb112,F⟩
 ·refine ct hb112 ?_;refine sR fun _ q113=>?_;refine pa (.int .i64 (-1)) ?_;refine en q113 (cw_ret (tr q110 (fin1 rfl rfl ?_)));exact rI F S
 refine cf hb112 (sn q110 ?_);refine sR fun _ q114=>?_;refine pm (.int .i64 r107) ?_;refine pa (.int .i64 r107) ?_;refine en q114 (cw_ret (fin1 rfl rfl ?_));exact rI F S
set_option maxHeartbeats 4000000 in
theorem laws_szTable_ok {w0:World} {a0:ByteArray} {a1:Int} {u2:Value} {a2:List T0_} {a3:Int} (_:a0.size ≤ 9223372036854775807) (ha2:R2_.rd w0 [u2] a2) {N:Nat} {r:Int} (F:laws_szTable N a0 a1 a2 a3=some r): Calls Tryz.prog 66 #[.agg #[.string a0,.int .i64 a1,u2],.int .i64 a3] w0 fun e w'=>e=.returned (.int .i64 r)∧Ext w0 w' := by
 unfold laws_szTable at F;refine calls_E Tryz.func66 rfl rfl (dt rfl) ?_;have S:=Sat.start w0;refine sR fun _ q101=>?_;refine el_box [.string a0,.int .i64 a1,u2] rfl S (dt rfl) ?_;intro w102 b103 S hx104;refine pa (.int .i64 0) ?_;refine en q101 ?_;refine sR fun _ q106=>?_;refine pm (.int .i64 a3) ?_;refine pe (.pointer (some ⟨b103,0 + 0,none⟩)) (pv_fieldAddr rfl) ?_;refine pe (.string a0) (pv_loadc rfl ((S.boxAt 0 rfl) 0 _ rfl)) ?_;refine pe (.int .i64 (a0.size:Int)) (pv_lenS Tryz.underlying9 rfl) ?_;obtain ⟨x107,hx107,F⟩:=ob F;refine pe (.int .i64 x107) (pv_sub rfl rfl hx107) ?_;refine pa (.int .i64 x107) ?_;refine en q106 ?_;refine sg fun _ q108=>?_;refine sR fun _ q109=>?_;refine pm (.int .i64 x107) ?_;refine pe (.bool (decide (x107 < 0))) (pv_lss rfl rfl) ?_;refine en q109 ?_;rcases oif F with ⟨hb110,F⟩|⟨hb110,F⟩
 ·refine ct hb110 ?_;refine sg fun _ q111=>?_;replace S:Sat w0 w102 []:=S.rems 1 [0] rfl;refine cw_reg (pa (.int .i64 (-1)) ?_);refine en q111 (cw_ret (tr q108 (fin1 rfl rfl ?_)));exact rI F S
 refine cf hb110 (sn q108 ?_);refine sR fun _ q112=>?_;refine pe (.pointer (some ⟨b103,0 + 1,none⟩)) (pv_fieldAddr rfl) ?_;refine pe (.agg #[.int .i64 a1,u2]) (pv_loada (cs:=[.int .i64 a1,u2]) rfl rfl (boxc (S.boxAt 0 rfl) 1 2)) ?_;refine pm (.int .i64 x107) ?_;obtain ⟨r113,hr113,F⟩:=ob F;refine el_call goes105 (laws_szRelation_ok (S.up ha2) hr113) (ca (mapc rfl (mapc rfl rfl))) (dt rfl) ?_;rintro _ w114 ⟨rfl,hx115⟩;refine ⟨_,rfl,?_⟩;replace S:=S.ext hx115;refine pa (.int .i64 r113) ?_;refine en q112 ?_;refine sg fun _ q116=>?_;refine sg fun _ q117=>?_;replace S:Sat w0 w114 []:=S.rems 1 [0] rfl;refine cw_reg (pm (.int .i64 r113) ?_);refine pe (.bool (decide (r113 < 0))) (pv_lss rfl rfl) ?_;refine en q117 ?_;rcases oif F with ⟨hb118,F⟩|⟨hb118,F⟩
 ·refine ct hb118 ?_;refine sR fun _ q119=>?_;refine pa (.int .i64 (-1)) ?_;refine en q119 (cw_ret (tr q116 (fin1 rfl rfl ?_)));exact rI F S
 refine cf hb118 (sn q116 ?_);refine sR fun _ q120=>?_;refine pm (.int .i64 r113) ?_;refine pa (.int .i64 r113) ?_;refine en q120 (cw_ret (fin1 rfl rfl ?_));exact rI F S
set_option maxHeartbeats 4000000 in
theorem laws_szTableS_ok {w0:World} {u0:Value} {a0:List T6_} {a1:Int} (ha0:R9_.rd w0 [u0] a0) {N:Nat} {r:Int} (F:laws_szTableS N a0 a1=some r): Calls Tryz.prog 36 #[u0,.int .i64 a1] w0 fun e w'=>e=.returned (.int .i64 r)∧Ext w0 w' := by
 unfold laws_szTableS at F;refine calls_E Tryz.func36 rfl rfl (dt rfl) ?_;have S:=Sat.start w0;refine sR fun _ q101=>?_;refine pa (.int .i64 0) ?_;refine en q101 ?_;refine sR fun _ q102=>?_;refine pm (.int .i64 a1) ?_;refine pm u0 ?_;refine pe (.int .i64 (a0.length:Int)) (pv_len rfl ha0) ?_;obtain ⟨x103,hx103,F⟩:=ob F;refine pe (.int .i64 x103) (pv_sub rfl rfl hx103) ?_;refine pa (.int .i64 x103) ?_;refine en q102 ?_;refine sg fun _ q104=>?_;refine sR fun _ q105=>?_;refine pm (.int .i64 x103) ?_;refine pe (.bool (decide (x103 < 0))) (pv_lss rfl rfl) ?_;refine en q105 ?_;rcases oif F with ⟨hb106,F⟩|⟨hb106,F⟩
 ·refine ct hb106 ?_;refine sR fun _ q107=>?_;refine pa (.int .i64 (-1)) ?_;refine en q107 (cw_ret (tr q104 (fin1 rfl rfl ?_)));exact rI F S
 refine cf hb106 (sn q104 ?_);refine sg fun _ q108=>?_;refine sR fun _ q109=>?_;refine pa (.int .i64 0) ?_;refine en q109 ?_;refine bg fun _ q110=>?_;obtain ⟨s111,hL,hK112⟩:=ob F;refine cw_loopS (fun k e w=>∃ (x113:Int),∃ (x114:Int),e 0=u0∧e 1=.int .i64 x113∧e 5=.int .i64 x114∧Sat w0 w []∧laws_szTableS_L1 N k a0 x113 x114=some s111) N ?_ ?_ ?_
 ·exact ⟨x103,0,rfl,rfl,rfl,S,hL⟩
 ·rintro e w ⟨_,_,_,_,_,_,hz⟩; exact nomatch (show none=some _ from hz)
 rintro k e119 w118 ⟨x113,x114,he115,he116,he117,S,F⟩;refine gn fun _ q120=>?_;refine sg fun _ q121=>?_;refine sR fun _ q122=>?_;refine pM (.int .i64 x114) he117 ?_;refine pM u0 he115 ?_;refine pe (.int .i64 (a0.length:Int)) (pv_len rfl ha0) ?_;refine pe (.bool (decide (x114 < (a0.length:Int)))) (pv_lss rfl rfl) ?_;refine en q122 ?_;rcases oif F with ⟨hb123,F⟩|⟨hb123,F⟩
 ·refine ct hb123 (sn q121 ?_);refine sg fun _ q124=>?_;refine bg fun _ q125=>?_;refine sR fun _ q126=>?_;refine pM u0 he115 ?_;refine pM (.int .i64 x114) he117 ?_;obtain ⟨x127,hx127,F⟩:=ob F;refine el_index (wA:=w0) rfl ha0 rfl (dt rfl) rfl hx127 (dt rfl) ?_;intro b128 of129 c130 hr131 hm132;obtain ⟨_,_,rfl,hr133,hr134⟩:=hr131;obtain ⟨rfl,hz135⟩:=hr133;obtain ⟨_,_,rfl,hr136,hr137⟩:=hr134;obtain rfl:=hr136;obtain ⟨v138,rfl⟩:=slice_one hr137;refine pe (.agg #[.string x127.1,.int .i64 x127.2.1,v138]) (pv_loada (cs:=[.string x127.1,.int .i64 x127.2.1,v138]) rfl rfl (cells_up S.below hm132)) ?_;refine pM (.int .i64 x113) he116 ?_;obtain ⟨r139,hr139,F⟩:=ob F;refine el_call goes66 (laws_szTable_ok hz135 (S.up hr137) hr139) (ca (mapc rfl (mapc rfl rfl))) (dt rfl) ?_;rintro _ w140 ⟨rfl,hx141⟩;refine ⟨_,rfl,?_⟩;replace S:=S.ext hx141;refine pa (.int .i64 r139) ?_;refine en q126 ?_;refine sR fun _ q142=>?_;refine pm (.int .i64 r139) ?_;refine pe (.bool (decide (r139 < 0))) (pv_lss rfl rfl) ?_;refine en q142 ?_;rcases oif F with ⟨hb143,F⟩|⟨hb143,F⟩
  ·refine ct hb143 ?_;refine sR fun _ q144=>?_;refine pa (.int .i64 (-1)) ?_;refine en q144 (cw_ret (br q125 (tr q124 (tr q120 (br q110 (tr q108 ?_))))));replace F:=exL F hK112;refine fin1 rfl rfl ?_;exact rI F S
  refine cf hb143 (cw_skip (bn q125 (tn q124 (cw_reg (pM (.int .i64 x114) he117 ?_)))));obtain ⟨x145,hx145,F⟩:=ob F;refine pe (.int .i64 x145) (pv_add rfl rfl hx145) ?_;refine pa (.int .i64 x145) ?_;refine en q120 ?_;replace S:=S.keep 0;exact ⟨r139,x145,he115,rfl,rfl,S,F⟩
 refine cf hb123 (cw_exit (tx q121 (tx q120 ?_)));replace F:=exA F hK112;refine bS q110 (tn q108 ?_);refine sR fun _ q146=>?_;refine pM (.int .i64 x113) he116 ?_;refine pa (.int .i64 x113) ?_;refine en q146 (cw_ret (fin1 rfl rfl ?_));exact rI F S
set_option maxHeartbeats 4000000 in
theorem laws_szDatabase_ok {w0:World} {u0:Value} {a0:List T6_} {a1:Int} (ha0:R9_.rd w0 [u0] a0) {N:Nat} {r:Int} (F:laws_szDatabase N a0 a1=some r): Calls Tryz.prog 9 #[.agg #[u0],.int .i64 a1] w0 fun e w'=>e=.returned (.int .i64 r)∧Ext w0 w' := by
 unfold laws_szDatabase at F;refine calls_E Tryz.func9 rfl rfl (dt rfl) ?_;have S:=Sat.start w0;refine sR fun _ q101=>?_;refine el_box [u0] rfl S (dt rfl) ?_;intro w102 b103 S hx104;refine pa (.int .i64 0) ?_;refine en q101 ?_;refine sR fun _ q106=>?_;refine pe (.pointer (some ⟨b103,0 + 0,none⟩)) (pv_fieldAddr rfl) ?_;refine pe u0 (pv_loadc rfl ((S.boxAt 0 rfl) 0 _ rfl)) ?_;refine pm (.int .i64 a1) ?_;obtain ⟨r107,hr107,F⟩:=ob F;refine el_call goes36 (laws_szTableS_ok (S.up ha0) hr107) (ca (mapc rfl (mapc rfl rfl))) (dt rfl) ?_;rintro _ w108 ⟨rfl,hx109⟩;refine ⟨_,rfl,?_⟩;replace S:=S.ext hx109;refine pa (.int .i64 r107) ?_;refine en q106 ?_;refine sg fun _ q110=>?_;refine sg fun _ q111=>?_;replace S:Sat w0 w108 []:=S.rems 1 [0] rfl;refine cw_reg (pm (.int .i64 r107) ?_);refine pe (.bool (decide (r107 < 0))) (pv_lss rfl rfl) ?_;refine en q111 ?_;rcases oif F with ⟨hb112,F⟩|⟨hb112,F⟩
 ·refine ct hb112 ?_;refine sR fun _ q113=>?_;refine pa (.int .i64 (-1)) ?_;refine en q113 (cw_ret (tr q110 (fin1 rfl rfl ?_)));exact rI F S
 refine cf hb112 (sn q110 ?_);refine sR fun _ q114=>?_;refine pm (.int .i64 r107) ?_;refine pa (.int .i64 r107) ?_;refine en q114 (cw_ret (fin1 rfl rfl ?_));exact rI F S
set_option maxHeartbeats 4000000 in
theorem laws_szAtom_ok {w0:World} {a0:ByteArray} {u1:Value} {a1:List Int} {a2:Int} (_:a0.size ≤ 9223372036854775807) (ha1:R0_.rd w0 [u1] a1) {N:Nat} {r:Int} (F:laws_szAtom N a0 a1 a2=some r): Calls Tryz.prog 67 #[.agg #[.string a0,u1],.int .i64 a2] w0 fun e w'=>e=.returned (.int .i64 r)∧Ext w0 w' := by
 unfold laws_szAtom at F;refine calls_E Tryz.func67 rfl rfl (dt rfl) ?_;have S:=Sat.start w0;refine sR fun _ q101=>?_;refine el_box [.string a0,u1] rfl S (dt rfl) ?_;intro w102 b103 S hx104;refine pa (.int .i64 0) ?_;refine en q101 ?_;refine sR fun _ q106=>?_;refine pm (.int .i64 a2) ?_;refine pe (.pointer (some ⟨b103,0 + 0,none⟩)) (pv_fieldAddr rfl) ?_;refine pe (.string a0) (pv_loadc rfl ((S.boxAt 0 rfl) 0 _ rfl)) ?_;refine pe (.int .i64 (a0.size:Int)) (pv_lenS Tryz.underlying9 rfl) ?_;obtain ⟨x107,hx107,F⟩:=ob F;refine pe (.int .i64 x107) (pv_sub rfl rfl hx107) ?_;refine pa (.int .i64 x107) ?_;refine en q106 ?_;refine sg fun _ q108=>?_;refine sR fun _ q109=>?_;refine pm (.int .i64 x107) ?_;refine pe (.bool (decide (x107 < 0))) (pv_lss rfl rfl) ?_;refine en q109 ?_;rcases oif F with ⟨hb110,F⟩|⟨hb110,F⟩
 ·refine ct hb110 ?_;refine sg fun _ q111=>?_;replace S:Sat w0 w102 []:=S.rems 1 [0] rfl;refine cw_reg (pa (.int .i64 (-1)) ?_);refine en q111 (cw_ret (tr q108 (fin1 rfl rfl ?_)));exact rI F S
 refine cf hb110 (sn q108 ?_);refine sR fun _ q112=>?_;refine pe (.pointer (some ⟨b103,0 + 1,none⟩)) (pv_fieldAddr rfl) ?_;refine pe u1 (pv_loadc rfl ((S.boxAt 0 rfl) 1 _ rfl)) ?_;refine pm (.int .i64 x107) ?_;obtain ⟨r113,hr113,F⟩:=ob F;refine el_call goes38 (laws_szIntS_ok (S.up ha1) hr113) (ca (mapc rfl (mapc rfl rfl))) (dt rfl) ?_;rintro _ w114 ⟨rfl,hx115⟩;refine ⟨_,rfl,?_⟩;replace S:=S.ext hx115;refine pa (.int .i64 r113) ?_;refine en q112 ?_;refine sg fun _ q116=>?_;refine sg fun _ q117=>?_;replace S:Sat w0 w114 []:=S.rems 1 [0] rfl;refine cw_reg (pm (.int .i64 r113) ?_);refine pe (.bool (decide (r113 < 0))) (pv_lss rfl rfl) ?_;refine en q117 ?_;rcases oif F with ⟨hb118,F⟩|⟨hb118,F⟩
 ·refine ct hb118 ?_;refine sR fun _ q119=>?_;refine pa (.int .i64 (-1)) ?_;refine en q119 (cw_ret (tr q116 (fin1 rfl rfl ?_)));exact rI F S
 refine cf hb118 (sn q116 ?_);refine sR fun _ q120=>?_;refine pm (.int .i64 r113) ?_;refine pa (.int .i64 r113) ?_;refine en q120 (cw_ret (fin1 rfl rfl ?_));exact rI F S
set_option maxHeartbeats 4000000 in
theorem laws_szAtomS_ok {w0:World} {u0:Value} {a0:List T2_} {a1:Int} (ha0:R5_.rd w0 [u0] a0) {N:Nat} {r:Int} (F:laws_szAtomS N a0 a1=some r): Calls Tryz.prog 37 #[u0,.int .i64 a1] w0 fun e w'=>e=.returned (.int .i64 r)∧Ext w0 w' := by
 unfold laws_szAtomS at F;refine calls_E Tryz.func37 rfl rfl (dt rfl) ?_;have S:=Sat.start w0;refine sR fun _ q101=>?_;refine pa (.int .i64 0) ?_;refine en q101 ?_;refine sR fun _ q102=>?_;refine pm (.int .i64 a1) ?_;refine pm u0 ?_;refine pe (.int .i64 (a0.length:Int)) (pv_len rfl ha0) ?_;obtain ⟨x103,hx103,F⟩:=ob F;refine pe (.int .i64 x103) (pv_sub rfl rfl hx103) ?_;refine pa (.int .i64 x103) ?_;refine en q102 ?_;refine sg fun _ q104=>?_;refine sR fun _ q105=>?_;refine pm (.int .i64 x103) ?_;refine pe (.bool (decide (x103 < 0))) (pv_lss rfl rfl) ?_;refine en q105 ?_;rcases oif F with ⟨hb106,F⟩|⟨hb106,F⟩
 ·refine ct hb106 ?_;refine sR fun _ q107=>?_;refine pa (.int .i64 (-1)) ?_;refine en q107 (cw_ret (tr q104 (fin1 rfl rfl ?_)));exact rI F S
 refine cf hb106 (sn q104 ?_);refine sg fun _ q108=>?_;refine sR fun _ q109=>?_;refine pa (.int .i64 0) ?_;refine en q109 ?_;refine bg fun _ q110=>?_;obtain ⟨s111,hL,hK112⟩:=ob F;refine cw_loopS (fun k e w=>∃ (x113:Int),∃ (x114:Int),e 0=u0∧e 1=.int .i64 x113∧e 5=.int .i64 x114∧Sat w0 w []∧laws_szAtomS_L1 N k a0 x113 x114=some s111) N ?_ ?_ ?_
 ·exact ⟨x103,0,rfl,rfl,rfl,S,hL⟩
 ·rintro e w ⟨_,_,_,_,_,_,hz⟩; exact nomatch (show none=some _ from hz)
 rintro k e119 w118 ⟨x113,x114,he115,he116,he117,S,F⟩;refine gn fun _ q120=>?_;refine sg fun _ q121=>?_;refine sR fun _ q122=>?_;refine pM (.int .i64 x114) he117 ?_;refine pM u0 he115 ?_;refine pe (.int .i64 (a0.length:Int)) (pv_len rfl ha0) ?_;refine pe (.bool (decide (x114 < (a0.length:Int)))) (pv_lss rfl rfl) ?_;refine en q122 ?_;rcases oif F with ⟨hb123,F⟩|⟨hb123,F⟩
 ·refine ct hb123 (sn q121 ?_);refine sg fun _ q124=>?_;refine bg fun _ q125=>?_;refine sR fun _ q126=>?_;refine pM u0 he115 ?_;refine pM (.int .i64 x114) he117 ?_;obtain ⟨x127,hx127,F⟩:=ob F;refine el_index (wA:=w0) rfl ha0 rfl (dt rfl) rfl hx127 (dt rfl) ?_;intro b128 of129 c130 hr131 hm132;obtain ⟨_,_,rfl,hr133,hr134⟩:=hr131;obtain ⟨rfl,hz135⟩:=hr133;obtain ⟨v136,rfl⟩:=slice_one hr134;refine pe (.agg #[.string x127.1,v136]) (pv_loada (cs:=[.string x127.1,v136]) rfl rfl (cells_up S.below hm132)) ?_;refine pM (.int .i64 x113) he116 ?_;obtain ⟨r137,hr137,F⟩:=ob F;refine el_call goes67 (laws_szAtom_ok hz135 (S.up hr134) hr137) (ca (mapc rfl (mapc rfl rfl))) (dt rfl) ?_;rintro _ w138 ⟨rfl,hx139⟩;refine ⟨_,rfl,?_⟩;replace S:=S.ext hx139;refine pa (.int .i64 r137) ?_;refine en q126 ?_;refine sR fun _ q140=>?_;refine pm (.int .i64 r137) ?_;refine pe (.bool (decide (r137 < 0))) (pv_lss rfl rfl) ?_;refine en q140 ?_;rcases oif F with ⟨hb141,F⟩|⟨hb141,F⟩
  ·refine ct hb141 ?_;refine sR fun _ q142=>?_;refine pa (.int .i64 (-1)) ?_;refine en q142 (cw_ret (br q125 (tr q124 (tr q120 (br q110 (tr q108 ?_))))));replace F:=exL F hK112;refine fin1 rfl rfl ?_;exact rI F S
  refine cf hb141 (cw_skip (bn q125 (tn q124 (cw_reg (pM (.int .i64 x114) he117 ?_)))));obtain ⟨x143,hx143,F⟩:=ob F;refine pe (.int .i64 x143) (pv_add rfl rfl hx143) ?_;refine pa (.int .i64 x143) ?_;refine en q120 ?_;replace S:=S.keep 0;exact ⟨r137,x143,he115,rfl,rfl,S,F⟩
 refine cf hb123 (cw_exit (tx q121 (tx q120 ?_)));replace F:=exA F hK112;refine bS q110 (tn q108 ?_);refine sR fun _ q144=>?_;refine pM (.int .i64 x113) he116 ?_;refine pa (.int .i64 x113) ?_;refine en q144 (cw_ret (fin1 rfl rfl ?_));exact rI F S
set_option maxHeartbeats 4000000 in
theorem laws_szQuery_ok {w0:World} {a0:Int} {u1:Value} {a1:List T2_} {u2:Value} {a2:List Int} {a3:Int} (ha1:R5_.rd w0 [u1] a1) (ha2:R0_.rd w0 [u2] a2) {N:Nat} {r:Int} (F:laws_szQuery N a0 a1 a2 a3=some r): Calls Tryz.prog 10 #[.agg #[.int .i64 a0,u1,u2],.int .i64 a3] w0 fun e w'=>e=.returned (.int .i64 r)∧Ext w0 w' := by
 unfold laws_szQuery at F;refine calls_E Tryz.func10 rfl rfl (dt rfl) ?_;have S:=Sat.start w0;refine sR fun _ q101=>?_;refine el_box [.int .i64 a0,u1,u2] rfl S (dt rfl) ?_;intro w102 b103 S hx104;refine pa (.int .i64 0) ?_;refine en q101 ?_;refine sR fun _ q106=>?_;refine pe (.pointer (some ⟨b103,0 + 1,none⟩)) (pv_fieldAddr rfl) ?_;refine pe u1 (pv_loadc rfl ((S.boxAt 0 rfl) 1 _ rfl)) ?_;refine pm (.int .i64 a3) ?_;obtain ⟨r107,hr107,F⟩:=ob F;refine el_call goes37 (laws_szAtomS_ok (S.up ha1) hr107) (ca (mapc rfl (mapc rfl rfl))) (dt rfl) ?_;rintro _ w108 ⟨rfl,hx109⟩;refine ⟨_,rfl,?_⟩;replace S:=S.ext hx109;refine pa (.int .i64 r107) ?_;refine en q106 ?_;refine sg fun _ q110=>?_;refine sR fun _ q111=>?_;refine pm (.int .i64 r107) ?_;refine pe (.bool (decide (r107 < 0))) (pv_lss rfl rfl) ?_;refine en q111 ?_;rcases oif F with ⟨hb112,F⟩|⟨hb112,F⟩
 ·refine ct hb112 ?_;refine sg fun _ q113=>?_;replace S:Sat w0 w108 []:=S.rems 1 [0] rfl;refine cw_reg (pa (.int .i64 (-1)) ?_);refine en q113 (cw_ret (tr q110 (fin1 rfl rfl ?_)));exact rI F S
 refine cf hb112 (sn q110 ?_);refine sR fun _ q114=>?_;refine pe (.pointer (some ⟨b103,0 + 2,none⟩)) (pv_fieldAddr rfl) ?_;refine pe u2 (pv_loadc rfl ((S.boxAt 0 rfl) 2 _ rfl)) ?_;refine pm (.int .i64 r107) ?_;obtain ⟨r115,hr115,F⟩:=ob F;refine el_call goes38 (laws_szIntS_ok (S.up ha2) hr115) (ca (mapc rfl (mapc rfl rfl))) (dt rfl) ?_;rintro _ w116 ⟨rfl,hx117⟩;refine ⟨_,rfl,?_⟩;replace S:=S.ext hx117;refine pa (.int .i64 r115) ?_;refine en q114 ?_;refine sg fun _ q118=>?_;refine sg fun _ q119=>?_;replace S:Sat w0 w116 []:=S.rems 1 [0] rfl;refine cw_reg (pm (.int .i64 r115) ?_);refine pe (.bool (decide (r115 < 0))) (pv_lss rfl rfl) ?_;refine en q119 ?_;rcases oif F with ⟨hb120,F⟩|⟨hb120,F⟩
 ·refine ct hb120 ?_;refine sR fun _ q121=>?_;refine pa (.int .i64 (-1)) ?_;refine en q121 (cw_ret (tr q118 (fin1 rfl rfl ?_)));exact rI F S
 refine cf hb120 (sn q118 ?_);refine sR fun _ q122=>?_;refine pm (.int .i64 r115) ?_;refine pa (.int .i64 r115) ?_;refine en q122 (cw_ret (fin1 rfl rfl ?_));exact rI F S
set_option maxHeartbeats 4000000 in
theorem spec_l5Copy_ok {w0:World} {a0:Int} {u1:Value} {a1:List T0_} (ha1:R2_.rd w0 [u1] a1) {N:Nat} {r:Int × List T0_} (F:spec_l5Copy N a0 a1=some r): Calls Tryz.prog 78 #[.agg #[.int .i64 a0,u1]] w0 fun e w'=>∃ (q0:Value),e=.returned (.agg #[.int .i64 r.1,q0])∧Sat w0 w' [Own R2_ [q0] r.2] := by
 unfold spec_l5Copy at F;refine calls_E Tryz.func78 rfl rfl (dt rfl) ?_;have S:=Sat.start w0;refine sR fun _ q101=>?_;refine el_box [.int .i64 a0,u1] rfl S (dt rfl) ?_;intro w102 b103 S hx104;refine el_alloc S (dt rfl) ?_;intro w106 b107 S hx108;refine en q101 ?_;refine sR fun _ q110=>?_;refine pe (.pointer (some ⟨b103,0 + 0,none⟩)) (pv_fieldAddr rfl) ?_;refine pe (.int .i64 a0) (pv_loadc rfl ((S.boxAt 1 rfl) 0 _ rfl)) ?_;refine pe (.agg #[.int .i64 a0,(.slice none 0 0)]) (pv_build [(0,[.int .i64 a0])] [.int .i64 a0,(.slice none 0 0)] (partc rfl rfl) rfl) ?_;refine el_alloc S (dt rfl) ?_;intro w111 b112 S hx113;refine el_storev (S.top 0 rfl) rfl [.int .i64 a0,(.slice none 0 0)] rfl rfl (dt rfl) (all_cons rfl (all_cons rfl rfl)) ?_;intro w115 S;replace S:Sat w0 w115 [Box b112 33 [.int .i64 a0,(.slice none 0 0)],Box b107 33 [.int .i64 0,(.slice none 0 0)],Box b103 33 [.int .i64 a0,u1]]:=S;refine en q110 ?_;refine sg fun _ q116=>?_;refine sR fun _ q117=>?_;refine pa (.int .i64 0) ?_;refine en q117 ?_;refine bg fun _ q118=>?_;replace S:=S.nil R0_ 26;obtain ⟨s120,hL,hK121⟩:=ob F;refine cw_loopS (fun k e w=>∃ (v123:Value),∃ (x122:List T0_),∃ (x124:Int),e 1=.pointer (some ⟨b103,0,none⟩)∧e 2=.pointer (some ⟨b107,0,none⟩)∧e 3=.pointer (some ⟨b112,0,none⟩)∧e 4=.int .i64 x124∧Sat w0 w [Own R2_ [v123] x122,Box b112 33 [.int .i64 a0,v123],Box b107 33 [.int .i64 0,(.slice none 0 0)],Box b103 33 [.int .i64 a0,u1]]∧spec_l5Copy_L1 N k a0 a1 0 [] a0 x122 x124=some s120) N ?_ ?_ ?_
 ·exact ⟨(.slice none 0 0),[],0,rfl,rfl,rfl,rfl,S,hL⟩
 ·rintro e w ⟨_,_,_,_,_,_,_,_,hz⟩; exact nomatch (show none=some _ from hz)
 rintro k e130 w129 ⟨v123,x122,x124,he125,he126,he127,he128,S,F⟩;refine gn fun _ q131=>?_;refine sg fun _ q132=>?_;refine sR fun _ q133=>?_;refine pM (.int .i64 x124) he128 ?_;refine pe (.pointer (some ⟨b103,0 + 1,none⟩)) (pv_fieldAddr he125) ?_;refine pe u1 (pv_loadc rfl ((S.boxAt 3 rfl) 1 _ rfl)) ?_;refine pe (.int .i64 (a1.length:Int)) (pv_len rfl ha1) ?_;refine pe (.bool (decide (x124 < (a1.length:Int)))) (pv_lss rfl rfl) ?_;refine en q133 ?_;rcases oif F with ⟨hb134,F⟩|⟨hb134,F⟩
 ·refine ct hb134 (sn q132 ?_);refine sg fun _ q135=>?_;refine bg fun _ q136=>?_;obtain ⟨C,hCd⟩:∃ C:World → Prop,∀ w,C w ↔ ∃ G,Sat w0 w ([Box b112 33 [.int .i64 a0,v123],Box b103 33 [.int .i64 a0,u1]] ++ G):=⟨_,fun _=>Iff.rfl⟩;refine cw_regb [0,1,2,3,4,5,6,7,8,9,10,11] C (by kernel_rfl) ?_;intro w137 hx138;replace S:=S.ext hx138;replace S:Sat w0 w137 [Box b112 33 [.int .i64 a0,v123],Box b103 33 [.int .i64 a0,u1],Own R2_ [v123] x122,Box b107 33 [.int .i64 0,(.slice none 0 0)]]:=S.tops 4 [1,3] rfl;have hC:=(hCd _).2 ⟨_,S⟩;refine al_p (v:=.pointer (some ⟨b112,0 + 1,none⟩)) (by kernel_rfl) 0 rfl rfl (dt rfl) hC (by kernel_rfl) (by kernel_rfl) (sv_on rfl (fun w' hw'=>by obtain ⟨_,S⟩:=(hCd _).1 hw'; exact (pv_fieldAddr he127))) ?_;refine al_p (v:=v123) (by kernel_rfl) 1 rfl rfl (dt rfl) hC (by kernel_rfl) (by kernel_rfl) (sv_on rfl (fun w' hw'=>by obtain ⟨_,S⟩:=(hCd _).1 hw'; exact (pv_loadc rfl ((S.boxAt 0 rfl) 1 _ rfl)))) ?_;refine al_p (v:=.pointer (some ⟨b103,0 + 1,none⟩)) (by kernel_rfl) 3 rfl rfl (dt rfl) hC (by kernel_rfl) (by kernel_rfl) (sv_on rfl (fun w' hw'=>by obtain ⟨_,S⟩:=(hCd _).1 hw'; exact (pv_fieldAddr he125))) ?_;refine al_p (v:=u1) (by kernel_rfl) 4 rfl rfl (dt rfl) hC (by kernel_rfl) (by kernel_rfl) (sv_on rfl (fun w' hw'=>by obtain ⟨_,S⟩:=(hCd _).1 hw'; exact (pv_loadc rfl ((S.boxAt 1 rfl) 1 _ rfl)))) ?_;refine al_p (v:=.int .i64 x124) (by kernel_rfl) 5 rfl rfl (dt rfl) hC (by kernel_rfl) (by kernel_rfl) (sv_on rfl (fun w' hw'=>by obtain ⟨_,S⟩:=(hCd _).1 hw'; exact (pv_move he128))) ?_;obtain ⟨x139,hx139,F⟩:=ob F;refine al_index (wA:=w0) (by kernel_rfl) 6 rfl hC (by kernel_rfl) (by kernel_rfl) rfl ha1 rfl (dt rfl) rfl hx139 (dt rfl) ?_;intro b140 of141 c142 hr143 hm144;obtain ⟨v145,rfl⟩:=slice_one hr143;refine al_p (v:=v145) (by kernel_rfl) 7 rfl rfl (dt rfl) hC (by kernel_rfl) (by kernel_rfl) (sv_on rfl (fun w' hw'=>by obtain ⟨_,S⟩:=(hCd _).1 hw'; exact (pv_loadc rfl ((cells_up S.below hm144) 0 _ rfl)))) ?_;refine al_one 2 (by kernel_rfl) rfl ?_;refine el_buildSlice0 intR S (dt rfl) ?_;intro w146 v148 S hx147;refine el_nil ?_;replace S:Sat w0 w146 [Box b112 33 [.int .i64 a0,v123],Box b103 33 [.int .i64 a0,u1],Own R0_ [v148] [],Own R2_ [v123] x122,Box b107 33 [.int .i64 0,(.slice none 0 0)]]:=S.tops 5 [1,2] rfl;have hC:=(hCd _).2 ⟨_,S⟩;refine ⟨fun _=>hC,?_⟩;refine al_one 8 (by kernel_rfl) rfl ?_;obtain ⟨x152,hx152,F⟩:=ob F;obtain ⟨ao153,c154,hv155,hn156,hrow157⟩:=row_ints (S.up hr143);replace S:Sat w0 w146 [Own R0_ [v148] [],Box b112 33 [.int .i64 a0,v123],Box b103 33 [.int .i64 a0,u1],Own R2_ [v123] x122,Box b107 33 [.int .i64 0,(.slice none 0 0)]]:=S.top 2 rfl;replace S:=S.ints (xs:=x139);refine el_append rfl (dt rfl) rfl (dt rfl) S rfl (rfl.trans hv155) rfl hn156 hrow157 hx152 (dt rfl) ?_;intro w150 v151 S;refine el_nil ?_;replace S:Sat w0 w150 [Box b112 33 [.int .i64 a0,v123],Box b103 33 [.int .i64 a0,u1],Own R0_ [v151] x152,Own R2_ [v123] x122,Box b107 33 [.int .i64 0,(.slice none 0 0)]]:=S.tops 5 [1,2] rfl;have hC:=(hCd _).2 ⟨_,S⟩;refine ⟨fun _=>hC,?_⟩;refine al_one 9 (by kernel_rfl) rfl ?_;refine el_buildSlice1 [v151] (cells_of rfl (oc (S.rdAt (R:=R0_) 2 rfl))) (by rfl) (dt rfl) rfl (dt rfl) S (dt rfl) ?_;intro w159 b161 S hx160;refine el_nil ?_;replace S:Sat w0 w159 [Box b112 33 [.int .i64 a0,v123],Box b103 33 [.int .i64 a0,u1],Box b161 26 [v151],Own R0_ [v151] x152,Own R2_ [v123] x122,Box b107 33 [.int .i64 0,(.slice none 0 0)]]:=S.tops 6 [1,2] rfl;have hC:=(hCd _).2 ⟨_,S⟩;refine ⟨fun _=>hC,?_⟩;refine al_one 10 (by kernel_rfl) rfl ?_;obtain ⟨x165,hx165,F⟩:=ob F;have hrow166:=S.boxRow 2 rfl;replace S:Sat w0 w159 [Own R2_ [v123] x122,Box b112 33 [.int .i64 a0,v123],Box b103 33 [.int .i64 a0,u1],Box b161 26 [v151],Own R0_ [v151] x152,Box b107 33 [.int .i64 0,(.slice none 0 0)]]:=S.top 4 rfl;replace S:Sat w0 w159 [Own R0_ [v151] x152,Own R2_ [v123] x122,Box b112 33 [.int .i64 a0,v123],Box b103 33 [.int .i64 a0,u1],Box b161 26 [v151],Box b107 33 [.int .i64 0,(.slice none 0 0)]]:=S.top 4 rfl;replace S:=S.one;refine el_append rfl (dt rfl) rfl (dt rfl) S rfl rfl rfl (by simp) hrow166 hx165 (dt rfl) ?_;intro w163 v164 S;refine el_nil ?_;replace S:Sat w0 w163 [Box b112 33 [.int .i64 a0,v123],Box b103 33 [.int .i64 a0,u1],Own R2_ [v164] x165,Box b161 26 [v151],Box b107 33 [.int .i64 0,(.slice none 0 0)]]:=S.tops 5 [1,2] rfl;have hC:=(hCd _).2 ⟨_,S⟩;refine ⟨fun _=>hC,?_⟩;refine al_one 11 (by kernel_rfl) rfl ?_;refine pe (.pointer (some ⟨b112,0 + 1,none⟩)) (pv_fieldAddr he127) ?_;refine el_nil ?_;refine ⟨fun _=>hC,?_⟩;refine al_one 12 (by kernel_rfl) rfl ?_;refine el_storev (S.top 0 rfl) rfl [v164] (cells_of rfl (oc (S.rdAt (R:=R2_) 2 rfl))) rfl (dt rfl) (all_cons (oc (S.rdAt (R:=R2_) 2 rfl)) rfl) ?_;intro w168 S;replace S:Sat w0 w168 [Box b112 33 [.int .i64 a0,v164],Box b103 33 [.int .i64 a0,u1],Own R2_ [v164] x165,Box b161 26 [v151],Box b107 33 [.int .i64 0,(.slice none 0 0)]]:=S;refine el_nil ?_;refine ⟨fun h=>(nomatch (show false=true from h)),?_⟩;refine al_nil (by kernel_rfl) ?_;refine bn q136 (tn q135 ?_);replace S:Sat w0 w168 [Box b112 33 [.int .i64 a0,v164],Box b103 33 [.int .i64 a0,u1],Own R2_ [v164] x165,Box b107 33 [.int .i64 0,(.slice none 0 0)]]:=S.rems 5 [3] rfl;refine cw_reg (pM (.int .i64 x124) he128 ?_);obtain ⟨x169,hx169,F⟩:=ob F;refine pe (.int .i64 x169) (pv_add rfl rfl hx169) ?_;refine pa (.int .i64 x169) ?_;refine en q131 ?_;replace S:Sat w0 w168 [Own R2_ [v164] x165,Box b112 33 [.int .i64 a0,v164],Box b107 33 [.int .i64 0,(.slice none 0 0)],Box b103 33 [.int .i64 a0,u1]]:=S.tops 4 [2,0,3,1] rfl;replace S:=S.keep 4;exact ⟨v164,x165,x169,he125,he126,he127,rfl,S,F⟩
 refine cf hb134 (cw_exit (tx q132 (tx q131 ?_)));replace F:=exB F hK121;refine bS q118 (tn q116 ?_);refine sg fun _ q170=>?_;replace S:Sat w0 w129 [Own R2_ [v123] x122,Box b112 33 [.int .i64 a0,v123],Box b107 33 [.int .i64 0,(.slice none 0 0)]]:=S.rems 4 [3] rfl;refine cw_reg (pe (.agg #[.int .i64 a0,v123]) (pv_loada (cs:=[.int .i64 a0,v123]) he127 rfl (boxc0 (S.boxAt 1 rfl))) ?_);refine el_storev (S.top 2 rfl) he126 [.int .i64 a0,v123] rfl rfl (dt rfl) (all_cons rfl (all_cons (oc (S.rdAt (R:=R2_) 0 rfl)) rfl)) ?_;intro w171 S;replace S:Sat w0 w171 [Box b107 33 [.int .i64 a0,v123],Own R2_ [v123] x122,Box b112 33 [.int .i64 a0,v123]]:=S;refine en q170 (cw_ret ?_);refine finC (cs:=[.int .i64 a0,v123]) rfl he126 rfl (boxc0 (S.boxAt 0 rfl))  ?_;replace S:Sat w0 w171 [Own R2_ [v123] x122,Box b107 33 [.int .i64 a0,v123],Box b112 33 [.int .i64 a0,v123]]:=S.tops 3 [1] rfl;have hr:=Option.some.inj F;exact ⟨v123,congrArg (fun (r:Int × List T0_)=>Ending.returned (.agg #[.int .i64 r.1,v123])) hr,Eq.mp (congrArg (fun (r:Int × List T0_)=>Sat w0 w171 [Own R2_ [v123] r.2]) hr) (S.keep 1)⟩
set_option maxHeartbeats 4000000 in
theorem spec_l1In_ok {w0:World} {a0:Int} {a1:Int} {a2:Int}  {N:Nat} {r:Bool} (F:spec_l1In N a0 a1 a2=some r): Calls Tryz.prog 63 #[.int .i64 a0,.int .i64 a1,.int .i64 a2] w0 fun e w'=>e=.returned (.bool r)∧Ext w0 w' := by
 unfold spec_l1In at F;refine calls_E Tryz.func63 rfl rfl (dt rfl) ?_;have S:=Sat.start w0;refine sR fun _ q101=>?_;refine pa (.bool false) ?_;refine en q101 ?_;refine sR fun _ q102=>?_;refine pm (.int .i64 a0) ?_;refine pm (.int .i64 a1) ?_;refine pe (.bool (decide (a1 ≤ a0))) (pv_geq rfl rfl) ?_;refine pm (.bool (decide (a1 ≤ a0))) ?_;rcases oif F with ⟨hb103,F⟩|⟨hb103,F⟩
 ·refine ei hb103 (pm (.int .i64 a0) ?_);refine ei hb103 (pm (.int .i64 a2) ?_);refine ei hb103 (pe (.bool (decide (a0 ≤ a2))) (pv_leq rfl rfl) ?_);refine pe (.bool (decide (a0 ≤ a2))) (pv_pick_t rfl hb103 rfl) ?_;refine pa (.bool (decide (a0 ≤ a2))) ?_;refine en q102 (cw_ret (fin1 rfl rfl ?_));exact rB F S
 refine eo hb103 (eo hb103 (eo hb103 (pe (.bool false) (pv_pick_f rfl hb103 rfl) ?_)));refine pa (.bool false) ?_;refine en q102 (cw_ret (fin1 rfl rfl ?_));exact rB F S
set_option maxHeartbeats 4000000 in
theorem spec_AreValidValues_ok {w0:World} {u0:Value} {a0:List Int} (ha0:R0_.rd w0 [u0] a0) {N:Nat} {r:Bool} (F:spec_AreValidValues N a0=some r): Calls Tryz.prog 77 #[u0] w0 fun e w'=>e=.returned (.bool r)∧Ext w0 w' := by
 unfold spec_AreValidValues at F;refine calls_E Tryz.func77 rfl rfl (dt rfl) ?_;have S:=Sat.start w0;refine sR fun _ q101=>?_;refine pa (.bool false) ?_;refine en q101 ?_;refine sg fun _ q102=>?_;refine sR fun _ q103=>?_;refine pa (.int .i64 0) ?_;refine en q103 ?_;refine bg fun _ q104=>?_;obtain ⟨s105,hL,hK106⟩:=ob F;refine cw_loopS (fun k e w=>∃ (x107:Int),e 0=u0∧e 3=.int .i64 x107∧Sat w0 w []∧spec_AreValidValues_L1 N k a0 x107=some s105) N ?_ ?_ ?_
 ·exact ⟨0,rfl,rfl,S,hL⟩
 ·rintro e w ⟨_,_,_,_,hz⟩; exact nomatch (show none=some _ from hz)
 rintro k e111 w110 ⟨x107,he108,he109,S,F⟩;refine gn fun _ q112=>?_;refine sg fun _ q113=>?_;refine sR fun _ q114=>?_;refine pM (.int .i64 x107) he109 ?_;refine pM u0 he108 ?_;refine pe (.int .i64 (a0.length:Int)) (pv_len rfl ha0) ?_;refine pe (.bool (decide (x107 < (a0.length:Int)))) (pv_lss rfl rfl) ?_;refine en q114 ?_;rcases oif F with ⟨hb115,F⟩|⟨hb115,F⟩
 ·refine ct hb115 (sn q113 ?_);refine sg fun _ q116=>?_;refine bg fun _ q117=>?_;refine sR fun _ q118=>?_;refine pM u0 he108 ?_;refine pM (.int .i64 x107) he109 ?_;obtain ⟨x119,hx119,F⟩:=ob F;refine el_index (wA:=w0) rfl ha0 rfl (dt rfl) rfl hx119 (dt rfl) ?_;intro b120 of121 c122 hr123 hm124;obtain rfl:=hr123;refine pe (.int .i64 x119) (pv_loadc rfl ((cells_up S.below hm124) 0 _ rfl)) ?_;obtain ⟨r125,hr125,F⟩:=ob F;refine el_call goes63 (spec_l1In_ok hr125) (ca (mapc rfl (mapc rfl (mapc rfl rfl)))) (dt rfl) ?_;rintro _ w126 ⟨rfl,hx127⟩;refine ⟨_,rfl,?_⟩;replace S:=S.ext hx127;refine pe (.bool (!r125)) (pv_not rfl) ?_;refine en q118 ?_;rcases oif F with ⟨hb128,F⟩|⟨hb128,F⟩
  ·refine cf (bnot_t hb128) (cw_skip (bn q117 (tn q116 (cw_reg (pM (.int .i64 x107) he109 ?_)))));obtain ⟨x129,hx129,F⟩:=ob F;refine pe (.int .i64 x129) (pv_add rfl rfl hx129) ?_;refine pa (.int .i64 x129) ?_;refine en q112 ?_;replace S:=S.keep 0;exact ⟨x129,he108,rfl,S,F⟩
  refine ct (bnot_f hb128) ?_;refine sR fun _ q130=>?_;refine pa (.bool false) ?_;refine en q130 (cw_ret (br q117 (tr q116 (tr q112 (br q104 (tr q102 ?_))))));replace F:=exL F hK106;refine fin1 rfl rfl ?_;exact rB F S
 refine cf hb115 (cw_exit (tx q113 (tx q112 ?_)));replace F:=exA F hK106;refine bS q104 (tn q102 ?_);refine sR fun _ q131=>?_;refine pa (.bool true) ?_;refine en q131 (cw_ret (fin1 rfl rfl ?_));exact rB F S

end Go.Proofs.YtbdnoljojebebaaGreat
