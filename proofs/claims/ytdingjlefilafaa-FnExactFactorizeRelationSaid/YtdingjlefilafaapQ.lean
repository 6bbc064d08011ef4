/- Plain laws: the factorization of rows. -/
import Derived.Test.YtdingjlefilafaapM
import Derived.Test.YtdingjlefilafaapO
namespace Go.Proofs.Ytdingjlefilafaa
open Go.RowKit

def findN (nodes : List FNode) (x : FNode) : Nat → Nat → Option Nat
  | 0, _ => none
  | f + 1, i => if nodes.getD i ([], []) = x then some i else findN nodes x f (i + 1)
def putV (nodes : List FNode) (x : FNode) : Int × List FNode :=
  match findN nodes x (nodes.length - 1) 1 with
  | some i => ((i : Int), nodes)
  | none => ((nodes.length : Int), nodes ++ [x])
/-- the end of the group of a value -/
def endG (rows : List (List Int)) (d : Nat) (v : Int) : Nat → Nat → Nat
  | 0, k => k
  | f + 1, k => if (rows.getD k []).getD d 0 = v then endG rows d v f (k + 1) else k
def grpV (rows : List (List Int)) (d : Nat) (i : Nat) : Nat := endG rows d ((rows.getD i []).getD d 0) (rows.length - i) i
def loopV (rec : List FNode → List (List Int) → Int × List FNode) (rows : List (List Int)) (d : Nat) : Nat → List FNode → List Int → List Int → Nat → List FNode × List Int × List Int
  | 0, nodes, vals, chs, _ => (nodes, vals, chs)
  | f + 1, nodes, vals, chs, i => if i < rows.length then
      loopV rec rows d f (rec nodes ((rows.take (grpV rows d i)).drop i)).2 (vals ++ [(rows.getD i []).getD d 0]) (chs ++ [(rec nodes ((rows.take (grpV rows d i)).drop i)).1]) (grpV rows d i)
    else (nodes, vals, chs)
/-- e variables are left, behind the first d -/
def buildV : Nat → List FNode → List (List Int) → Nat → Int × List FNode
  | 0, nodes, _, _ => (0, nodes)
  | e + 1, nodes, rows, d => putV (loopV (fun ns rs => buildV e ns rs (d + 1)) rows d rows.length nodes [] [] 0).1 (loopV (fun ns rs => buildV e ns rs (d + 1)) rows d rows.length nodes [] [] 0).2
def factV (n : Nat) (rows : List (List Int)) : List FNode := if rows = [] then [([], []), ([], [])] else (buildV n [([], [])] rows 0).2
theorem endG_bd (rows : List (List Int)) (d : Nat) (v : Int) : ∀ f k, k ≤ endG rows d v f k ∧ endG rows d v f k ≤ k + f
  | 0, k => by unfold endG; omega
  | f + 1, k => by
    unfold endG
    have := endG_bd rows d v f (k + 1)
    split <;> omega
theorem grpV_bd {rows : List (List Int)} {d i : Nat} (h : i < rows.length) : i < grpV rows d i ∧ grpV rows d i ≤ rows.length := by
  unfold grpV
  obtain ⟨m, hm⟩ : ∃ m, rows.length - i = m + 1 := ⟨rows.length - i - 1, by omega⟩
  rw [hm, endG, if_pos rfl]
  have := endG_bd rows d ((rows.getD i []).getD d 0) m (i + 1)
  omega
theorem putV_len (nodes : List FNode) (x : FNode) : (putV nodes x).2.length ≤ nodes.length + 1 := by
  unfold putV; split <;> simp
theorem putV_ok {nodes : List FNode} {x : FNode} (h : okN nodes) (hl : nodes.length + 1 ≤ 1048576) (h1 : okI x.1) (h2 : okI x.2) : okN (putV nodes x).2 := by
  refine ⟨by have := putV_len nodes x; omega, ?_⟩
  unfold putV
  split
  · exact h.2
  · intro y hy
    rcases List.mem_append.1 hy with hy | hy
    · exact h.2 y hy
    · simp only [List.mem_singleton] at hy; subst hy; exact ⟨h1, h2⟩
/-- rows of n values each -/
def allN (n : Nat) (rows : List (List Int)) : Prop := rows.length ≤ 4000 ∧ ∀ i, i < rows.length → (rows.getD i []).length = n
theorem allN_sub {n : Nat} {rows : List (List Int)} (h : allN n rows) {i k : Nat} (hk : k ≤ rows.length) : allN n ((rows.take k).drop i) := by
  refine ⟨by simp; have := h.1; omega, fun j hj => ?_⟩
  rw [List.length_drop, List.length_take, Nat.min_eq_left hk] at hj
  have e : ((rows.take k).drop i).getD j [] = rows.getD (i + j) [] := by
    rw [List.getD_eq_getElem?_getD, List.getElem?_drop, List.getElem?_take, if_pos (by omega), ← List.getD_eq_getElem?_getD]
  rw [e]; exact h.2 (i + j) (by omega)
theorem sub_len {rows : List (List Int)} {i k : Nat} (hk : k ≤ rows.length) : ((rows.take k).drop i).length = k - i := by
  rw [List.length_drop, List.length_take, Nat.min_eq_left hk]
/-- what a call below does -/
def RecOk (rec : List FNode → List (List Int) → Int × List FNode) (n e : Nat) : Prop :=
  ∀ ns rs, okN ns → allN n rs → rs ≠ [] → ns.length + rs.length * e + 1 ≤ 1048576 → okN (rec ns rs).2 ∧ (rec ns rs).2.length ≤ ns.length + rs.length * e + 1
theorem grow {i k e : Nat} (h : i < k) : i * (e + 1) + ((k - i) * e + 1) ≤ k * (e + 1) := by
  obtain ⟨t, rfl⟩ : ∃ t, k = i + (t + 1) := ⟨k - i - 1, by omega⟩
  have e1 : (i + (t + 1)) * (e + 1) = i * (e + 1) + (t + 1) * (e + 1) := Nat.add_mul _ _ _
  have e2 : (t + 1) * (e + 1) = (t + 1) * e + (t + 1) := Nat.mul_succ _ _
  rw [show i + (t + 1) - i = t + 1 by omega, e1, e2]
  omega
theorem le_mul {i k e : Nat} (h : i ≤ k) : i * e ≤ k * e := Nat.mul_le_mul_right e h
theorem loopV_ok {rec : List FNode → List (List Int) → Int × List FNode} {n e : Nat} (hr : RecOk rec n e) {rows : List (List Int)} {d : Nat} (ha : allN n rows) {b0 : Nat} (hb : b0 + rows.length * (e + 1) + 1 ≤ 1048576) :
    ∀ f i nodes vals chs, okN nodes → nodes.length ≤ b0 + i * (e + 1) → i ≤ rows.length → vals.length ≤ i → chs.length ≤ i →
      okN (loopV rec rows d f nodes vals chs i).1 ∧ (loopV rec rows d f nodes vals chs i).1.length ≤ b0 + rows.length * (e + 1) ∧ (loopV rec rows d f nodes vals chs i).2.1.length ≤ rows.length ∧ (loopV rec rows d f nodes vals chs i).2.2.length ≤ rows.length := by
  intro f
  induction f with
  | zero =>
    intro i nodes vals chs h1 h2 h3 h4 h5
    have := le_mul (e := e + 1) h3
    exact ⟨h1, by show nodes.length ≤ _; omega, by show vals.length ≤ _; omega, by show chs.length ≤ _; omega⟩
  | succ f ih =>
    intro i nodes vals chs h1 h2 h3 h4 h5
    have := le_mul (e := e + 1) h3
    unfold loopV
    by_cases h : i < rows.length
    · rw [if_pos h]
      obtain ⟨g1, g2⟩ := grpV_bd (d := d) h
      have g3 := grow (e := e) g1
      have g4 := le_mul (e := e + 1) g2
      have g5 := sub_len (i := i) g2
      obtain ⟨q1, q2⟩ := hr nodes ((rows.take (grpV rows d i)).drop i) h1 (allN_sub ha g2) (by intro e0; rw [e0] at g5; simp at g5; omega) (by rw [g5]; omega)
      rw [g5] at q2
      exact ih _ _ _ _ q1 (by omega) g2 (by rw [List.length_append, List.length_singleton]; omega) (by rw [List.length_append, List.length_singleton]; omega)
    · rw [if_neg h]
      exact ⟨h1, by show nodes.length ≤ _; omega, by show vals.length ≤ _; omega, by show chs.length ≤ _; omega⟩
theorem buildV_ok {n : Nat} : ∀ (e d : Nat), RecOk (fun ns rs => buildV e ns rs d) n e := by
  intro e
  induction e with
  | zero => intro d ns rs h1 h2 h3 h4; exact ⟨h1, by show ns.length ≤ _; omega⟩
  | succ e ih =>
    intro d ns rs h1 h2 h3 h4
    obtain ⟨q1, q2, q3, q4⟩ := loopV_ok (ih (d + 1)) (d := d) h2 (b0 := ns.length) h4 rs.length 0 ns [] [] h1 (by omega) (by omega) (by simp) (by simp)
    have hl := h2.1
    show okN (buildV (e + 1) ns rs d).2 ∧ (buildV (e + 1) ns rs d).2.length ≤ _
    unfold buildV
    refine ⟨putV_ok q1 (by omega) ⟨by omega, fun _ _ => trivial⟩ ⟨by omega, fun _ _ => trivial⟩, ?_⟩
    have := putV_len (loopV (fun ns rs => buildV e ns rs (d + 1)) rs d rs.length ns [] [] 0).1 (loopV (fun ns rs => buildV e ns rs (d + 1)) rs d rs.length ns [] [] 0).2
    omega
section
variable {N : Nat}
theorem add_L1_eq (hN : 1073741824 ≤ N) {nodes : List FNode} {x : FNode} (hn : okN nodes) : ∀ m i k, i + m = nodes.length → m < k → impl_builder_add_L1 N k nodes x.1 x.2 (i : Int) = some (match findN nodes x m i with | some j => .inl ((j : Int), nodes) | none => .inr (nodes.length : Int)) := by
  have hl := hn.1
  intro m
  induction m with
  | zero =>
    intro i k hi hk
    obtain ⟨k, rfl⟩ : ∃ k', k = k' + 1 := ⟨k - 1, by omega⟩
    obtain rfl : i = nodes.length := by omega
    rw [impl_builder_add_L1, dge (by omega), cond_false]; rfl
  | succ m ih =>
    intro i k hi hk
    obtain ⟨k, rfl⟩ : ∃ k', k = k' + 1 := ⟨k - 1, by omega⟩
    have h : i < nodes.length := by omega
    obtain ⟨g1, g2⟩ := okN_at hn h
    rw [impl_builder_add_L1, dlt h, cond_true, ix_nat h, bs, sameNode_eq hN g1 g2, bs, findN, getN_at h]
    by_cases e : nodes[i] = x
    · rw [decide_eq_true e, cond_true, if_pos e]
    · rw [decide_eq_false e, cond_false, if_neg e, ad1 (by omega), bs, ih (i + 1) k (by omega) (by omega)]
theorem add_eq (hN : 1073741824 ≤ N) {nodes : List FNode} {x : FNode} (hn : okN nodes) (h1 : 1 ≤ nodes.length) : impl_builder_add N nodes x.1 x.2 = some (putV nodes x) := by
  have hl := hn.1
  unfold impl_builder_add putV
  rw [show (1 : Int) = ((1 : Nat) : Int) from rfl, add_L1_eq hN hn (nodes.length - 1) 1 N (by omega) (by omega), bs]
  cases findN nodes x (nodes.length - 1) 1 with
  | some j => rfl
  | none =>
    show (apd 48 nodes [(x.1, x.2)]).bind _ = _
    rw [apd_ok' (by decide) (by simp; omega), bs, sb_ok (by simp <;> omega) (by simp <;> omega), bs]
    simp
theorem put_L1_eq (hN : 1073741824 ≤ N) {o : List Int} {nodes : List FNode} {x : FNode} (hn : okN nodes) (hx1 : x.1.length ≤ 1048576) (hx2 : x.2.length ≤ 1048576) : ∀ m i k, i + m = nodes.length → m < k → spec_l23Put_L1 N k o nodes x.1 x.2 (i : Int) = some (match findN nodes x m i with | some j => .inl ((j : Int), o, nodes) | none => .inr (nodes.length : Int)) := by
  have hl := hn.1
  intro m
  induction m with
  | zero =>
    intro i k hi hk
    obtain ⟨k, rfl⟩ : ∃ k', k = k' + 1 := ⟨k - 1, by omega⟩
    obtain rfl : i = nodes.length := by omega
    rw [spec_l23Put_L1, dge (by omega), cond_false]; rfl
  | succ m ih =>
    intro i k hi hk
    obtain ⟨k, rfl⟩ : ∃ k', k = k' + 1 := ⟨k - 1, by omega⟩
    have h : i < nodes.length := by omega
    obtain ⟨g1, g2⟩ := okN_at hn h
    rw [spec_l23Put_L1, dlt h, cond_true, ix_nat h, bs, CompareRows_spec_eq hN g1.1 (by omega), bs, cmpR_beq, findN, getN_at h]
    by_cases e1 : nodes[i].1 = x.1
    · rw [decide_eq_true e1, cond_true, bs, CompareRows_spec_eq hN g2.1 (by omega), bs, cmpR_beq]
      by_cases e2 : nodes[i].2 = x.2
      · rw [decide_eq_true e2, cond_true, if_pos (Prod.ext e1 e2)]
      · rw [decide_eq_false e2, cond_false, if_neg (fun e => e2 (by rw [e])), ad1 (by omega), bs, ih (i + 1) k (by omega) (by omega)]
    · rw [decide_eq_false e1, cond_false, if_neg (fun e => e1 (by rw [e])), ad1 (by omega), bs, ih (i + 1) k (by omega) (by omega)]
theorem put_eq (hN : 1073741824 ≤ N) {o : List Int} {nodes : List FNode} {x : FNode} (hn : okN nodes) (hx1 : x.1.length ≤ 1048576) (hx2 : x.2.length ≤ 1048576) (h1 : 1 ≤ nodes.length) : spec_l23Put N o nodes x.1 x.2 = some ((putV nodes x).1, o, (putV nodes x).2) := by
  have hl := hn.1
  unfold spec_l23Put putV
  rw [show (1 : Int) = ((1 : Nat) : Int) from rfl, put_L1_eq hN hn hx1 hx2 (nodes.length - 1) 1 N (by omega) (by omega), bs]
  cases findN nodes x (nodes.length - 1) 1 with
  | some j => rfl
  | none =>
    show (apd 48 nodes [(x.1, x.2)]).bind _ = _
    rw [apd_ok' (by decide) (by simp; omega), bs, sb_ok (by simp <;> omega) (by simp <;> omega), bs]
    simp
theorem rows_ix {n : Nat} {rows : List (List Int)} (ha : allN n rows) {i d : Nat} (h : i < rows.length) (hd : d < n) : ix rows (i : Int) = some (rows.getD i []) ∧ ix (rows.getD i []) (d : Int) = some ((rows.getD i []).getD d 0) := by
  have hl := ha.2 i h
  refine ⟨by rw [ix_nat h, getL_at h], by rw [ix_nat (by omega), getD_at (by omega)]⟩
theorem endImpl {rec : (List (List Int × List Int)) → (List (List Int)) → Int → Option (Int × (List (List Int × List Int)))} {n d : Nat} {rows : List (List Int)} (ha : allN n rows) (hd : d < n) {nodes : List FNode} {vals chs : List Int} {i : Nat} (hi : i < rows.length) :
    ∀ m k f, k + m = rows.length → m < f → impl_builder_build_L2 rec N f nodes rows (d : Int) vals chs (i : Int) (k : Int) = some ((endG rows d ((rows.getD i []).getD d 0) m k : Nat) : Int) := by
  have hl := ha.1
  obtain ⟨i1, i2⟩ := rows_ix ha hi hd
  intro m
  induction m with
  | zero =>
    intro k f hk hf
    obtain ⟨f, rfl⟩ : ∃ f', f = f' + 1 := ⟨f - 1, by omega⟩
    rw [impl_builder_build_L2, dge (by omega), cond_false]; rfl
  | succ m ih =>
    intro k f hk hf
    obtain ⟨f, rfl⟩ : ∃ f', f = f' + 1 := ⟨f - 1, by omega⟩
    obtain ⟨k1, k2⟩ := rows_ix ha (i := k) (by omega) hd
    rw [impl_builder_build_L2, dlt (by omega), cond_true, k1, bs, k2, bs, i1, bs, i2, bs, endG, beqD]
    by_cases e : (rows.getD k []).getD d 0 = (rows.getD i []).getD d 0
    · rw [decide_eq_true e, cond_true, if_pos e, ad1 (by omega), bs, ih (k + 1) f (by omega) (by omega)]
    · rw [decide_eq_false e, cond_false, if_neg e]
theorem endSpec {rec : (List Int) → (List (List Int × List Int)) → (List (List Int)) → Int → Option (Int × (List Int) × (List (List Int × List Int)))} {n d : Nat} {rows : List (List Int)} (ha : allN n rows) (hd : d < n) {o : List Int} {nodes : List FNode} {vals chs : List Int} {i : Nat} (hi : i < rows.length) :
    ∀ m k f, k + m = rows.length → m < f → spec_l23Build_L2 rec N f o nodes rows (d : Int) vals chs (i : Int) (k : Int) = some ((endG rows d ((rows.getD i []).getD d 0) m k : Nat) : Int) := by
  have hl := ha.1
  obtain ⟨i1, i2⟩ := rows_ix ha hi hd
  intro m
  induction m with
  | zero =>
    intro k f hk hf
    obtain ⟨f, rfl⟩ : ∃ f', f = f' + 1 := ⟨f - 1, by omega⟩
    rw [spec_l23Build_L2, dge (by omega), cond_false]; rfl
  | succ m ih =>
    intro k f hk hf
    obtain ⟨f, rfl⟩ : ∃ f', f = f' + 1 := ⟨f - 1, by omega⟩
    obtain ⟨k1, k2⟩ := rows_ix ha (i := k) (by omega) hd
    rw [spec_l23Build_L2, dlt (by omega), cond_true, k1, bs, k2, bs, i1, bs, i2, bs, endG, beqD]
    by_cases e : (rows.getD k []).getD d 0 = (rows.getD i []).getD d 0
    · rw [decide_eq_true e, cond_true, if_pos e, ad1 (by omega), bs, ih (k + 1) f (by omega) (by omega)]
    · rw [decide_eq_false e, cond_false, if_neg e]
theorem loopImpl {rec : (List (List Int × List Int)) → (List (List Int)) → Int → Option (Int × (List (List Int × List Int)))} {rv : List FNode → List (List Int) → Int × List FNode} {n e d : Nat} (hr : RecOk rv n e) {rows : List (List Int)} (ha : allN n rows) (hd : d < n) (hn5 : n ≤ 1000) {b0 : Nat} (hb : b0 + rows.length * (e + 1) + 1 ≤ 1048576)
    (hrec : ∀ ns rs, okN ns → 1 ≤ ns.length → allN n rs → rs ≠ [] → ns.length + rs.length * e + 1 ≤ 1048576 → rec ns rs ((d + 1 : Nat) : Int) = some (rv ns rs) ∧ 1 ≤ (rv ns rs).2.length) {M : Nat} (hM : 4001 ≤ M) :
    ∀ m i k nodes vals chs, rows.length - i ≤ m → m < k → i ≤ rows.length → okN nodes → 1 ≤ nodes.length → nodes.length ≤ b0 + i * (e + 1) → vals.length ≤ i → chs.length ≤ i →
      impl_builder_build_L1 rec M k nodes rows (d : Int) vals chs (i : Int) = some ((loopV rv rows d m nodes vals chs i).1, (loopV rv rows d m nodes vals chs i).2.1, (loopV rv rows d m nodes vals chs i).2.2, (rows.length : Int)) ∧ 1 ≤ (loopV rv rows d m nodes vals chs i).1.length := by
  have hl := ha.1
  intro m
  induction m with
  | zero =>
    intro i k nodes vals chs hi hk h3 h1 hp h2 h4 h5
    obtain ⟨k, rfl⟩ : ∃ k', k = k' + 1 := ⟨k - 1, by omega⟩
    obtain rfl : i = rows.length := by omega
    rw [impl_builder_build_L1, dge (by omega), cond_false]
    exact ⟨rfl, hp⟩
  | succ m ih =>
    intro i k nodes vals chs hi hk h3 h1 hp h2 h4 h5
    obtain ⟨k, rfl⟩ : ∃ k', k = k' + 1 := ⟨k - 1, by omega⟩
    rw [impl_builder_build_L1]
    unfold loopV
    by_cases h : i < rows.length
    · obtain ⟨g1, g2⟩ := grpV_bd (d := d) h
      have g3 := grow (e := e) g1
      have g4 := le_mul (e := e + 1) g2
      have g5 := sub_len (i := i) g2
      have hne : (rows.take (grpV rows d i)).drop i ≠ [] := by intro e0; rw [e0] at g5; simp at g5; omega
      have hroom : nodes.length + ((rows.take (grpV rows d i)).drop i).length * e + 1 ≤ 1048576 := by rw [g5]; omega
      obtain ⟨q1, q2⟩ := hr nodes _ h1 (allN_sub ha g2) hne hroom
      obtain ⟨q3, q4⟩ := hrec nodes _ h1 hp (allN_sub ha g2) hne hroom
      rw [g5] at q2
      obtain ⟨i1, i2⟩ := rows_ix ha h hd
      have hend := endImpl (N := M) (rec := rec) ha hd (nodes := nodes) (vals := vals) (chs := chs) h (rows.length - i) i M (by omega) (by omega)
      have hg : ((endG rows d ((rows.getD i []).getD d 0) (rows.length - i) i : Nat) : Int) = (grpV rows d i : Nat) := rfl
      rw [hg] at hend
      rw [dlt h, cond_true, if_pos h, hend, bs, lpB, i1, bs, i2, bs, apd_ok' (by decide) (by simp; omega), bs, slc_ok (by omega) g2, bs, ad1 (by omega), bs, q3, bs, apd_ok' (by decide) (by simp; omega), bs]
      exact ih (grpV rows d i) k (rv nodes ((rows.take (grpV rows d i)).drop i)).2 (vals ++ [(rows.getD i []).getD d 0]) (chs ++ [(rv nodes ((rows.take (grpV rows d i)).drop i)).1]) (by omega) (by omega) g2 q1 q4 (by omega) (by rw [List.length_append, List.length_singleton]; omega) (by rw [List.length_append, List.length_singleton]; omega)
    · obtain rfl : i = rows.length := by omega
      rw [dge (by omega), cond_false, if_neg h]
      exact ⟨rfl, hp⟩
theorem loopSpec {rec : (List Int) → (List (List Int × List Int)) → (List (List Int)) → Int → Option (Int × (List Int) × (List (List Int × List Int)))} {o : List Int} {rv : List FNode → List (List Int) → Int × List FNode} {n e d : Nat} (hr : RecOk rv n e) {rows : List (List Int)} (ha : allN n rows) (hd : d < n) (hn5 : n ≤ 1000) {b0 : Nat} (hb : b0 + rows.length * (e + 1) + 1 ≤ 1048576)
    (hrec : ∀ ns rs, okN ns → 1 ≤ ns.length → allN n rs → rs ≠ [] → ns.length + rs.length * e + 1 ≤ 1048576 → rec o ns rs ((d + 1 : Nat) : Int) = some ((rv ns rs).1, o, (rv ns rs).2) ∧ 1 ≤ (rv ns rs).2.length) {M : Nat} (hM : 4001 ≤ M) :
    ∀ m i k nodes vals chs, rows.length - i ≤ m → m < k → i ≤ rows.length → okN nodes → 1 ≤ nodes.length → nodes.length ≤ b0 + i * (e + 1) → vals.length ≤ i → chs.length ≤ i →
      spec_l23Build_L1 rec M k o nodes rows (d : Int) vals chs (i : Int) = some (o, (loopV rv rows d m nodes vals chs i).1, (loopV rv rows d m nodes vals chs i).2.1, (loopV rv rows d m nodes vals chs i).2.2, (rows.length : Int)) ∧ 1 ≤ (loopV rv rows d m nodes vals chs i).1.length := by
  have hl := ha.1
  intro m
  induction m with
  | zero =>
    intro i k nodes vals chs hi hk h3 h1 hp h2 h4 h5
    obtain ⟨k, rfl⟩ : ∃ k', k = k' + 1 := ⟨k - 1, by omega⟩
    obtain rfl : i = rows.length := by omega
    rw [spec_l23Build_L1, dge (by omega), cond_false]
    exact ⟨rfl, hp⟩
  | succ m ih =>
    intro i k nodes vals chs hi hk h3 h1 hp h2 h4 h5
    obtain ⟨k, rfl⟩ : ∃ k', k = k' + 1 := ⟨k - 1, by omega⟩
    rw [spec_l23Build_L1]
    unfold loopV
    by_cases h : i < rows.length
    · obtain ⟨g1, g2⟩ := grpV_bd (d := d) h
      have g3 := grow (e := e) g1
      have g4 := le_mul (e := e + 1) g2
      have g5 := sub_len (i := i) g2
      have hne : (rows.take (grpV rows d i)).drop i ≠ [] := by intro e0; rw [e0] at g5; simp at g5; omega
      have hroom : nodes.length + ((rows.take (grpV rows d i)).drop i).length * e + 1 ≤ 1048576 := by rw [g5]; omega
      obtain ⟨q1, q2⟩ := hr nodes _ h1 (allN_sub ha g2) hne hroom
      obtain ⟨q3, q4⟩ := hrec nodes _ h1 hp (allN_sub ha g2) hne hroom
      rw [g5] at q2
      obtain ⟨i1, i2⟩ := rows_ix ha h hd
      have hend := endSpec (N := M) (rec := rec) ha hd (o := o) (nodes := nodes) (vals := vals) (chs := chs) h (rows.length - i) i M (by omega) (by omega)
      have hg : ((endG rows d ((rows.getD i []).getD d 0) (rows.length - i) i : Nat) : Int) = (grpV rows d i : Nat) := rfl
      rw [hg] at hend
      rw [dlt h, cond_true, if_pos h, hend, bs, lpB, i1, bs, i2, bs, apd_ok' (by decide) (by simp; omega), bs, slc_ok (by omega) g2, bs, ad1 (by omega), bs, q3, bs, apd_ok' (by decide) (by simp; omega), bs]
      exact ih (grpV rows d i) k (rv nodes ((rows.take (grpV rows d i)).drop i)).2 (vals ++ [(rows.getD i []).getD d 0]) (chs ++ [(rv nodes ((rows.take (grpV rows d i)).drop i)).1]) (by omega) (by omega) g2 q1 q4 (by omega) (by rw [List.length_append, List.length_singleton]; omega) (by rw [List.length_append, List.length_singleton]; omega)
    · obtain rfl : i = rows.length := by omega
      rw [dge (by omega), cond_false, if_neg h]
      exact ⟨rfl, hp⟩
theorem rows_pos {rows : List (List Int)} (h : rows ≠ []) : 0 < rows.length := List.length_pos_iff.2 h
theorem build_eq {n : Nat} (hn5 : n ≤ 1000) : ∀ (e d M : Nat), d + e = n → 1073741825 + e ≤ M → ∀ ns rs, okN ns → 1 ≤ ns.length → allN n rs → rs ≠ [] → ns.length + rs.length * e + 1 ≤ 1048576 →
    impl_builder_build M ns rs (d : Int) = some (buildV e ns rs d) ∧ 1 ≤ (buildV e ns rs d).2.length := by
  intro e
  induction e with
  | zero =>
    intro d M hd hM ns rs h1 hp h2 h3 h4
    obtain ⟨M, rfl⟩ : ∃ M', M = M' + 1 := ⟨M - 1, by omega⟩
    have h0 := rows_pos h3
    have hl := h2.2 0 h0
    rw [getL_at h0] at hl
    rw [impl_builder_build, decide_eq_true (by omega), cond_true, ix0 h0, bs, show ((d : Int) == (rs[0].length : Int)) = true by simp; omega, cond_true]
    exact ⟨rfl, hp⟩
  | succ e ih =>
    intro d M hd hM ns rs h1 hp h2 h3 h4
    obtain ⟨M, rfl⟩ : ∃ M', M = M' + 1 := ⟨M - 1, by omega⟩
    have h0 := rows_pos h3
    have hl := h2.2 0 h0
    rw [getL_at h0] at hl
    have hok := buildV_ok (n := n) e (d + 1)
    obtain ⟨q1, q2⟩ := loopImpl (rec := impl_builder_build M) hok h2 (d := d) (by omega) hn5 (b0 := ns.length) h4 (fun ns' rs' a1 a2 a3 a4 a5 => ih (d + 1) M (by omega) (by omega) ns' rs' a1 a2 a3 a4 a5) (M := M) (by omega) rs.length 0 M ns [] [] (by omega) (by have := h2.1; omega) (by omega) h1 hp (by omega) (by simp) (by simp)
    obtain ⟨g1, g2, g3, g4⟩ := loopV_ok hok (d := d) h2 (b0 := ns.length) h4 rs.length 0 ns [] [] h1 (by omega) (by omega) (by simp) (by simp)
    rw [impl_builder_build, decide_eq_true (by omega), cond_true, ix0 h0, bs, show ((d : Int) == (rs[0].length : Int)) = false by simp; omega, cond_false]
    have q1' : impl_builder_build_L1 (impl_builder_build M) M M ns rs (d : Int) [] [] 0 = _ := q1
    rw [q1', bs, lpB]
    show (impl_builder_add M _ _ _).bind _ = _ ∧ _
    rw [add_eq (by omega) (x := (loopV (fun ns rs => buildV e ns rs (d + 1)) rs d rs.length ns [] [] 0).2) g1 q2, bs]
    refine ⟨rfl, ?_⟩
    unfold buildV putV
    split
    · exact q2
    · simp
theorem l23Build_eq {n : Nat} (hn5 : n ≤ 1000) {o : List Int} : ∀ (e d M : Nat), d + e = n → 1073741825 + e ≤ M → ∀ ns rs, okN ns → 1 ≤ ns.length → allN n rs → rs ≠ [] → ns.length + rs.length * e + 1 ≤ 1048576 →
    spec_l23Build M o ns rs (d : Int) = some ((buildV e ns rs d).1, o, (buildV e ns rs d).2) ∧ 1 ≤ (buildV e ns rs d).2.length := by
  intro e
  induction e with
  | zero =>
    intro d M hd hM ns rs h1 hp h2 h3 h4
    obtain ⟨M, rfl⟩ : ∃ M', M = M' + 1 := ⟨M - 1, by omega⟩
    have h0 := rows_pos h3
    have hl := h2.2 0 h0
    rw [getL_at h0] at hl
    rw [spec_l23Build, decide_eq_true (by omega), cond_true, ix0 h0, bs, show ((d : Int) == (rs[0].length : Int)) = true by simp; omega, cond_true]
    exact ⟨rfl, hp⟩
  | succ e ih =>
    intro d M hd hM ns rs h1 hp h2 h3 h4
    obtain ⟨M, rfl⟩ : ∃ M', M = M' + 1 := ⟨M - 1, by omega⟩
    have h0 := rows_pos h3
    have hl := h2.2 0 h0
    rw [getL_at h0] at hl
    have hok := buildV_ok (n := n) e (d + 1)
    obtain ⟨q1, q2⟩ := loopSpec (rec := spec_l23Build M) (o := o) hok h2 (d := d) (by omega) hn5 (b0 := ns.length) h4 (fun ns' rs' a1 a2 a3 a4 a5 => ih (d + 1) M (by omega) (by omega) ns' rs' a1 a2 a3 a4 a5) (M := M) (by omega) rs.length 0 M ns [] [] (by omega) (by have := h2.1; omega) (by omega) h1 hp (by omega) (by simp) (by simp)
    obtain ⟨g1, g2, g3, g4⟩ := loopV_ok hok (d := d) h2 (b0 := ns.length) h4 rs.length 0 ns [] [] h1 (by omega) (by omega) (by simp) (by simp)
    have hl4 := h2.1
    rw [spec_l23Build, decide_eq_true (by omega), cond_true, ix0 h0, bs, show ((d : Int) == (rs[0].length : Int)) = false by simp; omega, cond_false]
    have q1' : spec_l23Build_L1 (spec_l23Build M) M M o ns rs (d : Int) [] [] 0 = _ := q1
    rw [q1', bs, lpB]
    show (spec_l23Put M _ _ _ _).bind _ = _ ∧ _
    rw [put_eq (by omega) (x := (loopV (fun ns rs => buildV e ns rs (d + 1)) rs d rs.length ns [] [] 0).2) g1 (by omega) (by omega) q2, bs]
    refine ⟨rfl, ?_⟩
    unfold buildV putV
    split
    · exact q2
    · simp
def ordV (n : Nat) : List Int := (List.range' 0 n).map fun i : Nat => (i : Int)
theorem ordV_len (n : Nat) : (ordV n).length = n := by simp [ordV]
def zN : List FNode := [([], [])]
theorem zN_ok : okN zN := ⟨by decide, by intro x hx; simp only [zN, List.mem_singleton] at hx; subst hx; exact ⟨⟨by decide, fun _ _ => trivial⟩, ⟨by decide, fun _ _ => trivial⟩⟩⟩
theorem allN_of {n : Int} {rows : List (List Int)} (h : validRows n rows = true) : 0 ≤ n ∧ n ≤ 5 ∧ allN n.toNat rows := by
  obtain ⟨h0, h1, h2, h3⟩ := validRows_spec h
  refine ⟨h0, h1, h2, fun i hi => ?_⟩
  have := (h3 i hi).1
  rw [getL_at hi]; omega
theorem factorized_eq (hM : 1073742848 ≤ N) {n : Nat} {rows : List (List Int)} (hn5 : n ≤ 5) (ha : allN n rows) {o : List Int} (ho : o.length ≤ 1048576) : impl_factorized N o rows = some (o, factV n rows) := by
  have hl := ha.1
  unfold impl_factorized factV
  rw [show (1 : Int) = ((1 : Nat) : Int) from rfl, mk_ok (by decide) (by decide), bs, show List.replicate 1 (([], []) : List Int × List Int) = zN from rfl]
  by_cases h : rows = []
  · subst h
    obtain ⟨N, rfl⟩ : ∃ N', N = N' + 1 := ⟨N - 1, by omega⟩
    obtain ⟨N, rfl⟩ : ∃ N', N = N' + 1 := ⟨N - 1, by omega⟩
    rw [if_pos rfl, impl_builder_build]
    simp only [List.length_nil, Nat.lt_irrefl, Int.lt_irrefl, decide_false, cond_false]
    rw [impl_builder_build_L1]
    simp only [List.length_nil, Nat.lt_irrefl, Int.lt_irrefl, decide_false, cond_false, bs, lpB, Int.ofNat_zero, Int.natCast_zero]
    rw [add_eq (by omega) (x := (([], []) : FNode)) zN_ok (by decide), bs, impl_copyInts, apd_nil (by decide) ho, bs, bs]
    rfl
  · have hmul : rows.length * n ≤ 4000 * 5 := Nat.mul_le_mul hl hn5
    have hz : zN.length = 1 := rfl
    obtain ⟨q1, q2⟩ := build_eq (n := n) (by omega) n 0 N (by omega) (by omega) zN rows zN_ok (by decide) ha h (by omega)
    have q1' : impl_builder_build N zN rows 0 = _ := q1
    rw [if_neg h, q1', bs, impl_copyInts, apd_nil (by decide) ho, bs, bs]
    rfl
theorem l23Of_eq (hM : 1073742848 ≤ N) {n : Nat} {rows : List (List Int)} (hn5 : n ≤ 5) (ha : allN n rows) {a : Int} {o : List Int} (ho : o.length ≤ 1048576) : spec_l23Of N a rows o = some (o, factV n rows) := by
  have hl := ha.1
  unfold spec_l23Of factV
  rw [apd_nil (by decide) ho, bs]
  by_cases h : rows = []
  · subst h
    rfl
  · have hmul : rows.length * n ≤ 4000 * 5 := Nat.mul_le_mul hl hn5
    have hz : zN.length = 1 := rfl
    have h0 := rows_pos h
    obtain ⟨q1, q2⟩ := l23Build_eq (n := n) (o := o) (by omega) n 0 N (by omega) (by omega) zN rows zN_ok (by decide) ha h (by omega)
    have q1' : spec_l23Build N o [([], [])] rows 0 = _ := q1
    rw [if_neg h, show ((rows.length : Int) == 0) = false by simp; omega, cond_false, q1', bs]
    rfl
def factRel (n : Int) (rows : List (List Int)) : (List Int × List FNode) × Bool := bif validRows n rows then ((ordV n.toNat, factV n.toNat rows), true) else (([], []), false)
theorem factV_ok {n : Nat} {rows : List (List Int)} (hn5 : n ≤ 5) (ha : allN n rows) : okN (factV n rows) := by
  have hl := ha.1
  unfold factV
  by_cases h : rows = []
  · rw [if_pos h]
    refine ⟨by decide, fun x hx => ?_⟩
    simp only [List.mem_cons, List.not_mem_nil, or_false, or_self] at hx
    subst hx; exact ⟨⟨by decide, fun _ _ => trivial⟩, ⟨by decide, fun _ _ => trivial⟩⟩
  · have hmul : rows.length * n ≤ 4000 * 5 := Nat.mul_le_mul hl hn5
    have hz : zN.length = 1 := rfl
    rw [if_neg h]
    exact (buildV_ok (n := n) n 0 zN rows zN_ok ha h (by omega)).1
theorem factRel_ok {n : Int} {rows : List (List Int)} : okI (factRel n rows).1.1 ∧ okN (factRel n rows).1.2 := by
  unfold factRel
  cases hv : validRows n rows with
  | false => exact ⟨⟨Nat.zero_le _, fun _ _ => trivial⟩, ⟨Nat.zero_le _, fun x hx => by simp at hx⟩⟩
  | true =>
    obtain ⟨h0, h1, h2⟩ := allN_of hv
    exact ⟨⟨by show (ordV n.toNat).length ≤ 1048576; rw [ordV_len]; omega, fun _ _ => trivial⟩, factV_ok (by omega) h2⟩
theorem FactorizeRelation_impl_eq (hM : 1073742848 ≤ N) {n : Int} {rows : List (List Int)} (hx : okII rows) : impl_FactorizeRelation N n rows = some (factRel n rows) := by
  unfold impl_FactorizeRelation factRel
  rw [IsValidRelation_impl_eq (by omega) hx, bs]
  cases hv : validRows n rows with
  | false => rfl
  | true =>
    obtain ⟨h0, h1, h2⟩ := allN_of hv
    obtain ⟨m, rfl⟩ := Int.eq_ofNat_of_zero_le h0
    have hL := loopI (fun k (s : List Int) i => impl_FactorizeRelation_L1 N k (m : Int) rows [] [] s i) m (fun i => ordV i) (ordV m, (m : Int))
      (fun k i h => by
        show impl_FactorizeRelation_L1 N (k + 1) (m : Int) rows [] [] (ordV i) (i : Int) = _
        rw [impl_FactorizeRelation_L1, dlt h, cond_true, apd_ok' (by decide) (by rw [ordV_len]; simp; omega), bs, ad1 (by omega), bs]
        have e : ordV i ++ [(i : Int)] = ordV (i + 1) := by unfold ordV; rw [List.range'_concat]; simp
        rw [e])
      (fun k => by
        show impl_FactorizeRelation_L1 N (k + 1) (m : Int) rows [] [] (ordV m) (m : Int) = _
        rw [impl_FactorizeRelation_L1, dge (by omega), cond_false]) N 0 (by omega) (by omega)
    have hL' : impl_FactorizeRelation_L1 N N (m : Int) rows [] [] [] 0 = _ := hL
    rw [cond_true, hL', bs, lpB]
    show (impl_factorized N (ordV m) rows).bind _ = _
    rw [factorized_eq hM (n := m) (by omega) h2 (by rw [ordV_len]; omega), bs]
    rfl
theorem FactorizeRelation_spec_eq (hM : 1073742848 ≤ N) {n : Int} {rows : List (List Int)} (hx : okII rows) : spec_FactorizeRelation N n rows = some (factRel n rows) := by
  unfold spec_FactorizeRelation factRel
  rw [IsValidRelation_spec_eq (by omega) hx, bs]
  cases hv : validRows n rows with
  | false => rfl
  | true =>
    obtain ⟨h0, h1, h2⟩ := allN_of hv
    obtain ⟨m, rfl⟩ := Int.eq_ofNat_of_zero_le h0
    have hL := orderLoop (L := fun k s => spec_FactorizeRelation_L1 N k (m : Int) rows [] [] s) (n := m) (by omega)
      (fun k xs h => by
        show spec_FactorizeRelation_L1 N (k + 1) (m : Int) rows [] [] xs = _
        rw [spec_FactorizeRelation_L1, dlt h, cond_true, apd_ok' (by decide) (by simp; omega), bs])
      (fun k xs h => by
        show spec_FactorizeRelation_L1 N (k + 1) (m : Int) rows [] [] xs = _
        rw [spec_FactorizeRelation_L1, dge (by omega), cond_false]) N 0 (by omega) (by omega)
    have hL' : spec_FactorizeRelation_L1 N N (m : Int) rows [] [] [] = some (ordV m) := hL
    rw [cond_true, hL', bs, lpB]
    show (spec_l23Of N (m : Int) rows (ordV m)).bind _ = _
    rw [l23Of_eq hM (n := m) (by omega) h2 (by rw [ordV_len]; omega), bs]
    rfl
end
end Go.Proofs.Ytdingjlefilafaa
