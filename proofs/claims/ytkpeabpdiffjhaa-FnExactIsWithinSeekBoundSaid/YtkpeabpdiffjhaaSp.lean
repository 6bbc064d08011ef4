/- A small separation logic over the model: how lists, rows and structs of Go read in memory ('Rep'), what a call owns ('Sat'), and the laws of the walk for them. Program-independent. -/
import Derived.WalkKit
import Derived.ProofKit
import Derived.WalkLawsBesides
import Derived.Outline
import Derived.Lib.Hide
namespace Go.Proofs.Ytkpeabpdiffjhaa
open Go.RowKit

abbrev Ext (w w' : World) : Prop := Below w.heap.size w w'

theorem Ext.refl (w : World) : Ext w w := Below.refl _ _
theorem Ext.trans {a b c : World} (h : Ext a b) (k : Ext b c) : Ext a c := Below.trans h (k.mono h.size)
theorem Below.andExt {B : Nat} {a b c : World} (h : Below B a b) (hB : B ≤ b.heap.size) (k : Ext b c) : Below B a c := Below.trans h (k.mono hB)

/-- w' is w, but for the blocks of fp and for new ones. -/
structure Chg (fp : List Nat) (w w' : World) : Prop where
  os : w'.os = w.os
  tape : w'.tape = w.tape
  output : w'.output = w.output
  size : w.heap.size ≤ w'.heap.size
  block : ∀ k, k < w.heap.size → k ∉ fp → w'.heap[k]? = w.heap[k]?

theorem Chg.of_ext {w w' : World} (h : Ext w w') (fp : List Nat) : Chg fp w w' := ⟨h.os, h.tape, h.output, h.size, fun k hk _ => h.block k hk⟩
theorem Chg.trans {fp : List Nat} {a b c : World} (h : Chg fp a b) (k : Chg fp b c) : Chg fp a c :=
  ⟨k.os.trans h.os, k.tape.trans h.tape, k.output.trans h.output, Nat.le_trans h.size k.size, fun i hi hn => (k.block i (Nat.lt_of_lt_of_le hi h.size) hn).trans (h.block i hi hn)⟩
theorem Chg.mono {fp fp' : List Nat} {a b : World} (h : Chg fp a b) (hs : ∀ x ∈ fp, x ∈ fp') : Chg fp' a b :=
  ⟨h.os, h.tape, h.output, h.size, fun k hk hn => h.block k hk (fun hm => hn (hs k hm))⟩
theorem Chg.ext {a b : World} (h : Chg [] a b) : Ext a b := ⟨h.os, h.tape, h.output, h.size, fun k hk => h.block k hk (by simp)⟩
theorem Chg.refl (fp : List Nat) (w : World) : Chg fp w w := ⟨rfl, rfl, rfl, Nat.le_refl _, fun _ _ _ => rfl⟩
theorem Chg.of_grown {w w' : World} {row : Option Nat} (h : w.grownBy w' row) (fp : List Nat) (hr : ∀ k, row = some k → k ∈ fp) : Chg fp w w' :=
  ⟨h.os, h.tape, h.output, h.size, fun k hk hn => h.block k hk (fun e => hn (hr k e.symm))⟩
theorem Chg.alloc (w : World) (o : Obj) : Chg [] w (w.alloc o) := Chg.of_ext ((Below.refl _ _).alloc (Nat.le_refl _) o) _

theorem below_chg {B : Nat} {a b c : World} {fp : List Nat} (h : Below B a b) (hB : B ≤ b.heap.size) (k : Chg fp b c) (hf : ∀ x ∈ fp, B ≤ x) : Below B a c :=
  ⟨k.os.trans h.os, k.tape.trans h.tape, k.output.trans h.output, Nat.le_trans h.size k.size,
   fun i hi => (k.block i (Nat.lt_of_lt_of_le hi hB) (fun hm => by have := hf i hm; omega)).trans (h.block i hi)⟩

/-- How a Go value of some type reads as a Lean value: in cells of memory. 'rd': it reads so. 'own': it reads so, and lies alone in the blocks of the list. -/
structure Rep (α : Type) where
  sz : Nat
  rd : World → List Value → α → Prop
  own : World → List Value → α → List Nat → Prop
  rd_len : ∀ {w cs x}, rd w cs x → cs.length = sz
  rd_one : ∀ {w cs x}, rd w cs x → ∀ c ∈ cs, c.oneCell' = true
  rd_ext : ∀ {w w' cs x}, rd w cs x → Ext w w' → rd w' cs x
  own_rd : ∀ {w cs x fp}, own w cs x fp → rd w cs x
  own_ext : ∀ {w w' cs x fp}, own w cs x fp → (∀ b ∈ fp, w'.heap[b]? = w.heap[b]?) → own w' cs x fp
  own_lt : ∀ {w cs x fp}, own w cs x fp → ∀ b ∈ fp, b < w.heap.size

def intR : Rep Int where
  sz := 1
  rd _ cs n := cs = [.int .i64 n]
  own _ cs n fp := cs = [.int .i64 n] ∧ fp = []
  rd_len h := by subst h; rfl
  rd_one h := by subst h; simp [Value.oneCell']
  rd_ext h _ := h
  own_rd h := h.1
  own_ext h _ := h
  own_lt h := by rw [h.2]; simp

def strR : Rep ByteArray where
  sz := 1
  rd _ cs s := cs = [.string s] ∧ s.size ≤ 9223372036854775807
  own _ cs s fp := (cs = [.string s] ∧ s.size ≤ 9223372036854775807) ∧ fp = []
  rd_len h := by rw [h.1]; rfl
  rd_one h := by rw [h.1]; simp [Value.oneCell']
  rd_ext h _ := h
  own_rd h := h.1
  own_ext h _ := h
  own_lt h := by rw [h.2]; simp

def pairR {α β : Type} (R : Rep α) (S : Rep β) : Rep (α × β) where
  sz := R.sz + S.sz
  rd w cs x := ∃ c1 c2, cs = c1 ++ c2 ∧ R.rd w c1 x.1 ∧ S.rd w c2 x.2
  own w cs x fp := ∃ c1 c2 f1 f2, cs = c1 ++ c2 ∧ fp = f1 ++ f2 ∧ R.own w c1 x.1 f1 ∧ S.own w c2 x.2 f2
  rd_len h := by obtain ⟨c1, c2, rfl, h1, h2⟩ := h; rw [List.length_append, R.rd_len h1, S.rd_len h2]
  rd_one h := by
    obtain ⟨c1, c2, rfl, h1, h2⟩ := h
    intro c hc
    rcases List.mem_append.1 hc with h | h
    · exact R.rd_one h1 c h
    · exact S.rd_one h2 c h
  rd_ext h he := by obtain ⟨c1, c2, rfl, h1, h2⟩ := h; exact ⟨c1, c2, rfl, R.rd_ext h1 he, S.rd_ext h2 he⟩
  own_rd h := by obtain ⟨c1, c2, f1, f2, rfl, rfl, h1, h2⟩ := h; exact ⟨c1, c2, rfl, R.own_rd h1, S.own_rd h2⟩
  own_ext h he := by
    obtain ⟨c1, c2, f1, f2, rfl, rfl, h1, h2⟩ := h
    exact ⟨c1, c2, f1, f2, rfl, rfl, R.own_ext h1 (fun b hb => he b (List.mem_append_left _ hb)), S.own_ext h2 (fun b hb => he b (List.mem_append_right _ hb))⟩
  own_lt h := by
    obtain ⟨c1, c2, f1, f2, rfl, rfl, h1, h2⟩ := h
    intro b hb
    rcases List.mem_append.1 hb with h | h
    · exact R.own_lt h1 b h
    · exact S.own_lt h2 b h

/-- Cells in a row, from an address on. -/
def rowAt (w : World) (ao : Option Addr) (ccs : List Value) : Prop :=
  ccs = [] ∨ ∃ b off, ao = some ⟨b, off, none⟩ ∧ ∀ j c, ccs[j]? = some c → w.cell? ⟨b, off + j, none⟩ = some c

section
variable {α : Type} (R : Rep α)
def rdL (w : World) : List Value → List α → Prop
  | ccs, [] => ccs = []
  | ccs, x :: xs => ∃ ec rest, ccs = ec ++ rest ∧ R.rd w ec x ∧ rdL w rest xs
def ownL (w : World) : List Value → List α → List Nat → Prop
  | ccs, [], fp => ccs = [] ∧ fp = []
  | ccs, x :: xs, fp => ∃ ec rest f1 f2, ccs = ec ++ rest ∧ fp = f1 ++ f2 ∧ R.own w ec x f1 ∧ ownL w rest xs f2
variable {R}
theorem rdL_len {w : World} : ∀ {xs : List α} {ccs : List Value}, rdL R w ccs xs → ccs.length = xs.length * R.sz
  | [], _, h => by simp only [rdL] at h; subst h; simp
  | x :: xs, _, h => by
    obtain ⟨ec, rest, rfl, h1, h2⟩ := h
    rw [List.length_append, R.rd_len h1, rdL_len h2, List.length_cons, Nat.add_mul, Nat.one_mul, Nat.add_comm]
theorem rdL_one {w : World} : ∀ {xs : List α} {ccs : List Value}, rdL R w ccs xs → ∀ c ∈ ccs, c.oneCell' = true
  | [], _, h => by simp only [rdL] at h; subst h; simp
  | x :: xs, _, h => by
    obtain ⟨ec, rest, rfl, h1, h2⟩ := h
    intro c hc
    rcases List.mem_append.1 hc with h | h
    · exact R.rd_one h1 c h
    · exact rdL_one h2 c h
theorem rdL_ext {w w' : World} (he : Ext w w') : ∀ {xs : List α} {ccs : List Value}, rdL R w ccs xs → rdL R w' ccs xs
  | [], _, h => h
  | x :: xs, _, h => by
    obtain ⟨ec, rest, rfl, h1, h2⟩ := h
    exact ⟨ec, rest, rfl, R.rd_ext h1 he, rdL_ext he h2⟩
theorem ownL_rdL {w : World} : ∀ {xs : List α} {ccs : List Value} {fp : List Nat}, ownL R w ccs xs fp → rdL R w ccs xs
  | [], _, _, h => h.1
  | x :: xs, _, _, h => by
    obtain ⟨ec, rest, f1, f2, rfl, rfl, h1, h2⟩ := h
    exact ⟨ec, rest, rfl, R.own_rd h1, ownL_rdL h2⟩
theorem ownL_ext {w w' : World} : ∀ {xs : List α} {ccs : List Value} {fp : List Nat}, ownL R w ccs xs fp → (∀ b ∈ fp, w'.heap[b]? = w.heap[b]?) → ownL R w' ccs xs fp
  | [], _, _, h, _ => h
  | x :: xs, _, _, h, he => by
    obtain ⟨ec, rest, f1, f2, rfl, rfl, h1, h2⟩ := h
    exact ⟨ec, rest, f1, f2, rfl, rfl, R.own_ext h1 (fun b hb => he b (List.mem_append_left _ hb)), ownL_ext h2 (fun b hb => he b (List.mem_append_right _ hb))⟩
theorem ownL_lt {w : World} : ∀ {xs : List α} {ccs : List Value} {fp : List Nat}, ownL R w ccs xs fp → ∀ b ∈ fp, b < w.heap.size
  | [], _, _, h => by rw [h.2]; simp
  | x :: xs, _, _, h => by
    obtain ⟨ec, rest, f1, f2, rfl, rfl, h1, h2⟩ := h
    intro b hb
    rcases List.mem_append.1 hb with h | h
    · exact R.own_lt h1 b h
    · exact ownL_lt h2 b h
theorem ownL_append {w : World} {ys : List α} {ccs' : List Value} {fp' : List Nat} (h' : ownL R w ccs' ys fp') :
    ∀ {xs : List α} {ccs : List Value} {fp : List Nat}, ownL R w ccs xs fp → ownL R w (ccs ++ ccs') (xs ++ ys) (fp ++ fp')
  | [], _, _, h => by obtain ⟨rfl, rfl⟩ := h; simpa using h'
  | x :: xs, _, _, h => by
    obtain ⟨ec, rest, f1, f2, rfl, rfl, h1, h2⟩ := h
    exact ⟨ec, rest ++ ccs', f1, f2 ++ fp', by simp, by simp, h1, ownL_append h' h2⟩
theorem rdL_append {w : World} {ys : List α} {ccs' : List Value} (h' : rdL R w ccs' ys) :
    ∀ {xs : List α} {ccs : List Value}, rdL R w ccs xs → rdL R w (ccs ++ ccs') (xs ++ ys)
  | [], _, h => by simp only [rdL] at h; subst h; simpa using h'
  | x :: xs, _, h => by
    obtain ⟨ec, rest, rfl, h1, h2⟩ := h
    exact ⟨ec, rest ++ ccs', by simp, h1, rdL_append h' h2⟩
/-- the i-th element of a row -/
theorem rdL_at {w : World} : ∀ {xs : List α} {ccs : List Value}, rdL R w ccs xs → ∀ (i : Nat) (h : i < xs.length),
    ∃ ec, R.rd w ec xs[i] ∧ ∀ j c, ec[j]? = some c → ccs[i * R.sz + j]? = some c
  | [], _, _, i, h => absurd h (by simp)
  | x :: xs, _, hr, i, h => by
    obtain ⟨ec, rest, rfl, h1, h2⟩ := hr
    cases i with
    | zero =>
      refine ⟨ec, h1, fun j c hj => ?_⟩
      have hlt : j < ec.length := (List.getElem?_eq_some_iff.1 hj).1
      rw [Nat.zero_mul, Nat.zero_add, List.getElem?_append_left hlt]
      exact hj
    | succ i =>
      obtain ⟨ec', h3, h4⟩ := rdL_at h2 i (by simpa using h)
      refine ⟨ec', by simpa using h3, fun j c hj => ?_⟩
      have e : (i + 1) * R.sz + j = ec.length + (i * R.sz + j) := by rw [R.rd_len h1, Nat.add_mul]; omega
      rw [e, List.getElem?_append_right (by omega), Nat.add_sub_cancel_left]
      exact h4 j c hj
theorem rdL_split {w : World} : ∀ (k : Nat) {xs : List α} {ccs : List Value}, rdL R w ccs xs → rdL R w (ccs.take (k * R.sz)) (xs.take k) ∧ rdL R w (ccs.drop (k * R.sz)) (xs.drop k)
  | 0, xs, ccs, h => by simp [rdL]; simpa using h
  | k + 1, [], ccs, h => by simp only [rdL] at h; subst h; simp [rdL]
  | k + 1, x :: xs, ccs, h => by
    obtain ⟨ec, rest, rfl, h1, h2⟩ := h
    obtain ⟨i1, i2⟩ := rdL_split k h2
    have e : (k + 1) * R.sz = ec.length + k * R.sz := by rw [R.rd_len h1, Nat.add_mul]; omega
    constructor
    · refine ⟨ec, rest.take (k * R.sz), ?_, h1, i1⟩
      rw [e, List.take_append, List.take_of_length_le (by omega), Nat.add_sub_cancel_left]
    · rw [e, List.drop_append, List.drop_of_length_le (by omega), Nat.add_sub_cancel_left]
      simpa using i2
end

/-- A slice whose elements read by R; E: the element type's number. -/
def sliceR {α : Type} (R : Rep α) (E : TypeId) : Rep (List α) where
  sz := 1
  rd w cs xs := ∃ ao cap ccs, cs = [.slice ao xs.length cap] ∧ xs.length ≤ cap ∧ cap ≤ maxLen ∧ (ao = none → cap = 0) ∧ rdL R w ccs xs ∧ rowAt w ao ccs
  own w cs xs fp := (cs = [.slice none 0 0] ∧ xs = [] ∧ fp = []) ∨
    ∃ g cap cur ccs f2, cs = [.slice (some ⟨g, 0, none⟩) xs.length cap] ∧ w.heap[g]? = some (.cells cur E (0, 0)) ∧ xs.length ≤ cap ∧ cap ≤ maxLen ∧ cur.size = cap * R.sz ∧
      cur.toList.take (xs.length * R.sz) = ccs ∧ ownL R w ccs xs f2 ∧ fp = g :: f2
  rd_len h := by obtain ⟨_, _, _, rfl, _⟩ := h; rfl
  rd_one h := by obtain ⟨_, _, _, rfl, _⟩ := h; simp [Value.oneCell']
  rd_ext h he := by
    obtain ⟨ao, cap, ccs, rfl, h1, h2, h3, h4, h5⟩ := h
    refine ⟨ao, cap, ccs, rfl, h1, h2, h3, rdL_ext he h4, ?_⟩
    rcases h5 with h5 | ⟨b, off, rfl, h5⟩
    · exact .inl h5
    · exact .inr ⟨b, off, rfl, fun j c hj => by have := h5 j c hj; rw [he.cell (block_lt_of_cell this)]; exact this⟩
  own_rd h := by
    rcases h with ⟨rfl, rfl, rfl⟩ | ⟨g, cap, cur, ccs, f2, rfl, hg, h1, h2, h3, h4, h5, rfl⟩
    · exact ⟨none, 0, [], rfl, Nat.le_refl _, Nat.zero_le _, fun _ => rfl, rfl, .inl rfl⟩
    · refine ⟨_, cap, ccs, rfl, h1, h2, by simp, ownL_rdL h5, .inr ⟨g, 0, rfl, fun j c hj => ?_⟩⟩
      rw [Nat.zero_add, cell_of_row _ g j cur E (0, 0) hg, ← Array.getElem?_toList]
      rw [← h4, List.getElem?_take] at hj
      split at hj
      · exact hj
      · cases hj
  own_ext h he := by
    rcases h with h | ⟨g, cap, cur, ccs, f2, rfl, hg, h1, h2, h3, h4, h5, rfl⟩
    · exact .inl h
    · exact .inr ⟨g, cap, cur, ccs, f2, rfl, by rw [he g (by simp)]; exact hg, h1, h2, h3, h4, ownL_ext h5 (fun b hb => he b (by simp [hb])), rfl⟩
  own_lt h := by
    rcases h with ⟨_, _, rfl⟩ | ⟨g, cap, cur, ccs, f2, rfl, hg, h1, h2, h3, h4, h5, rfl⟩
    · simp
    · intro b hb
      rcases List.mem_cons.1 hb with rfl | hb
      · exact (Array.getElem?_eq_some_iff.1 hg).1
      · exact ownL_lt h5 b hb

/-! ### Assertions: what a call owns -/
structure Asn where
  holds : World → List Nat → Prop
  ext : ∀ {w w' fp}, holds w fp → (∀ b ∈ fp, w'.heap[b]? = w.heap[b]?) → holds w' fp
  lt : ∀ {w fp}, holds w fp → ∀ b ∈ fp, b < w.heap.size

def Own {α : Type} (R : Rep α) (cs : List Value) (x : α) : Asn := ⟨fun w fp => R.own w cs x fp, R.own_ext, R.own_lt⟩
/-- Block b is a row of just these cells. -/
def Box (b : Nat) (E : TypeId) (cs : List Value) : Asn where
  holds w fp := fp = [b] ∧ w.heap[b]? = some (.cells cs.toArray E (0, 0))
  ext h he := by obtain ⟨rfl, h⟩ := h; exact ⟨rfl, by rw [he b (by simp)]; exact h⟩
  lt h := by obtain ⟨rfl, h⟩ := h; intro b' hb; simp at hb; subst hb; exact (Array.getElem?_eq_some_iff.1 h).1

def SatL (w : World) : List Asn → List Nat → Prop
  | [], fp => fp = []
  | A :: Γ, fp => ∃ f1 f2, fp = f1 ++ f2 ∧ A.holds w f1 ∧ SatL w Γ f2

/-- From w0 to w: what was there at w0 is as it was; beyond it the assertions hold, each in blocks of its own. -/
structure Sat (w0 w : World) (Γ : List Asn) : Prop where
  below : Below w0.heap.size w0 w
  sat : ∃ fp, SatL w Γ fp ∧ fp.Nodup ∧ ∀ b ∈ fp, w0.heap.size ≤ b

theorem SatL.ext {w w' : World} : ∀ {Γ : List Asn} {fp : List Nat}, SatL w Γ fp → (∀ b ∈ fp, w'.heap[b]? = w.heap[b]?) → SatL w' Γ fp
  | [], _, h, _ => h
  | A :: Γ, _, h, he => by
    obtain ⟨f1, f2, rfl, h1, h2⟩ := h
    exact ⟨f1, f2, rfl, A.ext h1 (fun b hb => he b (List.mem_append_left _ hb)), SatL.ext h2 (fun b hb => he b (List.mem_append_right _ hb))⟩
theorem SatL.lt {w : World} : ∀ {Γ : List Asn} {fp : List Nat}, SatL w Γ fp → ∀ b ∈ fp, b < w.heap.size
  | [], _, h => by simp only [SatL] at h; subst h; simp
  | A :: Γ, _, h => by
    obtain ⟨f1, f2, rfl, h1, h2⟩ := h
    intro b hb
    rcases List.mem_append.1 hb with h | h
    · exact A.lt h1 b h
    · exact SatL.lt h2 b h
theorem SatL.append {w : World} {Δ : List Asn} {g : List Nat} (k : SatL w Δ g) : ∀ {Γ : List Asn} {fp : List Nat}, SatL w Γ fp → SatL w (Γ ++ Δ) (fp ++ g)
  | [], _, h => by simp only [SatL] at h; subst h; simpa using k
  | A :: Γ, _, h => by
    obtain ⟨f1, f2, rfl, h1, h2⟩ := h
    exact ⟨f1, f2 ++ g, by simp, h1, SatL.append k h2⟩
theorem SatL.perm {w : World} {Γ Δ : List Asn} (hp : Γ.Perm Δ) : ∀ {fp : List Nat}, SatL w Γ fp → ∃ fp', fp.Perm fp' ∧ SatL w Δ fp' := by
  induction hp with
  | nil => intro fp h; exact ⟨fp, .refl _, h⟩
  | cons A _ ih =>
    rintro _ ⟨f1, f2, rfl, h1, h2⟩
    obtain ⟨f2', p, h2'⟩ := ih h2
    exact ⟨f1 ++ f2', List.Perm.append_left _ p, f1, f2', rfl, h1, h2'⟩
  | swap A B Γ =>
    rintro _ ⟨f1, _, rfl, h1, f2, f3, rfl, h2, h3⟩
    refine ⟨f2 ++ (f1 ++ f3), ?_, f2, f1 ++ f3, rfl, h2, f1, f3, rfl, h1, h3⟩
    rw [← List.append_assoc, ← List.append_assoc]
    exact List.Perm.append_right _ List.perm_append_comm
  | trans _ _ ih1 ih2 =>
    intro fp h
    obtain ⟨f1, p1, h1⟩ := ih1 h
    obtain ⟨f2, p2, h2⟩ := ih2 h1
    exact ⟨f2, p1.trans p2, h2⟩

theorem Sat.start (w : World) : Sat w w [] := ⟨Below.refl _ _, [], rfl, by simp, by simp⟩
theorem Sat.le {w0 w : World} {Γ : List Asn} (h : Sat w0 w Γ) : w0.heap.size ≤ w.heap.size := h.below.size
/-- a step that makes blocks only -/
theorem Sat.ext {w0 w w' : World} {Γ : List Asn} (h : Sat w0 w Γ) (he : Ext w w') : Sat w0 w' Γ := by
  obtain ⟨hb, fp, h1, h2, h3⟩ := h
  exact ⟨Below.andExt hb hb.size he, fp, h1.ext (fun b hb' => he.block b (h1.lt b hb')), h2, h3⟩
/-- a call that makes blocks only, and what it hands back -/
theorem Sat.call {w0 w w' : World} {Γ Δ : List Asn} (h : Sat w0 w Γ) (k : Sat w w' Δ) : Sat w0 w' (Δ ++ Γ) := by
  obtain ⟨hb, fp, h1, h2, h3⟩ := h
  obtain ⟨kb, fk, k1, k2, k3⟩ := k
  refine ⟨Below.andExt hb hb.size kb, fk ++ fp, SatL.append (h1.ext (fun b hb' => kb.block b (h1.lt b hb'))) k1, ?_, ?_⟩
  · rw [List.nodup_append]
    exact ⟨k2, h2, fun a ha b hb' e => by have := k3 a ha; have := h1.lt b hb'; omega⟩
  · intro b hb'
    rcases List.mem_append.1 hb' with h | h
    · have := k3 b h; have := hb.size; omega
    · exact h3 b h
theorem Sat.call1 {w0 w w' : World} {Γ : List Asn} {A : Asn} (h : Sat w0 w Γ) (k : Sat w w' [A]) : Sat w0 w' (A :: Γ) := h.call k
theorem Sat.call2 {w0 w w' : World} {Γ : List Asn} {A B : Asn} (h : Sat w0 w Γ) (k : Sat w w' [A, B]) : Sat w0 w' (A :: B :: Γ) := h.call k
theorem Sat.call3 {w0 w w' : World} {Γ : List Asn} {A B C : Asn} (h : Sat w0 w Γ) (k : Sat w w' [A, B, C]) : Sat w0 w' (A :: B :: C :: Γ) := h.call k
theorem Sat.call0 {w0 w w' : World} {Γ : List Asn} (h : Sat w0 w Γ) (k : Sat w w' []) : Sat w0 w' Γ := h.call k
theorem Sat.perm {w0 w : World} {Γ Δ : List Asn} (h : Sat w0 w Γ) (hp : Γ.Perm Δ) : Sat w0 w Δ := by
  obtain ⟨hb, fp, h1, h2, h3⟩ := h
  obtain ⟨fp', p, h1'⟩ := SatL.perm hp h1
  exact ⟨hb, fp', h1', p.nodup_iff.1 h2, fun b hb' => h3 b (p.mem_iff.2 hb')⟩
theorem Sat.tail {w0 w : World} {A : Asn} {Γ : List Asn} (h : Sat w0 w (A :: Γ)) : Sat w0 w Γ := by
  obtain ⟨hb, _, ⟨f1, f2, rfl, _, h2⟩, hn, h3⟩ := h
  exact ⟨hb, f2, h2, (List.nodup_append.1 hn).2.1, fun b hb' => h3 b (List.mem_append_right _ hb')⟩
theorem Sat.head {w0 w : World} {A : Asn} {Γ : List Asn} (h : Sat w0 w (A :: Γ)) : ∃ fp, A.holds w fp ∧ fp.Nodup ∧ ∀ b ∈ fp, w0.heap.size ≤ b := by
  obtain ⟨_, _, ⟨f1, f2, rfl, h1, _⟩, hn, h3⟩ := h
  exact ⟨f1, h1, (List.nodup_append.1 hn).1, fun b hb' => h3 b (List.mem_append_left _ hb')⟩
/-- keep the first n -/
theorem Sat.take {w0 w : World} {Γ : List Asn} (h : Sat w0 w Γ) (Δ Θ : List Asn) (hp : Γ.Perm (Δ ++ Θ)) : Sat w0 w Δ := by
  have h' := h.perm (hp.trans List.perm_append_comm)
  clear h hp
  induction Θ with
  | nil => simpa using h'
  | cons A Θ ih => exact ih h'.tail
/-- the head is changed: its blocks are written, or others taken anew -/
theorem Sat.upd {w0 w w' : World} {A B : Asn} {Γ : List Asn} (h : Sat w0 w (A :: Γ))
    (k : ∀ fp, A.holds w fp → fp.Nodup → ∃ fp', B.holds w' fp' ∧ fp'.Nodup ∧ Chg fp w w' ∧ ∀ b ∈ fp', b ∈ fp ∨ w.heap.size ≤ b) : Sat w0 w' (B :: Γ) := by
  obtain ⟨hb, _, ⟨f1, f2, rfl, h1, h2⟩, hn, h3⟩ := h
  obtain ⟨n1, n2, n3⟩ := List.nodup_append.1 hn
  obtain ⟨f1', k1, k2, k3, k4⟩ := k f1 h1 n1
  refine ⟨below_chg hb hb.size k3 (fun x hx => h3 x (List.mem_append_left _ hx)), f1' ++ f2, ⟨f1', f2, rfl, k1, h2.ext (fun b hb' => k3.block b (h2.lt b hb') (fun hm => n3 b hm b hb' rfl))⟩, ?_, ?_⟩
  · rw [List.nodup_append]
    refine ⟨k2, n2, fun a ha b hb' e => ?_⟩
    subst e
    rcases k4 a ha with h | h
    · exact n3 a h a hb' rfl
    · have := h2.lt a hb'; omega
  · intro b hb'
    rcases List.mem_append.1 hb' with h | h
    · rcases k4 b h with h | h
      · exact h3 b (List.mem_append_left _ h)
      · have := hb.size; omega
    · exact h3 b (List.mem_append_right _ h)
/-- the head and the next become one -/
theorem Sat.join {w0 w : World} {A B C : Asn} {Γ : List Asn} (h : Sat w0 w (A :: B :: Γ)) (k : ∀ f g, A.holds w f → B.holds w g → C.holds w (f ++ g)) : Sat w0 w (C :: Γ) := by
  obtain ⟨hb, _, ⟨f1, _, rfl, h1, f2, f3, rfl, h2, h4⟩, hn, h3⟩ := h
  exact ⟨hb, (f1 ++ f2) ++ f3, ⟨f1 ++ f2, f3, rfl, k _ _ h1 h2, h4⟩, by simpa using hn, by simpa using h3⟩
theorem Sat.conv {w0 w : World} {A B : Asn} {Γ : List Asn} (h : Sat w0 w (A :: Γ)) (k : ∀ f, A.holds w f → B.holds w f) : Sat w0 w (B :: Γ) := by
  obtain ⟨hb, _, ⟨f1, f2, rfl, h1, h2⟩, hn, h3⟩ := h
  exact ⟨hb, _, ⟨f1, f2, rfl, k _ h1, h2⟩, hn, h3⟩
/-- what owns nothing -/
theorem Sat.add {w0 w : World} {A : Asn} {Γ : List Asn} (h : Sat w0 w Γ) (k : A.holds w []) : Sat w0 w (A :: Γ) := by
  obtain ⟨hb, fp, h1, h2, h3⟩ := h
  exact ⟨hb, fp, ⟨[], fp, rfl, k, h1⟩, h2, h3⟩
/-- a new block -/
theorem Sat.box {w0 w : World} {Γ : List Asn} (h : Sat w0 w Γ) (E : TypeId) (cs : List Value) : Sat w0 (w.alloc (.cells cs.toArray E)) (Box w.heap.size E cs :: Γ) := by
  have k : Sat w (w.alloc (.cells cs.toArray E)) [Box w.heap.size E cs] :=
    ⟨(Below.refl _ _).alloc (Nat.le_refl _) _, [w.heap.size], ⟨[w.heap.size], [], by simp, ⟨rfl, heap_alloc_new w _⟩, rfl⟩, by simp, by simp⟩
  simpa using h.call k
theorem ext_alloc (w : World) (o : Obj) : Ext w (w.alloc o) := (Below.refl _ _).alloc (Nat.le_refl _) _
theorem Sat.rd {α : Type} {R : Rep α} {w0 w : World} {cs : List Value} {x : α} {Γ : List Asn} (h : Sat w0 w (Own R cs x :: Γ)) : R.rd w cs x := by
  obtain ⟨fp, h, _⟩ := h.head
  exact R.own_rd h

/-! ### Where a part stands among the assertions: found by instances -/
class AtBox (Γ : List Asn) (b : Nat) (E : outParam TypeId) (cs : outParam (List Value)) (rest : outParam (List Asn)) : Prop where
  perm : Γ.Perm (Box b E cs :: rest)
instance (Γ : List Asn) (b : Nat) (E : TypeId) (cs : List Value) : AtBox (Box b E cs :: Γ) b E cs Γ := ⟨.refl _⟩
instance (A : Asn) (Γ : List Asn) (b : Nat) (E : TypeId) (cs : List Value) (rest : List Asn) [h : AtBox Γ b E cs rest] : AtBox (A :: Γ) b E cs (A :: rest) :=
  ⟨(List.Perm.cons A h.perm).trans (.swap _ _ _)⟩
class AtOwn (Γ : List Asn) (v : Value) (α : outParam Type) (R : outParam (Rep α)) (x : outParam α) (rest : outParam (List Asn)) : Prop where
  perm : Γ.Perm (Own R [v] x :: rest)
instance {α : Type} (Γ : List Asn) (v : Value) (R : Rep α) (x : α) : AtOwn (Own R [v] x :: Γ) v α R x Γ := ⟨.refl _⟩
instance {α : Type} (A : Asn) (Γ : List Asn) (v : Value) (R : Rep α) (x : α) (rest : List Asn) [h : AtOwn Γ v α R x rest] : AtOwn (A :: Γ) v α R x (A :: rest) :=
  ⟨(List.Perm.cons A h.perm).trans (.swap _ _ _)⟩
theorem Sat.own {α : Type} {R : Rep α} {w0 w : World} {v : Value} {x : α} {Γ rest : List Asn} (h : Sat w0 w Γ) [k : AtOwn Γ v α R x rest] : Sat w0 w (Own R [v] x :: rest) := h.perm k.perm
theorem Sat.read {α : Type} {R : Rep α} {w0 w : World} {v : Value} {x : α} {Γ rest : List Asn} (h : Sat w0 w Γ) [AtOwn Γ v α R x rest] : R.rd w [v] x := h.own.rd

theorem Sat.keep {w0 w : World} {Γ : List Asn} (n : Nat) (h : Sat w0 w Γ) : Sat w0 w (Γ.take n) := h.take (Γ.take n) (Γ.drop n) (by rw [List.take_append_drop])
theorem Sat.oneCell {α : Type} {R : Rep α} {w0 w : World} {v : Value} {x : α} {Γ rest : List Asn} (h : Sat w0 w Γ) [AtOwn Γ v α R x rest] : v.oneCell' = true := R.rd_one h.read v (List.mem_singleton.2 rfl)
theorem int_cell {w : World} {c : Value} {n : Int} (h : intR.rd w [c] n) : c = .int .i64 n := by simpa [intR] using h
theorem str_cell {w : World} {c : Value} {s : ByteArray} (h : strR.rd w [c] s) : c = .string s ∧ s.size ≤ 9223372036854775807 := by simpa [strR] using h
theorem pair_cells {α β : Type} {R : Rep α} {S : Rep β} {w : World} {cs : List Value} {x : α × β} (h : (pairR R S).rd w cs x) : R.rd w (cs.take R.sz) x.1 ∧ S.rd w (cs.drop R.sz) x.2 := by
  obtain ⟨c1, c2, rfl, h1, h2⟩ := h
  have hl := R.rd_len h1
  rw [← hl, List.take_left' rfl, List.drop_left' rfl]
  exact ⟨h1, h2⟩

/-! ### What is asked of the program's table of types -/
class PlainT (P : Program) (t : TypeId) : Prop where
  h : ∃ d, P.underlying t = some d ∧ (match d with | .struct _ | .array _ _ => False | _ => True)
class AggT (P : Program) (t : TypeId) (n : outParam Nat) : Prop where
  h : ∃ d, P.underlying t = some d ∧ (match d with | .struct _ | .array _ _ => True | _ => False)
  size : (P.info? t).map (·.size) = some n
class SliceT (P : Program) (t : TypeId) (e : outParam TypeId) : Prop where
  h : P.underlying t = some (.slice e)
class ElemT (P : Program) (t : TypeId) (z : outParam (List Value)) (n bytes : outParam Nat) : Prop where
  h : (P.info? t).map (fun i => (i.zero.map fun v => v.cells.toList, i.size, i.bytes)) = some (some z, n, bytes)

/-! ### The laws of the walk -/
section laws
variable {P : Program} {ops : Array Oper} {rest : List Oper} {o : Oper} {a : Act} {Q : Exit → Act → World → Prop} {w w0 : World} {Γ rΓ : List Asn}

theorem wpl_box (hg : o.guard = none) {t : TypeId} {x : Operand} (ho : o.op = .box t x) (cs : List Value) (hx : (a.eval x).cells = cs.toArray) (hS : Sat w0 w Γ)
    (hK : ∀ w' b, Sat w0 w' (Box b t cs :: Γ) → Ext w w' → wpList P ops Q rest (a.put o.dst (.pointer (some ⟨b, 0, none⟩))) w') : wpList P ops Q (o :: rest) a w := by
  refine wpList_plain hg fun K hK' => ?_
  unfold Oper.wp execOp
  simp only [ho, Instr.box, newVar, newRow, hx, Sem.run_bind, Sem.run_pure, run_newObj, Result.andThen_ok, Oper.upon_value]
  exact hK' _ _ (hK _ _ (hS.box t cs) (ext_alloc _ _))

theorem wpl_alloc (hg : o.guard = none) {t : TypeId} (ho : o.op = .alloc t) {cs : List Value} {n bytes : Nat} [hz : ElemT P t cs n bytes] (hS : Sat w0 w Γ)
    (hK : ∀ w' b, Sat w0 w' (Box b t cs :: Γ) → Ext w w' → wpList P ops Q rest (a.put o.dst (.pointer (some ⟨b, 0, none⟩))) w') : wpList P ops Q (o :: rest) a w := by
  refine wpList_plain hg fun K hK' => ?_
  have hz := hz.h
  cases hi : P.info? t with
  | none => simp [hi] at hz
  | some i =>
    cases hzz : i.zero with
    | none => simp [hi, hzz] at hz
    | some z =>
      simp [hi, hzz] at hz
      have hzc : z.cells = cs.toArray := by rw [← hz.1]
      unfold Oper.wp execOp
      simp only [ho, Instr.alloc, zeroValue, typeInfo, hi, hzz, newVar, newRow, hzc, Sem.run_bind, Sem.run_pure, run_newObj, run_program, Result.andThen_ok, Oper.upon_value]
      exact hK' _ _ (hK _ _ (hS.box t cs) (ext_alloc _ _))

theorem run_loadVar_plain {t : TypeId} [hT : PlainT P t] {ad : Addr} {c : Value} (hc : w.cell? ad = some c) : (loadVar t ad).run P w = .ok c w := by
  obtain ⟨d, hd, hk⟩ := hT.h
  have hagg : (isAgg t).run P w = .ok false w := by
    unfold isAgg
    rw [Sem.run_bind, run_underlying hd w]
    cases d <;> simp_all
  simp [loadVar, Sem.run_bind, hagg, hc]

theorem run_loadVar_agg {t : TypeId} {n : Nat} [hT : AggT P t n] {b off : Nat} {cs : List Value} (hn : cs.length = n) (hc : ∀ j c, cs[j]? = some c → w.cell? ⟨b, off + j, none⟩ = some c) :
    (loadVar t ⟨b, off, none⟩).run P w = .ok (.agg cs.toArray) w := by
  obtain ⟨d, hd, hk⟩ := hT.h
  have hagg : (isAgg t).run P w = .ok true w := by
    unfold isAgg
    rw [Sem.run_bind, run_underlying hd w]
    cases d <;> simp_all
  have hs := hT.size
  cases hi : P.info? t with
  | none => simp [hi] at hs
  | some i =>
    simp [hi] at hs
    have hl := run_loadCells_list (P := P) w ⟨b, off, none⟩ cs (fun j c hj => by rw [Addr.add_lit]; exact hc j c hj)
    rw [hn, ← hs] at hl
    simp [loadVar, Sem.run_bind, hagg, sizeOf, typeInfo, hi, hl]

/-- a load of one cell, its fact at hand -/
theorem wpl_loadc (hg : o.guard = none) {t : TypeId} {x : Operand} (ho : o.op = .load t x) [PlainT P t] {ad : Addr} (hx : a.eval x = .pointer (some ad)) {c : Value} (hc : w.cell? ad = some c)
    (hK : wpList P ops Q rest (a.put o.dst c) w) : wpList P ops Q (o :: rest) a w := by
  refine wpList_plain hg fun K hK' => ?_
  unfold Oper.wp execOp
  simp only [ho, hx, Instr.loadAt, Instr.sureAddr, Sem.run_bind, Sem.run_pure, Result.andThen_ok, run_loadVar_plain hc, Oper.upon_value]
  exact hK' _ _ hK

/-- a load of a struct, its cells' facts at hand -/
theorem wpl_loada (hg : o.guard = none) {t : TypeId} {x : Operand} (ho : o.op = .load t x) {n : Nat} [AggT P t n] {b off : Nat} (hx : a.eval x = .pointer (some ⟨b, off, none⟩)) {cs : List Value} (hn : cs.length = n)
    (hc : ∀ j c, cs[j]? = some c → w.cell? ⟨b, off + j, none⟩ = some c)
    (hK : wpList P ops Q rest (a.put o.dst (.agg cs.toArray)) w) : wpList P ops Q (o :: rest) a w := by
  refine wpList_plain hg fun K hK' => ?_
  unfold Oper.wp execOp
  simp only [ho, hx, Instr.loadAt, Instr.sureAddr, Sem.run_bind, Sem.run_pure, Result.andThen_ok, run_loadVar_agg hn hc, Oper.upon_value]
  exact hK' _ _ hK

theorem Sat.boxCell {b : Nat} {E : TypeId} {cs : List Value} (hS : Sat w0 w Γ) [k : AtBox Γ b E cs rΓ] : ∀ j c, cs[j]? = some c → w.cell? ⟨b, j, none⟩ = some c := by
  obtain ⟨fp, ⟨_, hh⟩, _⟩ := (hS.perm k.perm).head
  intro j c hj
  rw [cell_of_row w b j _ E (0, 0) hh]
  simpa using hj

/-- a load of one cell out of a box -/
theorem wpl_load1 (hg : o.guard = none) {t : TypeId} {x : Operand} (ho : o.op = .load t x) [PlainT P t] (hS : Sat w0 w Γ) {b j : Nat} (hx : a.eval x = .pointer (some ⟨b, j, none⟩))
    {E : TypeId} {cs : List Value} [AtBox Γ b E cs rΓ] {c : Value} (hj : cs[j]? = some c)
    (hK : wpList P ops Q rest (a.put o.dst c) w) : wpList P ops Q (o :: rest) a w :=
  wpl_loadc hg ho hx (hS.boxCell j c hj) hK
/-- a load of a struct out of a box -/
theorem wpl_loadn (hg : o.guard = none) {t : TypeId} {x : Operand} (ho : o.op = .load t x) {n : Nat} [AggT P t n] (hS : Sat w0 w Γ) {b j : Nat} (hx : a.eval x = .pointer (some ⟨b, j, none⟩))
    {E : TypeId} {cs : List Value} [AtBox Γ b E cs rΓ] {cs' : List Value} (hj : (cs.drop j).take n = cs') (hn : cs'.length = n)
    (hK : wpList P ops Q rest (a.put o.dst (.agg cs'.toArray)) w) : wpList P ops Q (o :: rest) a w := by
  refine wpl_loada hg ho hx hn (fun i c hi => hS.boxCell (j + i) c ?_) hK
  rw [← hj, List.getElem?_take] at hi
  split at hi
  · rw [List.getElem?_drop] at hi; exact hi
  · cases hi

theorem run_storeCells_box {b : Nat} {E : TypeId} : ∀ (vs : List Value) (off i : Nat) (cur : List Value) (w : World), w.heap[b]? = some (.cells cur.toArray E (0, 0)) → off + i + vs.length ≤ cur.length → (∀ v ∈ vs, v.oneCell' = true) →
    ∃ w', (storeCells ⟨b, off, none⟩ vs i).run P w = .ok () w' ∧ w'.heap[b]? = some (.cells (cur.take (off + i) ++ vs ++ cur.drop (off + i + vs.length)).toArray E (0, 0)) ∧ Chg [b] w w'
  | [], off, i, cur, w, hb, _, _ => by
    refine ⟨w, rfl, ?_, Chg.refl _ _⟩
    rw [hb]; simp
  | v :: vs, off, i, cur, w, hb, hl, h1 => by
    simp only [List.length_cons] at hl
    have hi : off + i < cur.length := by omega
    have hcell : w.cell? ⟨b, off + i, none⟩ = some cur[off + i] := by rw [cell_of_row w b _ _ E (0, 0) hb]; simp [hi]
    have hfro : w.frozen? ⟨b, off + i, none⟩ = false := frozen_of_row w b _ _ E hb
    have hst : (store ((⟨b, off, none⟩ : Addr).add i) v).run P w = .ok () (w.setCell ⟨b, off + i, none⟩ v) := by
      rw [Addr.add_lit, run_store P w _ v _ (h1 v (by simp)), hcell]
      simp [hfro]
    have hb' : (w.setCell ⟨b, off + i, none⟩ v).heap[b]? = some (.cells ((cur.set (off + i) v).toArray) E (0, 0)) := by
      rw [heap_setCell_same w b (off + i) _ E v hb]; simp
    obtain ⟨w', h2, h3, h4⟩ := run_storeCells_box vs off (i + 1) (cur.set (off + i) v) _ hb' (by simp; omega) (fun x hx => h1 x (by simp [hx]))
    refine ⟨w', ?_, ?_, ?_⟩
    · simp only [storeCells, Sem.run_bind, hst, Result.andThen_ok]; exact h2
    · rw [h3]
      congr 3
      have e1 : (cur.set (off + i) v).take (off + (i + 1)) = cur.take (off + i) ++ [v] := by
        rw [show off + (i + 1) = (off + i) + 1 by omega, List.take_set, List.take_succ_eq_append_getElem hi, List.set_append_right _ _ (by simp; omega)]
        simp [show min (off + i) cur.length = off + i by omega]
      have e2 : (cur.set (off + i) v).drop (off + (i + 1) + vs.length) = cur.drop (off + i + (v :: vs).length) := by
        rw [List.drop_set_of_lt (by omega)]
        congr 1
        simp only [List.length_cons]; omega
      rw [e1, e2]; simp
    · exact Chg.trans (show Chg [b] w (w.setCell ⟨b, off + i, none⟩ v) from ⟨rfl, rfl, rfl, by simp, fun k _ hk => Below.heap_setCell _ _ _ _ (by simpa using hk)⟩) h4

theorem wpl_storev {t : TypeId} {x y : Operand} (hg : o.guard = none) (ho : o.op = .store t x y) {z : List Value} {n bytes : Nat} [hz : ElemT P t z n bytes] (hS : Sat w0 w Γ) {b j : Nat} (hx : a.eval x = .pointer (some ⟨b, j, none⟩))
    {E : TypeId} {cs : List Value} [k : AtBox Γ b E cs rΓ] (vs : List Value) (hy : (a.eval y).cells = vs.toArray) (hn : vs.length = n) (hl : j + n ≤ cs.length) (h1 : vs.all (·.oneCell') = true)
    (hK : ∀ w', Sat w0 w' (Box b E (cs.take j ++ vs ++ cs.drop (j + n)) :: rΓ) → wpList P ops Q rest (a.put o.dst undef) w') : wpList P ops Q (o :: rest) a w := by
  refine wpList_plain hg fun K hK' => ?_
  have hz := hz.h
  cases hi : P.info? t with
  | none => simp [hi] at hz
  | some i =>
    simp [hi] at hz
    obtain ⟨fp, ⟨_, hh⟩, _⟩ := (hS.perm k.perm).head
    obtain ⟨w', hr, hh', hc⟩ := run_storeCells_box (P := P) vs j 0 cs w hh (by omega) (by simpa using h1)
    have hsz : ¬ (vs.toArray.size ≠ i.size) := by simp; omega
    unfold Oper.wp execOp
    simp only [ho, hx, Instr.storeAt, Instr.sureAddr, storeVar, sizeOf, typeInfo, hi, hy, Sem.run_bind, Sem.run_pure, run_program, Result.andThen_ok, hsz, if_false, Sem.run_ite, List.toList_toArray, hr, Oper.upon_skip]
    refine hK' _ _ (hK w' ?_)
    refine Sat.upd (hS.perm k.perm) fun fp hfp hnd => ?_
    obtain ⟨rfl, _⟩ := hfp
    refine ⟨[b], ⟨rfl, ?_⟩, by simp, hc, fun x hx => .inl hx⟩
    rw [hh']
    simp [hn]
theorem cells_one {v : Value} (h : v.oneCell' = true) : v.cells = [v].toArray := by cases v <;> first | rfl | simp [Value.oneCell'] at h
/-- one cell stored into a box -/
theorem wpl_store1 {t : TypeId} {x y : Operand} (hg : o.guard = none) (ho : o.op = .store t x y) {z : List Value} {bytes : Nat} [hz : ElemT P t z 1 bytes] (hS : Sat w0 w Γ) {b j : Nat} (hx : a.eval x = .pointer (some ⟨b, j, none⟩))
    {E : TypeId} {cs : List Value} [k : AtBox Γ b E cs rΓ] (v : Value) (hy : a.eval y = v) (h1 : v.oneCell' = true) (hl : j < cs.length)
    (hK : ∀ w', Sat w0 w' (Box b E (cs.set j v) :: rΓ) → wpList P ops Q rest (a.put o.dst undef) w') : wpList P ops Q (o :: rest) a w := by
  refine wpl_storev hg ho hS hx [v] (by rw [hy]; exact cells_one h1) rfl (by simp; omega) (by simp [h1]) fun w' hS' => hK w' ?_
  rw [List.set_eq_take_append_cons_drop, if_pos hl]
  simpa using hS'
end laws

section laws2
variable {P : Program} {ops : Array Oper} {rest : List Oper} {o : Oper} {a : Act} {Q : Exit → Act → World → Prop} {w w0 wA : World} {Γ rΓ : List Asn} {α : Type} {R : Rep α} {E : TypeId}

theorem sliceR_shape {w : World} {v : Value} {xs : List α} (h : (sliceR R E).rd w [v] xs) : ∃ ao cap, v = .slice ao xs.length cap := by
  obtain ⟨ao, cap, ccs, hv, _⟩ := h
  exact ⟨ao, cap, by simpa using hv⟩

theorem wpl_len (hg : o.guard = none) {t : TypeId} {x : Operand} (ho : o.op = .call { callee := .builtin .len, args := #[x], argTypes := #[t] }) {e : TypeId} [ht : SliceT P t e]
    {v : Value} (hx : a.eval x = v) {xs : List α} (hr : (sliceR R E).rd wA [v] xs)
    (hK : wpList P ops Q rest (a.put o.dst (.int .i64 xs.length)) w) : wpList P ops Q (o :: rest) a w := by
  refine wpList_plain hg fun K hK' => ?_
  obtain ⟨ao, cap, rfl⟩ := sliceR_shape hr
  unfold Oper.wp execOp
  simp [ho, resolve, invoke, builtin, hx, Builtin.len_, run_underlying ht.h, goInt]
  exact hK' _ _ hK

/-- 'xs[k]': the address of an element, and what lies there -/
theorem wpl_index (hg : o.guard = none) {t : TypeId} {s i : Operand} (ho : o.op = .indexAddr t s i) {e : TypeId} [ht : SliceT P t e] {z : List Value} {n bytes : Nat} [hz : ElemT P e z n bytes]
    {v : Value} (hs : a.eval s = v) {xs : List α} (hr : (sliceR R E).rd wA [v] xs) (hB : Ext wA w) (hn : R.sz = n) (hpos : 0 < n) {I : Int} (hi : a.eval i = .int .i64 I) (k : Nat) (hI : I = (k : Int)) (hk : k < xs.length)
    (hK : ∀ b off ec, R.rd wA ec xs[k] → (∀ j c, ec[j]? = some c → w.cell? ⟨b, off + j, none⟩ = some c) → wpList P ops Q rest (a.put o.dst (.pointer (some ⟨b, off, none⟩))) w) : wpList P ops Q (o :: rest) a w := by
  obtain ⟨ao, cap, ccs, hv, h1, h2, h3, h4, h5⟩ := hr
  obtain rfl : v = .slice ao xs.length cap := by simpa using hv
  subst hI
  obtain ⟨ec, hec, hcc⟩ := rdL_at h4 k hk
  have hz := hz.h
  have hlen := rdL_len h4
  cases hq : P.info? e with
  | none => simp [hq] at hz
  | some inf =>
    simp [hq] at hz
    obtain ⟨b, off, rfl, hc⟩ : ∃ b off, ao = some ⟨b, off, none⟩ ∧ ∀ j c, ccs[j]? = some c → w.cell? ⟨b, off + j, none⟩ = some c := by
      rcases h5 with rfl | ⟨b, off, rfl, hc⟩
      · by_cases hz0 : R.sz = 0
        · omega
        · have : 0 < xs.length * R.sz := Nat.mul_pos (by omega) (by omega)
          simp at hlen
          omega
      · exact ⟨b, off, rfl, fun j c hj => by have := hc j c hj; rw [hB.cell (block_lt_of_cell this)]; exact this⟩
    refine wpList_plain hg fun K hK' => ?_
    unfold Oper.wp execOp
    simp [ho, hs, hi, Instr.indexAt, asIntOf, run_underlying ht.h, sizeOf, typeInfo, hq, hk, Addr.add_lit]
    refine hK' _ _ ?_
    have hsz : inf.size = R.sz := by rw [hn]; exact hz.2.1
    rw [hsz]
    exact hK b (off + k * R.sz) ec hec fun j c hj => by rw [Nat.add_assoc]; exact hc _ _ (hcc j c hj)

/-- elements that lie alone, before they are appended -/
def OwnL (R : Rep α) (ccs : List Value) (ys : List α) : Asn := ⟨fun w fp => ownL R w ccs ys fp, fun h he => ownL_ext h he, fun h => ownL_lt h⟩
def Both (A B : Asn) : Asn where
  holds w fp := ∃ f g, fp = f ++ g ∧ A.holds w f ∧ B.holds w g
  ext h he := by
    obtain ⟨f, g, rfl, h1, h2⟩ := h
    exact ⟨f, g, rfl, A.ext h1 (fun b hb => he b (List.mem_append_left _ hb)), B.ext h2 (fun b hb => he b (List.mem_append_right _ hb))⟩
  lt h := by
    obtain ⟨f, g, rfl, h1, h2⟩ := h
    intro b hb
    rcases List.mem_append.1 hb with h | h
    · exact A.lt h1 b h
    · exact B.lt h2 b h

theorem zeroCells_size (z : Value) (k : Nat) : (Builtin.zeroCells z.cells k).size = k * z.cells.size := size_zeroCells _ _

theorem own_new {w : World} {cur : Array Value} {xs : List α} {ccs : List Value} {f : List Nat} {cap : Nat} (h : ownL R w ccs xs f) (hcap : xs.length ≤ cap) (hm : cap ≤ maxLen) (hs : cur.size = cap * R.sz)
    (ht : cur.toList.take ccs.length = ccs) : (sliceR R E).own (w.drew.alloc (.cells cur E)) [.slice (some ⟨w.heap.size, 0, none⟩) xs.length cap] xs (w.heap.size :: f) := by
  refine .inr ⟨w.heap.size, cap, cur, ccs, f, rfl, heap_alloc_new w.drew _, hcap, hm, hs, by rw [← rdL_len (ownL_rdL h)]; exact ht, ownL_ext h (fun b hb => ?_), rfl⟩
  exact Below.heap_alloc w.drew _ b (ownL_lt h b hb)

theorem run_append_sp {t ty : TypeId} [ht : SliceT P t E] {z : List Value} {n bytes : Nat} [hz : ElemT P E z n bytes] (hn : R.sz = n) (hpos : 0 < n) (hzl : z.length = n) (hb0 : 0 < bytes)
    {v : Value} {xs : List α} {f : List Nat} (hv : (sliceR R E).own w [v] xs f) {ccs : List Value} {ys : List α} {fy : List Nat} (hy : ownL R w ccs ys fy) (hnd : (fy ++ f).Nodup)
    {ao : Option Addr} {c : Nat} (hnone : ao = none → c = 0) (hrow : rowAt w ao ccs) (hby : (xs.length + ys.length) * bytes ≤ 140737488355328) :
    ∃ v' w' f', (Builtin.append_ #[t, t] ty #[v, .slice ao ys.length c]).run P w = .ok v' w' ∧ (sliceR R E).own w' [v'] (xs ++ ys) f' ∧ f'.Nodup ∧ Chg (fy ++ f) w w' ∧ ∀ b ∈ f', b ∈ fy ++ f ∨ w.heap.size ≤ b := by
  have hz := hz.h
  have hmax : xs.length + ys.length ≤ 140737488355328 := Nat.le_trans (Nat.le_mul_of_pos_right _ hb0) hby
  have hyl : ccs.length = ys.length * R.sz := rdL_len (ownL_rdL hy)
  have hy1 : ∀ u ∈ ccs, u.oneCell' = true := rdL_one (ownL_rdL hy)
  cases hi : P.info? E with
  | none => simp [hi] at hz
  | some i =>
  cases hzz : i.zero with
  | none => simp [hi, hzz] at hz
  | some zv =>
  simp [hi, hzz] at hz
  obtain ⟨hz1, hz2, hz3⟩ := hz
  have hzs : zv.cells.size = R.sz := by rw [← Array.length_toList, hz1, hzl, hn]
  have hsz : i.size = R.sz := by omega
  have hdrew : Chg (fy ++ f) w w.drew := ⟨rfl, rfl, rfl, Nat.le_refl _, fun _ _ _ => rfl⟩
  have hgrow : ∀ cur : Array Value, Chg (fy ++ f) w (w.drew.alloc (.cells cur E)) := fun cur => hdrew.trans ((Chg.alloc w.drew _).mono (by simp))
  have hlt : ∀ b ∈ fy ++ f, b < w.heap.size := fun b hb => by
    rcases List.mem_append.1 hb with h | h
    · exact ownL_lt hy b h
    · exact (sliceR R E).own_lt hv b h
  obtain ⟨nd1, nd2, nd3⟩ := List.nodup_append.1 hnd
  -- nothing is appended
  by_cases hy0 : ys = []
  · subst hy0
    have hccs : ccs = [] := by simp only [ownL] at hy; exact hy.1
    have hfy : fy = [] := by simp only [ownL] at hy; exact hy.2
    subst hccs; subst hfy
    refine ⟨v, w, f, ?_, by simpa using hv, by simpa using hnd, Chg.refl _ _, fun b hb => .inl (by simpa using hb)⟩
    rcases hv with ⟨hv, rfl, rfl⟩ | ⟨g, cap, cur, cs, f2, hv, hg, h1, h2, h3, h4, h5, rfl⟩
    · obtain rfl : v = .slice none 0 0 := by simpa using hv
      cases ao <;> simp [Builtin.append_, run_underlying ht.h, sizeOf, typeInfo, hi, Builtin.lenOf, Builtin.firstCells, loadCells, loadCellsFrom]
    · obtain rfl : v = .slice (some ⟨g, 0, none⟩) xs.length cap := by simpa using hv
      cases ao <;> simp [Builtin.append_, run_underlying ht.h, sizeOf, typeInfo, hi, Builtin.lenOf, Builtin.firstCells, loadCells, loadCellsFrom, h1, storeCells]
  have hyp : 0 < ys.length := List.length_pos_iff.2 hy0
  obtain ⟨b, off, rfl, hcell⟩ : ∃ b off, ao = some ⟨b, off, none⟩ ∧ ∀ j c, ccs[j]? = some c → w.cell? ⟨b, off + j, none⟩ = some c := by
    rcases hrow with rfl | h
    · exfalso
      have : 0 < ys.length * R.sz := Nat.mul_pos hyp (by omega)
      simp at hyl; omega
    · exact h
  have hnews : ∀ j u, ccs[j]? = some u → w.cell? ((⟨b, off, none⟩ : Addr).add j) = some u := fun j u hj => by rw [Addr.add_lit]; exact hcell j u hj
  rcases hv with ⟨hv, rfl, rfl⟩ | ⟨g, cap, cur, cs, f2, hv, hg, h1, h2, h3, h4, h5, rfl⟩
  · obtain rfl : v = .slice none 0 0 := by simpa using hv
    simp only [List.length_nil, Nat.zero_add] at hby hmax
    have hr := run_append_nil (P := P) w t ty E i zv ht.h hi hzz ⟨b, off, none⟩ ys.length c ccs (by rw [hyl, hsz]) hnews hyp (by omega) (by rw [hz3]; omega)
    refine ⟨_, _, w.heap.size :: fy, hr, ?_, ?_, hgrow _, ?_⟩
    · have hge := grownCap_ge w ys.length 0 E
      rw [List.nil_append]
      refine own_new hy hge (grownCap_le_maxLen w ys.length 0 E (by unfold maxLen; omega)) ?_ ?_
      · rw [Array.size_append, zeroCells_size, hzs, List.size_toArray, hyl, ← Nat.add_mul]
        congr 1; omega
      · rw [Array.toList_append, List.toList_toArray, List.take_left']
        rfl
    · refine List.nodup_cons.2 ⟨fun hm => ?_, nd1⟩
      have := hlt _ (List.mem_append_left _ hm); omega
    · intro x hx
      rcases List.mem_cons.1 hx with rfl | hx
      · exact .inr (Nat.le_refl _)
      · exact .inl (List.mem_append_left _ hx)
  · obtain rfl : v = .slice (some ⟨g, 0, none⟩) xs.length cap := by simpa using hv
    have hcl : cs.length = xs.length * R.sz := rdL_len (ownL_rdL h5)
    have hfit : xs.length * R.sz ≤ cur.size := by rw [h3]; exact Nat.mul_le_mul_right _ h1
    obtain ⟨ng, nf2⟩ := List.nodup_cons.1 nd2
    by_cases hroom : xs.length + ys.length ≤ cap
    · have hfit2 : xs.length * i.size + ccs.length ≤ cur.size := by rw [hsz, hyl, h3, ← Nat.add_mul]; exact Nat.mul_le_mul_right _ hroom
      have hr := run_append_room (P := P) w t ty E i ht.h hi g xs.length cap cur hg ⟨b, off, none⟩ ys.length c ccs (by rw [hyl, hsz]) hnews hy1 hroom hfit2
      have hoth : ∀ k, k ≠ g → (w.setRow g (cur.toList.take (xs.length * i.size) ++ ccs ++ cur.toList.drop (xs.length * i.size + ccs.length)).toArray).heap[k]? = w.heap[k]? := fun k hk => setRow_other w g k _ hk
      refine ⟨_, _, g :: (f2 ++ fy), hr, ?_, ?_, ⟨rfl, rfl, rfl, by simp, fun k _ hk => hoth k (fun e => hk (by simp [e]))⟩, ?_⟩
      · rw [show xs.length + ys.length = (xs ++ ys).length by simp]
        refine .inr ⟨g, cap, _, cs ++ ccs, f2 ++ fy, rfl, setRow_heap w g cur _ E _ hg, by simpa using hroom, h2, ?_, ?_, ?_, rfl⟩
        · simp only [List.size_toArray, List.length_append, List.length_take, List.length_drop, Array.length_toList]
          rw [hsz] at hfit2 ⊢
          omega
        · rw [hsz, h4, List.length_append, Nat.add_mul, ← hcl, ← hyl, ← List.length_append]
          exact List.take_left' rfl
        · refine ownL_append (ownL_ext hy fun x hx => hoth x fun e => ?_) (ownL_ext h5 fun x hx => hoth x fun e => ?_)
          · subst e; exact nd3 x hx x (by simp) rfl
          · subst e; exact ng hx
      · refine List.nodup_cons.2 ⟨fun hm => ?_, List.nodup_append.2 ⟨nf2, nd1, fun a ha b hb e => nd3 b hb a (by simp [ha]) e.symm⟩⟩
        rcases List.mem_append.1 hm with h | h
        · exact ng h
        · exact nd3 g h g (by simp) rfl
      · intro x hx
        refine .inl ?_
        simp only [List.mem_cons, List.mem_append] at hx ⊢
        rcases hx with h | h | h <;> simp [h]
    · have hcells : ∀ j u, cs[j]? = some u → w.cell? ((⟨g, 0, none⟩ : Addr).add j) = some u := fun j u hj => by
        rw [Addr.add_lit, Nat.zero_add, cell_of_row w g j cur E (0, 0) hg, ← Array.getElem?_toList]
        rw [← h4, List.getElem?_take] at hj
        split at hj
        · exact hj
        · cases hj
      have hr := run_append_grow (P := P) w t ty E i zv ht.h hi hzz ⟨g, 0, none⟩ xs.length cap cs (by rw [hcl, hsz]) hcells ⟨b, off, none⟩ ys.length c ccs (by rw [hyl, hsz]) hnews (by omega) (by omega) (growslice_fits (by omega) (by rw [hz3]; exact hby))
      refine ⟨_, _, w.heap.size :: (f2 ++ fy), hr, ?_, ?_, hgrow _, ?_⟩
      · have hge := grownCap_ge w (xs.length + ys.length) cap E
        rw [show (xs.length + ys.length : Nat) = (xs ++ ys).length by simp] at hge ⊢
        refine own_new (ownL_append hy h5) hge (grownCap_le_maxLen w _ cap E (by unfold maxLen; simp; omega)) ?_ ?_
        · rw [Array.size_append, Array.size_append, zeroCells_size, hzs, List.size_toArray, List.size_toArray, hyl, hcl, ← Nat.add_mul, ← Nat.add_mul]
          congr 1; simp at hge ⊢; omega
        · rw [Array.toList_append, Array.toList_append, List.toList_toArray, List.toList_toArray, List.take_left']
          rfl
      · refine List.nodup_cons.2 ⟨fun hm => ?_, List.nodup_append.2 ⟨nf2, nd1, fun a ha b hb e => nd3 b hb a (by simp [ha]) e.symm⟩⟩
        have := hlt w.heap.size (by
          rcases List.mem_append.1 hm with h | h
          · exact List.mem_append_right _ (by simp [h])
          · exact List.mem_append_left _ h)
        omega
      · intro x hx
        simp only [List.mem_cons, List.mem_append] at hx ⊢
        rcases hx with h | h | h
        · exact .inr (by omega)
        · exact .inl (by simp [h])
        · exact .inl (by simp [h])

theorem wpl_append (hg : o.guard = none) {t : TypeId} {s x : Operand} (ho : o.op = .call { callee := .builtin .append, args := #[s, x], argTypes := #[t, t] })
    [SliceT P t E] {z : List Value} {n bytes : Nat} [ElemT P E z n bytes] (hn : R.sz = n) (hpos : 0 < n) (hzl : z.length = n) (hb0 : 0 < bytes)
    {v : Value} {xs : List α} {ccs : List Value} {ys : List α} (hS : Sat w0 w (OwnL R ccs ys :: Own (sliceR R E) [v] xs :: Γ)) (hs : a.eval s = v)
    {ao : Option Addr} {m c : Nat} (hx : a.eval x = .slice ao m c) (hm : m = ys.length) (hnone : ao = none → c = 0) (hrow : rowAt w ao ccs) (hby : (xs.length + ys.length) * bytes ≤ 140737488355328)
    (hK : ∀ v' w', Sat w0 w' (Own (sliceR R E) [v'] (xs ++ ys) :: Γ) → wpList P ops Q rest (a.put o.dst v') w') : wpList P ops Q (o :: rest) a w := by
  subst hm
  refine wpList_plain hg fun K hK' => ?_
  have hS' : Sat w0 w (Both (OwnL R ccs ys) (Own (sliceR R E) [v] xs) :: Γ) := hS.join fun f g h1 h2 => ⟨f, g, rfl, h1, h2⟩
  obtain ⟨fp, ⟨fy, f, rfl, hy, hv⟩, hnd, _⟩ := hS'.head
  obtain ⟨v', w', f', hr, k1, k2, k3, k4⟩ := run_append_sp (P := P) (t := t) (ty := o.type) hn hpos hzl hb0 hv hy hnd hnone hrow hby
  unfold Oper.wp execOp
  simp only [ho, resolve, invoke, builtin, Sem.run_bind, Sem.run_pure, Result.andThen_ok, List.map_toArray, List.map_cons, List.map_nil, hs, hx, hr, Oper.upon_value]
  refine hK' _ _ (hK v' w' ?_)
  have hex : ∀ fp, (Both (OwnL R ccs ys) (Own (sliceR R E) [v] xs)).holds w fp → fp.Nodup → ∃ fp', (Own (sliceR R E) [v'] (xs ++ ys)).holds w' fp' ∧ fp'.Nodup ∧ Chg fp w w' ∧ ∀ b ∈ fp', b ∈ fp ∨ w.heap.size ≤ b := by
    rintro _ ⟨gy, g, rfl, hy2, hv2⟩ hnd2
    obtain ⟨v2, w2, f2, hr2, l1, l2, l3, l4⟩ := run_append_sp (P := P) (t := t) (ty := o.type) hn hpos hzl hb0 hv2 hy2 hnd2 hnone hrow hby
    rw [hr] at hr2
    obtain ⟨rfl, rfl⟩ : v' = v2 ∧ w' = w2 := by simpa using hr2
    exact ⟨f2, l1, l2, l3, l4⟩
  exact hS'.upd hex

theorem madeCells_rep (z : Array Value) (h : 0 < z.size) : ∀ k, (madeCells z (k * z.size)).toList = (List.replicate k z.toList).flatten
  | 0 => by simp [madeCells]
  | k + 1 => by
    have ih := madeCells_rep z h k
    rw [List.replicate_succ', List.flatten_append, ← ih]
    unfold madeCells
    rw [Nat.add_mul, Nat.one_mul]
    simp only [Array.toList_map, Array.toList_range, List.range_add, List.map_append, List.map_map, List.flatten_cons, List.flatten_nil, List.append_nil]
    congr 1
    apply List.ext_getElem
    · simp
    · intro j h1 h2
      have hj : j < z.size := by simpa using h1
      simp only [List.getElem_map, List.getElem_range, Function.comp]
      rw [Nat.mul_add_mod_self_right, Nat.mod_eq_of_lt hj]
      simp [hj]
/-- 'make([]T, n)', each element the zero value -/
theorem wpl_make (hg : o.guard = none) {t : TypeId} {l c : Operand} (ho : o.op = .makeSlice t l c) [ht : SliceT P t E] {z : List Value} {n bytes : Nat} [hz : ElemT P E z n bytes] (hn : R.sz = n) (hpos : 0 < n) (hzl : z.length = n)
    {x0 : α} (hx0 : ∀ w, R.own w z x0 []) {L C : Int} (hl : a.eval l = .int .i64 L) (hc : a.eval c = .int .i64 C) (k : Nat) (hL : L = (k : Int)) (hC : C = (k : Int)) (hby : k * bytes ≤ 281474976710656) (hk : k ≤ 140737488355328) (hS : Sat w0 w Γ)
    (hK : ∀ w' g, Sat w0 w' (Own (sliceR R E) [.slice (some ⟨g, 0, none⟩) k k] (List.replicate k x0) :: Γ) → Ext w w' → wpList P ops Q rest (a.put o.dst (.slice (some ⟨g, 0, none⟩) k k)) w') : wpList P ops Q (o :: rest) a w := by
  refine wpList_plain hg fun K hK' => ?_
  have hz := hz.h
  cases hi : P.info? E with
  | none => simp [hi] at hz
  | some i =>
  cases hzz : i.zero with
  | none => simp [hi, hzz] at hz
  | some zv =>
  simp [hi, hzz] at hz
  obtain ⟨hz1, hz2, hz3⟩ := hz
  subst hL; subst hC
  have hr := run_make (P := P) w t E i zv ht.h hi hzz .i64 .i64 k k (by omega) (by omega) (by rw [hz3]; have := hby; rw [Nat.mul_comm] at this; omega) (by omega)
  simp only [Int.toNat_natCast] at hr
  unfold Oper.wp execOp
  simp only [ho, hl, hc, Sem.run_bind, hr, Sem.run_pure, Result.andThen_ok, Oper.upon_value]
  have hzs : zv.cells.size = n := by rw [← Array.length_toList, hz1, hzl]
  have hcur : (madeCells zv.cells (k * i.size)).toList = (List.replicate k z).flatten := by
    rw [← hz1, hz2, ← hzs]
    exact madeCells_rep _ (by omega) k
  refine hK' _ _ (hK _ _ ?_ (ext_alloc _ _))
  have hown : ∀ k', ownL R (w.alloc (.cells (madeCells zv.cells (k * i.size)) E)) (List.replicate k' z).flatten (List.replicate k' x0) [] := by
    intro k'
    induction k' with
    | zero => exact ⟨rfl, rfl⟩
    | succ k' ih => exact ⟨z, _, [], [], by simp [List.replicate_succ], rfl, hx0 _, ih⟩
  have kk : Sat w (w.alloc (.cells (madeCells zv.cells (k * i.size)) E)) [Own (sliceR R E) [.slice (some ⟨w.heap.size, 0, none⟩) k k] (List.replicate k x0)] := by
    refine ⟨ext_alloc _ _, [w.heap.size], ⟨[w.heap.size], [], rfl, .inr ⟨w.heap.size, k, _, _, [], by simp, heap_alloc_new w _, by simp, by unfold maxLen; omega, ?_, rfl, ?_, rfl⟩, rfl⟩, by simp, by simp⟩
    · rw [← Array.length_toList, hcur]; simp [hzl, hn]
    · rw [hcur, List.take_of_length_le (by simp [hzl, hn])]
      exact hown k
  simpa using hS.call kk

/-! ### elements stored; slices cut; results -/
theorem own_shape {v : Value} {xs : List α} {fp : List Nat} (h : (sliceR R E).own w [v] xs fp) : (v = .slice none 0 0 ∧ xs = []) ∨ ∃ g cap, v = .slice (some ⟨g, 0, none⟩) xs.length cap := by
  rcases h with ⟨h, h2, _⟩ | ⟨g, cap, _, _, _, h, _⟩
  · exact .inl ⟨by simpa using h, h2⟩
  · exact .inr ⟨g, cap, by simpa using h⟩
theorem Sat.shape {v : Value} {xs : List α} (h : Sat w0 w (Own (sliceR R E) [v] xs :: Γ)) : (v = .slice none 0 0 ∧ xs = []) ∨ ∃ g cap, v = .slice (some ⟨g, 0, none⟩) xs.length cap := by
  obtain ⟨fp, h, _⟩ := h.head
  exact own_shape h

theorem ownL_set {w : World} : ∀ {xs : List α} {ccs : List Value} {fp : List Nat}, ownL R w ccs xs fp → ∀ (k : Nat) (_ : k < xs.length) {ec : List Value} {y : α} {fy : List Nat}, R.own w ec y fy →
    ∃ fl fk fr, fp = fl ++ fk ++ fr ∧ ownL R w (ccs.take (k * R.sz) ++ ec ++ ccs.drop (k * R.sz + R.sz)) (xs.set k y) (fl ++ fy ++ fr)
  | [], _, _, _, k, hk, _, _, _, _ => absurd hk (by simp)
  | x :: xs, _, _, h, 0, _, ec, y, fy, hy => by
    obtain ⟨e0, rest, f1, f2, rfl, rfl, h1, h2⟩ := h
    refine ⟨[], f1, f2, by simp, ec, rest, fy, f2, ?_, by simp, hy, h2⟩
    have := R.rd_len (R.own_rd h1)
    simp [← this]
  | x :: xs, _, _, h, k + 1, hk, ec, y, fy, hy => by
    obtain ⟨e0, rest, f1, f2, rfl, rfl, h1, h2⟩ := h
    obtain ⟨fl, fk, fr, rfl, h3⟩ := ownL_set h2 k (by simpa using hk) hy
    refine ⟨f1 ++ fl, fk, fr, by simp, e0, _, f1, fl ++ fy ++ fr, ?_, by simp, h1, h3⟩
    have hl := R.rd_len (R.own_rd h1)
    have e : (k + 1) * R.sz = e0.length + k * R.sz := by rw [hl, Nat.add_mul]; omega
    rw [e, List.take_append, List.take_of_length_le (by omega), Nat.add_sub_cancel_left, show e0.length + k * R.sz + R.sz = e0.length + (k * R.sz + R.sz) by omega, List.drop_append, List.drop_of_length_le (by omega), Nat.add_sub_cancel_left]
    simp

theorem splice_take (L ec : List Value) (p s N : Nat) (h1 : p + s ≤ N) (h2 : N ≤ L.length) (h3 : ec.length = s) : (L.take (p + 0) ++ ec ++ L.drop (p + 0 + s)).take N = (L.take N).take p ++ ec ++ (L.take N).drop (p + s) := by
  rw [Nat.add_zero, List.take_append, List.take_of_length_le (by simp; omega), List.take_take, Nat.min_eq_left (by omega : p ≤ N), List.drop_take]
  congr 2
  simp; omega
/-- 'xs[k] = y': xs the call's own, y with what it owns; what was there is let go -/
theorem wpl_storeo {t : TypeId} {x y : Operand} (hg : o.guard = none) (ho : o.op = .store t x y) {z : List Value} {n bytes : Nat} [hz : ElemT P t z n bytes] (hn : R.sz = n) {ec : List Value} {yv : α} {xs : List α} {g m cap : Nat}
    (hS : Sat w0 w (Own R ec yv :: Own (sliceR R E) [.slice (some ⟨g, 0, none⟩) m cap] xs :: Γ)) (k off : Nat) (hk : k < xs.length) (hoff : off = k * n) (hx : a.eval x = .pointer (some ⟨g, off, none⟩)) (hy : (a.eval y).cells = ec.toArray)
    (hK : ∀ w', Sat w0 w' (Own (sliceR R E) [.slice (some ⟨g, 0, none⟩) m cap] (xs.set k yv) :: Γ) → wpList P ops Q rest (a.put o.dst undef) w') : wpList P ops Q (o :: rest) a w := by
  refine wpList_plain hg fun K hK' => ?_
  have hz := hz.h
  cases hi : P.info? t with
  | none => simp [hi] at hz
  | some i =>
    simp [hi] at hz
    have hS' : Sat w0 w (Both (Own R ec yv) (Own (sliceR R E) [.slice (some ⟨g, 0, none⟩) m cap] xs) :: Γ) := hS.join fun f g h1 h2 => ⟨f, g, rfl, h1, h2⟩
    obtain ⟨fp, ⟨fy, f, rfl, hyo, hv⟩, hnd, _⟩ := hS'.head
    have hel : ec.length = R.sz := R.rd_len (R.own_rd hyo)
    obtain ⟨cur, hh, hcs⟩ : ∃ cur, w.heap[g]? = some (.cells cur E (0, 0)) ∧ xs.length * R.sz ≤ cur.size := by
      rcases hv with ⟨h, _⟩ | ⟨g', cap', cur, ccs, f2, h, hg', h1, h2, h3, _⟩
      · simp at h
      · simp at h
        obtain ⟨rfl, _⟩ := h
        exact ⟨cur, hg', by rw [h3]; exact Nat.mul_le_mul_right _ h1⟩
    have hkk : k * R.sz + R.sz ≤ xs.length * R.sz := by have := Nat.mul_le_mul_right R.sz hk; rw [Nat.succ_mul] at this; exact this
    have hh' : w.heap[g]? = some (.cells cur.toList.toArray E (0, 0)) := by simpa using hh
    obtain ⟨w', hr, hnew, hc⟩ := run_storeCells_box (P := P) ec off 0 cur.toList w hh' (by rw [hoff, hel, ← hn]; simp; omega) (R.rd_one (R.own_rd hyo))
    have hsz : ¬ (ec.toArray.size ≠ i.size) := by simp; omega
    unfold Oper.wp execOp
    simp only [ho, hx, Instr.storeAt, Instr.sureAddr, storeVar, sizeOf, typeInfo, hi, hy, Sem.run_bind, Sem.run_pure, run_program, Result.andThen_ok, hsz, if_false, Sem.run_ite, List.toList_toArray, hr, Oper.upon_skip]
    refine hK' _ _ (hK w' ?_)
    refine hS'.upd ?_
    rintro _ ⟨gy, gf, rfl, hy2, hv2⟩ hnd2
    rcases hv2 with ⟨h, _⟩ | ⟨g', cap', cur', ccs, f2, h, hg', h1, h2, h3, h4, h5, rfl⟩
    · simp at h
    · simp at h
      obtain ⟨rfl, rfl, rfl⟩ := h
      obtain ⟨rfl⟩ : cur' = cur := by rw [hh] at hg'; simpa using hg'.symm
      obtain ⟨fl, fk, fr, rfl, h6⟩ := ownL_set h5 k hk hy2
      have hoth : ∀ x, x ≠ g → x < w.heap.size → w'.heap[x]? = w.heap[x]? := fun x hx hlt => hc.block x hlt (by simpa using hx)
      have hnd3 : (gy ++ g :: (fl ++ fk ++ fr)).Nodup := hnd2
      simp only [List.nodup_append, List.nodup_cons, List.mem_append, List.mem_cons] at hnd3
      have hgn : g ∉ fl ++ gy ++ fr := by
        simp only [List.mem_append, not_or]
        refine ⟨⟨fun hm => hnd3.2.1.1 (.inl (.inl hm)), fun hm => hnd3.2.2 g hm g (.inl rfl) rfl⟩, fun hm => hnd3.2.1.1 (.inr hm)⟩
      refine ⟨g :: (fl ++ gy ++ fr), .inr ⟨g, cap, _, ccs.take (k * R.sz) ++ ec ++ ccs.drop (k * R.sz + R.sz), fl ++ gy ++ fr, by simp, hnew, by simpa using h1, h2, ?_, ?_, ownL_ext h6 (fun b hb => hoth b (fun e => hgn (e ▸ hb)) ?_), rfl⟩, ?_, hc.mono (by simp), ?_⟩
      · simp only [List.size_toArray, List.length_append, List.length_take, List.length_drop, Array.length_toList]
        rw [hoff, ← hn]
        omega
      · have hcl : ccs.length = xs.length * R.sz := rdL_len (ownL_rdL h5)
        rw [← h4, hoff, ← hn, hel, List.length_set]
        exact splice_take _ _ _ _ _ hkk (by simpa using hcs) hel
      · exact ownL_lt h6 b hb
      · refine List.nodup_cons.2 ⟨hgn, ?_⟩
        have hs : (gy ++ (fl ++ fr)).Nodup := List.Nodup.sublist (List.Sublist.append (List.Sublist.refl gy) (List.Sublist.cons g (List.Sublist.append (List.sublist_append_left fl fk) (List.Sublist.refl fr)))) hnd2
        rw [← List.append_assoc] at hs
        exact (List.Perm.append_right fr List.perm_append_comm).nodup_iff.1 hs
      · intro b hb
        refine .inl ?_
        simp only [List.mem_cons, List.mem_append] at hb ⊢
        rcases hb with h | (h | h) | h <;> simp [h]

/-- 'xs[lo:hi]' -/
theorem wpl_slice (hg : o.guard = none) {t : TypeId} {x : Operand} {lo hi : Option Operand} (ho : o.op = .slice t x lo hi none) {e : TypeId} [ht : SliceT P t e] {z : List Value} {n bytes : Nat} [hz : ElemT P e z n bytes] (hn : R.sz = n)
    {v : Value} (hx : a.eval x = v) {xs : List α} (hr : (sliceR R E).rd wA [v] xs) (l h : Nat) (hlo : (lo.map a.eval = some (.int .i64 l)) ∨ (lo = none ∧ l = 0)) (hhi : (hi.map a.eval = some (.int .i64 h)) ∨ (hi = none ∧ h = xs.length)) (hlh : l ≤ h) (hh : h ≤ xs.length)
    (hK : ∀ v', (sliceR R E).rd wA [v'] ((xs.take h).drop l) → wpList P ops Q rest (a.put o.dst v') w) : wpList P ops Q (o :: rest) a w := by
  refine wpList_plain hg fun K hK' => ?_
  obtain ⟨ao, cap, ccs, hv, h1, h2, h3, h4, h5⟩ := hr
  obtain rfl : v = .slice ao xs.length cap := by simpa using hv
  have hz := hz.h
  cases hq : P.info? e with
  | none => simp [hq] at hz
  | some inf =>
    simp [hq] at hz
    have hcap : h ≤ cap := by omega
    have hb : (Instr.sliceBounds true xs.length cap (lo.map a.eval) (hi.map a.eval) none).run P w = .ok (l, h, cap) w := by
      rcases hlo with e1 | ⟨e1, e1'⟩ <;> rcases hhi with e2 | ⟨e2, e2'⟩
      all_goals
        (try rw [e1]); (try rw [e2])
        (try subst e1'); (try subst e2')
        simp [Instr.sliceBounds, Instr.sliceBound, asIntOf, hcap, hlh]
    unfold Oper.wp execOp
    simp only [ho, hx, Instr.sliceAt, Sem.run_bind, run_underlying ht.h, Result.andThen_ok, Instr.slice, hb, sizeOf, typeInfo, hq, run_program, Sem.run_pure, Option.map_none, Oper.upon_value]
    refine hK' _ _ (hK _ ?_)
    have hsz : inf.size = R.sz := by rw [hn]; exact hz.2.1
    have hlen : ((xs.take h).drop l).length = h - l := by simp; omega
    have hccl := rdL_len h4
    have hrd := (rdL_split l (rdL_split h h4).1).2
    refine ⟨_, cap - l, _, by rw [hlen], by rw [hlen]; omega, by omega, ?_, hrd, ?_⟩
    · intro e
      split at e
      · omega
      · cases ao with
        | none => have := h3 rfl; omega
        | some _ => simp at e
    · by_cases hcl : cap = l
      · left
        have : h = l := by omega
        subst this
        apply List.eq_nil_of_length_eq_zero
        simp
      · rw [if_neg hcl]
        rcases h5 with rfl | ⟨b, off, rfl, h5⟩
        · left; simp
        · right
          refine ⟨b, off + l * R.sz, by rw [hsz]; simp [Addr.add_lit], fun j c hj => ?_⟩
          rw [List.getElem?_drop, List.getElem?_take] at hj
          split at hj
          · rw [Nat.add_assoc]; exact h5 _ c hj
          · cases hj

theorem results_box {fn : Func} {p : Tmp} {ty : TypeId} (h : fn.results = #[.cell p ty]) {n : Nat} [AggT P ty n] (tmps : Array Value) {b : Nat} (hp : tmps.getD p undef = .pointer (some ⟨b, 0, none⟩)) (hS : Sat w0 w Γ) {E : TypeId} {cs : List Value} [AtBox Γ b E cs rΓ] (hn : cs.length = n) :
    (results fn tmps).run P w = .ok (.agg cs.toArray) w := by
  have hp' : tmps[p]?.getD undef = .pointer (some ⟨b, 0, none⟩) := by simpa using hp
  have := run_loadVar_agg (P := P) (w := w) (t := ty) (b := b) (off := 0) hn (fun j c hj => by rw [Nat.zero_add]; exact hS.boxCell j c hj)
  simp [results, h, hp', asAddr, this]

theorem run_buildSlice1 {t e : TypeId} [ht : SliceT P t e] {z : List Value} {n bytes : Nat} [hz : ElemT P e z n bytes] {v : Value} {cs : List Value} (hcs : v.cells = cs.toArray) (hl : cs.length = n) (hpos : 0 < n) (hzl : z.length = n) (hn : n ≤ 16) :
    (Instr.buildSlice t 1 #[(0, v)]).run P w = .ok (.slice (some ⟨w.heap.size, 0, none⟩) 1 1) (w.alloc (.cells cs.toArray e)) := by
  have hz := hz.h
  cases hi : P.info? e with
  | none => simp [hi] at hz
  | some i =>
  cases hzz : i.zero with
  | none => simp [hi, hzz] at hz
  | some zv =>
  simp [hi, hzz] at hz
  obtain ⟨hz1, hz2, hz3⟩ := hz
  have h24 : ¬ (n > 2 ^ 24) := by omega
  have hn0 : ¬ (n = 0) := by omega
  have hfill : Instr.fill (fun i => some (i * n, n)) ((Array.range n).map (zv.cells[· % zv.cells.size]!)) [(0, v)] = some cs.toArray := by
    have hsz : ((Array.range n).map (zv.cells[· % zv.cells.size]!)).size = n := by simp
    have hfold : ∀ (l : List Value) (pre : List Value) (A : Array Value), A.size = pre.length + l.length → A.toList.take pre.length = pre →
        ((l.zipIdx pre.length).foldl (fun A (c : Value × Nat) => A.setIfInBounds c.2 c.1) A).toList = pre ++ l := by
      intro l
      induction l with
      | nil => intro pre A h1 h2; simp; rw [← h2, List.take_of_length_le (by simp at h1 ⊢; omega)]
      | cons x l ih =>
        intro pre A h1 h2
        simp only [List.zipIdx_cons, List.foldl_cons]
        have := ih (pre ++ [x]) (A.setIfInBounds pre.length x) (by simp at h1 ⊢; omega) (by
          simp only [Array.toList_setIfInBounds, List.length_append, List.length_singleton]
          rw [List.take_set, List.take_succ_eq_append_getElem (by simp at h1 ⊢; omega), h2, List.set_append_right _ _ (Nat.le_refl _)]
          simp)
        simpa using this
    have h0 := hfold cs [] ((Array.range n).map (zv.cells[· % zv.cells.size]!)) (by simp [hl]) (by simp)
    simp only [Instr.fill, hcs, List.size_toArray, hl, hsz, Nat.zero_mul, Nat.zero_add, ne_eq, not_true_eq_false, decide_false, Bool.false_or, gt_iff_lt, Nat.lt_irrefl, Bool.false_eq_true, if_false]
    congr 1
    apply Array.ext'
    simpa using h0
  simp [Instr.buildSlice, run_underlying ht.h, sizeOf, typeInfo, hi, hz2, h24, hn0, zeroValue, hzz, hfill, newRow]

theorem wpl_buildSlice1 (hg : o.guard = none) {t e : TypeId} {x : Operand} (ho : o.op = .buildSlice t 1 #[(0, x)]) [SliceT P t e] {z : List Value} {n bytes : Nat} [ElemT P e z n bytes] {cs : List Value} (hcs : (a.eval x).cells = cs.toArray) (hl : cs.length = n) (hpos : 0 < n) (hzl : z.length = n) (hn : n ≤ 16)
    (hS : Sat w0 w Γ) (hK : ∀ w' b, Sat w0 w' (Box b e cs :: Γ) → Ext w w' → wpList P ops Q rest (a.put o.dst (.slice (some ⟨b, 0, none⟩) 1 1)) w') : wpList P ops Q (o :: rest) a w := by
  refine wpList_plain hg fun K hK' => ?_
  have hr := run_buildSlice1 (P := P) (w := w) (t := t) (e := e) hcs hl hpos hzl hn
  unfold Oper.wp execOp
  simp only [ho, List.map_toArray, List.map_cons, List.map_nil, hr, Sem.run_bind, Sem.run_pure, Result.andThen_ok, Oper.upon_value]
  exact hK' _ _ (hK _ _ (hS.box e cs) (ext_alloc _ _))

/-- '[]T{}' -/
theorem wpl_buildSlice0 (R : Rep α) (hg : o.guard = none) {t : TypeId} (ho : o.op = .buildSlice t 0 #[]) [ht : SliceT P t E] {z : List Value} {n bytes : Nat} [hz : ElemT P E z n bytes]
    (hS : Sat w0 w Γ) (hK : ∀ w' b, Sat w0 w' (Own (sliceR R E) [.slice (some ⟨b, 0, none⟩) 0 0] [] :: Γ) → Ext w w' → wpList P ops Q rest (a.put o.dst (.slice (some ⟨b, 0, none⟩) 0 0)) w') : wpList P ops Q (o :: rest) a w := by
  refine wpList_plain hg fun K hK' => ?_
  have hz := hz.h
  cases hi : P.info? E with
  | none => simp [hi] at hz
  | some i =>
  have hr : (Instr.buildSlice t 0 #[]).run P w = .ok (.slice (some ⟨w.heap.size, 0, none⟩) 0 0) (w.alloc (.cells #[] E)) := by
    simp [Instr.buildSlice, run_underlying ht.h, sizeOf, typeInfo, hi, Instr.fill, newRow, Array.range_zero']
  unfold Oper.wp execOp
  simp only [ho, List.map_toArray, List.map_nil, hr, Sem.run_bind, Sem.run_pure, Result.andThen_ok, Oper.upon_value]
  have hB := hS.box E []
  refine hK' _ _ (hK _ _ (hB.conv (B := Own (sliceR R E) [.slice (some ⟨w.heap.size, 0, none⟩) 0 0] []) fun f hf => ?_) (ext_alloc _ _))
  obtain ⟨rfl, hf⟩ := hf
  exact .inr ⟨w.heap.size, 0, #[], [], [], rfl, hf, Nat.le_refl _, Nat.zero_le _, by simp, by simp, ⟨rfl, rfl⟩, rfl⟩

/-- an element, made ready to be appended -/
theorem Sat.one {ec : List Value} {y : α} (h : Sat w0 w (Own R ec y :: Γ)) : Sat w0 w (OwnL R ec [y] :: Γ) :=
  h.conv fun f hf => ⟨ec, [], f, [], by simp, by simp, hf, rfl, rfl⟩
theorem Sat.str (h : Sat w0 w Γ) (s : ByteArray) (hs : s.size ≤ 9223372036854775807) : Sat w0 w (Own strR [.string s] s :: Γ) := h.add ⟨⟨rfl, hs⟩, rfl⟩
theorem Sat.int (h : Sat w0 w Γ) (n : Int) : Sat w0 w (Own intR [.int .i64 n] n :: Γ) := h.add ⟨rfl, rfl⟩
theorem Sat.pair {α β : Type} {R : Rep α} {S : Rep β} {c d : List Value} {x : α} {y : β} (h : Sat w0 w (Own R c x :: Own S d y :: Γ)) : Sat w0 w (Own (pairR R S) (c ++ d) (x, y) :: Γ) :=
  h.join fun f g h1 h2 => ⟨c, d, f, g, rfl, rfl, h1, h2⟩
theorem Sat.ints {xs : List Int} (h : Sat w0 w Γ) : Sat w0 w (OwnL intR (xs.map (Value.int .i64)) xs :: Γ) := by
  refine h.add ?_
  induction xs with
  | nil => exact ⟨rfl, rfl⟩
  | cons x xs ih => exact ⟨[.int .i64 x], _, [], [], rfl, rfl, ⟨rfl, rfl⟩, ih⟩
end laws2
end Go.Proofs.Ytkpeabpdiffjhaa
